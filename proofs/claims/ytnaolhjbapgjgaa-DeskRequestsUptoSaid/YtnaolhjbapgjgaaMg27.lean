import Derived.Test.YtnaolhjbapgjgaaMg03
import Derived.Test.YtnaolhjbapgjgaaMg16
import Derived.Test.YtnaolhjbapgjgaaMg26
import Derived.Deep.DeepCutAuto
/- Contract of docketref24.operation. -/
namespace Go.Proofs.Ytnaolhjbapgjgaa
open Go.RowKit

/-- what laying down tells: bytes in new memory, or nil -/
def MaybeB (w : World) (b : Option (List UInt8)) (e : Ending) (w' : World) : Prop :=
  (∃ l A c, b = some l ∧ l ≠ [] ∧ e = .returned (.slice A l.length c) ∧ BRow w' w.heap.size l A c ∧ Old w w') ∨ (b = none ∧ e = .returned (.slice none 0 0) ∧ Old w w')

theorem BRow.drew {w : World} {base : Nat} {l : List UInt8} {A : Option Addr} {c : Nat} (h : BRow w base l A c) : BRow w.drew base l A c := h.old (Kp.refl _ _).drew

/-- a row of one's own is told -/
def OwnR (w : World) (base : Nat) (l : List UInt8) (e : Ending) (w' : World) : Prop :=
  ∃ out A c, Hid (out = l) ∧ e = .returned (.slice A out.length c) ∧ BRow w' base out A c ∧ Kp (From base) w w'
theorem rtext_row (w : World) (base : Nat) (l : List UInt8) (A : Option Addr) (c : Nat) (s : ByteArray) (h : BRow w base l A c) (hl : l.length ≤ 4000000000000) (hs : s.size ≤ 2147483647) :
    Calls Try.prog 19 #[.slice A l.length c, .string s] w (OwnR w base (l ++ lp 4 (sb s))) := by
  refine (text24_any w base l A c s h hl hs).mono ?_
  rintro e w' ⟨A', c', rfl, h1, h2⟩
  exact ⟨_, A', c', Lib.hid rfl, rfl, ⟨h1, Nat.le_trans h.le h2.size⟩, h2⟩
theorem MaybeB.some_ {w w' : World} {base : Nat} {b : Option (List UInt8)} {l l' : List UInt8} {A : Option Addr} {c : Nat} (hb : b = some l') (hl : l = l') (hne : l' ≠ []) (h : BRow w' base l A c) (hbase : w.heap.size ≤ base) (ho : Old w w') :
    MaybeB w b (.returned (.slice A l.length c)) w' := by
  subst hl
  refine .inl ⟨l, A, c, hb, hne, rfl, ⟨⟨h.own.1, ?_⟩, ho.size⟩, ho⟩
  rcases h.own.2 with hn | ⟨g, cap, cur, e, hg, rest⟩
  · exact .inl hn
  · exact .inr ⟨g, cap, cur, e, Nat.le_trans hbase hg, rest⟩

/-- a struct in its box and a row of one byte behind it -/
theorem start_row (w : World) (cs : Array Value) (t : TypeId) (b : UInt8) (v : Value) (hv : v = bv b) :
    BRow ((w.alloc (.cells cs t)).alloc (.cells #[v] 5)) (w.heap.size + 1) [b] (some ⟨w.heap.size + 1, 0, none⟩) 1 ∧
      Blk ((w.alloc (.cells cs t)).alloc (.cells #[v] 5)) w.heap.size t cs ∧ Old w ((w.alloc (.cells cs t)).alloc (.cells #[v] 5)) := by
  subst hv
  have h := BRow.new (w.alloc (.cells cs t)) [b] (by simp [maxLen])
  have e : (w.alloc (.cells cs t)).heap.size = w.heap.size + 1 := by simp
  rw [e] at h
  exact ⟨h, (Blk.new w t cs).alloc _, ((Kp.refl NoX w).alloc _).alloc _⟩

set_option maxRecDepth 100000 in
set_option maxHeartbeats 1600000 in
theorem roper_1 (m : MOp) (w : World) (hok : m.Ok w NoX) (hop : m.op = 1) :
    Calls Try.prog 18 #[.agg m.cells.toArray] w (MaybeB w (opB m.data)) := by
  obtain ⟨op, case_, type_, name, value, args, argsA, argsC, source, srcA, srcC, clock⟩ := m
  obtain ⟨hbA, hbS, hbC, hbT, hbN⟩ := hok.big
  simp only [MOp.cells, MOp.data] at *
  subst hop
  have HQ := Lib.hid (show opB ⟨1, case_, type_, name, value.v, args.map (·.v), source, clock⟩ = some (([1] ++ lp 4 (sb type_)) ++ lp 4 source) by simp [opB, opTail, be])
  generalize opB ⟨1, case_, type_, name, value.v, args.map (·.v), source, clock⟩ = TV at HQ ⊢
  have Hok := Lib.hid hok
  clear hok
  go_enter Try.func18, Try.ntmps18
  go_upto_region 4 with (fail)
  obtain ⟨hB, hb, ho⟩ := start_row w #[.int .i64 1, .string case_, .string type_, .string name, .int .i64 value.v.kind, .int .i64 value.v.n, .string value.v.t, .slice value.A value.v.s.length value.c, .slice argsA args.length argsC, .slice srcA source.length srcC, .int .i64 clock] 29 1 (.int .u8 1) rfl
  generalize (w.alloc _).alloc _ = W at *
  have HB := Lib.hid hB
  have Ho := Lib.hid ho
  have Hb := Lib.hid hb
  clear hB ho
  have d1 := hb.at_ 2 (v := .string type_) rfl
  have d2 := hb.at_ 9 (v := .slice srcA source.length srcC) rfl
  have Hcv := Lib.hid (fun W' (h : Old w W') => run_conv_bs (P := Try.prog) W' Try.underlying27 Try.underlying5 Try.underlying9 srcA source.length srcC source (Hok.out.rdSrc.old h))
  have d3 := Hcv.out _ Ho.out.drew
  have hsz : (⟨source.toArray⟩ : ByteArray).size ≤ 2147483647 := by rw [← sb_length, sb_mk]; exact hbS
  have Hts := Lib.hid (sb_mk source)
  generalize (⟨source.toArray⟩ : ByteArray) = src at *
  clear hb
  have H1 := Lib.hid (rtext_row W.drew (w.heap.size + 1) [1] (some ⟨w.heap.size + 1, 0, none⟩) 1 type_ HB.out.drew (by decide) hbT)
  go_region_held3 (fun w' => w'.cell? ⟨w.heap.size, 2, none⟩ = some (.string type_) ∧ w'.cell? ⟨w.heap.size, 9, none⟩ = some (.slice srcA source.length srcC) ∧ (convert 27 9 (.slice srcA source.length srcC)).run Try.prog w' = .ok (.string src) w') (first | exact ⟨d1, d2, d3⟩ | exact ⟨f1, f2, f3⟩ | exact ⟨g1, g2, g3⟩)
    (first
      | (go_at_call_of 19 (Value.string type_); refine H1.out.mono ?_; rintro e w3 ⟨l3, A3, c3, e3, rfl, h3, hk3⟩; have b3 := (Hb.out.drew).kp hk3 (fun h => absurd h (Nat.not_succ_le_self _)); have f1 := b3.at_ 2 (v := .string type_) rfl; have f2 := b3.at_ 9 (v := .slice srcA source.length srcC) rfl; have o3 := From.old Ho.out.drew hk3 (Nat.le_succ _); have f3 := Hcv.out _ o3)
      | (go_at_call_of 19 (Value.string src); refine (rtext_row _ (w.heap.size + 1) l3 A3 c3 src h3 (by rw [e3.out, List.length_append, lp_length, sb_length]; simp; omega) hsz).mono ?_; rintro e w4 ⟨l4, A4, c4, e4, rfl, h4, hk4⟩; have b4 := b3.kp hk4 (fun h => absurd h (Nat.not_succ_le_self _)); have g1 := b4.at_ 2 (v := .string type_) rfl; have g2 := b4.at_ 9 (v := .slice srcA source.length srcC) rfl; have o4 := From.old o3 hk4 (Nat.le_succ _); have g3 := Hcv.out _ o4))
  have Hfin := Lib.hid (MaybeB.some_ HQ.out (by rw [e4.out, e3.out, Hts.out]) (by simp) h4 (Nat.le_succ _) o4)
  clear h4 hk4 b4 g1 g2 g3 o4 h3 hk3 b3 f1 f2 f3 o3 d1 d2 d3
  go_wp2
  go_ret
  exact Hfin.out

set_option maxRecDepth 100000 in
set_option maxHeartbeats 1600000 in
theorem roper_2 (m : MOp) (w : World) (hok : m.Ok w NoX) (hop : m.op = 2) :
    Calls Try.prog 18 #[.agg m.cells.toArray] w (MaybeB w (opB m.data)) := by
  obtain ⟨op, case_, type_, name, value, args, argsA, argsC, source, srcA, srcC, clock⟩ := m
  obtain ⟨hbA, hbS, hbC, hbT, hbN⟩ := hok.big
  simp only [MOp.cells, MOp.data] at *
  subst hop
  have HQ := Lib.hid (show opB ⟨2, case_, type_, name, value.v, args.map (·.v), source, clock⟩ = some (([2] ++ lp 4 (sb case_)) ++ lp 4 (sb type_)) by simp [opB, opTail, be])
  generalize opB ⟨2, case_, type_, name, value.v, args.map (·.v), source, clock⟩ = TV at HQ ⊢
  have Hok := Lib.hid hok
  clear hok
  go_enter Try.func18, Try.ntmps18
  go_upto_region 6 with (fail)
  obtain ⟨hB, hb, ho⟩ := start_row w #[.int .i64 2, .string case_, .string type_, .string name, .int .i64 value.v.kind, .int .i64 value.v.n, .string value.v.t, .slice value.A value.v.s.length value.c, .slice argsA args.length argsC, .slice srcA source.length srcC, .int .i64 clock] 29 2 (.int .u8 2) rfl
  generalize (w.alloc _).alloc _ = W at *
  have HB := Lib.hid hB
  have Ho := Lib.hid ho
  have Hb := Lib.hid hb
  clear hB ho
  have d1 := hb.at_ 1 (v := .string case_) rfl
  have d2 := hb.at_ 2 (v := .string type_) rfl
  clear hb
  have H1 := Lib.hid (rtext_row W.drew (w.heap.size + 1) [2] (some ⟨w.heap.size + 1, 0, none⟩) 1 case_ HB.out.drew (by decide) hbC)
  go_region_held3 (fun w' => w'.cell? ⟨w.heap.size, 1, none⟩ = some (.string case_) ∧ w'.cell? ⟨w.heap.size, 2, none⟩ = some (.string type_)) (first | exact ⟨d1, d2⟩ | exact ⟨f1, f2⟩ | exact ⟨g1, g2⟩)
    (first
      | (go_at_call_of 19 (Value.string case_); refine H1.out.mono ?_; rintro e w3 ⟨l3, A3, c3, e3, rfl, h3, hk3⟩; have b3 := (Hb.out.drew).kp hk3 (fun h => absurd h (Nat.not_succ_le_self _)); have f1 := b3.at_ 1 (v := .string case_) rfl; have f2 := b3.at_ 2 (v := .string type_) rfl)
      | (go_at_call_of 19 (Value.string type_); refine (rtext_row _ (w.heap.size + 1) l3 A3 c3 type_ h3 (by rw [e3.out, List.length_append, lp_length, sb_length]; simp; omega) hbT).mono ?_; rintro e w4 ⟨l4, A4, c4, e4, rfl, h4, hk4⟩; have b4 := b3.kp hk4 (fun h => absurd h (Nat.not_succ_le_self _)); have g1 := b4.at_ 1 (v := .string case_) rfl; have g2 := b4.at_ 2 (v := .string type_) rfl))
  have Hfin := Lib.hid (MaybeB.some_ HQ.out (by rw [e4.out, e3.out]) (by simp) h4 (Nat.le_succ _) (From.old (From.old Ho.out.drew hk3 (Nat.le_succ _)) hk4 (Nat.le_succ _)))
  clear h4 hk4 b4 g1 g2 h3 hk3 b3 f1 f2 d1 d2
  go_wp2
  go_ret
  exact Hfin.out

/-- the one block of a row -/
def Just (A : Option Addr) : Nat → Prop := fun k => A.map (·.block) = some k
/-- a row that has grown: only its own block has turned; it stands there, or in new memory -/
structure Grew (w : World) (base : Nat) (A : Option Addr) (w' : World) (out : List UInt8) (A' : Option Addr) (c' : Nat) : Prop where
  row : BRow w' base out A' c'
  kp : Kp (Just A) w w'
  at_ : A'.map (·.block) = A.map (·.block) ∨ ∃ k, A'.map (·.block) = some k ∧ w.heap.size ≤ k
theorem Grew.trans {w w1 w2 : World} {base : Nat} {A A1 A2 : Option Addr} {l1 l2 : List UInt8} {c1 c2 : Nat} (h : Grew w base A w1 l1 A1 c1) (h2 : Grew w1 base A1 w2 l2 A2 c2) : Grew w base A w2 l2 A2 c2 := by
  refine ⟨h2.row, h.kp.trans h2.kp (fun b hb hx => ?_), ?_⟩
  · rcases h.at_ with e | ⟨k, e, hle⟩
    · exact e.symm.trans hx
    · have : some k = some b := e.symm.trans hx
      injection this with this
      omega
  · rcases h2.at_ with e | ⟨k, e, hle⟩
    · rcases h.at_ with e' | ⟨k, e', hle⟩
      · exact .inl (e.trans e')
      · exact .inr ⟨k, e.trans e', hle⟩
    · exact .inr ⟨k, e, Nat.le_trans h.kp.size hle⟩
theorem Grew.old {w w1 w2 : World} {base : Nat} {A A2 : Option Addr} {l2 : List UInt8} {c2 : Nat} (h : Old w w1) (h2 : Grew w1 base A w2 l2 A2 c2) : Grew w base A w2 l2 A2 c2 := by
  refine ⟨h2.row, (h.mono (Y := Just A) (fun _ _ f => f.elim)).trans h2.kp (fun _ _ hx => hx), ?_⟩
  rcases h2.at_ with e | ⟨k, e, hle⟩
  · exact .inl e
  · exact .inr ⟨k, e, Nat.le_trans h.size hle⟩
theorem Grew.from_ {w w1 : World} {base : Nat} {A A1 : Option Addr} {l l1 : List UInt8} {c c1 : Nat} (h : Grew w base A w1 l1 A1 c1) (hb : BRow w base l A c) : Kp (From base) w w1 :=
  h.kp.mono (fun k _ hx => (hb.own.lt k (by rw [ownBlock_slice]; exact hx)).1)

section
variable {w : World} {ops : Array Oper} {rest : List Oper} {o : Oper} {a : Act} {Q : Exit → Act → World → Prop}
theorem Try.appf_bytes (s x : Operand) {base : Nat} {l : List UInt8} {A : Option Addr} {c : Nat} (h : BRow w base l A c) {B : Option Addr} {m : List UInt8} {d : Nat} (hr : Rd w 1 B m.length (m.map bv)) (hl : l.length + m.length ≤ 10000000000000)
    (hgd : o.guard = none) (ho : o.op = .call { callee := .builtin .append, args := #[s, x], argTypes := #[27, 27] }) (hs : a.eval s = .slice A l.length c) (hx : a.eval x = .slice B m.length d)
    (hK : ∀ (out : List UInt8) A' c' w', Hid (out = l ++ m) → Grew w base A w' out A' c' → wpList Try.prog ops Q rest (a.put o.dst (.slice A' out.length c')) w') : wpList Try.prog ops Q (o :: rest) a w := by
  obtain ⟨i0, hi, hz0, hz1, hz2⟩ := info_parts Try.infoByte
  refine wpList_append_any w hgd s x 27 ho base 5 i0 (.int .u8 0) 1 1 Try.underlying27 hi hz0 hz1 hz2 rfl (by decide) (.slice A l.length c) l.length (l.map bv) hs h.own B m.length d (m.map bv) hx hr (one_bytes _) (by unfold maxLen; omega) (by omega) h.le ?_
  intro A' c' w' hown hg hat
  obtain ⟨h1, _⟩ := h.grown rfl rfl hown hg
  rw [ownBlock_slice] at hg hat
  have := hK _ A' c' w' (Lib.hid rfl) ⟨h1, (Kp.refl (Just A) w).grown hg (fun k e _ => e), by
    rcases hat with e | e
    · exact .inl e
    · exact .inr ⟨_, e, Nat.le_refl _⟩⟩
  rwa [List.length_append] at this
theorem Try.appf_str (s x : Operand) {base : Nat} {l : List UInt8} {A : Option Addr} {c : Nat} (h : BRow w base l A c) {t : ByteArray} (hl : l.length + t.size ≤ 10000000000000)
    (hgd : o.guard = none) (ho : o.op = .call { callee := .builtin .append, args := #[s, x], argTypes := #[27, 9] }) (hs : a.eval s = .slice A l.length c) (hx : a.eval x = .string t)
    (hK : ∀ (out : List UInt8) A' c' w', Hid (out = l ++ sb t) → Grew w base A w' out A' c' → wpList Try.prog ops Q rest (a.put o.dst (.slice A' out.length c')) w') : wpList Try.prog ops Q (o :: rest) a w := by
  obtain ⟨i0, hi, hz0, hz1, hz2⟩ := info_parts Try.infoByte
  refine wpList_append_str w hgd s x 27 9 ho base 5 i0 Try.underlying27 Try.underlying9 hi hz0 hz1 hz2 (.slice A l.length c) l.length (l.map bv) hs h.own t hx (by unfold maxLen; omega) (by omega) h.le ?_
  intro A' c' w' hown hg hat
  obtain ⟨h1, _⟩ := h.grown (sb_length t) rfl hown hg
  rw [ownBlock_slice] at hg hat
  have := hK _ A' c' w' (Lib.hid rfl) ⟨h1, (Kp.refl (Just A) w).grown hg (fun k e _ => e), by
    rcases hat with e | e
    · exact .inl e
    · exact .inr ⟨_, e, Nat.le_refl _⟩⟩
  rwa [List.length_append, sb_length] at this
theorem Try.step_bytes {K : Act → World → Prop} {Q : Exit → Act → World → Prop} {E : Prop} (s x : Operand) {base : Nat} {l : List UInt8} {A : Option Addr} {c : Nat} (h : BRow w base l A c) {B : Option Addr} {m : List UInt8} {d : Nat} (hr : Rd w 1 B m.length (m.map bv)) (hl : l.length + m.length ≤ 10000000000000)
    (hgd : o.guard = none) (ho : o.op = .call { callee := .builtin .append, args := #[s, x], argTypes := #[27, 27] }) (hs : a.eval s = .slice A l.length c) (hx : a.eval x = .slice B m.length d)
    (hK : ∀ (out : List UInt8) A' c' w', Hid (out = l ++ m) → Grew w base A w' out A' c' → K (a.put o.dst (.slice A' out.length c')) w') :
    if Region.wanted o (yielded ops a.tmps) = true then Oper.wp Try.prog o a w K Q else E := by
  obtain ⟨i0, hi, hz0, hz1, hz2⟩ := info_parts Try.infoByte
  refine step_append_any w hgd s x 27 ho base 5 i0 (.int .u8 0) 1 1 Try.underlying27 hi hz0 hz1 hz2 rfl (by decide) (.slice A l.length c) l.length (l.map bv) hs h.own B m.length d (m.map bv) hx hr (one_bytes _) (by unfold maxLen; omega) (by omega) h.le ?_
  intro A' c' w' hown hg hat
  obtain ⟨h1, _⟩ := h.grown rfl rfl hown hg
  rw [ownBlock_slice] at hg hat
  have := hK _ A' c' w' (Lib.hid rfl) ⟨h1, (Kp.refl (Just A) w).grown hg (fun k e _ => e), by
    rcases hat with e | e
    · exact .inl e
    · exact .inr ⟨_, e, Nat.le_refl _⟩⟩
  rwa [List.length_append] at this
end

/-- a row that has grown is told -/
def GrewR (w : World) (base : Nat) (A : Option Addr) (l : List UInt8) (e : Ending) (w' : World) : Prop :=
  ∃ out A' c', Hid (out = l) ∧ e = .returned (.slice A' out.length c') ∧ Grew w base A w' out A' c'
set_option maxRecDepth 100000 in
set_option maxHeartbeats 800000 in
theorem rtext_grew (w : World) (base : Nat) (l : List UInt8) (A : Option Addr) (c : Nat) (s : ByteArray) (h : BRow w base l A c) (hl : l.length ≤ 4000000000000) (hs : s.size ≤ 2147483647) :
    Calls Try.prog 19 #[.slice A l.length c, .string s] w (GrewR w base A (l ++ lp 4 (sb s))) := by
  have HQ := Lib.hid (show (l ++ be 4 s.size) ++ sb s = l ++ lp 4 (sb s) by rw [lp, sb_length, List.append_assoc])
  generalize l ++ lp 4 (sb s) = out at HQ ⊢
  go_enter Try.func19, Try.ntmps19
  go_wp2_with fail
  refine (low4_any w _).mono ?_
  rintro e w1 ⟨B, d, rfl, hr, _, ho⟩
  rw [nat_mod64 s.size (by omega)] at hr ⊢
  have h1 := h.old ho
  go_wp2_with (first
    | (at_builtin; refine Try.appf_bytes (.tmp 5) (.tmp 8) h1 hr (by rw [be_length]; omega) rfl rfl rfl rfl ?_; intro l2 A2 c2 w2 e2 h2)
    | (at_builtin; refine Try.appf_str (.tmp 9) (.tmp 10) h2.row (by rw [e2.out, List.length_append, be_length]; omega) rfl rfl rfl rfl ?_; intro l3 A3 c3 w3 e3 h3))
  go_ret
  exact ⟨l3, A3, c3, Lib.hid (by rw [e3.out, e2.out, HQ.out]), rfl, (h2.trans h3).old ho⟩
end Go.Proofs.Ytnaolhjbapgjgaa

/- Contract of docketref24.operation: op 3, op 5, no such op. -/
namespace Go.Proofs.Ytnaolhjbapgjgaa
open Go.RowKit

set_option maxRecDepth 100000 in
set_option maxHeartbeats 1600000 in
theorem roper_5 (m : MOp) (w : World) (hok : m.Ok w NoX) (hop : m.op = 5) :
    Calls Try.prog 18 #[.agg m.cells.toArray] w (MaybeB w (opB m.data)) := by
  obtain ⟨op, case_, type_, name, value, args, argsA, argsC, source, srcA, srcC, clock⟩ := m
  obtain ⟨hbA, hbS, hbC, hbT, hbN⟩ := hok.big
  simp only [MOp.cells, MOp.data] at *
  subst hop
  have HQ := Lib.hid (show opB ⟨5, case_, type_, name, value.v, args.map (·.v), source, clock⟩ = some ([5] ++ be 8 (clock % 18446744073709551616).toNat) by simp [opB, opTail, be, be8])
  generalize opB ⟨5, case_, type_, name, value.v, args.map (·.v), source, clock⟩ = TV at HQ ⊢
  have Hok := Lib.hid hok
  clear hok
  go_enter Try.func18, Try.ntmps18
  go_upto_region 25 with (fail)
  obtain ⟨hB, hb, ho⟩ := start_row w #[.int .i64 5, .string case_, .string type_, .string name, .int .i64 value.v.kind, .int .i64 value.v.n, .string value.v.t, .slice value.A value.v.s.length value.c, .slice argsA args.length argsC, .slice srcA source.length srcC, .int .i64 clock] 29 5 (.int .u8 5) rfl
  generalize (w.alloc _).alloc _ = W at *
  have HB := Lib.hid hB
  have Ho := Lib.hid ho
  have Hb := Lib.hid hb
  clear hB ho
  have d10 := hb.at_ 10 (v := .int .i64 clock) rfl
  clear hb
  go_wp2_with fail
  refine (low8_any _ clock).mono ?_
  rintro e w1 ⟨B, d, rfl, hr, _, ho1⟩
  have H1 := Lib.hid (HB.out.old ho1)
  have Hr := Lib.hid hr
  have Ho1 := Lib.hid (Ho.out.old ho1)
  have hl8 := Lib.hid (be_length 8 (clock % 18446744073709551616).toNat)
  clear hr ho1
  go_wp2_with (at_builtin; refine Try.app_bytes (.tmp 96) (.tmp 99) H1.out Hr.out (by rw [hl8.out]; decide) rfl rfl rfl rfl ?_; intro l2 A2 c2 w2 e2 h2 hk2)
  go_ret
  exact MaybeB.some_ HQ.out e2.out (by simp) h2 (Nat.le_succ _) (From.old Ho1.out hk2 (Nat.le_succ _))

set_option maxRecDepth 100000 in
set_option maxHeartbeats 1600000 in
theorem roper_far (m : MOp) (w : World) (hop : m.op < 1 ∨ 5 < m.op) :
    Calls Try.prog 18 #[.agg m.cells.toArray] w (MaybeB w (opB m.data)) := by
  have HQ := Lib.hid (show opB m.data = none by
    have : m.data.op = m.op := rfl
    rw [opB, opTail, this, if_neg (by omega), if_neg (by omega), if_neg (by omega), if_neg (by omega), if_neg (by omega)]
    rfl)
  generalize opB m.data = TV at HQ ⊢
  obtain ⟨op, case_, type_, name, value, args, argsA, argsC, source, srcA, srcC, clock⟩ := m
  simp only [MOp.cells] at *
  have n1 : (op == 1) = false := beq_eq_false_iff_ne.2 (by omega)
  have n2 : (op == 2) = false := beq_eq_false_iff_ne.2 (by omega)
  have n3 : (op == 3) = false := beq_eq_false_iff_ne.2 (by omega)
  have n4 : (op == 4) = false := beq_eq_false_iff_ne.2 (by omega)
  have n5 : (op == 5) = false := beq_eq_false_iff_ne.2 (by omega)
  clear hop
  go_enter Try.func18, Try.ntmps18
  go_wp2
  go_ret
  exact .inr ⟨HQ.out, rfl, ((Kp.refl NoX w).alloc _).alloc _⟩

set_option maxRecDepth 100000 in
set_option maxHeartbeats 1600000 in
theorem roper_3no (m : MOp) (w : World) (hok : m.Ok w NoX) (hop : m.op = 3) (hR : rightE m.value.v ≠ 0) :
    Calls Try.prog 18 #[.agg m.cells.toArray] w (MaybeB w (opB m.data)) := by
  obtain ⟨op, case_, type_, name, value, args, argsA, argsC, source, srcA, srcC, clock⟩ := m
  obtain ⟨hbA, hbS, hbC, hbT, hbN⟩ := hok.big
  simp only [MOp.cells, MOp.data] at *
  subst hop
  have HQ := Lib.hid (show opB ⟨3, case_, type_, name, value.v, args.map (·.v), source, clock⟩ = none by simp [opB, opTail, hR])
  generalize opB ⟨3, case_, type_, name, value.v, args.map (·.v), source, clock⟩ = TV at HQ ⊢
  have Hok := Lib.hid hok
  clear hok
  go_enter Try.func18, Try.ntmps18
  go_upto_region 8 with (fail)
  obtain ⟨hB, hb, ho⟩ := start_row w #[.int .i64 3, .string case_, .string type_, .string name, .int .i64 value.v.kind, .int .i64 value.v.n, .string value.v.t, .slice value.A value.v.s.length value.c, .slice argsA args.length argsC, .slice srcA source.length srcC, .int .i64 clock] 29 3 (.int .u8 3) rfl
  generalize (w.alloc _).alloc _ = W at *
  have HB := Lib.hid hB
  have Ho := Lib.hid ho
  have Hb := Lib.hid hb
  clear hB ho
  have d4 := hb.at_ 4 (v := .int .i64 value.v.kind) rfl
  have d5 := hb.at_ 5 (v := .int .i64 value.v.n) rfl
  have d6 := hb.at_ 6 (v := .string value.v.t) rfl
  have d7 := hb.at_ 7 (v := .slice value.A value.v.s.length value.c) rfl
  clear hb
  have hRb : (rightE value.v != 0) = true := bne_iff_ne.2 hR
  have HR := Lib.hid hR
  clear hR
  go_wp2_with fail
  refine (rvalue_any value.v value.A value.c _ (Hok.out.value.rd.old Ho.out) Hok.out.value.big).mono ?_
  rintro e w1 (⟨hz, _⟩ | ⟨_, rfl, ho1⟩)
  · exact absurd hz HR.out
  have Ho1 := Lib.hid (Ho.out.old ho1)
  clear ho1
  generalize rightE value.v = R at *
  go_wp2
  go_ret
  exact .inr ⟨HQ.out, rfl, Ho1.out⟩

set_option maxRecDepth 100000 in
set_option maxHeartbeats 1600000 in
theorem roper_3 (m : MOp) (w : World) (hok : m.Ok w NoX) (hop : m.op = 3) (hR : rightE m.value.v = 0) :
    Calls Try.prog 18 #[.agg m.cells.toArray] w (MaybeB w (opB m.data)) := by
  obtain ⟨op, case_, type_, name, value, args, argsA, argsC, source, srcA, srcC, clock⟩ := m
  obtain ⟨hbA, hbS, hbC, hbT, hbN⟩ := hok.big
  simp only [MOp.cells, MOp.data] at *
  subst hop
  have HQ := Lib.hid (show opB ⟨3, case_, type_, name, value.v, args.map (·.v), source, clock⟩ = some (([3] ++ lp 4 (sb case_)) ++ lp 4 (sb name) ++ valB value.v) by simp [opB, opTail, hR, be])
  generalize opB ⟨3, case_, type_, name, value.v, args.map (·.v), source, clock⟩ = TV at HQ ⊢
  have Hok := Lib.hid hok
  clear hok
  go_enter Try.func18, Try.ntmps18
  go_upto_region 8 with (fail)
  obtain ⟨hB, hb, ho⟩ := start_row w #[.int .i64 3, .string case_, .string type_, .string name, .int .i64 value.v.kind, .int .i64 value.v.n, .string value.v.t, .slice value.A value.v.s.length value.c, .slice argsA args.length argsC, .slice srcA source.length srcC, .int .i64 clock] 29 3 (.int .u8 3) rfl
  generalize (w.alloc _).alloc _ = W at *
  have HB := Lib.hid hB
  have Ho := Lib.hid ho
  have Hb := Lib.hid hb
  clear hB ho
  have d4 := hb.at_ 4 (v := .int .i64 value.v.kind) rfl
  have d5 := hb.at_ 5 (v := .int .i64 value.v.n) rfl
  have d6 := hb.at_ 6 (v := .string value.v.t) rfl
  have d7 := hb.at_ 7 (v := .slice value.A value.v.s.length value.c) rfl
  clear hb
  have HR := Lib.hid hR
  clear hR
  go_wp2_with fail
  refine (rvalue_any value.v value.A value.c _ (Hok.out.value.rd.old Ho.out) Hok.out.value.big).mono ?_
  rintro e w1 (⟨_, lv, Av, cv, hlv, rfl, hv, ho1⟩ | ⟨hz, _⟩)
  case inr => exact absurd HR.out hz
  have hvlen : lv.length ≤ 100000 := by rw [hlv]; exact valB_length value.v HR.out
  have Hlv := Lib.hid hlv
  have Hvlen := Lib.hid hvlen
  have HB1 := Lib.hid (HB.out.old ho1)
  have Hb1 := Lib.hid (Hb.out.old ho1)
  have Ho1 := Lib.hid (Ho.out.old ho1)
  have HV := Lib.hid hv
  have hWlt : w.heap.size + 1 < W.heap.size := (HB.out.own.lt _ rfl).2
  have HWlt := Lib.hid hWlt
  clear ho1 hv hlv hvlen hWlt d4 d5 d6 d7
  go_upto_region 11 with (fail)
  have d1 := Hb1.out.at_ 1 (v := .string case_) rfl
  have d2 := Hb1.out.at_ 3 (v := .string name) rfl
  have H1 := Lib.hid (rtext_grew w1.drew (w.heap.size + 1) [3] (some ⟨w.heap.size + 1, 0, none⟩) 1 case_ HB1.out.drew (by decide) hbC)
  go_region_held3 (fun w' => w'.cell? ⟨w.heap.size, 1, none⟩ = some (.string case_) ∧ w'.cell? ⟨w.heap.size, 3, none⟩ = some (.string name)) (first | exact ⟨d1, d2⟩ | exact ⟨f1, f2⟩ | exact ⟨g1, g2⟩ | exact ⟨j1, j2⟩)
    (first
      | (go_at_call_of 19 (Value.string case_); refine H1.out.mono ?_; rintro e w3 ⟨l3, A3, c3, e3, rfl, h3⟩; have k3 := h3.from_ HB1.out.drew; have b3 := (Hb1.out.drew).kp k3 (fun h => absurd h (Nat.not_succ_le_self _)); have f1 := b3.at_ 1 (v := .string case_) rfl; have f2 := b3.at_ 3 (v := .string name) rfl)
      | (go_at_call_of 19 (Value.string name); refine (rtext_grew _ (w.heap.size + 1) l3 A3 c3 name h3.row (by rw [e3.out, List.length_append, lp_length, sb_length]; simp; omega) hbN).mono ?_; rintro e w4 ⟨l4, A4, c4, e4, rfl, h4⟩; have k4 := h4.from_ h3.row; have b4 := b3.kp k4 (fun h => absurd h (Nat.not_succ_le_self _)); have g1 := b4.at_ 1 (v := .string case_) rfl; have g2 := b4.at_ 3 (v := .string name) rfl; have hgv := (HV.out.drew.kp (h3.trans h4).kp (fun k hk _ hj => by have h1 := HWlt.out; have : some (w.heap.size + 1) = some k := hj; injection this with this; omega)).rd)
      | (refine Try.step_bytes (.tmp 50) (.tmp 51) h4.row hgv (by have h1 := Hvlen.out; rw [e4.out, e3.out]; simp only [List.length_append, lp_length, sb_length, List.length_singleton]; omega) rfl rfl rfl rfl ?_; intro l5 A5 c5 w5 e5 h5; have k5 := h5.from_ h4.row; have b5 := b4.kp k5 (fun h => absurd h (Nat.not_succ_le_self _)); have j1 := b5.at_ 1 (v := .string case_) rfl; have j2 := b5.at_ 3 (v := .string name) rfl))
  have Hfin := Lib.hid (MaybeB.some_ HQ.out (by rw [e5.out, e4.out, e3.out, Hlv.out]) (by simp) h5.row (Nat.le_succ _) (From.old (From.old (From.old Ho1.out.drew k3 (Nat.le_succ _)) k4 (Nat.le_succ _)) k5 (Nat.le_succ _)))
  clear h3 h4 h5 k3 k4 k5 b3 b4 b5 f1 f2 g1 g2 j1 j2 d1 d2 hgv
  go_wp2
  go_ret
  exact Hfin.out

end Go.Proofs.Ytnaolhjbapgjgaa
