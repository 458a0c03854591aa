import Derived.Test.YtnaolhjbapgjgaaGreatMg02
import Derived.Test.YtnaolhjbapgjgaaGreatMg03
set_option maxRecDepth 100000
set_option maxHeartbeats 3200000
namespace Go.Proofs.YtnaolhjbapgjgaaGreat
open Go.RowKit
def be8 (n : Int) : List UInt8 := be 8 (n % 18446744073709551616).toNat
theorem jG (n : Int) : (be8 n).length = 8 := jC _ _
def nums (l : List Int) : List UInt8 := (l.map be8).flatten
theorem nums_take_succ (l : List Int) (k : Nat) (h : k < l.length) : nums (l.take (k + 1)) = nums (l.take k) ++ be8 (l.getD k 0) := by
  have e : l.getD k 0 = l[k] := by simp [List.getD, List.getElem?_eq_getElem h]
  rw [e, List.take_succ_eq_append_getElem h]
  unfold nums
  rw [List.map_append, List.flatten_append]
  congr 1
theorem nums_length (l : List Int) : (nums l).length = 8 * l.length := by
  induction l with
  | nil => rfl
  | cons a l ih => simp only [nums, List.map_cons, List.flatten_cons, List.length_append, jG, List.length_cons] at *; omega
theorem Rd.int {w : World} {A : Option Addr} {n : Nat} {l : List Int} (h : Rd w 1 A n (l.map (Value.int .i64))) {k : Nat} (hk : k < n) : ∃ b o, A = some ⟨b, o, none⟩ /\ w.cell? ⟨b, o + k, none⟩ = some (.int .i64 (l.getD k 0)) := by
  obtain ⟨b, o, u, rfl, hx, hc⟩ := h.at_ hk
  refine ⟨b, o, rfl, ?_⟩
  rw [hc]
  rw [List.getElem?_map] at hx
  obtain ⟨b, hb, rfl⟩ := Option.map_eq_some_iff.1 hx
  simp [List.getD, hb]
theorem kG (w : World) (g : Nat) (r : Option Nat) (bs : List UInt8) (A : Option Addr) (n c : Nat) (l : List Int) (hn : l.length = n) (hW : Wr w g r bs) (hl : bs.length <= 900000000000)
    (hrd : Rd w 1 A n (l.map (Value.int .i64))) (hav : Av (WX g r) n A) (hle : n <= 1000) :
    Calls Tryz.prog 22 #[.pointer (some ⟨g, 0, none⟩), .slice A n c] w fun e w' => e = .returned (.tuple #[]) /\ WStep w g r w' (bs ++ nums l) := by
  have Hl := jJ0 hl
  have Hn := jJ0 hn
  clear hl hn
  go_enter Tryz.func22, Tryz.ntmps22
  go_wp2
  go_loopw [8] (fun i wr => ∃ k : Nat, k <= n /\ i = .int .i64 k /\ WStep w g r wr (bs ++ nums (l.take k))) (fun i _ => n - (intOf i).toNat)
  case atStart => exact ⟨0, by omega, rfl, by simpa [nums] using hW.step⟩
  case round =>
    obtain ⟨k, hk, rfl, hst⟩ := hrel
    by_cases hlt : k < n
    · obtain ⟨r', hWr, hkp, hfr⟩ := hst
      obtain ⟨b, o, rfl, hy⟩ := (hrd.kp hkp hav).int (k := k) hlt
      have hcl : (bs ++ nums (l.take k)).length <= 1000000000000 := by
        have := Hl.out
        rw [List.length_append, nums_length, List.length_take, Hn.out]
        omega
      have Hfin := jJ0 (show bs ++ nums (l.take (k + 1)) = (bs ++ nums (l.take k)) ++ be8 (l.getD k 0) by
        rw [nums_take_succ l k (by rw [Hn.out]; exact hlt)]; simp)
      generalize l.getD k 0 = y at hy Hfin
      generalize bs ++ nums (l.take k) = cs at hWr hcl Hfin
      have Hcl := jJ0 hcl
      clear hcl
      have hrg := vN y
      go_wp2_with fail
      refine (put64_any _ g r' cs _ hrg.1 hrg.2 hWr (Nat.le_trans Hcl.out (by decide))).mono ?_
      rintro e w2 ⟨rfl, hst⟩
      rw [IntKind.wrap_u64] at hst
      have Hst := jJ0 (WStep.trans hkp hfr hst)
      clear hst
      go_wp2
      go_roundw
      case rel => exact ⟨k + 1, by omega, by go_num, by rw [Hfin.out]; exact Hst.out⟩
      case measure => simp [intOf]; omega
    · obtain rfl : k = n := by omega
      go_wp2
      go_end0
      refine ⟨rfl, ?_⟩
      rw [List.take_of_length_le (by rw [Hn.out]; omega)] at hst
      exact hst
structure MVal where
  v : Val
  A : Option Addr
  c : Nat
def MVal.cells (m : MVal) : List Value := [.int .i64 m.v.kind, .int .i64 m.v.n, .string m.v.t, .slice m.A m.v.s.length m.c]
structure MVal.Ok (w : World) (X : Nat -> Prop) (m : MVal) : Prop where
  rd : Rd w 1 m.A m.v.s.length (m.v.s.map sv)
  av : Av X m.v.s.length m.A
  cap : m.v.s.length <= m.c
  big : m.v.s.length <= 1000000000000
structure MOp where
  op : Int
  case_ : ByteArray
  type_ : ByteArray
  name : ByteArray
  value : MVal
  args : List MVal
  argsA : Option Addr
  argsC : Nat
  source : List UInt8
  srcA : Option Addr
  srcC : Nat
  clock : Int
def MOp.cells (m : MOp) : List Value := [.int .i64 m.op, .string m.case_, .string m.type_, .string m.name, .int .i64 m.value.v.kind, .int .i64 m.value.v.n, .string m.value.v.t, .slice m.value.A m.value.v.s.length m.value.c, .slice m.argsA m.args.length m.argsC, .slice m.srcA m.source.length m.srcC, .int .i64 m.clock]
structure MOp.Ok (w : World) (X : Nat -> Prop) (m : MOp) : Prop where
  value : m.value.Ok w X
  args : ∀ v ∈ m.args, MVal.Ok w X v
  rdArgs : Rd w 4 m.argsA m.args.length (m.args.flatMap MVal.cells)
  avArgs : Av X m.args.length m.argsA
  capArgs : m.args.length <= m.argsC
  rdSrc : Rd w 1 m.srcA m.source.length (m.source.map bv)
  avSrc : Av X m.source.length m.srcA
  big : m.args.length <= 1000000000000 /\ m.source.length <= 2147483647 /\ m.case_.size <= 2147483647 /\ m.type_.size <= 2147483647 /\ m.name.size <= 2147483647
structure MReq where
  op : Int
  do_ : MOp
  name : ByteArray
  number : Int
  size : Int
  from_ : Int
  to_ : Int
  first : Int
def MReq.cells (m : MReq) : List Value := .int .i64 m.op :: (m.do_.cells ++ [.string m.name, .int .i64 m.number, .int .i64 m.size, .int .i64 m.from_, .int .i64 m.to_, .int .i64 m.first])
section
variable {w w' : World} {X : Nat -> Prop}
theorem MVal.Ok.kp {m : MVal} (h : m.Ok w X) (hk : Kp X w w') : m.Ok w' X := ⟨h.rd.kp hk h.av, h.av, h.cap, h.big⟩
theorem MVal.Ok.old {m : MVal} (h : m.Ok w X) (hk : Old w w') : m.Ok w' X := ⟨h.rd.old hk, h.av, h.cap, h.big⟩
theorem MVal.Ok.fresh {m : MVal} {g : Nat} {r r' : Option Nat} (h : m.Ok w (WX g r)) (hf : Fr w r r') : m.Ok w (WX g r') := ⟨h.rd, h.av.fresh hf h.rd (by decide), h.cap, h.big⟩
theorem MOp.Ok.kp {m : MOp} (h : m.Ok w X) (hk : Kp X w w') : m.Ok w' X :=
  ⟨h.value.kp hk, fun v hv => (h.args v hv).kp hk, h.rdArgs.kp hk h.avArgs, h.avArgs, h.capArgs, h.rdSrc.kp hk h.avSrc, h.avSrc, h.big⟩
theorem MOp.Ok.old {m : MOp} (h : m.Ok w X) (hk : Old w w') : m.Ok w' X :=
  ⟨h.value.old hk, fun v hv => (h.args v hv).old hk, h.rdArgs.old hk, h.avArgs, h.capArgs, h.rdSrc.old hk, h.avSrc, h.big⟩
theorem MOp.Ok.fresh {m : MOp} {g : Nat} {r r' : Option Nat} (h : m.Ok w (WX g r)) (hf : Fr w r r') : m.Ok w (WX g r') :=
  ⟨h.value.fresh hf, fun v hv => (h.args v hv).fresh hf, h.rdArgs, h.avArgs.fresh hf h.rdArgs (by decide), h.capArgs, h.rdSrc, h.avSrc.fresh hf h.rdSrc (by decide), h.big⟩
theorem MOp.Ok.step {m : MOp} {g : Nat} {r r' : Option Nat} (h : m.Ok w (WX g r)) (hk : Kp (WX g r) w w') (hf : Fr w r r') : m.Ok w' (WX g r') := by
  have h1 := h.fresh hf
  have h2 := h.kp hk
  exact ⟨⟨h2.value.rd, h1.value.av, h2.value.cap, h2.value.big⟩, fun v hv => ⟨(h2.args v hv).rd, (h1.args v hv).av, (h2.args v hv).cap, (h2.args v hv).big⟩, h2.rdArgs, h1.avArgs, h2.capArgs, h2.rdSrc, h1.avSrc, h2.big⟩
theorem MVal.Ok.step {m : MVal} {g : Nat} {r r' : Option Nat} (h : m.Ok w (WX g r)) (hk : Kp (WX g r) w w') (hf : Fr w r r') : m.Ok w' (WX g r') :=
  ⟨(h.kp hk).rd, (h.fresh hf).av, h.cap, h.big⟩
end
structure Opn where
  op : Int
  case_ : ByteArray
  type_ : ByteArray
  name : ByteArray
  value : Val
  args : List Val
  source : List UInt8
  clock : Int
def MOp.data (m : MOp) : Opn := ⟨m.op, m.case_, m.type_, m.name, m.value.v, m.args.map (·.v), m.source, m.clock⟩
def vZ (o : Opn) : Option (List UInt8) :=
  if o.op = 1 then some (lp 4 (sb o.type_) ++ lp 4 o.source)
  else if o.op = 2 then some (lp 4 (sb o.case_) ++ lp 4 (sb o.type_))
  else if o.op = 3 then if jP o.value = 0 then some (lp 4 (sb o.case_) ++ lp 4 (sb o.name) ++ valB o.value) else none
  else if o.op = 4 then if o.args.length <= 255 /\ (o.args.all fun v => jP v == 0) = true then some (lp 4 (sb o.case_) ++ lp 4 (sb o.name) ++ (be 1 o.args.length ++ (o.args.map valB).flatten)) else none
  else if o.op = 5 then some (be8 o.clock)
  else none
def opB (o : Opn) : Option (List UInt8) := (vZ o).map fun b => be 1 o.op.toNat ++ b
def NoB (b : Option (List UInt8)) : Prop := b = none \/ ∃ l, b = some l /\ 1048576 < l.length
def OpPost (w : World) (g : Nat) (r : Option Nat) (bs : List UInt8) (o : Opn) (e : Ending) (w' : World) : Prop :=
  ∃ ok bs', e = .returned (.bool ok) /\ WStep w g r w' (bs ++ bs') /\ bs'.length <= 20000000000 /\ (ok = true -> opB o = some bs') /\ (ok = false -> NoB (opB o))
theorem Rd.arr_new (w : World) (t : TypeId) (l : List Value) : Rd (w.alloc (.cells l.toArray t)) 1 (some ⟨w.heap.size, 0, none⟩) l.length l := by
  refine ⟨by simp, fun _ => ⟨_, _, rfl, fun j u hu => ?_⟩⟩
  have hb := Blk.new w t l.toArray
  rw [Nat.zero_add, hb.cell j]
  simpa using hu
theorem Av.new {w : World} {g n : Nat} {r : Option Nat} {bs : List UInt8} (h : Wr w g r bs) : Av (WX g r) n (some ⟨w.heap.size, 0, none⟩) := by
  intro _ ad e
  injection e with e
  subst e
  exact kW h (Nat.le_refl _)
theorem WStep.after {w1 w2 w3 : World} {g : Nat} {r : Option Nat} {bs : List UInt8} (ho : Old w1 w2) (h : WStep w2 g r w3 bs) : WStep w1 g r w3 bs :=
  WStep.trans (ho.mono (Y := WX g r) (fun _ _ f => f.elim)) (.inl rfl) h
theorem WStep.old {w1 w2 w3 : World} {g : Nat} {r : Option Nat} {bs : List UInt8} (h : WStep w1 g r w2 bs) (ho : Old w2 w3) : WStep w1 g r w3 bs := by
  obtain ⟨r', hW, hk, hf⟩ := h
  exact ⟨r', hW.old ho, hk.old ho, hf⟩
theorem TextPost.one {w w' : World} {g : Nat} {r : Option Nat} {bs : List UInt8} {a : ByteArray} {e : Ending} (h : TextPost w g r bs [a] e w') :
    (e = .returned (.bool true) /\ a.size <= 4194304 /\ WStep w g r w' (bs ++ lp 4 (sb a))) \/ (e = .returned (.bool false) /\ 4194304 < a.size /\ WStep w g r w' bs) := by
  obtain ⟨k, hk, he, h1, h2, hst⟩ := h
  simp only [List.length_cons, List.length_nil] at hk h2 he
  have hk' : k = 0 \/ k = 1 := by omega
  rcases hk' with rfl | rfl
  · exact .inr ⟨he, h2 (by omega), by simpa [lps4] using hst⟩
  · exact .inl ⟨he, h1 0 (by omega), by simpa [lps4] using hst⟩
theorem TextPost.two {w w' : World} {g : Nat} {r : Option Nat} {bs : List UInt8} {a b : ByteArray} {e : Ending} (h : TextPost w g r bs [a, b] e w') :
    (e = .returned (.bool true) /\ a.size <= 4194304 /\ b.size <= 4194304 /\ WStep w g r w' (bs ++ (lp 4 (sb a) ++ lp 4 (sb b)))) \/
    (e = .returned (.bool false) /\ (4194304 < a.size \/ 4194304 < b.size) /\ ∃ bs', bs'.length <= 4194308 /\ WStep w g r w' (bs ++ bs')) := by
  obtain ⟨k, hk, he, h1, h2, hst⟩ := h
  simp only [List.length_cons, List.length_nil] at hk h2 he
  have hk' : k = 0 \/ k = 1 \/ k = 2 := by omega
  rcases hk' with rfl | rfl | rfl
  · exact .inr ⟨he, .inl (h2 (by omega)), [], by simp, by simpa [lps4] using hst⟩
  · have ha := h1 0 (by omega)
    refine .inr ⟨he, .inr (h2 (by omega)), lp 4 (sb a), ?_, by simpa [lps4] using hst⟩
    rw [jL, jF]
    have : ([a, b] : List ByteArray).getD 0 ByteArray.empty = a := rfl
    rw [this] at ha
    omega
  · exact .inl ⟨he, h1 0 (by omega), h1 1 (by omega), by simpa [lps4] using hst⟩
theorem flatMap_get4 (l : List MVal) : ∀ (k j : Nat) (hk : k < l.length) (_hj : j < 4), (l.flatMap MVal.cells)[k * 4 + j]? = (l[k]).cells[j]? := by
  induction l with
  | nil => intro k j hk; simp at hk
  | cons a l ih =>
    intro k j hk hj
    have hl : a.cells.length = 4 := rfl
    rw [List.flatMap_cons]
    cases k with
    | zero =>
      rw [List.getElem?_append_left (by omega)]
      simp
    | succ k =>
      rw [List.getElem?_append_right (by omega), hl]
      have e : (k + 1) * 4 + j - 4 = k * 4 + j := by omega
      rw [e, ih k j (by simpa using hk) hj]
      simp
theorem Rd.mval {w : World} {A : Option Addr} {l : List MVal} (h : Rd w 4 A l.length (l.flatMap MVal.cells)) {k : Nat} (hk : k < l.length) :
    ∃ b o, A = some ⟨b, o, none⟩ /\ w.cell? ⟨b, o + k * 4, none⟩ = some (.int .i64 l[k].v.kind) /\ w.cell? ⟨b, o + k * 4 + 1, none⟩ = some (.int .i64 l[k].v.n) /\
      w.cell? ⟨b, o + k * 4 + 2, none⟩ = some (.string l[k].v.t) /\ w.cell? ⟨b, o + k * 4 + 3, none⟩ = some (.slice l[k].A l[k].v.s.length l[k].c) := by
  obtain ⟨b, o, e, hc⟩ := h.2 (by omega)
  refine ⟨b, o, e, ?_, ?_, ?_, ?_⟩
  · exact hc (k * 4 + 0) _ (flatMap_get4 l k 0 hk (by decide))
  · exact hc (k * 4 + 1) _ (flatMap_get4 l k 1 hk (by decide))
  · exact hc (k * 4 + 2) _ (flatMap_get4 l k 2 hk (by decide))
  · exact hc (k * 4 + 3) _ (flatMap_get4 l k 3 hk (by decide))
def vM (l : List Val) : List UInt8 := (l.map valB).flatten
theorem valsB_take_succ (l : List Val) (k : Nat) (h : k < l.length) : vM (l.take (k + 1)) = vM (l.take k) ++ valB l[k] := by
  rw [List.take_succ_eq_append_getElem h]
  unfold vM
  rw [List.map_append, List.flatten_append]
  congr 1
  simp
theorem valsB_length (l : List Val) : ∀ k, k <= l.length -> (∀ j (hj : j < l.length), j < k -> jP l[j] = 0) -> (vM (l.take k)).length <= k * 100000 := by
  intro k
  induction k with
  | zero => intro _ _; simp [vM]
  | succ k ih =>
    intro hk h
    have h1 := ih (by omega) (fun j hj hjk => h j hj (by omega))
    have h2 := valB_length l[k] (h k (by omega) (by omega))
    rw [valsB_take_succ l k (by omega), List.length_append]
    omega
theorem lvalue_ex (w : World) (left : Int) (v : Val) (A : Option Addr) (c : Nat) (h1 : -1 <= left) (h2 : left <= 2147483647) (hr : Rd w 1 A v.s.length (v.s.map sv)) (ht : v.t.size <= 2147483647) (hx : ∀ x ∈ v.s, x.size <= 9223372036854775807) :
    Calls Tryz.prog 29 #[.int .i64 left, vV v A c] w fun e w' => e = .returned (.int .i64 (kw (vQ left (100 + (v.t.size : Int))) v.s)) /\ Old w w' := by
  obtain ⟨k, n, t, s⟩ := v
  simp only [vV] at *
  have hR1 := yC (n := 100 + (t.size : Int)) h2 (by omega)
  have HR := jJ0 (fun W => room_any W left (100 + (t.size : Int)) h1 h2 (by omega))
  have HT := jJ0 (fun W (ho : Old w W) => texts_any W (vQ left (100 + (t.size : Int))) A c s.length s hR1.2 hR1.1 (hr.old ho) rfl hx)
  have e100 : IntKind.i64.wrap (100 + (t.size : Int)) = 100 + (t.size : Int) := IntWalk.i64_in _ (by omega)
  have hb := Blk.new w 29 #[.int .i64 k, .int .i64 n, .string t, .slice A s.length c]
  have c2 := hb.at_ 2 (v := .string t) rfl
  have c3 := hb.at_ 3 (v := .slice A s.length c) rfl
  have Ho := jJ0 ((Kp.refl NoX w).alloc (.cells #[.int .i64 k, .int .i64 n, .string t, .slice A s.length c] 29))
  clear hb hr hx
  go_enter Tryz.func29, Tryz.ntmps29
  go_wp2_with fail
  generalize w.alloc _ = W at *
  go_quiet (first | (go_at_call 10; refine Calls.quiet_of_same ((HR.out _).mono (fun _ _ h => ⟨h.1, h.2.symm⟩))) | (go_at_call 30; refine Calls.quiet_of_same ((HT.out _ (Ho.out.drewN _)).mono (fun _ _ h => ⟨h.1, h.2.symm⟩))) | fail)
  go_wp2
  go_ret
  exact ⟨rfl, Ho.out.drewN _⟩
theorem oper_far (m : MOp) (g : Nat) (r : Option Nat) (bs : List UInt8) (w : World) (hW : Wr w g r bs) (hl : bs.length <= 500000000000) (hok : m.Ok w (WX g r)) (hop : m.op < 1 \/ 5 < m.op) :
    Calls Tryz.prog 20 #[.pointer (some ⟨g, 0, none⟩), .agg m.cells.toArray] w (OpPost w g r bs m.data) := by
  have Hl := jJ0 hl
  clear hl
  obtain ⟨op, case_, type_, name, value, args, argsA, argsC, source, srcA, srcC, clock⟩ := m
  obtain ⟨hbA, hbS, hbC, hbT, hbN⟩ := hok.big
  simp only [MOp.cells, MOp.data] at *
  go_enter Tryz.func20, Tryz.ntmps20
  go_wp2_with fail
  have hrg : 0 <= IntKind.u8.wrap op /\ IntKind.u8.wrap op <= 255 := by rw [IntKind.wrap_u8]; omega
  have ho : Kp NoX w (w.alloc (.cells #[.int .i64 op, .string case_, .string type_, .string name, .int .i64 value.v.kind, .int .i64 value.v.n, .string value.v.t, .slice value.A value.v.s.length value.c, .slice argsA args.length argsC, .slice srcA source.length srcC, .int .i64 clock] 32)) := (Kp.refl NoX w).alloc _
  have hb := Blk.new w 32 #[.int .i64 op, .string case_, .string type_, .string name, .int .i64 value.v.kind, .int .i64 value.v.n, .string value.v.t, .slice value.A value.v.s.length value.c, .slice argsA args.length argsC, .slice srcA source.length srcC, .int .i64 clock]
  have hW1 := hW.old ho
  refine (jV _ g r bs _ hrg.1 hrg.2 hW1 (Nat.le_trans Hl.out (by decide))).mono ?_
  rintro e w2 ⟨rfl, r2, hW2, hk2, hf2⟩
  have hb2 := hb.kp hk2 (kW hW (Nat.le_refl _))
  have hkp := (ho.mono (Y := WX g r) (fun _ _ f => f.elim)).trans hk2 (fun _ _ h => h)
  have hfr : Fr w r r2 := by
    rcases hf2 with rfl | ⟨k, rfl, hle⟩
    · exact .inl rfl
    · exact .inr ⟨k, rfl, Nat.le_trans ho.size hle⟩
  have hok2 := hok.step hkp hfr
  have hbx : ¬ WX g r2 w.heap.size := by
    rintro (e | e)
    · have := hW.lt.1; omega
    · rcases hf2 with rfl | ⟨k, rfl, hle⟩
      · exact kW hW (Nat.le_refl _) (.inr e)
      · injection e with e; simp at hle; omega
  have d0 := hb2.at_ 0 rfl
  have hcl : (bs ++ be 1 (IntKind.u8.wrap op).toNat).length <= 510000000000 := by rw [List.length_append, jC]; have := Hl.out; omega
  have Hcl := jJ0 hcl
  clear hcl hb hf2 hk2 hW1 ho
  have h1 : (op == 1) = false := beq_eq_false_iff_ne.2 (by omega)
  have h2 : (op == 2) = false := beq_eq_false_iff_ne.2 (by omega)
  have h3 : (op == 3) = false := beq_eq_false_iff_ne.2 (by omega)
  have h4 : (op == 4) = false := beq_eq_false_iff_ne.2 (by omega)
  have h5 : (op == 5) = false := beq_eq_false_iff_ne.2 (by omega)
  have Hop := jJ0 hop
  clear hop
  go_wp2
  go_ret
  refine ⟨false, be 1 (IntKind.u8.wrap op).toNat, rfl, ⟨r2, hW2, hkp, hfr⟩, by rw [jC]; omega, (fun h => by cases h), fun _ => .inl ?_⟩
  have := Hop.out
  rw [opB, vZ, if_neg (by simp only; omega), if_neg (by simp only; omega), if_neg (by simp only; omega), if_neg (by simp only; omega), if_neg (by simp only; omega)]
  rfl
theorem oper_5 (m : MOp) (g : Nat) (r : Option Nat) (bs : List UInt8) (w : World) (hW : Wr w g r bs) (hl : bs.length <= 500000000000) (hok : m.Ok w (WX g r)) (hop : m.op = 5) :
    Calls Tryz.prog 20 #[.pointer (some ⟨g, 0, none⟩), .agg m.cells.toArray] w (OpPost w g r bs m.data) := by
  have Hl := jJ0 hl
  clear hl
  obtain ⟨op, case_, type_, name, value, args, argsA, argsC, source, srcA, srcC, clock⟩ := m
  obtain ⟨hbA, hbS, hbC, hbT, hbN⟩ := hok.big
  simp only [MOp.cells, MOp.data] at *
  subst hop
  go_enter Tryz.func20, Tryz.ntmps20
  go_wp2_with fail
  have ho : Kp NoX w (w.alloc (.cells #[.int .i64 5, .string case_, .string type_, .string name, .int .i64 value.v.kind, .int .i64 value.v.n, .string value.v.t, .slice value.A value.v.s.length value.c, .slice argsA args.length argsC, .slice srcA source.length srcC, .int .i64 clock] 32)) := (Kp.refl NoX w).alloc _
  have hb := Blk.new w 32 #[.int .i64 5, .string case_, .string type_, .string name, .int .i64 value.v.kind, .int .i64 value.v.n, .string value.v.t, .slice value.A value.v.s.length value.c, .slice argsA args.length argsC, .slice srcA source.length srcC, .int .i64 clock]
  have hW1 := hW.old ho
  refine (jV _ g r bs _ (by omega) (by omega) hW1 (Nat.le_trans Hl.out (by decide))).mono ?_
  rintro e w2 ⟨rfl, r2, hW2, hk2, hf2⟩
  have hb2 := hb.kp hk2 (kW hW (Nat.le_refl _))
  have hkp := (ho.mono (Y := WX g r) (fun _ _ f => f.elim)).trans hk2 (fun _ _ h => h)
  have hfr : Fr w r r2 := by
    rcases hf2 with rfl | ⟨k, rfl, hle⟩
    · exact .inl rfl
    · exact .inr ⟨k, rfl, Nat.le_trans ho.size hle⟩
  have hok2 := hok.step hkp hfr
  have hbx : ¬ WX g r2 w.heap.size := by
    rintro (e | e)
    · have := hW.lt.1; omega
    · rcases hf2 with rfl | ⟨k, rfl, hle⟩
      · exact kW hW (Nat.le_refl _) (.inr e)
      · injection e with e; simp at hle; omega
  have d0 := hb2.at_ 0 rfl
  have d10 := hb2.at_ 10 rfl
  have hcl : (bs ++ be 1 ((5 : Int)).toNat).length <= 510000000000 := by rw [List.length_append, jC]; have := Hl.out; omega
  have Hcl := jJ0 hcl
  clear hcl hb hf2 hk2 hW1 ho
  go_wp2_with fail
  refine (kG _ g r2 _ _ 1 1 [clock] rfl (hW2.old ((Kp.refl _ _).alloc _)) (Nat.le_trans Hcl.out (by decide)) (Rd.arr_new _ _ [.int .i64 clock]) (Av.new hW2) (by decide)).mono ?_
  rintro e w3 ⟨rfl, hst⟩
  have hst1 := WStep.after ((Kp.refl _ _).alloc _) hst
  have Hst := jJ0 (WStep.trans hkp hfr hst1)
  clear hst hst1
  go_wp2
  go_ret
  refine ⟨true, be 1 (5 : Int).toNat ++ be8 clock, rfl, ?_, by rw [List.length_append, jC, jG]; omega, fun _ => rfl, fun h => by cases h⟩
  have h := Hst.out
  simpa [nums] using h
theorem oper_3 (m : MOp) (g : Nat) (r : Option Nat) (bs : List UInt8) (w : World) (hW : Wr w g r bs) (hl : bs.length <= 500000000000) (hok : m.Ok w (WX g r)) (hop : m.op = 3) :
    Calls Tryz.prog 20 #[.pointer (some ⟨g, 0, none⟩), .agg m.cells.toArray] w (OpPost w g r bs m.data) := by
  have Hl := jJ0 hl
  clear hl
  obtain ⟨op, case_, type_, name, value, args, argsA, argsC, source, srcA, srcC, clock⟩ := m
  obtain ⟨hbA, hbS, hbC, hbT, hbN⟩ := hok.big
  simp only [MOp.cells, MOp.data] at *
  subst hop
  go_enter Tryz.func20, Tryz.ntmps20
  go_wp2_with fail
  have ho : Kp NoX w (w.alloc (.cells #[.int .i64 3, .string case_, .string type_, .string name, .int .i64 value.v.kind, .int .i64 value.v.n, .string value.v.t, .slice value.A value.v.s.length value.c, .slice argsA args.length argsC, .slice srcA source.length srcC, .int .i64 clock] 32)) := (Kp.refl NoX w).alloc _
  have hb := Blk.new w 32 #[.int .i64 3, .string case_, .string type_, .string name, .int .i64 value.v.kind, .int .i64 value.v.n, .string value.v.t, .slice value.A value.v.s.length value.c, .slice argsA args.length argsC, .slice srcA source.length srcC, .int .i64 clock]
  have hW1 := hW.old ho
  refine (jV _ g r bs _ (by omega) (by omega) hW1 (Nat.le_trans Hl.out (by decide))).mono ?_
  rintro e w2 ⟨rfl, r2, hW2, hk2, hf2⟩
  have hb2 := hb.kp hk2 (kW hW (Nat.le_refl _))
  have hkp := (ho.mono (Y := WX g r) (fun _ _ f => f.elim)).trans hk2 (fun _ _ h => h)
  have hfr : Fr w r r2 := by
    rcases hf2 with rfl | ⟨k, rfl, hle⟩
    · exact .inl rfl
    · exact .inr ⟨k, rfl, Nat.le_trans ho.size hle⟩
  have hok2 := hok.step hkp hfr
  have hbx : ¬ WX g r2 w.heap.size := by
    rintro (e | e)
    · have := hW.lt.1; omega
    · rcases hf2 with rfl | ⟨k, rfl, hle⟩
      · exact kW hW (Nat.le_refl _) (.inr e)
      · injection e with e; simp at hle; omega
  have d0 := hb2.at_ 0 rfl
  have d1 := hb2.at_ 1 rfl
  have d3 := hb2.at_ 3 rfl
  have hcl : (bs ++ be 1 ((3 : Int)).toNat).length <= 510000000000 := by rw [List.length_append, jC]; have := Hl.out; omega
  have Hcl := jJ0 hcl
  clear hcl hb hf2 hk2 hW1 ho
  go_wp2_with fail
  refine (vB _ g r2 _ _ 2 [case_, name] (hW2.old ((Kp.refl _ _).alloc _)) (Nat.le_trans Hcl.out (by decide)) (Rd.arr_new _ _ [.string case_, .string name]) (Av.new hW2) (by simp) ?_).mono ?_
  · intro k hk
    simp only [List.length_cons, List.length_nil] at hk
    have : k = 0 \/ k = 1 := by omega
    rcases this with rfl | rfl
    · exact hbC
    · exact hbN
  intro e w3 ht
  rcases ht.two with ⟨rfl, hs1, hs2, hst⟩ | ⟨rfl, hbig, bs', hbl, hst⟩
  ·
    obtain ⟨r3, hW3, hk3, hf3⟩ := hst
    have hb3 := (hb2.alloc _).kp hk3 hbx
    have hok3 := (hok2.old ((Kp.refl _ _).alloc _)).step hk3 hf3
    have hst1 : Kp (WX g r2) w2 w3 := (((Kp.refl NoX w2).alloc _).mono (Y := WX g r2) (fun _ _ f => f.elim)).trans hk3 (fun _ _ h => h)
    have hf3' : Fr w2 r2 r3 := by
      rcases hf3 with rfl | ⟨k, rfl, hle⟩
      · exact .inl rfl
      · exact .inr ⟨k, rfl, Nat.le_trans (by simp) hle⟩
    have hcl3 : (bs ++ be 1 (3 : Int).toNat ++ (lp 4 (sb case_) ++ lp 4 (sb name))).length <= 520000000000 := by
      have := Hcl.out
      simp only [List.length_append, jL, jF, jC] at *
      omega
    have Hcl3 := jJ0 hcl3
    clear hcl3
    have e4 := hb3.at_ 4 rfl
    have e5 := hb3.at_ 5 rfl
    have e6 := hb3.at_ 6 rfl
    have e7 := hb3.at_ 7 rfl
    by_cases hR : jP value.v = 0
    · go_wp2_with fail
      refine (putv_ok value.v value.A value.c g r3 _ _ hW3 (Nat.le_trans Hcl3.out (by decide)) hok3.value.rd hok3.value.av hok3.value.cap hok3.value.big hR).mono ?_
      rintro e w4 ⟨rfl, hst⟩
      have Hst := jJ0 (WStep.trans hkp hfr (WStep.trans hst1 hf3' hst))
      have HR := jJ0 hR
      clear hst hR
      go_wp2
      go_ret
      have hvl := valB_length value.v HR.out
      refine ⟨true, be 1 (3 : Int).toNat ++ (lp 4 (sb case_) ++ lp 4 (sb name) ++ valB value.v), rfl, ?_, ?_, fun _ => ?_, fun h => by cases h⟩
      · have h := Hst.out
        simpa only [List.append_assoc] using h
      · rw [List.length_append, List.length_append, List.length_append, jC, jL, jL, jF, jF]
        omega
      · rw [opB, vZ, if_neg (by simp), if_neg (by simp), if_pos rfl, if_pos HR.out]; rfl
    · go_wp2_with fail
      refine (putv_bad value.v value.A value.c g _ hok3.value.rd hok3.value.cap hok3.value.big hR).mono ?_
      rintro e w4 ⟨rfl, ho4⟩
      have Hst := jJ0 (WStep.trans hkp hfr (WStep.trans hst1 hf3' (hW3.step.old ho4)))
      have HR := jJ0 hR
      have hRb : (jP value.v == 0) = false := beq_eq_false_iff_ne.2 hR
      generalize hz : jP value.v = z at hRb
      have Hz := jJ0 hz
      clear hR hz
      go_wp2
      go_ret
      refine ⟨false, be 1 (3 : Int).toNat ++ (lp 4 (sb case_) ++ lp 4 (sb name)), rfl, ?_, ?_, (fun h => by cases h), fun _ => .inl ?_⟩
      · have h := Hst.out
        simpa only [List.append_assoc] using h
      · rw [List.length_append, List.length_append, jC, jL, jL, jF, jF]
        omega
      · rw [opB, vZ, if_neg (by simp), if_neg (by simp), if_pos rfl, if_neg HR.out]; rfl
  · have hst1 := WStep.after ((Kp.refl _ _).alloc _) hst
    have Hst := jJ0 (WStep.trans hkp hfr hst1)
    have Hbig := jJ0 hbig
    clear hst hst1 hbig
    go_wp2
    go_ret
    refine ⟨false, be 1 (3 : Int).toNat ++ bs', rfl, by rw [<- List.append_assoc]; exact Hst.out, by rw [List.length_append, jC]; omega, (fun h => by cases h), fun _ => ?_⟩
    have hbig := Hbig.out
    by_cases hR : jP value.v = 0
    · refine .inr ⟨_, by rw [opB, vZ, if_neg (by simp), if_neg (by simp), if_pos rfl, if_pos hR]; rfl, ?_⟩
      rw [List.length_append, List.length_append, List.length_append, jC, jL, jL, jF, jF]
      dsimp only
      omega
    · refine .inl ?_
      rw [opB, vZ, if_neg (by simp), if_neg (by simp), if_pos rfl, if_neg hR]; rfl
theorem oper_1 (m : MOp) (g : Nat) (r : Option Nat) (bs : List UInt8) (w : World) (hW : Wr w g r bs) (hl : bs.length <= 500000000000) (hok : m.Ok w (WX g r)) (hop : m.op = 1) :
    Calls Tryz.prog 20 #[.pointer (some ⟨g, 0, none⟩), .agg m.cells.toArray] w (OpPost w g r bs m.data) := by
  have Hl := jJ0 hl
  clear hl
  obtain ⟨op, case_, type_, name, value, args, argsA, argsC, source, srcA, srcC, clock⟩ := m
  obtain ⟨hbA, hbS, hbC, hbT, hbN⟩ := hok.big
  simp only [MOp.cells, MOp.data] at *
  subst hop
  go_enter Tryz.func20, Tryz.ntmps20
  go_wp2_with fail
  have ho : Kp NoX w (w.alloc (.cells #[.int .i64 1, .string case_, .string type_, .string name, .int .i64 value.v.kind, .int .i64 value.v.n, .string value.v.t, .slice value.A value.v.s.length value.c, .slice argsA args.length argsC, .slice srcA source.length srcC, .int .i64 clock] 32)) := (Kp.refl NoX w).alloc _
  have hb := Blk.new w 32 #[.int .i64 1, .string case_, .string type_, .string name, .int .i64 value.v.kind, .int .i64 value.v.n, .string value.v.t, .slice value.A value.v.s.length value.c, .slice argsA args.length argsC, .slice srcA source.length srcC, .int .i64 clock]
  have hW1 := hW.old ho
  refine (jV _ g r bs _ (by omega) (by omega) hW1 (Nat.le_trans Hl.out (by decide))).mono ?_
  rintro e w2 ⟨rfl, r2, hW2, hk2, hf2⟩
  have hb2 := hb.kp hk2 (kW hW (Nat.le_refl _))
  have hkp := (ho.mono (Y := WX g r) (fun _ _ f => f.elim)).trans hk2 (fun _ _ h => h)
  have hfr : Fr w r r2 := by
    rcases hf2 with rfl | ⟨k, rfl, hle⟩
    · exact .inl rfl
    · exact .inr ⟨k, rfl, Nat.le_trans ho.size hle⟩
  have hok2 := hok.step hkp hfr
  have hbx : ¬ WX g r2 w.heap.size := by
    rintro (e | e)
    · have := hW.lt.1; omega
    · rcases hf2 with rfl | ⟨k, rfl, hle⟩
      · exact kW hW (Nat.le_refl _) (.inr e)
      · injection e with e; simp at hle; omega
  have d0 := hb2.at_ 0 rfl
  have d2 := hb2.at_ 2 rfl
  have d9 := hb2.at_ 9 rfl
  have hcl : (bs ++ be 1 ((1 : Int)).toNat).length <= 510000000000 := by rw [List.length_append, jC]; have := Hl.out; omega
  have Hcl := jJ0 hcl
  clear hcl hb hf2 hk2 hW1 ho
  have hcv := fun W (h : Old w2 W) => yL (P := Tryz.prog) W Tryz.underlying22 Tryz.underlying5 Tryz.underlying9 srcA source.length srcC source (hok2.rdSrc.old h)
  have hcv0 := hcv w2 (Kp.refl _ _)
  clear hcv
  go_wp2_with fail
  clear hcv0
  refine (vB _ g r2 _ _ 2 [type_, (⟨source.toArray⟩ : ByteArray)] (hW2.old ((Kp.refl _ _).alloc _)) (Nat.le_trans Hcl.out (by decide)) (Rd.arr_new _ _ [.string type_, .string (⟨source.toArray⟩ : ByteArray)]) (Av.new hW2) (by simp) ?_).mono ?_
  · intro k hk
    simp only [List.length_cons, List.length_nil] at hk
    have : k = 0 \/ k = 1 := by omega
    rcases this with rfl | rfl
    · exact hbT
    · exact hbS
  intro e w3 ht
  rcases ht.two with ⟨rfl, hs1, hs2, hst⟩ | ⟨rfl, hbig, bs', hbl, hst⟩
  · have hst1 := WStep.after ((Kp.refl _ _).alloc _) hst
    have Hst := jJ0 (WStep.trans hkp hfr hst1)
    clear hst hst1
    go_wp2
    go_ret
    refine ⟨true, be 1 (1 : Int).toNat ++ (lp 4 (sb type_) ++ lp 4 (sb (⟨source.toArray⟩ : ByteArray))), rfl, by rw [<- List.append_assoc]; exact Hst.out, ?_, fun _ => rfl, fun h => by cases h⟩
    rw [List.length_append, List.length_append, jC, jL, jL, jF, jF]
    omega
  · have hst1 := WStep.after ((Kp.refl _ _).alloc _) hst
    have Hst := jJ0 (WStep.trans hkp hfr hst1)
    have Hbig := jJ0 hbig
    clear hst hst1 hbig
    go_wp2
    go_ret
    refine ⟨false, be 1 (1 : Int).toNat ++ bs', rfl, by rw [<- List.append_assoc]; exact Hst.out, by rw [List.length_append, jC]; omega, (fun h => by cases h), fun _ => ?_⟩
    have hbig := Hbig.out
    refine .inr ⟨_, rfl, ?_⟩
    rw [List.length_append, List.length_append, jC, jL, jL, jF]
    have hsz : (⟨source.toArray⟩ : ByteArray).size = source.length := by rw [<- jF, sb_mk]
    dsimp only
    omega
theorem oper_2 (m : MOp) (g : Nat) (r : Option Nat) (bs : List UInt8) (w : World) (hW : Wr w g r bs) (hl : bs.length <= 500000000000) (hok : m.Ok w (WX g r)) (hop : m.op = 2) :
    Calls Tryz.prog 20 #[.pointer (some ⟨g, 0, none⟩), .agg m.cells.toArray] w (OpPost w g r bs m.data) := by
  have Hl := jJ0 hl
  clear hl
  obtain ⟨op, case_, type_, name, value, args, argsA, argsC, source, srcA, srcC, clock⟩ := m
  obtain ⟨hbA, hbS, hbC, hbT, hbN⟩ := hok.big
  simp only [MOp.cells, MOp.data] at *
  subst hop
  go_enter Tryz.func20, Tryz.ntmps20
  go_wp2_with fail
  have ho : Kp NoX w (w.alloc (.cells #[.int .i64 2, .string case_, .string type_, .string name, .int .i64 value.v.kind, .int .i64 value.v.n, .string value.v.t, .slice value.A value.v.s.length value.c, .slice argsA args.length argsC, .slice srcA source.length srcC, .int .i64 clock] 32)) := (Kp.refl NoX w).alloc _
  have hb := Blk.new w 32 #[.int .i64 2, .string case_, .string type_, .string name, .int .i64 value.v.kind, .int .i64 value.v.n, .string value.v.t, .slice value.A value.v.s.length value.c, .slice argsA args.length argsC, .slice srcA source.length srcC, .int .i64 clock]
  have hW1 := hW.old ho
  refine (jV _ g r bs _ (by omega) (by omega) hW1 (Nat.le_trans Hl.out (by decide))).mono ?_
  rintro e w2 ⟨rfl, r2, hW2, hk2, hf2⟩
  have hb2 := hb.kp hk2 (kW hW (Nat.le_refl _))
  have hkp := (ho.mono (Y := WX g r) (fun _ _ f => f.elim)).trans hk2 (fun _ _ h => h)
  have hfr : Fr w r r2 := by
    rcases hf2 with rfl | ⟨k, rfl, hle⟩
    · exact .inl rfl
    · exact .inr ⟨k, rfl, Nat.le_trans ho.size hle⟩
  have hok2 := hok.step hkp hfr
  have hbx : ¬ WX g r2 w.heap.size := by
    rintro (e | e)
    · have := hW.lt.1; omega
    · rcases hf2 with rfl | ⟨k, rfl, hle⟩
      · exact kW hW (Nat.le_refl _) (.inr e)
      · injection e with e; simp at hle; omega
  have d0 := hb2.at_ 0 rfl
  have d1 := hb2.at_ 1 rfl
  have d2 := hb2.at_ 2 rfl
  have hcl : (bs ++ be 1 ((2 : Int)).toNat).length <= 510000000000 := by rw [List.length_append, jC]; have := Hl.out; omega
  have Hcl := jJ0 hcl
  clear hcl hb hf2 hk2 hW1 ho
  go_wp2_with fail
  refine (vB _ g r2 _ _ 2 [case_, type_] (hW2.old ((Kp.refl _ _).alloc _)) (Nat.le_trans Hcl.out (by decide)) (Rd.arr_new _ _ [.string case_, .string type_]) (Av.new hW2) (by simp) ?_).mono ?_
  · intro k hk
    simp only [List.length_cons, List.length_nil] at hk
    have : k = 0 \/ k = 1 := by omega
    rcases this with rfl | rfl
    · exact hbC
    · exact hbT
  intro e w3 ht
  rcases ht.two with ⟨rfl, hs1, hs2, hst⟩ | ⟨rfl, hbig, bs', hbl, hst⟩
  · have hst1 := WStep.after ((Kp.refl _ _).alloc _) hst
    have Hst := jJ0 (WStep.trans hkp hfr hst1)
    clear hst hst1
    go_wp2
    go_ret
    refine ⟨true, be 1 (2 : Int).toNat ++ (lp 4 (sb case_) ++ lp 4 (sb type_)), rfl, by rw [<- List.append_assoc]; exact Hst.out, ?_, fun _ => rfl, fun h => by cases h⟩
    rw [List.length_append, List.length_append, jC, jL, jL, jF, jF]
    omega
  · have hst1 := WStep.after ((Kp.refl _ _).alloc _) hst
    have Hst := jJ0 (WStep.trans hkp hfr hst1)
    have Hbig := jJ0 hbig
    clear hst hst1 hbig
    go_wp2
    go_ret
    refine ⟨false, be 1 (2 : Int).toNat ++ bs', rfl, by rw [<- List.append_assoc]; exact Hst.out, by rw [List.length_append, jC]; omega, (fun h => by cases h), fun _ => ?_⟩
    have hbig := Hbig.out
    refine .inr ⟨_, rfl, ?_⟩
    rw [List.length_append, List.length_append, jC, jL, jL, jF, jF]
    dsimp only
    omega
end Go.Proofs.YtnaolhjbapgjgaaGreat
