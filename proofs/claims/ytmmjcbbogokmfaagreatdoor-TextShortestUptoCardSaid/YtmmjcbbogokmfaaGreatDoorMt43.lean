import Derived.Test.YtmmjcbbogokmfaaGreatDoorMt01
import Derived.Test.YtmmjcbbogokmfaaGreatDoorMt20
import Derived.Test.YtmmjcbbogokmfaaGreatDoorMt27
import Derived.Test.YtmmjcbbogokmfaaGreatDoorMt28
import Derived.Test.YtmmjcbbogokmfaaGreatDoorMt37
import Derived.Test.YtmmjcbbogokmfaaGreatDoorMt39
import Derived.Test.YtmmjcbbogokmfaaGreatDoorMt42
set_option maxRecDepth 100000
set_option maxHeartbeats 25600000
namespace Go.Proofs.YtmmjcbbogokmfaaGreatDoor
open Go.RowKit
theorem taken_pos {t : Nat} (ht : 1 <= t) {m m' : Mc} {k : Nat} (hp : Pos m.stack) (h : kw t m k = .ok m') : Pos m'.stack /\ m'.fin = m.fin := by
  unfold kw at h
  split at h
  · rename_i s hs
    injection h with h
    obtain ⟨n, _, hT⟩ := takes_of hs
    rw [<- h]
    exact ⟨hT.pos ht hp, rfl⟩
  · cases h
theorem namedN_pos (w : List UInt8) : 1 <= jU w := by
  unfold jU
  split
  · decide
  · split
    · decide
    · omega
theorem textGo_ends : ∀ (l : List UInt8) (k e j : Nat), 4 <= e -> jx l k e = .ends j -> 4 <= j
  | [], k, e, j, he, h => by
    rw [jx] at h
    injection h with h
    omega
  | c :: l, k, e, j, he, h => by
    rw [jx] at h
    repeat' split at h
    all_goals first | (cases h; done) | exact textGo_ends l _ _ j (by omega) h | exact textGo_ends l _ _ j (by split <;> omega) h
theorem step_fin (src : List UInt8) {m m' : Mc} {c : UInt8} {l : List UInt8} (hd : src.drop m.at_ = c :: l) (hp : Pos m.stack) (hf : m.fin = 0) (h : vC m (c :: l) = .ok m') : Pos m'.stack /\ (m'.fin = 0 \/ (src.length <= m'.at_ /\ FinOk src m')) := by
  have hlen : src.length = m.at_ + (c :: l).length := by
    have := congrArg List.length hd
    rw [List.length_drop] at this
    rw [List.length_cons] at this ⊢
    omega
  rw [vC] at h
  split at h
  · injection h with h
    rw [<- h]
    exact ⟨hp, .inl hf⟩
  split at h
  · unfold kg at h
    simp only at h
    injection h with h
    split at h
    · rw [<- h]
      exact ⟨hp, .inr ⟨Nat.le_of_eq hlen, hp, fun e => absurd e (by decide : ¬ 1 = 2), fun e => absurd e (by decide : ¬ 1 = 3), fun e => absurd e (by decide : ¬ 4 <= 1)⟩⟩
    · rw [<- h]
      exact ⟨hp, .inl hf⟩
  split at h
  · unfold kW at h
    split at h
    · cases h
    · rename_i hm
      split at h
      · cases h
      · obtain ⟨h1, h2⟩ := taken_pos (m := { m with from_ := m.at_, fin := 0 }) (by decide) hp h
        exact ⟨h1, .inl h2⟩
      · rename_i e he
        have h4 := textGo_ends _ _ _ _ (by decide) he
        injection h with h
        rw [<- h]
        exact ⟨hp, .inr ⟨Nat.le_of_eq hlen, hp, fun e' => by simp only at e'; omega, fun e' => by simp only at e'; omega, fun _ _ => by simpa using hm⟩⟩
  split at h
  · unfold ka at h
    simp only at h
    split at h
    · obtain ⟨h1, h2⟩ := taken_pos (m := { m with from_ := m.at_ }) (namedN_pos _) hp h
      exact ⟨h1, .inl (h2.trans hf)⟩
    · unfold vI at h
      split at h
      · cases h
      · injection h with h
        rw [<- h]
        exact ⟨hp, .inr ⟨Nat.le_of_eq hlen, hp, fun _ => by simp only; rw [hlen, List.length_cons]; omega, fun e' => absurd e' (by decide : ¬ 2 = 3), fun e' => absurd e' (by decide : ¬ 4 <= 2)⟩⟩
  · unfold kc at h
    simp only at h
    split at h
    · rename_i hc
      split at h
      · rename_i hh
        obtain ⟨h1, h2⟩ := taken_pos (m := { m with from_ := m.at_ }) (Nat.one_le_iff_ne_zero.2 hh.1) hp h
        exact ⟨h1, .inl (h2.trans hf)⟩
      · obtain ⟨h1, h2⟩ := taken_pos (m := { m with from_ := m.at_ }) (Nat.one_le_iff_ne_zero.2 hc.1) hp h
        exact ⟨h1, .inl (h2.trans hf)⟩
    · split at h
      · cases h
      · rename_i hn
        rw [not_or] at hn
        have hmay : mayN (jS [c, 61]) m.stack = true := by simpa using hn.2
        split at h
        · rename_i hl
          injection h with h
          rw [<- h]
          subst hl
          refine ⟨hp, .inr ⟨?_, hp, fun e' => absurd e' (by decide : ¬ 3 = 2), fun _ => ?_, fun e' => absurd e' (by decide : ¬ 4 <= 3)⟩⟩
          · simp only
            rw [hlen]
            exact Nat.le_refl _
          · simp only
            rw [hd]
            exact ⟨by rw [hlen]; omega, Nat.one_le_iff_ne_zero.2 hn.1, hmay⟩
        · split at h
          · cases h
          · obtain ⟨h1, h2⟩ := taken_pos (m := { m with from_ := m.at_ }) (Nat.one_le_iff_ne_zero.2 hn.1) hp h
            exact ⟨h1, .inl (h2.trans hf)⟩
theorem run_fin (src : List UInt8) : ∀ (f : Nat) (m m' : Mc), src.length + 1 <= f + m.at_ -> Pos m.stack -> (m.fin = 0 \/ (src.length <= m.at_ /\ FinOk src m)) -> runN src f m = .ok m' -> FinOk src m'
  | 0, m, m', hf, hp, hk, h => by
    rw [runN] at h
    injection h with h
    rw [<- h]
    rcases hk with hk | hk
    · exact ⟨hp, fun e => by omega, fun e => by omega, fun e => by omega⟩
    · exact hk.2
  | f + 1, m, m', hf, hp, hk, h => by
    rw [runN] at h
    split at h
    · injection h with h
      rw [<- h]
      rcases hk with hk | hk
      · exact ⟨hp, fun e => by omega, fun e => by omega, fun e => by omega⟩
      · exact hk.2
    · rename_i hlt
      have hk0 : m.fin = 0 := by
        rcases hk with hk | hk
        · exact hk
        · exact absurd hk.1 hlt
      obtain ⟨c, l, hd⟩ : ∃ c l, src.drop m.at_ = c :: l := by
        cases hd : src.drop m.at_ with
        | nil =>
          have := congrArg List.length hd
          rw [List.length_drop, List.length_nil] at this
          omega
        | cons c l => exact ⟨c, l, rfl⟩
      rw [hd] at h
      split at h
      · cases h
      · rename_i m1 hm1
        obtain ⟨h1, h2⟩ := step_fin src hd hp hk0 hm1
        have h3 := (stepN_on hm1).1
        exact run_fin src f m1 m' (by omega) h1 h2 h
theorem begun_fin {src : List UInt8} {m : Mc} (h : kG src = .ok m) : FinOk src m := by
  refine run_fin src _ startM m ?_ (Pos.of _ (by decide)) (.inl rfl) h
  show src.length + 1 <= src.length + 1 + 0
  omega
theorem Takes.sym {t n : Nat} {l k : List Nat} (ht : t < 85) (h : Takes t n l k) : (∀ x ∈ l, x < 85) -> ∀ x ∈ k, x < 85 := by
  induction h with
  | hit l => exact fun hp x hx => hp x (List.mem_cons_of_mem _ hx)
  | more n x l k _ _ ih =>
    intro hp
    refine ih (fun y hy => ?_)
    rcases List.mem_append.1 hy with hy | hy
    · exact ruleN_sym x t ht y hy
    · exact hp y (List.mem_cons_of_mem _ hy)
theorem taken_sym {t : Nat} (ht : t < 85) {m m' : Mc} {k : Nat} (hp : ∀ x ∈ m.stack, x < 85) (h : kw t m k = .ok m') : ∀ x ∈ m'.stack, x < 85 := by
  unfold kw at h
  split at h
  · rename_i s hs
    injection h with h
    obtain ⟨n, _, hT⟩ := takes_of hs
    rw [<- h]
    exact hT.sym ht hp
  · cases h
theorem step_sym {m m' : Mc} {c : UInt8} {l : List UInt8} (hp : ∀ x ∈ m.stack, x < 85) (h : vC m (c :: l) = .ok m') : ∀ x ∈ m'.stack, x < 85 := by
  rw [vC] at h
  split at h
  · injection h with h
    rw [<- h]
    exact hp
  split at h
  · unfold kg at h
    simp only at h
    injection h with h
    split at h <;> (rw [<- h]; exact hp)
  split at h
  · unfold kW at h
    split at h
    · cases h
    · split at h
      · cases h
      · exact taken_sym (m := { m with from_ := m.at_, fin := 0 }) (by decide) hp h
      · injection h with h
        rw [<- h]
        exact hp
  split at h
  · unfold ka at h
    simp only at h
    split at h
    · exact taken_sym (m := { m with from_ := m.at_ }) (Nat.lt_trans (kr _) (by decide)) hp h
    · unfold vI at h
      split at h
      · cases h
      · injection h with h
        rw [<- h]
        exact hp
  · unfold kc at h
    simp only at h
    repeat' split at h
    all_goals first | (cases h; done) | exact taken_sym (m := { m with from_ := m.at_ }) (Nat.lt_trans (ja _) (by decide)) hp h | (injection h with h; rw [<- h]; exact hp)
theorem run_len (src : List UInt8) : ∀ (f : Nat) (m m' : Mc), (∀ n ∈ m.stack, n < 85) -> m.stack.length <= 5 + 12 * m.at_ -> m.at_ <= src.length -> runN src f m = .ok m' -> m'.stack.length <= 5 + 12 * src.length
  | 0, m, m', h5, hl, ha, h => by
    rw [runN] at h
    injection h with h
    rw [<- h]
    omega
  | f + 1, m, m', h5, hl, ha, h => by
    rw [runN] at h
    split at h
    · injection h with h
      rw [<- h]
      omega
    · rename_i hlt
      obtain ⟨c, l, hd⟩ : ∃ c l, src.drop m.at_ = c :: l := by
        cases hd : src.drop m.at_ with
        | nil =>
          have := congrArg List.length hd
          rw [List.length_drop, List.length_nil] at this
          omega
        | cons c l => exact ⟨c, l, rfl⟩
      rw [hd] at h
      split at h
      · cases h
      · rename_i m1 hm1
        have h3 := stepN_on hm1
        have h4 := stepN_len h5 hm1
        have h6 := congrArg List.length hd
        rw [List.length_drop] at h6
        exact run_len src f m1 m' (step_sym h5 hm1) (by omega) (by omega) h
theorem begun_len {src : List UInt8} {m : Mc} (h : kG src = .ok m) : m.stack.length <= 5 + 12 * src.length :=
  run_len src _ startM m (by decide) (by decide) (Nat.zero_le _) h
theorem ve {P : Program} {fn : Func} {R : Ending -> World -> Prop} {a : Act} {w : World} {p u v : Tmp} {ty : TypeId} {g : Nat} {t : TypeId} {cs : Array Value} {d : TypeDesc} (h : fn.results = #[.cell p ty, .tmp u, .tmp v])
    (hp : a.tmps.getD p undef = .pointer (some ⟨g, 0, none⟩)) (hb : Blk w g t cs) (hu : P.underlying ty = some d) (hd : (match d with | .struct _ | .array _ _ => true | _ => false) = true) (hi : (P.info? ty).map (·.size) = some cs.size)
    (hdf : a.defers = []) (hR : R (.returned (.tuple #[.agg cs, a.tmps.getD u undef, a.tmps.getD v undef])) w) : bodyPost P fn R .ret a w := by
  refine bodyPost_ret ?_ hdf hR
  have hl := run_loadVar_row (P := P) w g t ty cs (0, 0) d hb hu hd hi
  simp only [results, h]
  simp only [Array.getD_eq_getD_getElem?] at hp
  simp [hp, asAddr, hl]
theorem whole_any (W : World) (g : Nat) (r : Option Nat) (src : ByteArray) (m : Mc) (A : Option Addr) (c : Nat) (h : Mac W g r src m A c) :
    Calls Tryz.prog 77 #[.pointer (some ⟨g, 0, none⟩)] W fun e w' => e = .returned (.bool (decide (m.stack = []))) /\ W = w' := by
  have hc2 := h.c2
  have Hd := jJ0 (show decide (m.stack = []) = ((m.stack.length : Int) == 0) by
    cases hm : m.stack with
    | nil => rfl
    | cons a l => simp; omega)
  rw [Hd.out]
  clear h Hd
  cases hb : ((m.stack.length : Int) == 0) with
  | true =>
    go_enter Tryz.func77, Tryz.ntmps77
    go_wp2
    go_ret
    exact ⟨by trivial, rfl⟩
  | false =>
    go_enter Tryz.func77, Tryz.ntmps77
    go_wp2
    go_ret
    exact ⟨by trivial, rfl⟩
def sl0 (Z : Nat -> Prop) : Sl := ⟨none, 0, none, 0, none, 0, none, 0, none, 0, none, 0, Z⟩
theorem ox0 {g : Nat} {Z : Nat -> Prop} {b : Nat} (h : OX g (sl0 Z) b) : b = g := by
  rcases h with e | e | e | e | e | e | e
  · exact e
  all_goals cases e
theorem St.begin_ {w : World} (hg : Sg w) (h8 : 8 <= w.heap.size) (src : ByteArray) (hs : src.size <= 1000000) (Z : Nat -> Prop) (hZ : ∀ b, Z b -> 8 <= b /\ b < w.heap.size) :
    St (w.alloc (.cells (rdC src ⟨0, 0, 0, 0, Tre.none_⟩ (jl Tre.none_ (sl0 Z))).toArray 165)) w.heap.size src ⟨0, 0, 0, 0, Tre.none_⟩ (sl0 Z) := by
  have ho := (Kp.refl NoX w).alloc (.cells (rdC src ⟨0, 0, 0, 0, Tre.none_⟩ (jl Tre.none_ (sl0 Z))).toArray 165)
  exact ⟨hg.old ho, h8, hs, Blk.new _ _ _, ⟨[], [], World.ownsRow_nil _ _ _ _, World.ownsRow_nil _ _ _ _, World.ownsRow_nil _ _ _ _, World.ownsRow_nil _ _ _ _, World.ownsRow_nil _ _ _ _, World.ownsRow_nil _ _ _ _, rfl, rfl, fun x hx => by (cases hx), fun x hx => by (cases hx)⟩, Nat.le_refl _, Nat.zero_le _, by decide,
    fun b hb => Nat.lt_of_lt_of_le (hZ b hb).2 ho.size, fun b hb => by have := (hZ b hb).1; omega, fun b hx hz => by have := ox0 hx; have := (hZ b hz).2; omega⟩
theorem St.putz {w : World} {g : Nat} {src : ByteArray} {r : Rdr} {s : Sl} (h : St w g src r s) {b : Nat} (hz : s.z b) (i : Nat) (u : Value) : St (w.setCell ⟨b, i, none⟩ u) g src r s := by
  have hk : Kp (fun k => k = b) w (w.setCell ⟨b, i, none⟩ u) := (Kp.refl (fun k => k = b) w).setCell (p := ⟨b, i, none⟩) (fun _ => rfl) u
  exact h.zgrow hk (fun k e => by rw [e]; exact hz) s.z (fun k e => ⟨.inl e, Nat.lt_of_lt_of_le (h.zlt k e) hk.size⟩)
theorem kf {X : Nat -> Prop} {w W : World} (h : Kp X w W) {b : Nat} (hb : X b) (i : Nat) (u : Value) : Kp X w (W.setCell ⟨b, i, none⟩ u) := h.setCell (p := ⟨b, i, none⟩) (fun _ => hb) u
def ParBad (w : World) (at_ e : Nat) (d : Ending) (w' : World) : Prop := d = .returned (.tuple #[.agg (jl Tre.none_ (sl0 NoX)).toArray, iv (at_ : Int), iv (e : Int)]) /\ Old w w'
def ParOk (w : World) (src : ByteArray) (r : Rdr) (d : Ending) (w' : World) : Prop := ∃ g s, d = .returned (.tuple #[.agg (jl r.tree s).toArray, iv 0, iv 0]) /\ St w' g src r s /\ Old w w' /\ (∀ b, OX g s b -> w.heap.size <= b)
theorem parse_ok (w : World) (hg : Sg w) (h8 : 8 <= w.heap.size) (A : Option Addr) (n c : Nat) (l : List UInt8) (hr : Rd w 1 A n (l.map bv)) (hs : l.length <= 60000) (m : Mc) (hb : kG l = .ok m) (hm : m.stack = []) (f : Nat) (r : Rdr) (hk : readN l f = some r) :
    Calls Tryz.prog 26 #[.slice A n c] w (ParOk w ⟨l.toArray⟩ r) := by
  have hn : l.length = n := by simpa using hr.1
  have ho0 := (Kp.refl NoX w).alloc (.cells #[.string ⟨#[]⟩, .int .i64 0, .slice none 0 0, .slice none 0 0, .slice none 0 0, .slice none 0 0, .slice none 0 0, .slice none 0 0] 29)
  have B0 := Blk.new w 29 #[.string ⟨#[]⟩, .int .i64 0, .slice none 0 0, .slice none 0 0, .slice none 0 0, .slice none 0 0, .slice none 0 0, .slice none 0 0]
  have hr0 := hr.old ho0
  have hg0 := hg.old ho0
  have h80 : 8 <= (w.alloc (.cells #[.string ⟨#[]⟩, .int .i64 0, .slice none 0 0, .slice none 0 0, .slice none 0 0, .slice none 0 0, .slice none 0 0, .slice none 0 0] 29)).heap.size := Nat.le_trans h8 ho0.size
  have hcv := vu (P := Tryz.prog) (w := w.alloc (.cells #[.string ⟨#[]⟩, .int .i64 0, .slice none 0 0, .slice none 0 0, .slice none 0 0, .slice none 0 0, .slice none 0 0, .slice none 0 0] 29)) Tryz.underlying33 Tryz.underlying5 Tryz.underlying9 A n c l hr0
  have hB := begun_any (w.alloc (.cells #[.string ⟨#[]⟩, .int .i64 0, .slice none 0 0, .slice none 0 0, .slice none 0 0, .slice none 0 0, .slice none 0 0, .slice none 0 0] 29)) hg0 ⟨l.toArray⟩ (by rw [<- jA, vr]; exact hs) h80
  rw [vr, hb] at hB
  have HB := jJ0 hB
  have b1 : ¬ (60000 : Int) < (n : Int) := by omega
  have HG0 := jJ0 hg0
  have H80 := jJ0 h80
  have HB0 := jJ0 B0
  have HO0 := jJ0 ho0
  have HR := jJ0 (show readN (sb ⟨l.toArray⟩) f = some r by rw [vr]; exact hk)
  have Hsz := jJ0 (show (⟨l.toArray⟩ : ByteArray).size <= 1000000 by rw [<- jA, vr]; omega)
  have H8 := jJ0 h8
  clear hg hr hs hb hk hr0 hg0 h80 B0 ho0 hB h8
  generalize (⟨l.toArray⟩ : ByteArray) = src at *
  go_enter Tryz.func26, Tryz.ntmps26
  go_wp2_with (first | (go_at_call 76; refine HB.out.mono ?_; rintro e w1 ⟨g, r1, A1, c1, rfl, hM, ho, hgw, _⟩; have HO := jJ0 ho; have HM := jJ0 hM; have m0 := hM.c0; have S0 := jJ0 (St.begin_ (HG0.out.old ho) (Nat.le_trans H80.out ho.size) src Hsz.out (fun b => b = w.heap.size) (fun b e => ⟨by have := H8.out; omega, by have := HB0.out.lt; have := ho.size; omega⟩)); have RB1 := jJ0 (HB0.out.old ho); clear ho hM hgw) | (go_at_call 77; refine (whole_any _ _ _ _ _ _ _ HM.out).mono ?_; rintro e w2 ⟨rfl, rfl⟩; rw [hm]) | (go_at_call 78; refine (read_any _ _ src f r _ S0.out HR.out).mono ?_; rintro e w3 ⟨rfl, s3, hX⟩; have t5 := Blk.at_ hX.1.box 5 (v := .string r.tree.name) rfl; have t6 := Blk.at_ hX.1.box 6 (v := .int .i64 r.tree.at_) rfl; have t7 := Blk.at_ hX.1.box 7 (v := .slice s3.aA r.tree.attrs.length s3.ac) rfl; have t8 := Blk.at_ hX.1.box 8 (v := .slice s3.gA r.tree.stages.length s3.gc) rfl; have t9 := Blk.at_ hX.1.box 9 (v := .slice s3.mA r.tree.miles.length s3.mc) rfl; have t10 := Blk.at_ hX.1.box 10 (v := .slice s3.pA r.tree.steps.length s3.pc) rfl; have t11 := Blk.at_ hX.1.box 11 (v := .slice s3.nA r.tree.nodes.length s3.nc) rfl; have t12 := Blk.at_ hX.1.box 12 (v := .slice s3.oA r.tree.ats.length s3.oc) rfl; have RB := jJ0 ((RB1.out.alloc _).kp hX.2.kp (fun e => by have e2 := ox0 e; have := RB1.out.lt; omega)); have d0 := RB.out.at_ 0 rfl; have z0 := RB.out.frozen 0; have d1 := RB.out.at_ 1 rfl; have z1 := RB.out.frozen 1; have d2 := RB.out.at_ 2 rfl; have z2 := RB.out.frozen 2; have d3 := RB.out.at_ 3 rfl; have z3 := RB.out.frozen 3; have d4 := RB.out.at_ 4 rfl; have z4 := RB.out.frozen 4; have d5 := RB.out.at_ 5 rfl; have z5 := RB.out.frozen 5; have d6 := RB.out.at_ 6 rfl; have z6 := RB.out.frozen 6; have d7 := RB.out.at_ 7 rfl; have z7 := RB.out.frozen 7; have HX := jJ0 hX; clear hX) | fail)
  have hz : s3.z w.heap.size := by rw [HX.out.2.z]; exact rfl
  have KX : Kp (fun b => w.heap.size <= b) w w3 := ((((HO0.out.trans HO.out (fun _ _ e => e)).alloc _).mono (fun _ _ e => e.elim)) : Kp (fun b => w.heap.size <= b) w _).trans HX.out.2.kp (fun b hb e => by have e2 := ox0 e; have := HO0.out.size; have := HO.out.size; omega)
  have KF := (kf (kf (kf (kf (kf (kf (kf (kf KX (show w.heap.size <= w.heap.size from Nat.le_refl _) 0 (.string r.tree.name)) (show w.heap.size <= w.heap.size from Nat.le_refl _) 1 (.int .i64 r.tree.at_)) (show w.heap.size <= w.heap.size from Nat.le_refl _) 2 (.slice s3.aA r.tree.attrs.length s3.ac)) (show w.heap.size <= w.heap.size from Nat.le_refl _) 3 (.slice s3.gA r.tree.stages.length s3.gc)) (show w.heap.size <= w.heap.size from Nat.le_refl _) 4 (.slice s3.mA r.tree.miles.length s3.mc)) (show w.heap.size <= w.heap.size from Nat.le_refl _) 5 (.slice s3.pA r.tree.steps.length s3.pc)) (show w.heap.size <= w.heap.size from Nat.le_refl _) 6 (.slice s3.nA r.tree.nodes.length s3.nc)) (show w.heap.size <= w.heap.size from Nat.le_refl _) 7 (.slice s3.oA r.tree.ats.length s3.oc))
  have SF := ((((((((HX.out.1.putz hz 0 (.string r.tree.name)).putz hz 1 (.int .i64 r.tree.at_)).putz hz 2 (.slice s3.aA r.tree.attrs.length s3.ac)).putz hz 3 (.slice s3.gA r.tree.stages.length s3.gc)).putz hz 4 (.slice s3.mA r.tree.miles.length s3.mc)).putz hz 5 (.slice s3.pA r.tree.steps.length s3.pc)).putz hz 6 (.slice s3.nA r.tree.nodes.length s3.nc)).putz hz 7 (.slice s3.oA r.tree.ats.length s3.oc))
  have BF := ((((((((RB.out.setL 0 (.string r.tree.name)).setL 1 (.int .i64 r.tree.at_)).setL 2 (.slice s3.aA r.tree.attrs.length s3.ac)).setL 3 (.slice s3.gA r.tree.stages.length s3.gc)).setL 4 (.slice s3.mA r.tree.miles.length s3.mc)).setL 5 (.slice s3.pA r.tree.steps.length s3.pc)).setL 6 (.slice s3.nA r.tree.nodes.length s3.nc)).setL 7 (.slice s3.oA r.tree.ats.length s3.oc))
  refine ve rfl rfl BF Tryz.underlying29 rfl (by kernel_rfl) rfl ?_
  refine ⟨_, { s3 with z := fun _ => False }, rfl, SF.zgrow (Kp.refl NoX _) (fun _ e => e.elim) _ (fun _ e => e.elim), KF.mono (fun b hb e => by omega), fun b hx => ?_⟩
  rcases Nat.lt_or_ge b (w1.alloc (.cells (rdC src ⟨0, 0, 0, 0, Tre.none_⟩ (jl Tre.none_ (sl0 fun b => b = w.heap.size))).toArray 165)).heap.size with h1 | h1
  · have e2 := ox0 (HX.out.2.own b h1 hx)
    have := HO0.out.size
    have := HO.out.size
    omega
  · have h2 : (w1.alloc (.cells (rdC src ⟨0, 0, 0, 0, Tre.none_⟩ (jl Tre.none_ (sl0 fun b => b = w.heap.size))).toArray 165)).heap.size = w1.heap.size + 1 := by simp
    have := HO0.out.size
    have := HO.out.size
    omega
theorem parse_bad (w : World) (hg : Sg w) (h8 : 8 <= w.heap.size) (A : Option Addr) (n c : Nat) (l : List UInt8) (hr : Rd w 1 A n (l.map bv)) (hs : l.length <= 60000) (k : Nat) (hb : kG l = .error k) :
    Calls Tryz.prog 26 #[.slice A n c] w (ParBad w k 90) := by
  have hn : l.length = n := by simpa using hr.1
  have ho0 := (Kp.refl NoX w).alloc (.cells #[.string ⟨#[]⟩, .int .i64 0, .slice none 0 0, .slice none 0 0, .slice none 0 0, .slice none 0 0, .slice none 0 0, .slice none 0 0] 29)
  have B0 := Blk.new w 29 #[.string ⟨#[]⟩, .int .i64 0, .slice none 0 0, .slice none 0 0, .slice none 0 0, .slice none 0 0, .slice none 0 0, .slice none 0 0]
  have hr0 := hr.old ho0
  have hg0 := hg.old ho0
  have h80 : 8 <= (w.alloc (.cells #[.string ⟨#[]⟩, .int .i64 0, .slice none 0 0, .slice none 0 0, .slice none 0 0, .slice none 0 0, .slice none 0 0, .slice none 0 0] 29)).heap.size := Nat.le_trans h8 ho0.size
  have hcv := vu (P := Tryz.prog) (w := w.alloc (.cells #[.string ⟨#[]⟩, .int .i64 0, .slice none 0 0, .slice none 0 0, .slice none 0 0, .slice none 0 0, .slice none 0 0, .slice none 0 0] 29)) Tryz.underlying33 Tryz.underlying5 Tryz.underlying9 A n c l hr0
  have hB := begun_any (w.alloc (.cells #[.string ⟨#[]⟩, .int .i64 0, .slice none 0 0, .slice none 0 0, .slice none 0 0, .slice none 0 0, .slice none 0 0, .slice none 0 0] 29)) hg0 ⟨l.toArray⟩ (by rw [<- jA, vr]; exact hs) h80
  rw [vr, hb] at hB
  have HB := jJ0 hB
  have b1 : ¬ (60000 : Int) < (n : Int) := by omega
  have HB0 := jJ0 B0
  have HO0 := jJ0 ho0
  clear hg hr hs hb hr0 hg0 h80 B0 ho0 hB h8
  generalize (⟨l.toArray⟩ : ByteArray) = src at *
  go_enter Tryz.func26, Tryz.ntmps26
  go_wp2_with (first | (go_at_call 76; refine HB.out.mono ?_; rintro e w1 ⟨p, rfl, ho⟩; have HO := jJ0 ho; have RB := jJ0 (HB0.out.old ho); clear ho; have d0 := RB.out.at_ 0 rfl; have z0 := RB.out.frozen 0; have d1 := RB.out.at_ 1 rfl; have z1 := RB.out.frozen 1; have d2 := RB.out.at_ 2 rfl; have z2 := RB.out.frozen 2; have d3 := RB.out.at_ 3 rfl; have z3 := RB.out.frozen 3; have d4 := RB.out.at_ 4 rfl; have z4 := RB.out.frozen 4; have d5 := RB.out.at_ 5 rfl; have z5 := RB.out.frozen 5; have d6 := RB.out.at_ 6 rfl; have z6 := RB.out.frozen 6; have d7 := RB.out.at_ 7 rfl; have z7 := RB.out.frozen 7) | fail)
  have KX : Kp (fun b => w.heap.size <= b) w w1 := (HO0.out.trans HO.out (fun _ _ e => e)).mono (fun _ _ e => e.elim)
  have KF := (kf (kf (kf (kf (kf (kf (kf (kf KX (show w.heap.size <= w.heap.size from Nat.le_refl _) 0 (.string ⟨#[]⟩)) (show w.heap.size <= w.heap.size from Nat.le_refl _) 1 (.int .i64 0)) (show w.heap.size <= w.heap.size from Nat.le_refl _) 2 (.slice none 0 0)) (show w.heap.size <= w.heap.size from Nat.le_refl _) 3 (.slice none 0 0)) (show w.heap.size <= w.heap.size from Nat.le_refl _) 4 (.slice none 0 0)) (show w.heap.size <= w.heap.size from Nat.le_refl _) 5 (.slice none 0 0)) (show w.heap.size <= w.heap.size from Nat.le_refl _) 6 (.slice none 0 0)) (show w.heap.size <= w.heap.size from Nat.le_refl _) 7 (.slice none 0 0))
  have BF := ((((((((RB.out.setL 0 (.string ⟨#[]⟩)).setL 1 (.int .i64 0)).setL 2 (.slice none 0 0)).setL 3 (.slice none 0 0)).setL 4 (.slice none 0 0)).setL 5 (.slice none 0 0)).setL 6 (.slice none 0 0)).setL 7 (.slice none 0 0))
  refine ve rfl rfl BF Tryz.underlying29 rfl (by kernel_rfl) rfl ?_
  exact ⟨rfl, KF.mono (fun b hb e => by omega)⟩
theorem parse_short (w : World) (hg : Sg w) (h8 : 8 <= w.heap.size) (A : Option Addr) (n c : Nat) (l : List UInt8) (hr : Rd w 1 A n (l.map bv)) (hs : l.length <= 60000) (m : Mc) (hb : kG l = .ok m) (hm : m.stack ≠ []) :
    Calls Tryz.prog 26 #[.slice A n c] w (ParBad w l.length 90) := by
  have hn : l.length = n := by simpa using hr.1
  have ho0 := (Kp.refl NoX w).alloc (.cells #[.string ⟨#[]⟩, .int .i64 0, .slice none 0 0, .slice none 0 0, .slice none 0 0, .slice none 0 0, .slice none 0 0, .slice none 0 0] 29)
  have B0 := Blk.new w 29 #[.string ⟨#[]⟩, .int .i64 0, .slice none 0 0, .slice none 0 0, .slice none 0 0, .slice none 0 0, .slice none 0 0, .slice none 0 0]
  have hr0 := hr.old ho0
  have hg0 := hg.old ho0
  have h80 : 8 <= (w.alloc (.cells #[.string ⟨#[]⟩, .int .i64 0, .slice none 0 0, .slice none 0 0, .slice none 0 0, .slice none 0 0, .slice none 0 0, .slice none 0 0] 29)).heap.size := Nat.le_trans h8 ho0.size
  have hcv := vu (P := Tryz.prog) (w := w.alloc (.cells #[.string ⟨#[]⟩, .int .i64 0, .slice none 0 0, .slice none 0 0, .slice none 0 0, .slice none 0 0, .slice none 0 0, .slice none 0 0] 29)) Tryz.underlying33 Tryz.underlying5 Tryz.underlying9 A n c l hr0
  have hB := begun_any (w.alloc (.cells #[.string ⟨#[]⟩, .int .i64 0, .slice none 0 0, .slice none 0 0, .slice none 0 0, .slice none 0 0, .slice none 0 0, .slice none 0 0] 29)) hg0 ⟨l.toArray⟩ (by rw [<- jA, vr]; exact hs) h80
  rw [vr, hb] at hB
  have HB := jJ0 hB
  have b1 : ¬ (60000 : Int) < (n : Int) := by omega
  have HB0 := jJ0 B0
  have HO0 := jJ0 ho0
  clear hg hr hs hb hr0 hg0 h80 B0 ho0 hB h8
  have hsz : (⟨l.toArray⟩ : ByteArray).size = l.length := by rw [<- jA, vr]
  rw [hn]
  generalize (⟨l.toArray⟩ : ByteArray) = src at *
  go_enter Tryz.func26, Tryz.ntmps26
  go_wp2_with (first | (go_at_call 76; refine HB.out.mono ?_; rintro e w1 ⟨g, r1, A1, c1, rfl, hM, ho, _, _⟩; have HM := jJ0 hM; have HO := jJ0 ho; have RB := jJ0 (HB0.out.old ho); clear ho hM; have d0 := RB.out.at_ 0 rfl; have z0 := RB.out.frozen 0; have d1 := RB.out.at_ 1 rfl; have z1 := RB.out.frozen 1; have d2 := RB.out.at_ 2 rfl; have z2 := RB.out.frozen 2; have d3 := RB.out.at_ 3 rfl; have z3 := RB.out.frozen 3; have d4 := RB.out.at_ 4 rfl; have z4 := RB.out.frozen 4; have d5 := RB.out.at_ 5 rfl; have z5 := RB.out.frozen 5; have d6 := RB.out.at_ 6 rfl; have z6 := RB.out.frozen 6; have d7 := RB.out.at_ 7 rfl; have z7 := RB.out.frozen 7) | (go_at_call 77; refine (whole_any _ _ _ _ _ _ _ HM.out).mono ?_; rintro e w2 ⟨rfl, rfl⟩; rw [decide_eq_false hm]) | fail)
  have KX : Kp (fun b => w.heap.size <= b) w w1 := (HO0.out.trans HO.out (fun _ _ e => e)).mono (fun _ _ e => e.elim)
  have KF := (kf (kf (kf (kf (kf (kf (kf (kf KX (show w.heap.size <= w.heap.size from Nat.le_refl _) 0 (.string ⟨#[]⟩)) (show w.heap.size <= w.heap.size from Nat.le_refl _) 1 (.int .i64 0)) (show w.heap.size <= w.heap.size from Nat.le_refl _) 2 (.slice none 0 0)) (show w.heap.size <= w.heap.size from Nat.le_refl _) 3 (.slice none 0 0)) (show w.heap.size <= w.heap.size from Nat.le_refl _) 4 (.slice none 0 0)) (show w.heap.size <= w.heap.size from Nat.le_refl _) 5 (.slice none 0 0)) (show w.heap.size <= w.heap.size from Nat.le_refl _) 6 (.slice none 0 0)) (show w.heap.size <= w.heap.size from Nat.le_refl _) 7 (.slice none 0 0))
  have BF := ((((((((RB.out.setL 0 (.string ⟨#[]⟩)).setL 1 (.int .i64 0)).setL 2 (.slice none 0 0)).setL 3 (.slice none 0 0)).setL 4 (.slice none 0 0)).setL 5 (.slice none 0 0)).setL 6 (.slice none 0 0)).setL 7 (.slice none 0 0))
  refine ve rfl rfl BF Tryz.underlying29 rfl (by kernel_rfl) rfl ?_
  exact ⟨rfl, KF.mono (fun b hb e => by omega)⟩
theorem parse_long (w : World) (A : Option Addr) (n c : Nat) (hs : 60000 < n) : Calls Tryz.prog 26 #[.slice A n c] w (ParBad w 0 6) := by
  have b1 : (60000 : Int) < (n : Int) := by omega
  clear hs
  have HO0 := jJ0 ((Kp.refl NoX w).alloc (.cells #[.string ⟨#[]⟩, .int .i64 0, .slice none 0 0, .slice none 0 0, .slice none 0 0, .slice none 0 0, .slice none 0 0, .slice none 0 0] 29))
  have RB := jJ0 (Blk.new w 29 #[.string ⟨#[]⟩, .int .i64 0, .slice none 0 0, .slice none 0 0, .slice none 0 0, .slice none 0 0, .slice none 0 0, .slice none 0 0])
  go_enter Tryz.func26, Tryz.ntmps26
  go_wp2
  refine ve rfl rfl RB.out Tryz.underlying29 rfl (by kernel_rfl) rfl ?_
  exact ⟨rfl, HO0.out⟩
theorem trd_of {w : World} {g : Nat} {src : ByteArray} {r : Rdr} {s : Sl} (h : St w g src r s) (hn : r.tree.nodes.length <= 1000000) (hk : ∀ n ∈ r.tree.nodes, n.kids.length <= 1000000000)
    (hA : r.tree.attrs.length <= 1000000) (hG : r.tree.stages.length <= 1000000) (hM : r.tree.miles.length <= 1000000) (hP : r.tree.steps.length <= 1000000) (hs : ∀ x ∈ r.tree.steps, x.params.length <= 1000000 /\ x.effects.length <= 1000000) : ∃ ns ps, TrD w r.tree s ns ps := by
  obtain ⟨ns, ps, R⟩ := h.rows
  exact ⟨ns, ps, ⟨⟨Rd.of_own R.rN, R.ne, hn, fun x hx => ⟨(R.no x hx).kids, hk _ (by rw [<- R.ne]; exact List.mem_map_of_mem hx)⟩⟩, Rd.of_own R.rA, Rd.of_own R.rG, Rd.of_own R.rM, Rd.of_own R.rP, R.pe,
    fun x hx => ⟨⟨(R.po x hx).ps, (hs _ (by rw [<- R.pe]; exact List.mem_map_of_mem hx)).1⟩, (R.po x hx).es, (hs _ (by rw [<- R.pe]; exact List.mem_map_of_mem hx)).2⟩, hA, hG, hM, hP⟩⟩
theorem atoms12 (w : World) (t : Tre) (s : Sl) (h : ∀ n ∈ t.nodes, (n.op = 1 -> n.vn = 12) /\ n.op ≠ 3) : AtomsOk w t s := fun W next l B bc x hm ho hp f l' hk hl => by
  rcases ho with e | e
  · exact atomw1 w W t s f next l l' B bc hp x e ((h _ hm).1 e) hk hl
  · exact absurd e (h _ hm).2
def kT : List UInt8 := [116, 121, 112, 101, 32, 97, 32, 123, 32, 109, 105, 108, 101, 115, 116, 111, 110, 101, 32, 109, 32, 114, 101, 97, 99, 104, 101, 100, 32, 119, 104, 101, 110, 32, 110, 111, 116, 32, 98, 32, 61, 32, 49, 50, 32, 59, 32, 125]
def kP : List UInt8 := [116, 121, 112, 101, 32, 97, 32, 123, 10, 109, 105, 108, 101, 115, 116, 111, 110, 101, 32, 109, 32, 114, 101, 97, 99, 104, 101, 100, 32, 119, 104, 101, 110, 32, 110, 111, 116, 32, 98, 32, 61, 32, 49, 50, 32, 59, 10, 125, 10]
def kB : List UInt8 := [116, 121, 112, 101, 32, 105, 110, 32, 123, 32, 115, 116, 97, 103, 101, 32, 115, 116, 97, 103, 101]
def kF : List UInt8 := [116, 121, 112, 101, 32, 97, 32, 123, 32, 115, 116]
def kE : List UInt8 := [97, 103, 101, 9, 97, 123, 125, 125]
structure Small (r : Rdr) : Prop where
  name : r.tree.name = ⟨#[97]⟩
  at_ : r.tree.at_ = 5
  miles : r.tree.miles.map (fun m => (m.name, m.in_, m.when_, m.order)) = [(⟨#[109]⟩, ⟨#[]⟩, 3, 0)]
  attrs : r.tree.attrs = []
  stages : r.tree.stages = []
  steps : r.tree.steps = []
  ats : r.tree.ats = [38, 42, 40, 34]
  len : r.tree.nodes.length = 4
  ops : r.tree.nodes.map (fun n => (n.op, n.vn, n.kids)) = [(5, 0, []), (1, 12, []), (11, 0, [0, 1]), (8, 0, [2])]
  prints : printN r.tree = some kP
  rights : r.tree.nodes.all jB = true
  lay : (laidN r.tree).l = [(3, 0)]
theorem kT_run : (match kG kT with | .ok m => decide (m.stack = []) | .error _ => false) = true := by decide +kernel
theorem kB_run : (match kG kB with | .ok _ => false | .error k => decide (k = 7)) = true := by decide +kernel
theorem kF_run : vO kF = some kE := by decide +kernel
theorem kT_some : (readN kT 100).isSome = true := by decide +kernel
theorem kT_name : (readN kT 100).map (fun r => r.tree.name) = some ⟨#[97]⟩ := by decide +kernel
theorem kT_at : (readN kT 100).map (fun r => r.tree.at_) = some 5 := by decide +kernel
theorem kT_miles : (readN kT 100).map (fun r => r.tree.miles.map (fun m => (m.name, m.in_, m.when_, m.order))) = some [(⟨#[109]⟩, ⟨#[]⟩, 3, 0)] := by decide +kernel
theorem kT_none : (readN kT 100).map (fun r => (r.tree.attrs.length, r.tree.stages.length, r.tree.steps.length)) = some (0, 0, 0) := by decide +kernel
theorem kT_ats : (readN kT 100).map (fun r => r.tree.ats) = some [38, 42, 40, 34] := by decide +kernel
theorem kT_ops : (readN kT 100).map (fun r => r.tree.nodes.map (fun n => (n.op, n.vn, n.kids))) = some [(5, 0, []), (1, 12, []), (11, 0, [0, 1]), (8, 0, [2])] := by decide +kernel
theorem kT_prints : (readN kT 100).bind (fun r => printN r.tree) = some kP := by decide +kernel
theorem kT_rights : (readN kT 100).map (fun r => r.tree.nodes.all jB) = some true := by decide +kernel
theorem kT_lay : (readN kT 100).map (fun r => (laidN r.tree).l) = some [(3, 0)] := by decide +kernel
theorem small_of {r : Rdr} (h : readN kT 100 = some r) : Small r := by
  have e1 := kT_name; have e2 := kT_at; have e3 := kT_miles; have e4 := kT_none; have e5 := kT_ats; have e6 := kT_ops; have e7 := kT_prints; have e8 := kT_rights; have e9 := kT_lay
  rw [h] at e1 e2 e3 e4 e5 e6 e7 e8 e9
  simp only [Option.map_some, Option.some.injEq, Prod.mk.injEq, Option.bind_some] at e1 e2 e3 e4 e5 e6 e7 e8 e9
  refine ⟨e1, e2, e3, List.eq_nil_of_length_eq_zero e4.1, List.eq_nil_of_length_eq_zero e4.2.1, List.eq_nil_of_length_eq_zero e4.2.2, e5, ?_, e6, e7, e8, e9⟩
  have := congrArg List.length e6
  simpa using this
theorem kT_ok : ∃ m, kG kT = .ok m /\ m.stack = [] := by
  have h := kT_run
  cases hb : kG kT with
  | ok m => rw [hb] at h; exact ⟨m, rfl, of_decide_eq_true h⟩
  | error k => rw [hb] at h; cases h
theorem kB_bad : kG kB = .error 7 := by
  have h := kB_run
  cases hb : kG kB with
  | ok m => rw [hb] at h; cases h
  | error k => rw [hb] at h; rw [of_decide_eq_true h]
theorem Small.mile {r : Rdr} (h : Small r) : ∃ m, r.tree.miles = [m] /\ m.when_ = 3 := by
  have h1 := h.miles
  rcases hm : r.tree.miles with _ | ⟨m, _ | ⟨m2, l⟩⟩
  · rw [hm] at h1; cases h1
  · rw [hm] at h1
    simp only [List.map_cons, List.map_nil, List.cons.injEq, Prod.mk.injEq, and_true] at h1
    exact ⟨m, rfl, h1.2.2.1⟩
  · rw [hm] at h1
    simp only [List.map_cons, List.cons.injEq] at h1
    cases h1.2
theorem Small.node {r : Rdr} (h : Small r) {n : Nd} (hn : n ∈ r.tree.nodes) : (n.op = 1 -> n.vn = 12) /\ n.op ≠ 3 /\ n.kids.length <= 2 := by
  have h1 : (n.op, n.vn, n.kids) ∈ r.tree.nodes.map (fun n => (n.op, n.vn, n.kids)) := List.mem_map_of_mem hn
  rw [h.ops] at h1
  simp only [List.mem_cons, Prod.mk.injEq, List.not_mem_nil, or_false] at h1
  rcases h1 with ⟨e1, e2, e3⟩ | ⟨e1, e2, e3⟩ | ⟨e1, e2, e3⟩ | ⟨e1, e2, e3⟩
  all_goals (rw [e1, e2, e3]; exact ⟨by decide, by decide, by decide⟩)
theorem Small.op3 {r : Rdr} (h : Small r) : ∃ n, r.tree.nodes[3]? = some n /\ n.op = 8 := by
  have h1 := congrArg (fun l => l[3]?) h.ops
  simp only [List.getElem?_map] at h1
  obtain ⟨n, hn, e⟩ := Option.map_eq_some_iff.1 (h1.trans rfl)
  exact ⟨n, hn, (Prod.mk.inj e).1⟩
theorem Small.vn1 {r : Rdr} (h : Small r) : ∃ n, r.tree.nodes[1]? = some n /\ n.vn = 12 := by
  have h1 := congrArg (fun l => l[1]?) h.ops
  simp only [List.getElem?_map] at h1
  obtain ⟨n, hn, e⟩ := Option.map_eq_some_iff.1 (h1.trans rfl)
  exact ⟨n, hn, (Prod.mk.inj (Prod.mk.inj e).2).1⟩
theorem small_trd {w : World} {g : Nat} {src : ByteArray} {r : Rdr} {s : Sl} (hs : Small r) (h : St w g src r s) : ∃ ns ps, TrD w r.tree s ns ps := by
  obtain ⟨m, hm, _⟩ := hs.mile
  refine trd_of h (by rw [hs.len]; decide) (fun n hn => Nat.le_trans (hs.node hn).2.2 (by decide)) (by rw [hs.attrs]; decide) (by rw [hs.stages]; decide) (by rw [hm]; exact (by decide : 1 <= 1000000)) (by rw [hs.steps]; decide) (fun x hx => ?_)
  rw [hs.steps] at hx
  cases hx
theorem prt_small {w : World} (hg : Sg w) (h8 : 8 <= w.heap.size) {r : Rdr} (hs : Small r) {s : Sl} {ns : List MNd} {ps : List MSt} (TD : TrD w r.tree s ns ps) : ∀ w1, Old w w1 -> PrtOk w1 r.tree s := by
  intro w1 ho
  have TD1 := TD.old ho
  have hg1 := hg.old ho
  have h81 := Nat.le_trans h8 ho.size
  obtain ⟨m, hm, hw⟩ := hs.mile
  have hm0 : r.tree.miles[0]? = some m := by rw [hm]; rfl
  refine ⟨fun d hd W next l B bc hn hp => ?_, fun d hd W next l l' B bc hp hk hl => ?_⟩
  · rw [hs.lay, List.mem_singleton] at hd
    subst hd
    have h1 := right_M w1 W hg1 h81 r.tree s ns ps TD1 0 m hm0 next l B bc hp hn
    rw [show rightD r.tree (3, 0) next = rightM r.tree.nodes m next by
      unfold rightD
      rw [if_neg (by decide), if_neg (by decide), if_pos rfl]
      show (r.tree.miles[0]?).bind _ = _
      rw [hm0]
      rfl]
    exact h1
  · rw [hs.lay, List.mem_singleton] at hd
    subst hd
    unfold declP at hk
    rw [if_neg (by decide), if_neg (by decide), if_pos rfl] at hk
    obtain ⟨l4, h4, e4⟩ := Option.map_eq_some_iff.1 hk
    have h5 : declM r.tree.nodes m l = some l4 := by
      have h6 : (r.tree.miles[0]?).bind (fun a => declM r.tree.nodes a l) = some l4 := h4
      rw [hm0] at h6
      exact h6
    subst e4
    have PX := px_all w1 hg1 h81 r.tree s ns TD1.nd (fun n hn => List.all_eq_true.1 hs.rights n hn) (atoms12 w1 r.tree s (fun n hn => ⟨(hs.node hn).1, (hs.node hn).2.1⟩)) (r.tree.nodes.length + 1)
    exact decl_M w1 W r.tree s ns ps TD1 PX 0 m hm0 (by omega) next l l4 B bc hp h5 hl
end Go.Proofs.YtmmjcbbogokmfaaGreatDoor
