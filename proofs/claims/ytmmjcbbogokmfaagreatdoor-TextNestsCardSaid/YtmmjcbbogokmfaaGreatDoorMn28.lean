import Derived.Test.YtmmjcbbogokmfaaGreatDoorMn22
import Derived.Test.YtmmjcbbogokmfaaGreatDoorMn27
import Derived.DeepKeys
import Derived.Laws.StructEq
/- Contract of laid's closure: one declaration is laid at its place. -/
namespace Go.Proofs.YtmmjcbbogokmfaaGreatDoor
open Go.RowKit

def lpC (p : Int × Int) : List Value := [iv p.1, iv p.2]
/-- what laid holds: its row, its three boxes -/
structure LyS (qr ql qa qk : Nat) (s : LayP) (W : World) : Prop where
  row : Blk W qr 134 (s.l.flatMap lpC).toArray
  lb : Blk W ql 130 #[.slice (some ⟨qr, 0, none⟩) s.l.length s.l.length]
  ab : Blk W qa 3 #[iv s.last]
  kb : Blk W qk 4 #[.bool s.ok]
/-- the blocks that are written -/
def LyX (qr qa qk : Nat) : Nat → Prop := fun b => b = qr ∨ b = qa ∨ b = qk
section
variable {qr ql qa qk : Nat} {s : LayP} {W W1 : World}
theorem LyS.old (h : LyS qr ql qa qk s W) (ho : Old W W1) : LyS qr ql qa qk s W1 := ⟨h.row.old ho, h.lb.old ho, h.ab.old ho, h.kb.old ho⟩
theorem LyS.setA (h : LyS qr ql qa qk s W) (v : Int) : LyS qr ql qa qk { s with last := v } (W.setCell ⟨qa, 0, none⟩ (.int .i64 v)) ∧ Kp (LyX qr qa qk) W (W.setCell ⟨qa, 0, none⟩ (.int .i64 v)) :=
  ⟨⟨h.row.far (h.row.ne_ h.ab (by decide)) _, h.lb.far (h.lb.ne_ h.ab (by decide)) _, by simpa [iv] using h.ab.set_ 0 (.int .i64 v), h.kb.far (h.kb.ne_ h.ab (by decide)) _⟩, (Kp.refl (LyX qr qa qk) W).setCell (p := ⟨qa, 0, none⟩) (fun _ => .inr (.inl rfl)) _⟩
theorem LyS.setK (h : LyS qr ql qa qk s W) (v : Bool) : LyS qr ql qa qk { s with ok := v } (W.setCell ⟨qk, 0, none⟩ (.bool v)) ∧ Kp (LyX qr qa qk) W (W.setCell ⟨qk, 0, none⟩ (.bool v)) :=
  ⟨⟨h.row.far (h.row.ne_ h.kb (by decide)) _, h.lb.far (h.lb.ne_ h.kb (by decide)) _, h.ab.far (h.ab.ne_ h.kb (by decide)) _, by simpa using h.kb.set_ 0 (.bool v)⟩, (Kp.refl (LyX qr qa qk) W).setCell (p := ⟨qk, 0, none⟩) (fun _ => .inr (.inr rfl)) _⟩
theorem lp_set : ∀ (l : List (Int × Int)) (k : Nat) (p : Int × Int), k < l.length → ((l.flatMap lpC).set (k * 2) (iv p.1)).set (k * 2 + 1) (iv p.2) = (l.set k p).flatMap lpC
  | [], _, _, h => by cases h
  | x :: l, 0, p, _ => rfl
  | x :: l, k + 1, p, h => by
    have e : (k + 1) * 2 = k * 2 + 1 + 1 := by omega
    have e2 : (x :: l).flatMap lpC = iv x.1 :: iv x.2 :: l.flatMap lpC := rfl
    rw [List.set_cons_succ, e, e2]
    simp only [List.set_cons_succ]
    rw [lp_set l k p (Nat.lt_of_succ_lt_succ h)]
    rfl
theorem LyS.setR (h : LyS qr ql qa qk s W) {k : Nat} (hk : k < s.l.length) (a b : Int) : LyS qr ql qa qk { s with l := s.l.set k (a, b) } ((W.setCell ⟨qr, k * 2, none⟩ (.int .i64 a)).setCell ⟨qr, k * 2 + 1, none⟩ (.int .i64 b)) ∧ Kp (LyX qr qa qk) W ((W.setCell ⟨qr, k * 2, none⟩ (.int .i64 a)).setCell ⟨qr, k * 2 + 1, none⟩ (.int .i64 b)) := by
  have h1 := Blk.setL (Blk.setL h.row (k * 2) (.int .i64 a)) (k * 2 + 1) (.int .i64 b)
  have e : ((s.l.flatMap lpC).set (k * 2) (.int .i64 a)).set (k * 2 + 1) (.int .i64 b) = (s.l.set k (a, b)).flatMap lpC := lp_set s.l k (a, b) hk
  rw [e] at h1
  refine ⟨⟨h1, ?_, (h.ab.far (h.ab.ne_ h.row (by decide)) _).far (h.ab.ne_ h.row (by decide)) _, (h.kb.far (h.kb.ne_ h.row (by decide)) _).far (h.kb.ne_ h.row (by decide)) _⟩, ((Kp.refl (LyX qr qa qk) W).setCell (p := ⟨qr, k * 2, none⟩) (fun _ => .inl rfl) _).setCell (p := ⟨qr, k * 2 + 1, none⟩) (fun _ => .inl rfl) _⟩
  have := (h.lb.far (h.lb.ne_ h.row (by decide)) (p := ⟨qr, k * 2, none⟩) (.int .i64 a)).far (h.lb.ne_ h.row (by decide)) (p := ⟨qr, k * 2 + 1, none⟩) (.int .i64 b)
  show Blk _ ql _ #[.slice (some ⟨qr, 0, none⟩) (s.l.set k (a, b)).length (s.l.set k (a, b)).length]
  rw [List.length_set]
  exact this
theorem LyS.at_ (h : LyS qr ql qa qk s W) {k : Nat} (hk : k < s.l.length) : W.cell? ⟨qr, k * 2, none⟩ = some (.int .i64 (s.l.getD k (0, 0)).1) ∧ W.cell? ⟨qr, k * 2 + 1, none⟩ = some (.int .i64 (s.l.getD k (0, 0)).2) := by
  have hx : s.l[k]? = some (s.l.getD k (0, 0)) := by rw [List.getD_eq_getElem?_getD, List.getElem?_eq_getElem hk]; rfl
  have hf := flat_z lpC 2 (fun _ => rfl) s.l k _ hx
  refine ⟨h.row.at_ (k * 2) ?_, h.row.at_ (k * 2 + 1) ?_⟩
  · have := hf 0 (by decide); rw [List.getElem?_toArray]; exact this
  · have := hf 1 (by decide); rw [List.getElem?_toArray]; exact this
end
theorem eq2z (w : World) : (Op.equalIn 10000 134 (.agg #[.int .i64 0, .int .i64 0]) (.agg #[.int .i64 0, .int .i64 0])).run Tryz.prog w = .ok true w := by kernel_rfl
/-- what the closure leaves -/
def LyR (qr ql qa qk : Nat) (s : LayP) (W : World) (e : Ending) (W' : World) : Prop := e = .returned (.tuple #[]) ∧ LyS qr ql qa qk s W' ∧ Kp (LyX qr qa qk) W W'
set_option maxRecDepth 100000 in
set_option maxHeartbeats 3200000 in
theorem lay_ready (W : World) (qr ql qa qk : Nat) (s : LayP) (h : LyS qr ql qa qk s W) (fam : Int) (i : Nat) (order : Int) (hl : ¬ order ≤ (if i = 0 then -1 else s.last)) (hlen : order < (s.l.length : Int)) (h0 : 0 ≤ order) (hz : s.l.getD order.toNat (0, 0) = (0, 0)) :
    Calls Tryz.prog 113 #[iv fam, iv (i : Int), iv order, .pointer (some ⟨qa, 0, none⟩), .pointer (some ⟨ql, 0, none⟩), .pointer (some ⟨qk, 0, none⟩)] W (LyR qr ql qa qk (layN fam i order s) W) := by
  have hres : layN fam i order s = ⟨s.l.set order.toNat (fam, (i : Int)), order, s.ok⟩ := by
    unfold layN
    simp only
    rw [if_neg (fun e => e.elim hl (fun e => e.elim (fun e => by omega) (fun e => e hz)))]
  rw [hres]
  obtain ⟨k, rfl⟩ : ∃ k : Nat, order = (k : Int) := ⟨order.toNat, by omega⟩
  have ek : (k : Int).toNat = k := by omega
  have heq := eq2z
  rw [ek] at hz ⊢
  have hk : k < s.l.length := by omega
  obtain ⟨a0, a1⟩ := h.at_ hk
  rw [hz] at a0 a1
  have c0 := h.ab.at_ 0 (v := .int .i64 s.last) rfl
  have c1 := h.lb.at_ 0 (v := .slice (some ⟨qr, 0, none⟩) s.l.length s.l.length) rfl
  have H := Lib.hid h
  have zr := h.row.frozen (k * 2)
  have zr1 := h.row.frozen (k * 2 + 1)
  have za := h.ab.frozen 0
  have b1 : (0 : Int) ≤ (k : Int) := by omega
  have b3 : ¬ (s.l.length : Int) ≤ (k : Int) := by omega
  clear hres h
  by_cases hi : i = 0
  · rw [if_pos hi] at hl
    have d1 : ((i : Int) == 0) = true := by rw [hi]; rfl
    have H1 := Lib.hid (H.out.setA (-1)).1
    have K1 := Lib.hid (H.out.setA (-1)).2
    have H2 := Lib.hid (H1.out.setA (k : Int)).1
    have K2 := Lib.hid (K1.out.trans (H1.out.setA (k : Int)).2 (fun _ _ e => e))
    have H3 := Lib.hid (H2.out.setR hk fam (i : Int)).1
    have K3 := Lib.hid (K2.out.trans (H2.out.setR hk fam (i : Int)).2 (fun _ _ e => e))
    obtain ⟨e0, e1⟩ := H1.out.at_ hk
    have hz1 : s.l.getD k (0, 0) = (0, 0) := hz
    rw [hz1] at e0 e1
    have e2 := H1.out.ab.at_ 0 (v := .int .i64 (-1)) rfl
    have e3 := H1.out.lb.at_ 0 (v := .slice (some ⟨qr, 0, none⟩) s.l.length s.l.length) rfl
    have z1 := H1.out.ab.frozen 0
    have e4 := H2.out.lb.at_ 0 (v := .slice (some ⟨qr, 0, none⟩) s.l.length s.l.length) rfl
    have z2 := H2.out.row.frozen (k * 2)
    have z3 := H2.out.row.frozen (k * 2 + 1)
    obtain ⟨e5, e6⟩ := H2.out.at_ hk
    have hz2 : s.l.getD k (0, 0) = (0, 0) := hz
    rw [hz2] at e5 e6
    have hb3 := Blk.setL H2.out.row (k * 2) (.int .i64 fam)
    have e7 : (((W.setCell ⟨qa, 0, none⟩ (.int .i64 (-1))).setCell ⟨qa, 0, none⟩ (.int .i64 (k : Int))).setCell ⟨qr, k * 2, none⟩ (.int .i64 fam)).cell? ⟨qr, k * 2 + 1, none⟩ = some (.int .i64 0) := by
      rw [hb3.cell, List.getElem?_toArray, List.getElem?_set_ne (by omega), ← List.getElem?_toArray, ← H2.out.row.cell]
      exact e6
    have z4 := hb3.frozen (k * 2 + 1)
    clear hz hz1 hz2 hb3
    clear hi
    unfold iv at *
    go_enter Tryz.func113, Tryz.ntmps113
    go_wp2
    go_end0
    exact ⟨rfl, H3.out, K3.out⟩
  · rw [if_neg hi] at hl
    have d1 : ((i : Int) == 0) = false := beq_eq_false_iff_ne.2 (by omega)
    have H2 := Lib.hid (H.out.setA (k : Int)).1
    have K2 := Lib.hid (H.out.setA (k : Int)).2
    have H3 := Lib.hid (H2.out.setR hk fam (i : Int)).1
    have K3 := Lib.hid (K2.out.trans (H2.out.setR hk fam (i : Int)).2 (fun _ _ e => e))
    have e4 := H2.out.lb.at_ 0 (v := .slice (some ⟨qr, 0, none⟩) s.l.length s.l.length) rfl
    have z2 := H2.out.row.frozen (k * 2)
    have z3 := H2.out.row.frozen (k * 2 + 1)
    obtain ⟨e5, e6⟩ := H2.out.at_ hk
    have hz2 : s.l.getD k (0, 0) = (0, 0) := hz
    rw [hz2] at e5 e6
    have hb3 := Blk.setL H2.out.row (k * 2) (.int .i64 fam)
    have e7 : ((W.setCell ⟨qa, 0, none⟩ (.int .i64 (k : Int))).setCell ⟨qr, k * 2, none⟩ (.int .i64 fam)).cell? ⟨qr, k * 2 + 1, none⟩ = some (.int .i64 0) := by
      rw [hb3.cell, List.getElem?_toArray, List.getElem?_set_ne (by omega), ← List.getElem?_toArray, ← H2.out.row.cell]
      exact e6
    have z4 := hb3.frozen (k * 2 + 1)
    clear hz hz2 hb3
    clear hi
    unfold iv at *
    go_enter Tryz.func113, Tryz.ntmps113
    go_wp2
    go_end0
    exact ⟨rfl, H3.out, K3.out⟩
end Go.Proofs.YtmmjcbbogokmfaaGreatDoor

/- '==' of two places; laid's closure in every case. -/
namespace Go.Proofs.YtmmjcbbogokmfaaGreatDoor
open Go.RowKit

theorem litI_wf (n : Int) (h : -9223372036854775808 ≤ n ∧ n ≤ 9223372036854775807) : (Lit.int .i64 n).wf = true := by
  simp [Lit.wf, IntKind.min, IntKind.max, IntKind.signed, IntKind.bits]
  omega
theorem keyLits_int (D : Nat) (n : Int) (hw : (Lit.int .i64 n).wf = true) : Tryz.prog.keyLits (D + 1) 3 [.int .i64 n] = some [.int .i64 n] := by
  unfold Program.keyLits
  rw [Tryz.underlying3]
  simp [hw]
theorem Tryz.cellsI : Tryz.prog.cellsOf 3 = 1 := by kernel_rfl
theorem Tryz.cells2 : Tryz.prog.cellsOf 134 = 2 := by kernel_rfl
theorem keyLits_two (a b : Int) (ha : -9223372036854775808 ≤ a ∧ a ≤ 9223372036854775807) (hb : -9223372036854775808 ≤ b ∧ b ≤ 9223372036854775807) : Tryz.prog.keyLits 2 134 [.int .i64 a, .int .i64 b] = some [.int .i64 a, .int .i64 b] := by
  unfold Program.keyLits
  rw [Tryz.underlying134]
  have h1 := keyLits_int 0 a (litI_wf a ha)
  have h2 := keyLits_int 0 b (litI_wf b hb)
  simp [Tryz.cellsI, Tryz.cells2, h1, h2, List.range_succ]
theorem eq2_any (a b : Int) (ha : -9223372036854775808 ≤ a ∧ a ≤ 9223372036854775807) (hb : -9223372036854775808 ≤ b ∧ b ≤ 9223372036854775807) (hne : (a, b) ≠ (0, 0)) (w : World) : (Op.equalIn 10000 134 (.agg #[.int .i64 a, .int .i64 b]) (.agg #[.int .i64 0, .int .i64 0])).run Tryz.prog w = .ok false w := by
  obtain ⟨r, h1, h2⟩ := run_equalIn_deep (P := Tryz.prog) 9998 2 134 (by kernel_rfl) w 2 2 (.agg #[.int .i64 a, .int .i64 b]) (.agg #[.int .i64 0, .int .i64 0]) _ _ (by kernel_rfl) (by kernel_rfl) (keyLits_two a b ha hb) (keyLits_two 0 0 (by decide) (by decide))
  have e : r = false := by
    cases r with
    | false => rfl
    | true =>
      exfalso
      have := h2.1 rfl
      simp only [List.cons.injEq, Lit.int.injEq, true_and, and_true] at this
      exact hne (by rw [this.1, this.2])
  rw [e] at h1
  exact h1
/-- what laid keeps to -/
structure LyI (s : LayP) : Prop where
  last : -1 ≤ s.last
  len : s.l.length ≤ 4000000
  all : ∀ p ∈ s.l, 0 ≤ p.1 ∧ p.1 ≤ 4 ∧ 0 ≤ p.2 ∧ p.2 ≤ 1000000
theorem LyI.next {s : LayP} (h : LyI s) (fam : Int) (i : Nat) (order : Int) (hf : 0 ≤ fam ∧ fam ≤ 4) (hi : i ≤ 1000000) : LyI (layN fam i order s) := by
  unfold layN
  simp only
  have hl : -1 ≤ (if i = 0 then -1 else s.last) := by
    split
    · omega
    · exact h.last
  generalize (if i = 0 then (-1 : Int) else s.last) = L at *
  by_cases hc : order ≤ L ∨ (s.l.length : Int) ≤ order ∨ s.l.getD order.toNat (0, 0) ≠ (0, 0)
  · rw [if_pos hc]
    exact ⟨hl, h.len, h.all⟩
  · rw [if_neg hc]
    refine ⟨by show -1 ≤ order; omega, by rw [List.length_set]; exact h.len, fun p hp => ?_⟩
    rcases List.mem_or_eq_of_mem_set hp with e | e
    · exact h.all p e
    · rw [e]
      exact ⟨hf.1, hf.2, by show (0 : Int) ≤ (i : Int); omega, by show (i : Int) ≤ 1000000; omega⟩
theorem layN_len (fam : Int) (i : Nat) (order : Int) (s : LayP) : (layN fam i order s).l.length = s.l.length := by
  unfold layN
  simp only
  generalize (if i = 0 then (-1 : Int) else s.last) = L
  by_cases hc : order ≤ L ∨ (s.l.length : Int) ≤ order ∨ s.l.getD order.toNat (0, 0) ≠ (0, 0)
  · rw [if_pos hc]
  · rw [if_neg hc]
    exact List.length_set ..
set_option maxRecDepth 100000 in
set_option maxHeartbeats 3200000 in
theorem lay_bad0a (W : World) (qr ql qa qk : Nat) (s : LayP) (h : LyS qr ql qa qk s W) (fam : Int) (i : Nat) (order : Int) (hi : i = 0) (hb : order ≤ -1) :
    Calls Tryz.prog 113 #[iv fam, iv (i : Int), iv order, .pointer (some ⟨qa, 0, none⟩), .pointer (some ⟨ql, 0, none⟩), .pointer (some ⟨qk, 0, none⟩)] W (LyR qr ql qa qk ⟨s.l, -1, false⟩ W) := by
  have c0 := h.ab.at_ 0 (v := .int .i64 s.last) rfl
  have c1 := h.lb.at_ 0 (v := .slice (some ⟨qr, 0, none⟩) s.l.length s.l.length) rfl
  have za := h.ab.frozen 0
  have zk := h.kb.frozen 0
  have ck := h.kb.at_ 0 (v := .bool s.ok) rfl
  have H1 := Lib.hid (h.setA (-1)).1
  have K1 := Lib.hid (h.setA (-1)).2
  have d1 : ((i : Int) == 0) = true := by rw [hi]; rfl
  have H2 := Lib.hid (H1.out.setK false).1
  have K2 := Lib.hid (K1.out.trans (H1.out.setK false).2 (fun _ _ e => e))
  have e2 := H1.out.ab.at_ 0 (v := .int .i64 (-1)) rfl
  have e3 := H1.out.lb.at_ 0 (v := .slice (some ⟨qr, 0, none⟩) s.l.length s.l.length) rfl
  have e5 := H1.out.kb.at_ 0 (v := .bool s.ok) rfl
  have z1 := H1.out.kb.frozen 0
  clear h hi
  unfold iv at *
  go_enter Tryz.func113, Tryz.ntmps113
  go_wp2
  go_end0
  exact ⟨rfl, H2.out, K2.out⟩
set_option maxRecDepth 100000 in
set_option maxHeartbeats 3200000 in
theorem lay_bad0b (W : World) (qr ql qa qk : Nat) (s : LayP) (h : LyS qr ql qa qk s W) (fam : Int) (i : Nat) (order : Int) (hi : i = 0) (ha : ¬ order ≤ -1) (hb : (s.l.length : Int) ≤ order) :
    Calls Tryz.prog 113 #[iv fam, iv (i : Int), iv order, .pointer (some ⟨qa, 0, none⟩), .pointer (some ⟨ql, 0, none⟩), .pointer (some ⟨qk, 0, none⟩)] W (LyR qr ql qa qk ⟨s.l, -1, false⟩ W) := by
  have c0 := h.ab.at_ 0 (v := .int .i64 s.last) rfl
  have c1 := h.lb.at_ 0 (v := .slice (some ⟨qr, 0, none⟩) s.l.length s.l.length) rfl
  have za := h.ab.frozen 0
  have zk := h.kb.frozen 0
  have ck := h.kb.at_ 0 (v := .bool s.ok) rfl
  have H1 := Lib.hid (h.setA (-1)).1
  have K1 := Lib.hid (h.setA (-1)).2
  have d1 : ((i : Int) == 0) = true := by rw [hi]; rfl
  have H2 := Lib.hid (H1.out.setK false).1
  have K2 := Lib.hid (K1.out.trans (H1.out.setK false).2 (fun _ _ e => e))
  have e2 := H1.out.ab.at_ 0 (v := .int .i64 (-1)) rfl
  have e3 := H1.out.lb.at_ 0 (v := .slice (some ⟨qr, 0, none⟩) s.l.length s.l.length) rfl
  have e5 := H1.out.kb.at_ 0 (v := .bool s.ok) rfl
  have z1 := H1.out.kb.frozen 0
  clear h hi
  unfold iv at *
  go_enter Tryz.func113, Tryz.ntmps113
  go_wp2
  go_end0
  exact ⟨rfl, H2.out, K2.out⟩
set_option maxRecDepth 100000 in
set_option maxHeartbeats 3200000 in
theorem lay_bad0c (W : World) (qr ql qa qk : Nat) (s : LayP) (h : LyS qr ql qa qk s W) (I : LyI s) (fam : Int) (i : Nat) (order : Int) (hi : i = 0) (ha : ¬ order ≤ -1) (hlen : order < (s.l.length : Int)) (hne : s.l.getD order.toNat (0, 0) ≠ (0, 0)) :
    Calls Tryz.prog 113 #[iv fam, iv (i : Int), iv order, .pointer (some ⟨qa, 0, none⟩), .pointer (some ⟨ql, 0, none⟩), .pointer (some ⟨qk, 0, none⟩)] W (LyR qr ql qa qk ⟨s.l, -1, false⟩ W) := by
  obtain ⟨k, rfl⟩ : ∃ k : Nat, order = (k : Int) := ⟨order.toNat, by have := I.last; omega⟩
  have ek : (k : Int).toNat = k := by omega
  rw [ek] at hne
  have hk : k < s.l.length := by omega
  have b1 : (0 : Int) ≤ (k : Int) := by omega
  have b3 : ¬ (s.l.length : Int) ≤ (k : Int) := by omega
  have hmem : s.l.getD k (0, 0) ∈ s.l := by rw [List.getD_eq_getElem?_getD, List.getElem?_eq_getElem hk]; exact List.getElem_mem _
  have hal := I.all _ hmem
  have c0 := h.ab.at_ 0 (v := .int .i64 s.last) rfl
  have c1 := h.lb.at_ 0 (v := .slice (some ⟨qr, 0, none⟩) s.l.length s.l.length) rfl
  have za := h.ab.frozen 0
  have zk := h.kb.frozen 0
  have ck := h.kb.at_ 0 (v := .bool s.ok) rfl
  have H1 := Lib.hid (h.setA (-1)).1
  have K1 := Lib.hid (h.setA (-1)).2
  have d1 : ((i : Int) == 0) = true := by rw [hi]; rfl
  have H2 := Lib.hid (H1.out.setK false).1
  have K2 := Lib.hid (K1.out.trans (H1.out.setK false).2 (fun _ _ e => e))
  have e2 := H1.out.ab.at_ 0 (v := .int .i64 (-1)) rfl
  have e3 := H1.out.lb.at_ 0 (v := .slice (some ⟨qr, 0, none⟩) s.l.length s.l.length) rfl
  have e5 := H1.out.kb.at_ 0 (v := .bool s.ok) rfl
  have z1 := H1.out.kb.frozen 0
  obtain ⟨e0, e1⟩ := H1.out.at_ hk
  generalize hp : s.l.getD k (0, 0) = p at *
  obtain ⟨p1, p2⟩ := p
  simp only at e0 e1 hal
  have e0' : _ = some (Value.int .i64 p1) := e0
  have e1' : _ = some (Value.int .i64 p2) := e1
  have heq := eq2_any p1 p2 (by omega) (by omega) hne
  clear hne hal hmem I hp e0 e1
  clear h hi
  unfold iv at *
  go_enter Tryz.func113, Tryz.ntmps113
  go_wp2
  go_end0
  exact ⟨rfl, H2.out, K2.out⟩
set_option maxRecDepth 100000 in
set_option maxHeartbeats 3200000 in
theorem lay_bad1a (W : World) (qr ql qa qk : Nat) (s : LayP) (h : LyS qr ql qa qk s W) (fam : Int) (i : Nat) (order : Int) (hi : ¬ i = 0) (hb : order ≤ s.last) :
    Calls Tryz.prog 113 #[iv fam, iv (i : Int), iv order, .pointer (some ⟨qa, 0, none⟩), .pointer (some ⟨ql, 0, none⟩), .pointer (some ⟨qk, 0, none⟩)] W (LyR qr ql qa qk ⟨s.l, s.last, false⟩ W) := by
  have c0 := h.ab.at_ 0 (v := .int .i64 s.last) rfl
  have c1 := h.lb.at_ 0 (v := .slice (some ⟨qr, 0, none⟩) s.l.length s.l.length) rfl
  have za := h.ab.frozen 0
  have zk := h.kb.frozen 0
  have ck := h.kb.at_ 0 (v := .bool s.ok) rfl
  have H1 := Lib.hid h
  have K1 := Lib.hid (Kp.refl (LyX qr qa qk) W)
  have d1 : ((i : Int) == 0) = false := beq_eq_false_iff_ne.2 (by omega)
  have H2 := Lib.hid (H1.out.setK false).1
  have K2 := Lib.hid (K1.out.trans (H1.out.setK false).2 (fun _ _ e => e))
  have e2 := H1.out.ab.at_ 0 (v := .int .i64 (s.last)) rfl
  have e3 := H1.out.lb.at_ 0 (v := .slice (some ⟨qr, 0, none⟩) s.l.length s.l.length) rfl
  have e5 := H1.out.kb.at_ 0 (v := .bool s.ok) rfl
  have z1 := H1.out.kb.frozen 0
  clear h hi
  unfold iv at *
  go_enter Tryz.func113, Tryz.ntmps113
  go_wp2
  go_end0
  exact ⟨rfl, H2.out, K2.out⟩
set_option maxRecDepth 100000 in
set_option maxHeartbeats 3200000 in
theorem lay_bad1b (W : World) (qr ql qa qk : Nat) (s : LayP) (h : LyS qr ql qa qk s W) (fam : Int) (i : Nat) (order : Int) (hi : ¬ i = 0) (ha : ¬ order ≤ s.last) (hb : (s.l.length : Int) ≤ order) :
    Calls Tryz.prog 113 #[iv fam, iv (i : Int), iv order, .pointer (some ⟨qa, 0, none⟩), .pointer (some ⟨ql, 0, none⟩), .pointer (some ⟨qk, 0, none⟩)] W (LyR qr ql qa qk ⟨s.l, s.last, false⟩ W) := by
  have c0 := h.ab.at_ 0 (v := .int .i64 s.last) rfl
  have c1 := h.lb.at_ 0 (v := .slice (some ⟨qr, 0, none⟩) s.l.length s.l.length) rfl
  have za := h.ab.frozen 0
  have zk := h.kb.frozen 0
  have ck := h.kb.at_ 0 (v := .bool s.ok) rfl
  have H1 := Lib.hid h
  have K1 := Lib.hid (Kp.refl (LyX qr qa qk) W)
  have d1 : ((i : Int) == 0) = false := beq_eq_false_iff_ne.2 (by omega)
  have H2 := Lib.hid (H1.out.setK false).1
  have K2 := Lib.hid (K1.out.trans (H1.out.setK false).2 (fun _ _ e => e))
  have e2 := H1.out.ab.at_ 0 (v := .int .i64 (s.last)) rfl
  have e3 := H1.out.lb.at_ 0 (v := .slice (some ⟨qr, 0, none⟩) s.l.length s.l.length) rfl
  have e5 := H1.out.kb.at_ 0 (v := .bool s.ok) rfl
  have z1 := H1.out.kb.frozen 0
  clear h hi
  unfold iv at *
  go_enter Tryz.func113, Tryz.ntmps113
  go_wp2
  go_end0
  exact ⟨rfl, H2.out, K2.out⟩
set_option maxRecDepth 100000 in
set_option maxHeartbeats 3200000 in
theorem lay_bad1c (W : World) (qr ql qa qk : Nat) (s : LayP) (h : LyS qr ql qa qk s W) (I : LyI s) (fam : Int) (i : Nat) (order : Int) (hi : ¬ i = 0) (ha : ¬ order ≤ s.last) (hlen : order < (s.l.length : Int)) (hne : s.l.getD order.toNat (0, 0) ≠ (0, 0)) :
    Calls Tryz.prog 113 #[iv fam, iv (i : Int), iv order, .pointer (some ⟨qa, 0, none⟩), .pointer (some ⟨ql, 0, none⟩), .pointer (some ⟨qk, 0, none⟩)] W (LyR qr ql qa qk ⟨s.l, s.last, false⟩ W) := by
  obtain ⟨k, rfl⟩ : ∃ k : Nat, order = (k : Int) := ⟨order.toNat, by have := I.last; omega⟩
  have ek : (k : Int).toNat = k := by omega
  rw [ek] at hne
  have hk : k < s.l.length := by omega
  have b1 : (0 : Int) ≤ (k : Int) := by omega
  have b3 : ¬ (s.l.length : Int) ≤ (k : Int) := by omega
  have hmem : s.l.getD k (0, 0) ∈ s.l := by rw [List.getD_eq_getElem?_getD, List.getElem?_eq_getElem hk]; exact List.getElem_mem _
  have hal := I.all _ hmem
  have c0 := h.ab.at_ 0 (v := .int .i64 s.last) rfl
  have c1 := h.lb.at_ 0 (v := .slice (some ⟨qr, 0, none⟩) s.l.length s.l.length) rfl
  have za := h.ab.frozen 0
  have zk := h.kb.frozen 0
  have ck := h.kb.at_ 0 (v := .bool s.ok) rfl
  have H1 := Lib.hid h
  have K1 := Lib.hid (Kp.refl (LyX qr qa qk) W)
  have d1 : ((i : Int) == 0) = false := beq_eq_false_iff_ne.2 (by omega)
  have H2 := Lib.hid (H1.out.setK false).1
  have K2 := Lib.hid (K1.out.trans (H1.out.setK false).2 (fun _ _ e => e))
  have e2 := H1.out.ab.at_ 0 (v := .int .i64 (s.last)) rfl
  have e3 := H1.out.lb.at_ 0 (v := .slice (some ⟨qr, 0, none⟩) s.l.length s.l.length) rfl
  have e5 := H1.out.kb.at_ 0 (v := .bool s.ok) rfl
  have z1 := H1.out.kb.frozen 0
  obtain ⟨e0, e1⟩ := H1.out.at_ hk
  generalize hp : s.l.getD k (0, 0) = p at *
  obtain ⟨p1, p2⟩ := p
  simp only at e0 e1 hal
  have e0' : _ = some (Value.int .i64 p1) := e0
  have e1' : _ = some (Value.int .i64 p2) := e1
  have heq := eq2_any p1 p2 (by omega) (by omega) hne
  clear hne hal hmem I hp e0 e1
  clear h hi
  unfold iv at *
  go_enter Tryz.func113, Tryz.ntmps113
  go_wp2
  go_end0
  exact ⟨rfl, H2.out, K2.out⟩
theorem lay_any (W : World) (qr ql qa qk : Nat) (s : LayP) (h : LyS qr ql qa qk s W) (I : LyI s) (fam : Int) (i : Nat) (order : Int) :
    Calls Tryz.prog 113 #[iv fam, iv (i : Int), iv order, .pointer (some ⟨qa, 0, none⟩), .pointer (some ⟨ql, 0, none⟩), .pointer (some ⟨qk, 0, none⟩)] W (LyR qr ql qa qk (layN fam i order s) W) := by
  by_cases h1 : order ≤ (if i = 0 then -1 else s.last)
  · have e : layN fam i order s = ⟨s.l, if i = 0 then -1 else s.last, false⟩ := by unfold layN; simp only; rw [if_pos (.inl h1)]
    rw [e]
    by_cases hi : i = 0
    · rw [if_pos hi] at h1 ⊢
      exact lay_bad0a W qr ql qa qk s h fam i order hi h1
    · rw [if_neg hi] at h1 ⊢
      exact lay_bad1a W qr ql qa qk s h fam i order hi h1
  by_cases h2 : (s.l.length : Int) ≤ order
  · have e : layN fam i order s = ⟨s.l, if i = 0 then -1 else s.last, false⟩ := by unfold layN; simp only; rw [if_pos (.inr (.inl h2))]
    rw [e]
    by_cases hi : i = 0
    · rw [if_pos hi] at h1 ⊢
      exact lay_bad0b W qr ql qa qk s h fam i order hi h1 h2
    · rw [if_neg hi] at h1 ⊢
      exact lay_bad1b W qr ql qa qk s h fam i order hi h1 h2
  by_cases h3 : s.l.getD order.toNat (0, 0) = (0, 0)
  · have hl : -1 ≤ (if i = 0 then -1 else s.last) := by
      split
      · omega
      · exact I.last
    exact lay_ready W qr ql qa qk s h fam i order h1 (by omega) (by omega) h3
  · have e : layN fam i order s = ⟨s.l, if i = 0 then -1 else s.last, false⟩ := by unfold layN; simp only; rw [if_pos (.inr (.inr h3))]
    rw [e]
    by_cases hi : i = 0
    · rw [if_pos hi] at h1 ⊢
      exact lay_bad0c W qr ql qa qk s h I fam i order hi h1 (by omega) h3
    · rw [if_neg hi] at h1 ⊢
      exact lay_bad1c W qr ql qa qk s h I fam i order hi h1 (by omega) h3
end Go.Proofs.YtmmjcbbogokmfaaGreatDoor
