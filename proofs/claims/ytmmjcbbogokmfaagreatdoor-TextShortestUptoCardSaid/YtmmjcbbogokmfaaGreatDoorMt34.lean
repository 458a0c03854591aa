import Derived.Test.YtmmjcbbogokmfaaGreatDoorMt01
import Derived.Test.YtmmjcbbogokmfaaGreatDoorMt33
import Derived.DeepKeys
import Derived.Laws.StructEq
set_option maxRecDepth 100000
set_option maxHeartbeats 25600000
namespace Go.Proofs.YtmmjcbbogokmfaaGreatDoor
open Go.RowKit
theorem litI_wf (n : Int) (h : -9223372036854775808 <= n /\ n <= 9223372036854775807) : (Lit.int .i64 n).wf = true := by
  simp [Lit.wf, IntKind.min, IntKind.max, IntKind.signed, IntKind.bits]
  omega
theorem keyLits_int (D : Nat) (n : Int) (hw : (Lit.int .i64 n).wf = true) : Tryz.prog.keyLits (D + 1) 3 [.int .i64 n] = some [.int .i64 n] := by
  unfold Program.keyLits
  rw [Tryz.underlying3]
  simp [hw]
theorem Tryz.cellsI : Tryz.prog.cellsOf 3 = 1 := by kernel_rfl
theorem Tryz.cells2 : Tryz.prog.cellsOf 134 = 2 := by kernel_rfl
theorem keyLits_two (a b : Int) (ha : -9223372036854775808 <= a /\ a <= 9223372036854775807) (hb : -9223372036854775808 <= b /\ b <= 9223372036854775807) : Tryz.prog.keyLits 2 134 [.int .i64 a, .int .i64 b] = some [.int .i64 a, .int .i64 b] := by
  unfold Program.keyLits
  rw [Tryz.underlying134]
  have h1 := keyLits_int 0 a (litI_wf a ha)
  have h2 := keyLits_int 0 b (litI_wf b hb)
  simp [Tryz.cellsI, Tryz.cells2, h1, h2, List.range_succ]
theorem eq2_any (a b : Int) (ha : -9223372036854775808 <= a /\ a <= 9223372036854775807) (hb : -9223372036854775808 <= b /\ b <= 9223372036854775807) (hne : (a, b) ≠ (0, 0)) (w : World) : (Op.equalIn 10000 134 (.agg #[.int .i64 a, .int .i64 b]) (.agg #[.int .i64 0, .int .i64 0])).run Tryz.prog w = .ok false w := by
  obtain ⟨r, h1, h2⟩ := run_equalIn_deep (P := Tryz.prog) 9998 2 134 (by kernel_rfl) w 2 2 (.agg #[.int .i64 a, .int .i64 b]) (.agg #[.int .i64 0, .int .i64 0]) _ _ (by kernel_rfl) (by kernel_rfl) (keyLits_two a b ha hb) (keyLits_two 0 0 (by decide) (by decide))
  have e : r = false := by
    cases r with
    | false => rfl
    | true =>
      exfalso
      have := h2.1 rfl
      simp only [List.cons.injEq, Lit.int.injEq, true_and, and_true] at this
      exact hne (by rw [this.1, this.2])
  rw [e] at h1
  exact h1
structure LyI (s : LayP) : Prop where
  last : -1 <= s.last
  len : s.l.length <= 4000000
  all : ∀ p ∈ s.l, 0 <= p.1 /\ p.1 <= 4 /\ 0 <= p.2 /\ p.2 <= 1000000
theorem LyI.next {s : LayP} (h : LyI s) (fam : Int) (i : Nat) (order : Int) (hf : 0 <= fam /\ fam <= 4) (hi : i <= 1000000) : LyI (layN fam i order s) := by
  unfold layN
  simp only
  have hl : -1 <= (if i = 0 then -1 else s.last) := by
    split
    · omega
    · exact h.last
  generalize (if i = 0 then (-1 : Int) else s.last) = L at *
  by_cases hc : order <= L \/ (s.l.length : Int) <= order \/ s.l.getD order.toNat (0, 0) ≠ (0, 0)
  · rw [if_pos hc]
    exact ⟨hl, h.len, h.all⟩
  · rw [if_neg hc]
    refine ⟨by show -1 <= order; omega, by rw [List.length_set]; exact h.len, fun p hp => ?_⟩
    rcases List.mem_or_eq_of_mem_set hp with e | e
    · exact h.all p e
    · rw [e]
      exact ⟨hf.1, hf.2, by show (0 : Int) <= (i : Int); omega, by show (i : Int) <= 1000000; omega⟩
theorem layN_len (fam : Int) (i : Nat) (order : Int) (s : LayP) : (layN fam i order s).l.length = s.l.length := by
  unfold layN
  simp only
  generalize (if i = 0 then (-1 : Int) else s.last) = L
  by_cases hc : order <= L \/ (s.l.length : Int) <= order \/ s.l.getD order.toNat (0, 0) ≠ (0, 0)
  · rw [if_pos hc]
  · rw [if_neg hc]
    exact List.length_set ..
theorem lay_bad0a (W : World) (qr ql qa qk : Nat) (s : LayP) (h : LyS qr ql qa qk s W) (fam : Int) (i : Nat) (order : Int) (hi : i = 0) (hb : order <= -1) :
    Calls Tryz.prog 113 #[iv fam, iv (i : Int), iv order, .pointer (some ⟨qa, 0, none⟩), .pointer (some ⟨ql, 0, none⟩), .pointer (some ⟨qk, 0, none⟩)] W (LyR qr ql qa qk ⟨s.l, -1, false⟩ W) := by
  have c0 := h.ab.at_ 0 (v := .int .i64 s.last) rfl
  have c1 := h.lb.at_ 0 (v := .slice (some ⟨qr, 0, none⟩) s.l.length s.l.length) rfl
  have za := h.ab.frozen 0
  have zk := h.kb.frozen 0
  have ck := h.kb.at_ 0 (v := .bool s.ok) rfl
  have H1 := jJ0 (h.setA (-1)).1
  have K1 := jJ0 (h.setA (-1)).2
  have d1 : ((i : Int) == 0) = true := by rw [hi]; rfl
  have H2 := jJ0 (H1.out.setK false).1
  have K2 := jJ0 (K1.out.trans (H1.out.setK false).2 (fun _ _ e => e))
  have e2 := H1.out.ab.at_ 0 (v := .int .i64 (-1)) rfl
  have e3 := H1.out.lb.at_ 0 (v := .slice (some ⟨qr, 0, none⟩) s.l.length s.l.length) rfl
  have e5 := H1.out.kb.at_ 0 (v := .bool s.ok) rfl
  have z1 := H1.out.kb.frozen 0
  clear h hi
  unfold iv at *
  go_enter Tryz.func113, Tryz.ntmps113
  go_wp2
  go_end0
  exact ⟨rfl, H2.out, K2.out⟩
theorem lay_bad0b (W : World) (qr ql qa qk : Nat) (s : LayP) (h : LyS qr ql qa qk s W) (fam : Int) (i : Nat) (order : Int) (hi : i = 0) (ha : ¬ order <= -1) (hb : (s.l.length : Int) <= order) :
    Calls Tryz.prog 113 #[iv fam, iv (i : Int), iv order, .pointer (some ⟨qa, 0, none⟩), .pointer (some ⟨ql, 0, none⟩), .pointer (some ⟨qk, 0, none⟩)] W (LyR qr ql qa qk ⟨s.l, -1, false⟩ W) := by
  have c0 := h.ab.at_ 0 (v := .int .i64 s.last) rfl
  have c1 := h.lb.at_ 0 (v := .slice (some ⟨qr, 0, none⟩) s.l.length s.l.length) rfl
  have za := h.ab.frozen 0
  have zk := h.kb.frozen 0
  have ck := h.kb.at_ 0 (v := .bool s.ok) rfl
  have H1 := jJ0 (h.setA (-1)).1
  have K1 := jJ0 (h.setA (-1)).2
  have d1 : ((i : Int) == 0) = true := by rw [hi]; rfl
  have H2 := jJ0 (H1.out.setK false).1
  have K2 := jJ0 (K1.out.trans (H1.out.setK false).2 (fun _ _ e => e))
  have e2 := H1.out.ab.at_ 0 (v := .int .i64 (-1)) rfl
  have e3 := H1.out.lb.at_ 0 (v := .slice (some ⟨qr, 0, none⟩) s.l.length s.l.length) rfl
  have e5 := H1.out.kb.at_ 0 (v := .bool s.ok) rfl
  have z1 := H1.out.kb.frozen 0
  clear h hi
  unfold iv at *
  go_enter Tryz.func113, Tryz.ntmps113
  go_wp2
  go_end0
  exact ⟨rfl, H2.out, K2.out⟩
theorem lay_bad0c (W : World) (qr ql qa qk : Nat) (s : LayP) (h : LyS qr ql qa qk s W) (I : LyI s) (fam : Int) (i : Nat) (order : Int) (hi : i = 0) (ha : ¬ order <= -1) (hlen : order < (s.l.length : Int)) (hne : s.l.getD order.toNat (0, 0) ≠ (0, 0)) :
    Calls Tryz.prog 113 #[iv fam, iv (i : Int), iv order, .pointer (some ⟨qa, 0, none⟩), .pointer (some ⟨ql, 0, none⟩), .pointer (some ⟨qk, 0, none⟩)] W (LyR qr ql qa qk ⟨s.l, -1, false⟩ W) := by
  obtain ⟨k, rfl⟩ : ∃ k : Nat, order = (k : Int) := ⟨order.toNat, by have := I.last; omega⟩
  have ek : (k : Int).toNat = k := by omega
  rw [ek] at hne
  have hk : k < s.l.length := by omega
  have b1 : (0 : Int) <= (k : Int) := by omega
  have b3 : ¬ (s.l.length : Int) <= (k : Int) := by omega
  have hmem : s.l.getD k (0, 0) ∈ s.l := by rw [List.getD_eq_getElem?_getD, List.getElem?_eq_getElem hk]; exact List.getElem_mem _
  have hal := I.all _ hmem
  have c0 := h.ab.at_ 0 (v := .int .i64 s.last) rfl
  have c1 := h.lb.at_ 0 (v := .slice (some ⟨qr, 0, none⟩) s.l.length s.l.length) rfl
  have za := h.ab.frozen 0
  have zk := h.kb.frozen 0
  have ck := h.kb.at_ 0 (v := .bool s.ok) rfl
  have H1 := jJ0 (h.setA (-1)).1
  have K1 := jJ0 (h.setA (-1)).2
  have d1 : ((i : Int) == 0) = true := by rw [hi]; rfl
  have H2 := jJ0 (H1.out.setK false).1
  have K2 := jJ0 (K1.out.trans (H1.out.setK false).2 (fun _ _ e => e))
  have e2 := H1.out.ab.at_ 0 (v := .int .i64 (-1)) rfl
  have e3 := H1.out.lb.at_ 0 (v := .slice (some ⟨qr, 0, none⟩) s.l.length s.l.length) rfl
  have e5 := H1.out.kb.at_ 0 (v := .bool s.ok) rfl
  have z1 := H1.out.kb.frozen 0
  obtain ⟨e0, e1⟩ := H1.out.at_ hk
  generalize hp : s.l.getD k (0, 0) = p at *
  obtain ⟨p1, p2⟩ := p
  simp only at e0 e1 hal
  have e0' : _ = some (Value.int .i64 p1) := e0
  have e1' : _ = some (Value.int .i64 p2) := e1
  have heq := eq2_any p1 p2 (by omega) (by omega) hne
  clear hne hal hmem I hp e0 e1
  clear h hi
  unfold iv at *
  go_enter Tryz.func113, Tryz.ntmps113
  go_wp2
  go_end0
  exact ⟨rfl, H2.out, K2.out⟩
theorem lay_bad1a (W : World) (qr ql qa qk : Nat) (s : LayP) (h : LyS qr ql qa qk s W) (fam : Int) (i : Nat) (order : Int) (hi : ¬ i = 0) (hb : order <= s.last) :
    Calls Tryz.prog 113 #[iv fam, iv (i : Int), iv order, .pointer (some ⟨qa, 0, none⟩), .pointer (some ⟨ql, 0, none⟩), .pointer (some ⟨qk, 0, none⟩)] W (LyR qr ql qa qk ⟨s.l, s.last, false⟩ W) := by
  have c0 := h.ab.at_ 0 (v := .int .i64 s.last) rfl
  have c1 := h.lb.at_ 0 (v := .slice (some ⟨qr, 0, none⟩) s.l.length s.l.length) rfl
  have za := h.ab.frozen 0
  have zk := h.kb.frozen 0
  have ck := h.kb.at_ 0 (v := .bool s.ok) rfl
  have H1 := jJ0 h
  have K1 := jJ0 (Kp.refl (LyX qr qa qk) W)
  have d1 : ((i : Int) == 0) = false := beq_eq_false_iff_ne.2 (by omega)
  have H2 := jJ0 (H1.out.setK false).1
  have K2 := jJ0 (K1.out.trans (H1.out.setK false).2 (fun _ _ e => e))
  have e2 := H1.out.ab.at_ 0 (v := .int .i64 (s.last)) rfl
  have e3 := H1.out.lb.at_ 0 (v := .slice (some ⟨qr, 0, none⟩) s.l.length s.l.length) rfl
  have e5 := H1.out.kb.at_ 0 (v := .bool s.ok) rfl
  have z1 := H1.out.kb.frozen 0
  clear h hi
  unfold iv at *
  go_enter Tryz.func113, Tryz.ntmps113
  go_wp2
  go_end0
  exact ⟨rfl, H2.out, K2.out⟩
theorem lay_bad1b (W : World) (qr ql qa qk : Nat) (s : LayP) (h : LyS qr ql qa qk s W) (fam : Int) (i : Nat) (order : Int) (hi : ¬ i = 0) (ha : ¬ order <= s.last) (hb : (s.l.length : Int) <= order) :
    Calls Tryz.prog 113 #[iv fam, iv (i : Int), iv order, .pointer (some ⟨qa, 0, none⟩), .pointer (some ⟨ql, 0, none⟩), .pointer (some ⟨qk, 0, none⟩)] W (LyR qr ql qa qk ⟨s.l, s.last, false⟩ W) := by
  have c0 := h.ab.at_ 0 (v := .int .i64 s.last) rfl
  have c1 := h.lb.at_ 0 (v := .slice (some ⟨qr, 0, none⟩) s.l.length s.l.length) rfl
  have za := h.ab.frozen 0
  have zk := h.kb.frozen 0
  have ck := h.kb.at_ 0 (v := .bool s.ok) rfl
  have H1 := jJ0 h
  have K1 := jJ0 (Kp.refl (LyX qr qa qk) W)
  have d1 : ((i : Int) == 0) = false := beq_eq_false_iff_ne.2 (by omega)
  have H2 := jJ0 (H1.out.setK false).1
  have K2 := jJ0 (K1.out.trans (H1.out.setK false).2 (fun _ _ e => e))
  have e2 := H1.out.ab.at_ 0 (v := .int .i64 (s.last)) rfl
  have e3 := H1.out.lb.at_ 0 (v := .slice (some ⟨qr, 0, none⟩) s.l.length s.l.length) rfl
  have e5 := H1.out.kb.at_ 0 (v := .bool s.ok) rfl
  have z1 := H1.out.kb.frozen 0
  clear h hi
  unfold iv at *
  go_enter Tryz.func113, Tryz.ntmps113
  go_wp2
  go_end0
  exact ⟨rfl, H2.out, K2.out⟩
theorem lay_bad1c (W : World) (qr ql qa qk : Nat) (s : LayP) (h : LyS qr ql qa qk s W) (I : LyI s) (fam : Int) (i : Nat) (order : Int) (hi : ¬ i = 0) (ha : ¬ order <= s.last) (hlen : order < (s.l.length : Int)) (hne : s.l.getD order.toNat (0, 0) ≠ (0, 0)) :
    Calls Tryz.prog 113 #[iv fam, iv (i : Int), iv order, .pointer (some ⟨qa, 0, none⟩), .pointer (some ⟨ql, 0, none⟩), .pointer (some ⟨qk, 0, none⟩)] W (LyR qr ql qa qk ⟨s.l, s.last, false⟩ W) := by
  obtain ⟨k, rfl⟩ : ∃ k : Nat, order = (k : Int) := ⟨order.toNat, by have := I.last; omega⟩
  have ek : (k : Int).toNat = k := by omega
  rw [ek] at hne
  have hk : k < s.l.length := by omega
  have b1 : (0 : Int) <= (k : Int) := by omega
  have b3 : ¬ (s.l.length : Int) <= (k : Int) := by omega
  have hmem : s.l.getD k (0, 0) ∈ s.l := by rw [List.getD_eq_getElem?_getD, List.getElem?_eq_getElem hk]; exact List.getElem_mem _
  have hal := I.all _ hmem
  have c0 := h.ab.at_ 0 (v := .int .i64 s.last) rfl
  have c1 := h.lb.at_ 0 (v := .slice (some ⟨qr, 0, none⟩) s.l.length s.l.length) rfl
  have za := h.ab.frozen 0
  have zk := h.kb.frozen 0
  have ck := h.kb.at_ 0 (v := .bool s.ok) rfl
  have H1 := jJ0 h
  have K1 := jJ0 (Kp.refl (LyX qr qa qk) W)
  have d1 : ((i : Int) == 0) = false := beq_eq_false_iff_ne.2 (by omega)
  have H2 := jJ0 (H1.out.setK false).1
  have K2 := jJ0 (K1.out.trans (H1.out.setK false).2 (fun _ _ e => e))
  have e2 := H1.out.ab.at_ 0 (v := .int .i64 (s.last)) rfl
  have e3 := H1.out.lb.at_ 0 (v := .slice (some ⟨qr, 0, none⟩) s.l.length s.l.length) rfl
  have e5 := H1.out.kb.at_ 0 (v := .bool s.ok) rfl
  have z1 := H1.out.kb.frozen 0
  obtain ⟨e0, e1⟩ := H1.out.at_ hk
  generalize hp : s.l.getD k (0, 0) = p at *
  obtain ⟨p1, p2⟩ := p
  simp only at e0 e1 hal
  have e0' : _ = some (Value.int .i64 p1) := e0
  have e1' : _ = some (Value.int .i64 p2) := e1
  have heq := eq2_any p1 p2 (by omega) (by omega) hne
  clear hne hal hmem I hp e0 e1
  clear h hi
  unfold iv at *
  go_enter Tryz.func113, Tryz.ntmps113
  go_wp2
  go_end0
  exact ⟨rfl, H2.out, K2.out⟩
theorem lay_any (W : World) (qr ql qa qk : Nat) (s : LayP) (h : LyS qr ql qa qk s W) (I : LyI s) (fam : Int) (i : Nat) (order : Int) :
    Calls Tryz.prog 113 #[iv fam, iv (i : Int), iv order, .pointer (some ⟨qa, 0, none⟩), .pointer (some ⟨ql, 0, none⟩), .pointer (some ⟨qk, 0, none⟩)] W (LyR qr ql qa qk (layN fam i order s) W) := by
  by_cases h1 : order <= (if i = 0 then -1 else s.last)
  · have e : layN fam i order s = ⟨s.l, if i = 0 then -1 else s.last, false⟩ := by unfold layN; simp only; rw [if_pos (.inl h1)]
    rw [e]
    by_cases hi : i = 0
    · rw [if_pos hi] at h1 ⊢
      exact lay_bad0a W qr ql qa qk s h fam i order hi h1
    · rw [if_neg hi] at h1 ⊢
      exact lay_bad1a W qr ql qa qk s h fam i order hi h1
  by_cases h2 : (s.l.length : Int) <= order
  · have e : layN fam i order s = ⟨s.l, if i = 0 then -1 else s.last, false⟩ := by unfold layN; simp only; rw [if_pos (.inr (.inl h2))]
    rw [e]
    by_cases hi : i = 0
    · rw [if_pos hi] at h1 ⊢
      exact lay_bad0b W qr ql qa qk s h fam i order hi h1 h2
    · rw [if_neg hi] at h1 ⊢
      exact lay_bad1b W qr ql qa qk s h fam i order hi h1 h2
  by_cases h3 : s.l.getD order.toNat (0, 0) = (0, 0)
  · have hl : -1 <= (if i = 0 then -1 else s.last) := by
      split
      · omega
      · exact I.last
    exact lay_ready W qr ql qa qk s h fam i order h1 (by omega) (by omega) h3
  · have e : layN fam i order s = ⟨s.l, if i = 0 then -1 else s.last, false⟩ := by unfold layN; simp only; rw [if_pos (.inr (.inr h3))]
    rw [e]
    by_cases hi : i = 0
    · rw [if_pos hi] at h1 ⊢
      exact lay_bad0c W qr ql qa qk s h I fam i order hi h1 (by omega) h3
    · rw [if_neg hi] at h1 ⊢
      exact lay_bad1c W qr ql qa qk s h I fam i order hi h1 (by omega) h3
end Go.Proofs.YtmmjcbbogokmfaaGreatDoor
