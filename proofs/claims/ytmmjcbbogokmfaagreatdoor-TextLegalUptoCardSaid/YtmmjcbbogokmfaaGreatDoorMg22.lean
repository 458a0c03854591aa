import Derived.Test.YtmmjcbbogokmfaaGreatDoorMg16
import Derived.Test.YtmmjcbbogokmfaaGreatDoorMg21
/- docketref9.Right answers as text.Right does. -/
namespace Go.Proofs.YtmmjcbbogokmfaaGreatDoor
open Go.RowKit

theorem rightR_in (n : Nd) (h : 1 ≤ n.op ∧ n.op ≤ 33) : rightR n = rightN n := by
  obtain ⟨op, name, vk, vn, vt, vs, kids⟩ := n
  simp only at h
  have h3 : op = 1 ∨ op = 2 ∨ op = 3 ∨ op = 4 ∨ op = 5 ∨ op = 6 ∨ op = 7 ∨ op = 8 ∨ op = 9 ∨ op = 10 ∨ op = 11 ∨ op = 12 ∨ op = 13 ∨ op = 14 ∨ op = 15 ∨ op = 16 ∨ op = 17 ∨ op = 18 ∨ op = 19 ∨ op = 20 ∨ op = 21 ∨ op = 22 ∨ op = 23 ∨ op = 24 ∨ op = 25 ∨ op = 26 ∨ op = 27 ∨ op = 28 ∨ op = 29 ∨ op = 30 ∨ op = 31 ∨ op = 32 ∨ op = 33 := by omega
  clear h
  have hlen : ∀ k : Nat, ((kids.length : Int) = (k : Int)) = (kids.length = k) := fun k => propext ⟨fun e => by omega, fun e => by omega⟩
  rcases h3 with rfl | rfl | rfl | rfl | rfl | rfl | rfl | rfl | rfl | rfl | rfl | rfl | rfl | rfl | rfl | rfl | rfl | rfl | rfl | rfl | rfl | rfl | rfl | rfl | rfl | rfl | rfl | rfl | rfl | rfl | rfl | rfl | rfl
  all_goals
    rw [Bool.eq_iff_iff]
    simp [rightR, rightN, kidsR, namedR, lastR]
  all_goals grind
theorem rightR_eq (n : Nd) : rightR n = rightN n := by
  by_cases h : 1 ≤ n.op ∧ n.op ≤ 33
  · exact rightR_in n h
  · have h1 : rightN n = false := by
      cases hr : rightN n with
      | false => rfl
      | true => exact absurd (right_op hr) h
    rw [h1]
    unfold rightR
    rw [if_pos (.inl (by unfold kidsR; rw [if_pos (by omega)]))]
theorem rright_any (w : World) (hg : SgR w) (x : MNd) : Calls Tryz.prog 23 #[.agg (ndC x).toArray] w fun e w' => e = .returned (.bool (rightN x.n)) ∧ Old w w' := by
  rw [← rightR_eq]
  by_cases h1 : x.n.op = 1
  · exact rright1 w x h1
  by_cases h2 : x.n.op = 2
  · exact rright2 w x h2
  by_cases h3 : x.n.op = 3
  · exact rright3 w x h3
  by_cases h5 : x.n.op = 5
  · exact rright5 w hg x h5
  by_cases h6 : x.n.op = 6
  · exact rright6 w x h6
  by_cases h24 : x.n.op = 24
  · exact rright24 w hg x h24
  by_cases h25 : x.n.op = 25
  · exact rright25 w hg x h25
  by_cases h26 : x.n.op = 26
  · exact rright26 w hg x h26
  exact rrightO w x h1 h2 h3 h5 h6 h24 h25 h26
end Go.Proofs.YtmmjcbbogokmfaaGreatDoor

/- Contract of text.Right (operators, more). -/
namespace Go.Proofs.YtmmjcbbogokmfaaGreatDoor
open Go.RowKit

set_option maxRecDepth 100000 in
set_option maxHeartbeats 3200000 in
theorem right4 (w : World) (x : MNd) (h : x.n.op = 4) : Calls Tryz.prog 22 #[.agg (ndC x).toArray] w fun e w' => e = .returned (.bool (rightN x.n)) ∧ Old w w' := by
  obtain ⟨⟨op, name, vk, vn, vt, vs, kids⟩, A, c, vA, vc⟩ := x
  simp only at h
  subst h
  have hem := tl_empty name
  rcases stages (vk = 0) (vn = 0) vt vs kids 0 with a | ⟨a, b⟩ | ⟨a, b, d⟩ | ⟨a, b, d, e⟩ | ⟨a, b, d, e, f⟩ | ⟨a, b, d, e, f⟩
  · have a2 := bnt a
    have hy : rightN ⟨4, name, vk, vn, vt, vs, kids⟩ = false := by simp_all [rightN]
    simp only [hy]
    clear hy hem
    unfold ndC iv
    simp only
    go_enter Tryz.func22, Tryz.ntmps22
    go_wp2
    all_goals
      go_ret
      exact ⟨rfl, by first | exact ((Kp.refl _ _).alloc _) | exact ((Kp.refl _ _).alloc _).alloc _ | exact (((Kp.refl _ _).alloc _).alloc _).alloc _⟩
  · have a2 := bnf a
    have b2 := bnt b
    have hy : rightN ⟨4, name, vk, vn, vt, vs, kids⟩ = false := by simp_all [rightN]
    simp only [hy]
    clear hy hem
    unfold ndC iv
    simp only
    go_enter Tryz.func22, Tryz.ntmps22
    go_wp2
    all_goals
      go_ret
      exact ⟨rfl, by first | exact ((Kp.refl _ _).alloc _) | exact ((Kp.refl _ _).alloc _).alloc _ | exact (((Kp.refl _ _).alloc _).alloc _).alloc _⟩
  · have a2 := bnf a
    have b2 := bnf b
    have hy : rightN ⟨4, name, vk, vn, vt, vs, kids⟩ = false := by simp_all [rightN, tl_size]
    simp only [hy]
    clear hy hem
    unfold ndC iv
    simp only
    go_enter Tryz.func22, Tryz.ntmps22
    go_wp2
    all_goals
      go_ret
      exact ⟨rfl, by first | exact ((Kp.refl _ _).alloc _) | exact ((Kp.refl _ _).alloc _).alloc _ | exact (((Kp.refl _ _).alloc _).alloc _).alloc _⟩
  · have a2 := bnf a
    have b2 := bnf b
    have hy : rightN ⟨4, name, vk, vn, vt, vs, kids⟩ = false := by simp_all [rightN, tl_size, List.length_pos_iff]
    simp only [hy]
    clear hy hem
    unfold ndC iv
    simp only
    go_enter Tryz.func22, Tryz.ntmps22
    go_wp2
    all_goals
      go_ret
      exact ⟨rfl, by first | exact ((Kp.refl _ _).alloc _) | exact ((Kp.refl _ _).alloc _).alloc _ | exact (((Kp.refl _ _).alloc _).alloc _).alloc _⟩
  · have a2 := bnf a
    have b2 := bnf b
    subst e
    have f1 : (kids.length : Int) ≠ 0 := bne_iff_ne.1 f
    have f2 : ¬ kids.length = 0 := fun e => f1 (by omega)
    clear f1
    have hy : rightN ⟨4, name, vk, vn, vt, [], kids⟩ = false := by simp_all [rightN, tl_size]
    simp only [hy]
    clear hy hem
    unfold ndC iv
    simp only
    go_enter Tryz.func22, Tryz.ntmps22
    go_wp2
    all_goals
      go_ret
      exact ⟨rfl, by first | exact ((Kp.refl _ _).alloc _) | exact ((Kp.refl _ _).alloc _).alloc _ | exact (((Kp.refl _ _).alloc _).alloc _).alloc _⟩
  · have a2 := bnf a
    have b2 := bnf b
    subst e
    have f1 : (kids.length : Int) = 0 := by simpa using f
    have f2 : kids.length = 0 := by omega
    have hy : rightN ⟨4, name, vk, vn, vt, [], kids⟩ = name.toList.isEmpty := by simp_all [rightN, tl_size]
    simp only [hy]
    clear hy hem
    unfold ndC iv
    simp only
    go_enter Tryz.func22, Tryz.ntmps22
    go_wp2
    go_ret
    exact ⟨rfl, by first | exact ((Kp.refl _ _).alloc _) | exact ((Kp.refl _ _).alloc _).alloc _ | exact (((Kp.refl _ _).alloc _).alloc _).alloc _⟩
set_option maxRecDepth 100000 in
set_option maxHeartbeats 3200000 in
theorem right29 (w : World) (x : MNd) (h : x.n.op = 29) : Calls Tryz.prog 22 #[.agg (ndC x).toArray] w fun e w' => e = .returned (.bool (rightN x.n)) ∧ Old w w' := by
  obtain ⟨⟨op, name, vk, vn, vt, vs, kids⟩, A, c, vA, vc⟩ := x
  simp only at h
  subst h
  have hem := tl_empty name
  rcases stages (vk = 0) (vn = 0) vt vs kids 0 with a | ⟨a, b⟩ | ⟨a, b, d⟩ | ⟨a, b, d, e⟩ | ⟨a, b, d, e, f⟩ | ⟨a, b, d, e, f⟩
  · have a2 := bnt a
    have hy : rightN ⟨29, name, vk, vn, vt, vs, kids⟩ = false := by simp_all [rightN]
    simp only [hy]
    clear hy hem
    unfold ndC iv
    simp only
    go_enter Tryz.func22, Tryz.ntmps22
    go_wp2
    all_goals
      go_ret
      exact ⟨rfl, by first | exact ((Kp.refl _ _).alloc _) | exact ((Kp.refl _ _).alloc _).alloc _ | exact (((Kp.refl _ _).alloc _).alloc _).alloc _⟩
  · have a2 := bnf a
    have b2 := bnt b
    have hy : rightN ⟨29, name, vk, vn, vt, vs, kids⟩ = false := by simp_all [rightN]
    simp only [hy]
    clear hy hem
    unfold ndC iv
    simp only
    go_enter Tryz.func22, Tryz.ntmps22
    go_wp2
    all_goals
      go_ret
      exact ⟨rfl, by first | exact ((Kp.refl _ _).alloc _) | exact ((Kp.refl _ _).alloc _).alloc _ | exact (((Kp.refl _ _).alloc _).alloc _).alloc _⟩
  · have a2 := bnf a
    have b2 := bnf b
    have hy : rightN ⟨29, name, vk, vn, vt, vs, kids⟩ = false := by simp_all [rightN, tl_size]
    simp only [hy]
    clear hy hem
    unfold ndC iv
    simp only
    go_enter Tryz.func22, Tryz.ntmps22
    go_wp2
    all_goals
      go_ret
      exact ⟨rfl, by first | exact ((Kp.refl _ _).alloc _) | exact ((Kp.refl _ _).alloc _).alloc _ | exact (((Kp.refl _ _).alloc _).alloc _).alloc _⟩
  · have a2 := bnf a
    have b2 := bnf b
    have hy : rightN ⟨29, name, vk, vn, vt, vs, kids⟩ = false := by simp_all [rightN, tl_size, List.length_pos_iff]
    simp only [hy]
    clear hy hem
    unfold ndC iv
    simp only
    go_enter Tryz.func22, Tryz.ntmps22
    go_wp2
    all_goals
      go_ret
      exact ⟨rfl, by first | exact ((Kp.refl _ _).alloc _) | exact ((Kp.refl _ _).alloc _).alloc _ | exact (((Kp.refl _ _).alloc _).alloc _).alloc _⟩
  · have a2 := bnf a
    have b2 := bnf b
    subst e
    have f1 : (kids.length : Int) ≠ 0 := bne_iff_ne.1 f
    have f2 : ¬ kids.length = 0 := fun e => f1 (by omega)
    clear f1
    have hy : rightN ⟨29, name, vk, vn, vt, [], kids⟩ = false := by simp_all [rightN, tl_size]
    simp only [hy]
    clear hy hem
    unfold ndC iv
    simp only
    go_enter Tryz.func22, Tryz.ntmps22
    go_wp2
    all_goals
      go_ret
      exact ⟨rfl, by first | exact ((Kp.refl _ _).alloc _) | exact ((Kp.refl _ _).alloc _).alloc _ | exact (((Kp.refl _ _).alloc _).alloc _).alloc _⟩
  · have a2 := bnf a
    have b2 := bnf b
    subst e
    have f1 : (kids.length : Int) = 0 := by simpa using f
    have f2 : kids.length = 0 := by omega
    have hy : rightN ⟨29, name, vk, vn, vt, [], kids⟩ = name.toList.isEmpty := by simp_all [rightN, tl_size]
    simp only [hy]
    clear hy hem
    unfold ndC iv
    simp only
    go_enter Tryz.func22, Tryz.ntmps22
    go_wp2
    go_ret
    exact ⟨rfl, by first | exact ((Kp.refl _ _).alloc _) | exact ((Kp.refl _ _).alloc _).alloc _ | exact (((Kp.refl _ _).alloc _).alloc _).alloc _⟩
set_option maxRecDepth 100000 in
set_option maxHeartbeats 3200000 in
theorem right30 (w : World) (x : MNd) (h : x.n.op = 30) : Calls Tryz.prog 22 #[.agg (ndC x).toArray] w fun e w' => e = .returned (.bool (rightN x.n)) ∧ Old w w' := by
  obtain ⟨⟨op, name, vk, vn, vt, vs, kids⟩, A, c, vA, vc⟩ := x
  simp only at h
  subst h
  have hem := tl_empty name
  rcases stages (vk = 0) (vn = 0) vt vs kids 0 with a | ⟨a, b⟩ | ⟨a, b, d⟩ | ⟨a, b, d, e⟩ | ⟨a, b, d, e, f⟩ | ⟨a, b, d, e, f⟩
  · have a2 := bnt a
    have hy : rightN ⟨30, name, vk, vn, vt, vs, kids⟩ = false := by simp_all [rightN]
    simp only [hy]
    clear hy hem
    unfold ndC iv
    simp only
    go_enter Tryz.func22, Tryz.ntmps22
    go_wp2
    all_goals
      go_ret
      exact ⟨rfl, by first | exact ((Kp.refl _ _).alloc _) | exact ((Kp.refl _ _).alloc _).alloc _ | exact (((Kp.refl _ _).alloc _).alloc _).alloc _⟩
  · have a2 := bnf a
    have b2 := bnt b
    have hy : rightN ⟨30, name, vk, vn, vt, vs, kids⟩ = false := by simp_all [rightN]
    simp only [hy]
    clear hy hem
    unfold ndC iv
    simp only
    go_enter Tryz.func22, Tryz.ntmps22
    go_wp2
    all_goals
      go_ret
      exact ⟨rfl, by first | exact ((Kp.refl _ _).alloc _) | exact ((Kp.refl _ _).alloc _).alloc _ | exact (((Kp.refl _ _).alloc _).alloc _).alloc _⟩
  · have a2 := bnf a
    have b2 := bnf b
    have hy : rightN ⟨30, name, vk, vn, vt, vs, kids⟩ = false := by simp_all [rightN, tl_size]
    simp only [hy]
    clear hy hem
    unfold ndC iv
    simp only
    go_enter Tryz.func22, Tryz.ntmps22
    go_wp2
    all_goals
      go_ret
      exact ⟨rfl, by first | exact ((Kp.refl _ _).alloc _) | exact ((Kp.refl _ _).alloc _).alloc _ | exact (((Kp.refl _ _).alloc _).alloc _).alloc _⟩
  · have a2 := bnf a
    have b2 := bnf b
    have hy : rightN ⟨30, name, vk, vn, vt, vs, kids⟩ = false := by simp_all [rightN, tl_size, List.length_pos_iff]
    simp only [hy]
    clear hy hem
    unfold ndC iv
    simp only
    go_enter Tryz.func22, Tryz.ntmps22
    go_wp2
    all_goals
      go_ret
      exact ⟨rfl, by first | exact ((Kp.refl _ _).alloc _) | exact ((Kp.refl _ _).alloc _).alloc _ | exact (((Kp.refl _ _).alloc _).alloc _).alloc _⟩
  · have a2 := bnf a
    have b2 := bnf b
    subst e
    have f1 : (kids.length : Int) ≠ 0 := bne_iff_ne.1 f
    have f2 : ¬ kids.length = 0 := fun e => f1 (by omega)
    clear f1
    have hy : rightN ⟨30, name, vk, vn, vt, [], kids⟩ = false := by simp_all [rightN, tl_size]
    simp only [hy]
    clear hy hem
    unfold ndC iv
    simp only
    go_enter Tryz.func22, Tryz.ntmps22
    go_wp2
    all_goals
      go_ret
      exact ⟨rfl, by first | exact ((Kp.refl _ _).alloc _) | exact ((Kp.refl _ _).alloc _).alloc _ | exact (((Kp.refl _ _).alloc _).alloc _).alloc _⟩
  · have a2 := bnf a
    have b2 := bnf b
    subst e
    have f1 : (kids.length : Int) = 0 := by simpa using f
    have f2 : kids.length = 0 := by omega
    have hy : rightN ⟨30, name, vk, vn, vt, [], kids⟩ = name.toList.isEmpty := by simp_all [rightN, tl_size]
    simp only [hy]
    clear hy hem
    unfold ndC iv
    simp only
    go_enter Tryz.func22, Tryz.ntmps22
    go_wp2
    go_ret
    exact ⟨rfl, by first | exact ((Kp.refl _ _).alloc _) | exact ((Kp.refl _ _).alloc _).alloc _ | exact (((Kp.refl _ _).alloc _).alloc _).alloc _⟩
set_option maxRecDepth 100000 in
set_option maxHeartbeats 3200000 in
theorem right8 (w : World) (x : MNd) (h : x.n.op = 8) : Calls Tryz.prog 22 #[.agg (ndC x).toArray] w fun e w' => e = .returned (.bool (rightN x.n)) ∧ Old w w' := by
  obtain ⟨⟨op, name, vk, vn, vt, vs, kids⟩, A, c, vA, vc⟩ := x
  simp only at h
  subst h
  have hem := tl_empty name
  rcases stages (vk = 0) (vn = 0) vt vs kids 1 with a | ⟨a, b⟩ | ⟨a, b, d⟩ | ⟨a, b, d, e⟩ | ⟨a, b, d, e, f⟩ | ⟨a, b, d, e, f⟩
  · have a2 := bnt a
    have hy : rightN ⟨8, name, vk, vn, vt, vs, kids⟩ = false := by simp_all [rightN]
    simp only [hy]
    clear hy hem
    unfold ndC iv
    simp only
    go_enter Tryz.func22, Tryz.ntmps22
    go_wp2
    all_goals
      go_ret
      exact ⟨rfl, by first | exact ((Kp.refl _ _).alloc _) | exact ((Kp.refl _ _).alloc _).alloc _ | exact (((Kp.refl _ _).alloc _).alloc _).alloc _⟩
  · have a2 := bnf a
    have b2 := bnt b
    have hy : rightN ⟨8, name, vk, vn, vt, vs, kids⟩ = false := by simp_all [rightN]
    simp only [hy]
    clear hy hem
    unfold ndC iv
    simp only
    go_enter Tryz.func22, Tryz.ntmps22
    go_wp2
    all_goals
      go_ret
      exact ⟨rfl, by first | exact ((Kp.refl _ _).alloc _) | exact ((Kp.refl _ _).alloc _).alloc _ | exact (((Kp.refl _ _).alloc _).alloc _).alloc _⟩
  · have a2 := bnf a
    have b2 := bnf b
    have hy : rightN ⟨8, name, vk, vn, vt, vs, kids⟩ = false := by simp_all [rightN, tl_size]
    simp only [hy]
    clear hy hem
    unfold ndC iv
    simp only
    go_enter Tryz.func22, Tryz.ntmps22
    go_wp2
    all_goals
      go_ret
      exact ⟨rfl, by first | exact ((Kp.refl _ _).alloc _) | exact ((Kp.refl _ _).alloc _).alloc _ | exact (((Kp.refl _ _).alloc _).alloc _).alloc _⟩
  · have a2 := bnf a
    have b2 := bnf b
    have hy : rightN ⟨8, name, vk, vn, vt, vs, kids⟩ = false := by simp_all [rightN, tl_size, List.length_pos_iff]
    simp only [hy]
    clear hy hem
    unfold ndC iv
    simp only
    go_enter Tryz.func22, Tryz.ntmps22
    go_wp2
    all_goals
      go_ret
      exact ⟨rfl, by first | exact ((Kp.refl _ _).alloc _) | exact ((Kp.refl _ _).alloc _).alloc _ | exact (((Kp.refl _ _).alloc _).alloc _).alloc _⟩
  · have a2 := bnf a
    have b2 := bnf b
    subst e
    have f1 : (kids.length : Int) ≠ 1 := bne_iff_ne.1 f
    have f2 : ¬ kids.length = 1 := fun e => f1 (by omega)
    clear f1
    have hy : rightN ⟨8, name, vk, vn, vt, [], kids⟩ = false := by simp_all [rightN, tl_size]
    simp only [hy]
    clear hy hem
    unfold ndC iv
    simp only
    go_enter Tryz.func22, Tryz.ntmps22
    go_wp2
    all_goals
      go_ret
      exact ⟨rfl, by first | exact ((Kp.refl _ _).alloc _) | exact ((Kp.refl _ _).alloc _).alloc _ | exact (((Kp.refl _ _).alloc _).alloc _).alloc _⟩
  · have a2 := bnf a
    have b2 := bnf b
    subst e
    have f1 : (kids.length : Int) = 1 := by simpa using f
    have f2 : kids.length = 1 := by omega
    have hy : rightN ⟨8, name, vk, vn, vt, [], kids⟩ = name.toList.isEmpty := by simp_all [rightN, tl_size]
    simp only [hy]
    clear hy hem
    unfold ndC iv
    simp only
    go_enter Tryz.func22, Tryz.ntmps22
    go_wp2
    go_ret
    exact ⟨rfl, by first | exact ((Kp.refl _ _).alloc _) | exact ((Kp.refl _ _).alloc _).alloc _ | exact (((Kp.refl _ _).alloc _).alloc _).alloc _⟩
set_option maxRecDepth 100000 in
set_option maxHeartbeats 3200000 in
theorem right27 (w : World) (x : MNd) (h : x.n.op = 27) : Calls Tryz.prog 22 #[.agg (ndC x).toArray] w fun e w' => e = .returned (.bool (rightN x.n)) ∧ Old w w' := by
  obtain ⟨⟨op, name, vk, vn, vt, vs, kids⟩, A, c, vA, vc⟩ := x
  simp only at h
  subst h
  have hem := tl_empty name
  rcases stages (vk = 0) (vn = 0) vt vs kids 1 with a | ⟨a, b⟩ | ⟨a, b, d⟩ | ⟨a, b, d, e⟩ | ⟨a, b, d, e, f⟩ | ⟨a, b, d, e, f⟩
  · have a2 := bnt a
    have hy : rightN ⟨27, name, vk, vn, vt, vs, kids⟩ = false := by simp_all [rightN]
    simp only [hy]
    clear hy hem
    unfold ndC iv
    simp only
    go_enter Tryz.func22, Tryz.ntmps22
    go_wp2
    all_goals
      go_ret
      exact ⟨rfl, by first | exact ((Kp.refl _ _).alloc _) | exact ((Kp.refl _ _).alloc _).alloc _ | exact (((Kp.refl _ _).alloc _).alloc _).alloc _⟩
  · have a2 := bnf a
    have b2 := bnt b
    have hy : rightN ⟨27, name, vk, vn, vt, vs, kids⟩ = false := by simp_all [rightN]
    simp only [hy]
    clear hy hem
    unfold ndC iv
    simp only
    go_enter Tryz.func22, Tryz.ntmps22
    go_wp2
    all_goals
      go_ret
      exact ⟨rfl, by first | exact ((Kp.refl _ _).alloc _) | exact ((Kp.refl _ _).alloc _).alloc _ | exact (((Kp.refl _ _).alloc _).alloc _).alloc _⟩
  · have a2 := bnf a
    have b2 := bnf b
    have hy : rightN ⟨27, name, vk, vn, vt, vs, kids⟩ = false := by simp_all [rightN, tl_size]
    simp only [hy]
    clear hy hem
    unfold ndC iv
    simp only
    go_enter Tryz.func22, Tryz.ntmps22
    go_wp2
    all_goals
      go_ret
      exact ⟨rfl, by first | exact ((Kp.refl _ _).alloc _) | exact ((Kp.refl _ _).alloc _).alloc _ | exact (((Kp.refl _ _).alloc _).alloc _).alloc _⟩
  · have a2 := bnf a
    have b2 := bnf b
    have hy : rightN ⟨27, name, vk, vn, vt, vs, kids⟩ = false := by simp_all [rightN, tl_size, List.length_pos_iff]
    simp only [hy]
    clear hy hem
    unfold ndC iv
    simp only
    go_enter Tryz.func22, Tryz.ntmps22
    go_wp2
    all_goals
      go_ret
      exact ⟨rfl, by first | exact ((Kp.refl _ _).alloc _) | exact ((Kp.refl _ _).alloc _).alloc _ | exact (((Kp.refl _ _).alloc _).alloc _).alloc _⟩
  · have a2 := bnf a
    have b2 := bnf b
    subst e
    have f1 : (kids.length : Int) ≠ 1 := bne_iff_ne.1 f
    have f2 : ¬ kids.length = 1 := fun e => f1 (by omega)
    clear f1
    have hy : rightN ⟨27, name, vk, vn, vt, [], kids⟩ = false := by simp_all [rightN, tl_size]
    simp only [hy]
    clear hy hem
    unfold ndC iv
    simp only
    go_enter Tryz.func22, Tryz.ntmps22
    go_wp2
    all_goals
      go_ret
      exact ⟨rfl, by first | exact ((Kp.refl _ _).alloc _) | exact ((Kp.refl _ _).alloc _).alloc _ | exact (((Kp.refl _ _).alloc _).alloc _).alloc _⟩
  · have a2 := bnf a
    have b2 := bnf b
    subst e
    have f1 : (kids.length : Int) = 1 := by simpa using f
    have f2 : kids.length = 1 := by omega
    have hy : rightN ⟨27, name, vk, vn, vt, [], kids⟩ = name.toList.isEmpty := by simp_all [rightN, tl_size]
    simp only [hy]
    clear hy hem
    unfold ndC iv
    simp only
    go_enter Tryz.func22, Tryz.ntmps22
    go_wp2
    go_ret
    exact ⟨rfl, by first | exact ((Kp.refl _ _).alloc _) | exact ((Kp.refl _ _).alloc _).alloc _ | exact (((Kp.refl _ _).alloc _).alloc _).alloc _⟩
end Go.Proofs.YtmmjcbbogokmfaaGreatDoor
