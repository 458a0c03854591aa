import Derived.Test.YtmmjcbbogokmfaaGreatDoorMg18
/- Contract of text.Right (operators, more). -/
namespace Go.Proofs.YtmmjcbbogokmfaaGreatDoor
open Go.RowKit

set_option maxRecDepth 100000 in
set_option maxHeartbeats 3200000 in
theorem right4 (w : World) (x : MNd) (h : x.n.op = 4) : Calls Tryz.prog 22 #[.agg (ndC x).toArray] w fun e w' => e = .returned (.bool (rightN x.n)) ∧ Old w w' := by
  obtain ⟨⟨op, name, vk, vn, vt, vs, kids⟩, A, c, vA, vc⟩ := x
  simp only at h
  subst h
  have hem := tl_empty name
  rcases stages (vk = 0) (vn = 0) vt vs kids 0 with a | ⟨a, b⟩ | ⟨a, b, d⟩ | ⟨a, b, d, e⟩ | ⟨a, b, d, e, f⟩ | ⟨a, b, d, e, f⟩
  · have a2 := bnt a
    have hy : rightN ⟨4, name, vk, vn, vt, vs, kids⟩ = false := by simp_all [rightN]
    simp only [hy]
    clear hy hem
    unfold ndC iv
    simp only
    go_enter Tryz.func22, Tryz.ntmps22
    go_wp2
    all_goals
      go_ret
      exact ⟨rfl, by first | exact ((Kp.refl _ _).alloc _) | exact ((Kp.refl _ _).alloc _).alloc _ | exact (((Kp.refl _ _).alloc _).alloc _).alloc _⟩
  · have a2 := bnf a
    have b2 := bnt b
    have hy : rightN ⟨4, name, vk, vn, vt, vs, kids⟩ = false := by simp_all [rightN]
    simp only [hy]
    clear hy hem
    unfold ndC iv
    simp only
    go_enter Tryz.func22, Tryz.ntmps22
    go_wp2
    all_goals
      go_ret
      exact ⟨rfl, by first | exact ((Kp.refl _ _).alloc _) | exact ((Kp.refl _ _).alloc _).alloc _ | exact (((Kp.refl _ _).alloc _).alloc _).alloc _⟩
  · have a2 := bnf a
    have b2 := bnf b
    have hy : rightN ⟨4, name, vk, vn, vt, vs, kids⟩ = false := by simp_all [rightN, tl_size]
    simp only [hy]
    clear hy hem
    unfold ndC iv
    simp only
    go_enter Tryz.func22, Tryz.ntmps22
    go_wp2
    all_goals
      go_ret
      exact ⟨rfl, by first | exact ((Kp.refl _ _).alloc _) | exact ((Kp.refl _ _).alloc _).alloc _ | exact (((Kp.refl _ _).alloc _).alloc _).alloc _⟩
  · have a2 := bnf a
    have b2 := bnf b
    have hy : rightN ⟨4, name, vk, vn, vt, vs, kids⟩ = false := by simp_all [rightN, tl_size, List.length_pos_iff]
    simp only [hy]
    clear hy hem
    unfold ndC iv
    simp only
    go_enter Tryz.func22, Tryz.ntmps22
    go_wp2
    all_goals
      go_ret
      exact ⟨rfl, by first | exact ((Kp.refl _ _).alloc _) | exact ((Kp.refl _ _).alloc _).alloc _ | exact (((Kp.refl _ _).alloc _).alloc _).alloc _⟩
  · have a2 := bnf a
    have b2 := bnf b
    subst e
    have f1 : (kids.length : Int) ≠ 0 := bne_iff_ne.1 f
    have f2 : ¬ kids.length = 0 := fun e => f1 (by omega)
    clear f1
    have hy : rightN ⟨4, name, vk, vn, vt, [], kids⟩ = false := by simp_all [rightN, tl_size]
    simp only [hy]
    clear hy hem
    unfold ndC iv
    simp only
    go_enter Tryz.func22, Tryz.ntmps22
    go_wp2
    all_goals
      go_ret
      exact ⟨rfl, by first | exact ((Kp.refl _ _).alloc _) | exact ((Kp.refl _ _).alloc _).alloc _ | exact (((Kp.refl _ _).alloc _).alloc _).alloc _⟩
  · have a2 := bnf a
    have b2 := bnf b
    subst e
    have f1 : (kids.length : Int) = 0 := by simpa using f
    have f2 : kids.length = 0 := by omega
    have hy : rightN ⟨4, name, vk, vn, vt, [], kids⟩ = name.toList.isEmpty := by simp_all [rightN, tl_size]
    simp only [hy]
    clear hy hem
    unfold ndC iv
    simp only
    go_enter Tryz.func22, Tryz.ntmps22
    go_wp2
    go_ret
    exact ⟨rfl, by first | exact ((Kp.refl _ _).alloc _) | exact ((Kp.refl _ _).alloc _).alloc _ | exact (((Kp.refl _ _).alloc _).alloc _).alloc _⟩
set_option maxRecDepth 100000 in
set_option maxHeartbeats 3200000 in
theorem right29 (w : World) (x : MNd) (h : x.n.op = 29) : Calls Tryz.prog 22 #[.agg (ndC x).toArray] w fun e w' => e = .returned (.bool (rightN x.n)) ∧ Old w w' := by
  obtain ⟨⟨op, name, vk, vn, vt, vs, kids⟩, A, c, vA, vc⟩ := x
  simp only at h
  subst h
  have hem := tl_empty name
  rcases stages (vk = 0) (vn = 0) vt vs kids 0 with a | ⟨a, b⟩ | ⟨a, b, d⟩ | ⟨a, b, d, e⟩ | ⟨a, b, d, e, f⟩ | ⟨a, b, d, e, f⟩
  · have a2 := bnt a
    have hy : rightN ⟨29, name, vk, vn, vt, vs, kids⟩ = false := by simp_all [rightN]
    simp only [hy]
    clear hy hem
    unfold ndC iv
    simp only
    go_enter Tryz.func22, Tryz.ntmps22
    go_wp2
    all_goals
      go_ret
      exact ⟨rfl, by first | exact ((Kp.refl _ _).alloc _) | exact ((Kp.refl _ _).alloc _).alloc _ | exact (((Kp.refl _ _).alloc _).alloc _).alloc _⟩
  · have a2 := bnf a
    have b2 := bnt b
    have hy : rightN ⟨29, name, vk, vn, vt, vs, kids⟩ = false := by simp_all [rightN]
    simp only [hy]
    clear hy hem
    unfold ndC iv
    simp only
    go_enter Tryz.func22, Tryz.ntmps22
    go_wp2
    all_goals
      go_ret
      exact ⟨rfl, by first | exact ((Kp.refl _ _).alloc _) | exact ((Kp.refl _ _).alloc _).alloc _ | exact (((Kp.refl _ _).alloc _).alloc _).alloc _⟩
  · have a2 := bnf a
    have b2 := bnf b
    have hy : rightN ⟨29, name, vk, vn, vt, vs, kids⟩ = false := by simp_all [rightN, tl_size]
    simp only [hy]
    clear hy hem
    unfold ndC iv
    simp only
    go_enter Tryz.func22, Tryz.ntmps22
    go_wp2
    all_goals
      go_ret
      exact ⟨rfl, by first | exact ((Kp.refl _ _).alloc _) | exact ((Kp.refl _ _).alloc _).alloc _ | exact (((Kp.refl _ _).alloc _).alloc _).alloc _⟩
  · have a2 := bnf a
    have b2 := bnf b
    have hy : rightN ⟨29, name, vk, vn, vt, vs, kids⟩ = false := by simp_all [rightN, tl_size, List.length_pos_iff]
    simp only [hy]
    clear hy hem
    unfold ndC iv
    simp only
    go_enter Tryz.func22, Tryz.ntmps22
    go_wp2
    all_goals
      go_ret
      exact ⟨rfl, by first | exact ((Kp.refl _ _).alloc _) | exact ((Kp.refl _ _).alloc _).alloc _ | exact (((Kp.refl _ _).alloc _).alloc _).alloc _⟩
  · have a2 := bnf a
    have b2 := bnf b
    subst e
    have f1 : (kids.length : Int) ≠ 0 := bne_iff_ne.1 f
    have f2 : ¬ kids.length = 0 := fun e => f1 (by omega)
    clear f1
    have hy : rightN ⟨29, name, vk, vn, vt, [], kids⟩ = false := by simp_all [rightN, tl_size]
    simp only [hy]
    clear hy hem
    unfold ndC iv
    simp only
    go_enter Tryz.func22, Tryz.ntmps22
    go_wp2
    all_goals
      go_ret
      exact ⟨rfl, by first | exact ((Kp.refl _ _).alloc _) | exact ((Kp.refl _ _).alloc _).alloc _ | exact (((Kp.refl _ _).alloc _).alloc _).alloc _⟩
  · have a2 := bnf a
    have b2 := bnf b
    subst e
    have f1 : (kids.length : Int) = 0 := by simpa using f
    have f2 : kids.length = 0 := by omega
    have hy : rightN ⟨29, name, vk, vn, vt, [], kids⟩ = name.toList.isEmpty := by simp_all [rightN, tl_size]
    simp only [hy]
    clear hy hem
    unfold ndC iv
    simp only
    go_enter Tryz.func22, Tryz.ntmps22
    go_wp2
    go_ret
    exact ⟨rfl, by first | exact ((Kp.refl _ _).alloc _) | exact ((Kp.refl _ _).alloc _).alloc _ | exact (((Kp.refl _ _).alloc _).alloc _).alloc _⟩
set_option maxRecDepth 100000 in
set_option maxHeartbeats 3200000 in
theorem right30 (w : World) (x : MNd) (h : x.n.op = 30) : Calls Tryz.prog 22 #[.agg (ndC x).toArray] w fun e w' => e = .returned (.bool (rightN x.n)) ∧ Old w w' := by
  obtain ⟨⟨op, name, vk, vn, vt, vs, kids⟩, A, c, vA, vc⟩ := x
  simp only at h
  subst h
  have hem := tl_empty name
  rcases stages (vk = 0) (vn = 0) vt vs kids 0 with a | ⟨a, b⟩ | ⟨a, b, d⟩ | ⟨a, b, d, e⟩ | ⟨a, b, d, e, f⟩ | ⟨a, b, d, e, f⟩
  · have a2 := bnt a
    have hy : rightN ⟨30, name, vk, vn, vt, vs, kids⟩ = false := by simp_all [rightN]
    simp only [hy]
    clear hy hem
    unfold ndC iv
    simp only
    go_enter Tryz.func22, Tryz.ntmps22
    go_wp2
    all_goals
      go_ret
      exact ⟨rfl, by first | exact ((Kp.refl _ _).alloc _) | exact ((Kp.refl _ _).alloc _).alloc _ | exact (((Kp.refl _ _).alloc _).alloc _).alloc _⟩
  · have a2 := bnf a
    have b2 := bnt b
    have hy : rightN ⟨30, name, vk, vn, vt, vs, kids⟩ = false := by simp_all [rightN]
    simp only [hy]
    clear hy hem
    unfold ndC iv
    simp only
    go_enter Tryz.func22, Tryz.ntmps22
    go_wp2
    all_goals
      go_ret
      exact ⟨rfl, by first | exact ((Kp.refl _ _).alloc _) | exact ((Kp.refl _ _).alloc _).alloc _ | exact (((Kp.refl _ _).alloc _).alloc _).alloc _⟩
  · have a2 := bnf a
    have b2 := bnf b
    have hy : rightN ⟨30, name, vk, vn, vt, vs, kids⟩ = false := by simp_all [rightN, tl_size]
    simp only [hy]
    clear hy hem
    unfold ndC iv
    simp only
    go_enter Tryz.func22, Tryz.ntmps22
    go_wp2
    all_goals
      go_ret
      exact ⟨rfl, by first | exact ((Kp.refl _ _).alloc _) | exact ((Kp.refl _ _).alloc _).alloc _ | exact (((Kp.refl _ _).alloc _).alloc _).alloc _⟩
  · have a2 := bnf a
    have b2 := bnf b
    have hy : rightN ⟨30, name, vk, vn, vt, vs, kids⟩ = false := by simp_all [rightN, tl_size, List.length_pos_iff]
    simp only [hy]
    clear hy hem
    unfold ndC iv
    simp only
    go_enter Tryz.func22, Tryz.ntmps22
    go_wp2
    all_goals
      go_ret
      exact ⟨rfl, by first | exact ((Kp.refl _ _).alloc _) | exact ((Kp.refl _ _).alloc _).alloc _ | exact (((Kp.refl _ _).alloc _).alloc _).alloc _⟩
  · have a2 := bnf a
    have b2 := bnf b
    subst e
    have f1 : (kids.length : Int) ≠ 0 := bne_iff_ne.1 f
    have f2 : ¬ kids.length = 0 := fun e => f1 (by omega)
    clear f1
    have hy : rightN ⟨30, name, vk, vn, vt, [], kids⟩ = false := by simp_all [rightN, tl_size]
    simp only [hy]
    clear hy hem
    unfold ndC iv
    simp only
    go_enter Tryz.func22, Tryz.ntmps22
    go_wp2
    all_goals
      go_ret
      exact ⟨rfl, by first | exact ((Kp.refl _ _).alloc _) | exact ((Kp.refl _ _).alloc _).alloc _ | exact (((Kp.refl _ _).alloc _).alloc _).alloc _⟩
  · have a2 := bnf a
    have b2 := bnf b
    subst e
    have f1 : (kids.length : Int) = 0 := by simpa using f
    have f2 : kids.length = 0 := by omega
    have hy : rightN ⟨30, name, vk, vn, vt, [], kids⟩ = name.toList.isEmpty := by simp_all [rightN, tl_size]
    simp only [hy]
    clear hy hem
    unfold ndC iv
    simp only
    go_enter Tryz.func22, Tryz.ntmps22
    go_wp2
    go_ret
    exact ⟨rfl, by first | exact ((Kp.refl _ _).alloc _) | exact ((Kp.refl _ _).alloc _).alloc _ | exact (((Kp.refl _ _).alloc _).alloc _).alloc _⟩
set_option maxRecDepth 100000 in
set_option maxHeartbeats 3200000 in
theorem right8 (w : World) (x : MNd) (h : x.n.op = 8) : Calls Tryz.prog 22 #[.agg (ndC x).toArray] w fun e w' => e = .returned (.bool (rightN x.n)) ∧ Old w w' := by
  obtain ⟨⟨op, name, vk, vn, vt, vs, kids⟩, A, c, vA, vc⟩ := x
  simp only at h
  subst h
  have hem := tl_empty name
  rcases stages (vk = 0) (vn = 0) vt vs kids 1 with a | ⟨a, b⟩ | ⟨a, b, d⟩ | ⟨a, b, d, e⟩ | ⟨a, b, d, e, f⟩ | ⟨a, b, d, e, f⟩
  · have a2 := bnt a
    have hy : rightN ⟨8, name, vk, vn, vt, vs, kids⟩ = false := by simp_all [rightN]
    simp only [hy]
    clear hy hem
    unfold ndC iv
    simp only
    go_enter Tryz.func22, Tryz.ntmps22
    go_wp2
    all_goals
      go_ret
      exact ⟨rfl, by first | exact ((Kp.refl _ _).alloc _) | exact ((Kp.refl _ _).alloc _).alloc _ | exact (((Kp.refl _ _).alloc _).alloc _).alloc _⟩
  · have a2 := bnf a
    have b2 := bnt b
    have hy : rightN ⟨8, name, vk, vn, vt, vs, kids⟩ = false := by simp_all [rightN]
    simp only [hy]
    clear hy hem
    unfold ndC iv
    simp only
    go_enter Tryz.func22, Tryz.ntmps22
    go_wp2
    all_goals
      go_ret
      exact ⟨rfl, by first | exact ((Kp.refl _ _).alloc _) | exact ((Kp.refl _ _).alloc _).alloc _ | exact (((Kp.refl _ _).alloc _).alloc _).alloc _⟩
  · have a2 := bnf a
    have b2 := bnf b
    have hy : rightN ⟨8, name, vk, vn, vt, vs, kids⟩ = false := by simp_all [rightN, tl_size]
    simp only [hy]
    clear hy hem
    unfold ndC iv
    simp only
    go_enter Tryz.func22, Tryz.ntmps22
    go_wp2
    all_goals
      go_ret
      exact ⟨rfl, by first | exact ((Kp.refl _ _).alloc _) | exact ((Kp.refl _ _).alloc _).alloc _ | exact (((Kp.refl _ _).alloc _).alloc _).alloc _⟩
  · have a2 := bnf a
    have b2 := bnf b
    have hy : rightN ⟨8, name, vk, vn, vt, vs, kids⟩ = false := by simp_all [rightN, tl_size, List.length_pos_iff]
    simp only [hy]
    clear hy hem
    unfold ndC iv
    simp only
    go_enter Tryz.func22, Tryz.ntmps22
    go_wp2
    all_goals
      go_ret
      exact ⟨rfl, by first | exact ((Kp.refl _ _).alloc _) | exact ((Kp.refl _ _).alloc _).alloc _ | exact (((Kp.refl _ _).alloc _).alloc _).alloc _⟩
  · have a2 := bnf a
    have b2 := bnf b
    subst e
    have f1 : (kids.length : Int) ≠ 1 := bne_iff_ne.1 f
    have f2 : ¬ kids.length = 1 := fun e => f1 (by omega)
    clear f1
    have hy : rightN ⟨8, name, vk, vn, vt, [], kids⟩ = false := by simp_all [rightN, tl_size]
    simp only [hy]
    clear hy hem
    unfold ndC iv
    simp only
    go_enter Tryz.func22, Tryz.ntmps22
    go_wp2
    all_goals
      go_ret
      exact ⟨rfl, by first | exact ((Kp.refl _ _).alloc _) | exact ((Kp.refl _ _).alloc _).alloc _ | exact (((Kp.refl _ _).alloc _).alloc _).alloc _⟩
  · have a2 := bnf a
    have b2 := bnf b
    subst e
    have f1 : (kids.length : Int) = 1 := by simpa using f
    have f2 : kids.length = 1 := by omega
    have hy : rightN ⟨8, name, vk, vn, vt, [], kids⟩ = name.toList.isEmpty := by simp_all [rightN, tl_size]
    simp only [hy]
    clear hy hem
    unfold ndC iv
    simp only
    go_enter Tryz.func22, Tryz.ntmps22
    go_wp2
    go_ret
    exact ⟨rfl, by first | exact ((Kp.refl _ _).alloc _) | exact ((Kp.refl _ _).alloc _).alloc _ | exact (((Kp.refl _ _).alloc _).alloc _).alloc _⟩
set_option maxRecDepth 100000 in
set_option maxHeartbeats 3200000 in
theorem right27 (w : World) (x : MNd) (h : x.n.op = 27) : Calls Tryz.prog 22 #[.agg (ndC x).toArray] w fun e w' => e = .returned (.bool (rightN x.n)) ∧ Old w w' := by
  obtain ⟨⟨op, name, vk, vn, vt, vs, kids⟩, A, c, vA, vc⟩ := x
  simp only at h
  subst h
  have hem := tl_empty name
  rcases stages (vk = 0) (vn = 0) vt vs kids 1 with a | ⟨a, b⟩ | ⟨a, b, d⟩ | ⟨a, b, d, e⟩ | ⟨a, b, d, e, f⟩ | ⟨a, b, d, e, f⟩
  · have a2 := bnt a
    have hy : rightN ⟨27, name, vk, vn, vt, vs, kids⟩ = false := by simp_all [rightN]
    simp only [hy]
    clear hy hem
    unfold ndC iv
    simp only
    go_enter Tryz.func22, Tryz.ntmps22
    go_wp2
    all_goals
      go_ret
      exact ⟨rfl, by first | exact ((Kp.refl _ _).alloc _) | exact ((Kp.refl _ _).alloc _).alloc _ | exact (((Kp.refl _ _).alloc _).alloc _).alloc _⟩
  · have a2 := bnf a
    have b2 := bnt b
    have hy : rightN ⟨27, name, vk, vn, vt, vs, kids⟩ = false := by simp_all [rightN]
    simp only [hy]
    clear hy hem
    unfold ndC iv
    simp only
    go_enter Tryz.func22, Tryz.ntmps22
    go_wp2
    all_goals
      go_ret
      exact ⟨rfl, by first | exact ((Kp.refl _ _).alloc _) | exact ((Kp.refl _ _).alloc _).alloc _ | exact (((Kp.refl _ _).alloc _).alloc _).alloc _⟩
  · have a2 := bnf a
    have b2 := bnf b
    have hy : rightN ⟨27, name, vk, vn, vt, vs, kids⟩ = false := by simp_all [rightN, tl_size]
    simp only [hy]
    clear hy hem
    unfold ndC iv
    simp only
    go_enter Tryz.func22, Tryz.ntmps22
    go_wp2
    all_goals
      go_ret
      exact ⟨rfl, by first | exact ((Kp.refl _ _).alloc _) | exact ((Kp.refl _ _).alloc _).alloc _ | exact (((Kp.refl _ _).alloc _).alloc _).alloc _⟩
  · have a2 := bnf a
    have b2 := bnf b
    have hy : rightN ⟨27, name, vk, vn, vt, vs, kids⟩ = false := by simp_all [rightN, tl_size, List.length_pos_iff]
    simp only [hy]
    clear hy hem
    unfold ndC iv
    simp only
    go_enter Tryz.func22, Tryz.ntmps22
    go_wp2
    all_goals
      go_ret
      exact ⟨rfl, by first | exact ((Kp.refl _ _).alloc _) | exact ((Kp.refl _ _).alloc _).alloc _ | exact (((Kp.refl _ _).alloc _).alloc _).alloc _⟩
  · have a2 := bnf a
    have b2 := bnf b
    subst e
    have f1 : (kids.length : Int) ≠ 1 := bne_iff_ne.1 f
    have f2 : ¬ kids.length = 1 := fun e => f1 (by omega)
    clear f1
    have hy : rightN ⟨27, name, vk, vn, vt, [], kids⟩ = false := by simp_all [rightN, tl_size]
    simp only [hy]
    clear hy hem
    unfold ndC iv
    simp only
    go_enter Tryz.func22, Tryz.ntmps22
    go_wp2
    all_goals
      go_ret
      exact ⟨rfl, by first | exact ((Kp.refl _ _).alloc _) | exact ((Kp.refl _ _).alloc _).alloc _ | exact (((Kp.refl _ _).alloc _).alloc _).alloc _⟩
  · have a2 := bnf a
    have b2 := bnf b
    subst e
    have f1 : (kids.length : Int) = 1 := by simpa using f
    have f2 : kids.length = 1 := by omega
    have hy : rightN ⟨27, name, vk, vn, vt, [], kids⟩ = name.toList.isEmpty := by simp_all [rightN, tl_size]
    simp only [hy]
    clear hy hem
    unfold ndC iv
    simp only
    go_enter Tryz.func22, Tryz.ntmps22
    go_wp2
    go_ret
    exact ⟨rfl, by first | exact ((Kp.refl _ _).alloc _) | exact ((Kp.refl _ _).alloc _).alloc _ | exact (((Kp.refl _ _).alloc _).alloc _).alloc _⟩
end Go.Proofs.YtmmjcbbogokmfaaGreatDoor
