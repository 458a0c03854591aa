import Derived.Test.YtmmjcbbogokmfaaGreatDoorMt01
import Derived.Test.YtmmjcbbogokmfaaGreatDoorMt21
import Derived.Test.YtmmjcbbogokmfaaGreatDoorMt25
set_option maxRecDepth 100000
set_option maxHeartbeats 25600000
namespace Go.Proofs.YtmmjcbbogokmfaaGreatDoor
open Go.RowKit
theorem right24 (w : World) (hg : Sg w) (x : MNd) (h : x.n.op = 24) : Calls Tryz.prog 22 #[.agg (ndC x).toArray] w fun e w' => e = .returned (.bool (jB x.n)) /\ Old w w' := by
  obtain ⟨⟨op, name, vk, vn, vt, vs, kids⟩, A, c, vA, vc⟩ := x
  simp only at h
  subst h
  have hem := jw name
  rcases stages (vk = 0) (vn = 0) vt vs kids 0 with a | ⟨a, b⟩ | ⟨a, b, d⟩ | ⟨a, b, d, e⟩ | ⟨a, b, d, e, f⟩ | ⟨a, b, d, e, f⟩
  · have a2 := bnt a
    have hy : jB ⟨24, name, vk, vn, vt, vs, kids⟩ = false := by simp_all [jB]
    simp only [hy]
    clear hy hem
    unfold ndC iv
    simp only
    go_enter Tryz.func22, Tryz.ntmps22
    go_wp2
    all_goals
      go_ret
      exact ⟨rfl, by first | exact ((Kp.refl _ _).alloc _) | exact ((Kp.refl _ _).alloc _).alloc _ | exact (((Kp.refl _ _).alloc _).alloc _).alloc _⟩
  · have a2 := bnf a
    have b2 := bnt b
    have hy : jB ⟨24, name, vk, vn, vt, vs, kids⟩ = false := by simp_all [jB]
    simp only [hy]
    clear hy hem
    unfold ndC iv
    simp only
    go_enter Tryz.func22, Tryz.ntmps22
    go_wp2
    all_goals
      go_ret
      exact ⟨rfl, by first | exact ((Kp.refl _ _).alloc _) | exact ((Kp.refl _ _).alloc _).alloc _ | exact (((Kp.refl _ _).alloc _).alloc _).alloc _⟩
  · have a2 := bnf a
    have b2 := bnf b
    have hy : jB ⟨24, name, vk, vn, vt, vs, kids⟩ = false := by simp_all [jB, tl_size]
    simp only [hy]
    clear hy hem
    unfold ndC iv
    simp only
    go_enter Tryz.func22, Tryz.ntmps22
    go_wp2
    all_goals
      go_ret
      exact ⟨rfl, by first | exact ((Kp.refl _ _).alloc _) | exact ((Kp.refl _ _).alloc _).alloc _ | exact (((Kp.refl _ _).alloc _).alloc _).alloc _⟩
  · have a2 := bnf a
    have b2 := bnf b
    have hy : jB ⟨24, name, vk, vn, vt, vs, kids⟩ = false := by simp_all [jB, tl_size, List.length_pos_iff]
    simp only [hy]
    clear hy hem
    unfold ndC iv
    simp only
    go_enter Tryz.func22, Tryz.ntmps22
    go_wp2
    all_goals
      go_ret
      exact ⟨rfl, by first | exact ((Kp.refl _ _).alloc _) | exact ((Kp.refl _ _).alloc _).alloc _ | exact (((Kp.refl _ _).alloc _).alloc _).alloc _⟩
  · have a2 := bnf a
    have b2 := bnf b
    subst e
    have f1 : (kids.length : Int) ≠ 0 := bne_iff_ne.1 f
    have f2 : ¬ kids.length = 0 := fun e => f1 (by omega)
    clear f1
    have hy : jB ⟨24, name, vk, vn, vt, [], kids⟩ = false := by simp_all [jB, tl_size]
    simp only [hy]
    clear hy hem
    unfold ndC iv
    simp only
    go_enter Tryz.func22, Tryz.ntmps22
    go_wp2
    all_goals
      go_ret
      exact ⟨rfl, by first | exact ((Kp.refl _ _).alloc _) | exact ((Kp.refl _ _).alloc _).alloc _ | exact (((Kp.refl _ _).alloc _).alloc _).alloc _⟩
  · have a2 := bnf a
    have b2 := bnf b
    subst e
    have f1 : (kids.length : Int) = 0 := by simpa using f
    have f2 : kids.length = 0 := by omega
    have hy : jB ⟨24, name, vk, vn, vt, [], kids⟩ = jq (sb name) := by simp_all [jB, tl_size, vJ, tb, sb]
    simp only [hy]
    have HL := jJ0 (fun W (hO : Old w W) => kJ W (hg.old hO) name)
    clear hy hem hg
    unfold ndC iv
    simp only
    cases hlg : jq (sb name)
    all_goals
      rw [hlg] at HL
      go_enter Tryz.func22, Tryz.ntmps22
      go_wp2_with (first | (go_at_call 20; refine (HL.out _ (by first | exact ((Kp.refl _ _).alloc _) | exact ((Kp.refl _ _).alloc _).alloc _ | exact (((Kp.refl _ _).alloc _).alloc _).alloc _)).mono ?_; rintro e w1 ⟨rfl, rfl⟩) | fail)
      go_ret
      exact ⟨rfl, by first | exact ((Kp.refl _ _).alloc _) | exact ((Kp.refl _ _).alloc _).alloc _ | exact (((Kp.refl _ _).alloc _).alloc _).alloc _⟩
theorem right25 (w : World) (hg : Sg w) (x : MNd) (h : x.n.op = 25) : Calls Tryz.prog 22 #[.agg (ndC x).toArray] w fun e w' => e = .returned (.bool (jB x.n)) /\ Old w w' := by
  obtain ⟨⟨op, name, vk, vn, vt, vs, kids⟩, A, c, vA, vc⟩ := x
  simp only at h
  subst h
  have hem := jw name
  rcases stages (vk = 0) (vn = 0) vt vs kids 0 with a | ⟨a, b⟩ | ⟨a, b, d⟩ | ⟨a, b, d, e⟩ | ⟨a, b, d, e, f⟩ | ⟨a, b, d, e, f⟩
  · have a2 := bnt a
    have hy : jB ⟨25, name, vk, vn, vt, vs, kids⟩ = false := by simp_all [jB]
    simp only [hy]
    clear hy hem
    unfold ndC iv
    simp only
    go_enter Tryz.func22, Tryz.ntmps22
    go_wp2
    all_goals
      go_ret
      exact ⟨rfl, by first | exact ((Kp.refl _ _).alloc _) | exact ((Kp.refl _ _).alloc _).alloc _ | exact (((Kp.refl _ _).alloc _).alloc _).alloc _⟩
  · have a2 := bnf a
    have b2 := bnt b
    have hy : jB ⟨25, name, vk, vn, vt, vs, kids⟩ = false := by simp_all [jB]
    simp only [hy]
    clear hy hem
    unfold ndC iv
    simp only
    go_enter Tryz.func22, Tryz.ntmps22
    go_wp2
    all_goals
      go_ret
      exact ⟨rfl, by first | exact ((Kp.refl _ _).alloc _) | exact ((Kp.refl _ _).alloc _).alloc _ | exact (((Kp.refl _ _).alloc _).alloc _).alloc _⟩
  · have a2 := bnf a
    have b2 := bnf b
    have hy : jB ⟨25, name, vk, vn, vt, vs, kids⟩ = false := by simp_all [jB, tl_size]
    simp only [hy]
    clear hy hem
    unfold ndC iv
    simp only
    go_enter Tryz.func22, Tryz.ntmps22
    go_wp2
    all_goals
      go_ret
      exact ⟨rfl, by first | exact ((Kp.refl _ _).alloc _) | exact ((Kp.refl _ _).alloc _).alloc _ | exact (((Kp.refl _ _).alloc _).alloc _).alloc _⟩
  · have a2 := bnf a
    have b2 := bnf b
    have hy : jB ⟨25, name, vk, vn, vt, vs, kids⟩ = false := by simp_all [jB, tl_size, List.length_pos_iff]
    simp only [hy]
    clear hy hem
    unfold ndC iv
    simp only
    go_enter Tryz.func22, Tryz.ntmps22
    go_wp2
    all_goals
      go_ret
      exact ⟨rfl, by first | exact ((Kp.refl _ _).alloc _) | exact ((Kp.refl _ _).alloc _).alloc _ | exact (((Kp.refl _ _).alloc _).alloc _).alloc _⟩
  · have a2 := bnf a
    have b2 := bnf b
    subst e
    have f1 : (kids.length : Int) ≠ 0 := bne_iff_ne.1 f
    have f2 : ¬ kids.length = 0 := fun e => f1 (by omega)
    clear f1
    have hy : jB ⟨25, name, vk, vn, vt, [], kids⟩ = false := by simp_all [jB, tl_size]
    simp only [hy]
    clear hy hem
    unfold ndC iv
    simp only
    go_enter Tryz.func22, Tryz.ntmps22
    go_wp2
    all_goals
      go_ret
      exact ⟨rfl, by first | exact ((Kp.refl _ _).alloc _) | exact ((Kp.refl _ _).alloc _).alloc _ | exact (((Kp.refl _ _).alloc _).alloc _).alloc _⟩
  · have a2 := bnf a
    have b2 := bnf b
    subst e
    have f1 : (kids.length : Int) = 0 := by simpa using f
    have f2 : kids.length = 0 := by omega
    have hy : jB ⟨25, name, vk, vn, vt, [], kids⟩ = jq (sb name) := by simp_all [jB, tl_size, vJ, tb, sb]
    simp only [hy]
    have HL := jJ0 (fun W (hO : Old w W) => kJ W (hg.old hO) name)
    clear hy hem hg
    unfold ndC iv
    simp only
    cases hlg : jq (sb name)
    all_goals
      rw [hlg] at HL
      go_enter Tryz.func22, Tryz.ntmps22
      go_wp2_with (first | (go_at_call 20; refine (HL.out _ (by first | exact ((Kp.refl _ _).alloc _) | exact ((Kp.refl _ _).alloc _).alloc _ | exact (((Kp.refl _ _).alloc _).alloc _).alloc _)).mono ?_; rintro e w1 ⟨rfl, rfl⟩) | fail)
      go_ret
      exact ⟨rfl, by first | exact ((Kp.refl _ _).alloc _) | exact ((Kp.refl _ _).alloc _).alloc _ | exact (((Kp.refl _ _).alloc _).alloc _).alloc _⟩
theorem right26 (w : World) (hg : Sg w) (x : MNd) (h : x.n.op = 26) : Calls Tryz.prog 22 #[.agg (ndC x).toArray] w fun e w' => e = .returned (.bool (jB x.n)) /\ Old w w' := by
  obtain ⟨⟨op, name, vk, vn, vt, vs, kids⟩, A, c, vA, vc⟩ := x
  simp only at h
  subst h
  have hem := jw name
  rcases stages (vk = 0) (vn = 0) vt vs kids 0 with a | ⟨a, b⟩ | ⟨a, b, d⟩ | ⟨a, b, d, e⟩ | ⟨a, b, d, e, f⟩ | ⟨a, b, d, e, f⟩
  · have a2 := bnt a
    have hy : jB ⟨26, name, vk, vn, vt, vs, kids⟩ = false := by simp_all [jB]
    simp only [hy]
    clear hy hem
    unfold ndC iv
    simp only
    go_enter Tryz.func22, Tryz.ntmps22
    go_wp2
    all_goals
      go_ret
      exact ⟨rfl, by first | exact ((Kp.refl _ _).alloc _) | exact ((Kp.refl _ _).alloc _).alloc _ | exact (((Kp.refl _ _).alloc _).alloc _).alloc _⟩
  · have a2 := bnf a
    have b2 := bnt b
    have hy : jB ⟨26, name, vk, vn, vt, vs, kids⟩ = false := by simp_all [jB]
    simp only [hy]
    clear hy hem
    unfold ndC iv
    simp only
    go_enter Tryz.func22, Tryz.ntmps22
    go_wp2
    all_goals
      go_ret
      exact ⟨rfl, by first | exact ((Kp.refl _ _).alloc _) | exact ((Kp.refl _ _).alloc _).alloc _ | exact (((Kp.refl _ _).alloc _).alloc _).alloc _⟩
  · have a2 := bnf a
    have b2 := bnf b
    have hy : jB ⟨26, name, vk, vn, vt, vs, kids⟩ = false := by simp_all [jB, tl_size]
    simp only [hy]
    clear hy hem
    unfold ndC iv
    simp only
    go_enter Tryz.func22, Tryz.ntmps22
    go_wp2
    all_goals
      go_ret
      exact ⟨rfl, by first | exact ((Kp.refl _ _).alloc _) | exact ((Kp.refl _ _).alloc _).alloc _ | exact (((Kp.refl _ _).alloc _).alloc _).alloc _⟩
  · have a2 := bnf a
    have b2 := bnf b
    have hy : jB ⟨26, name, vk, vn, vt, vs, kids⟩ = false := by simp_all [jB, tl_size, List.length_pos_iff]
    simp only [hy]
    clear hy hem
    unfold ndC iv
    simp only
    go_enter Tryz.func22, Tryz.ntmps22
    go_wp2
    all_goals
      go_ret
      exact ⟨rfl, by first | exact ((Kp.refl _ _).alloc _) | exact ((Kp.refl _ _).alloc _).alloc _ | exact (((Kp.refl _ _).alloc _).alloc _).alloc _⟩
  · have a2 := bnf a
    have b2 := bnf b
    subst e
    have f1 : (kids.length : Int) ≠ 0 := bne_iff_ne.1 f
    have f2 : ¬ kids.length = 0 := fun e => f1 (by omega)
    clear f1
    have hy : jB ⟨26, name, vk, vn, vt, [], kids⟩ = false := by simp_all [jB, tl_size]
    simp only [hy]
    clear hy hem
    unfold ndC iv
    simp only
    go_enter Tryz.func22, Tryz.ntmps22
    go_wp2
    all_goals
      go_ret
      exact ⟨rfl, by first | exact ((Kp.refl _ _).alloc _) | exact ((Kp.refl _ _).alloc _).alloc _ | exact (((Kp.refl _ _).alloc _).alloc _).alloc _⟩
  · have a2 := bnf a
    have b2 := bnf b
    subst e
    have f1 : (kids.length : Int) = 0 := by simpa using f
    have f2 : kids.length = 0 := by omega
    have hy : jB ⟨26, name, vk, vn, vt, [], kids⟩ = jq (sb name) := by simp_all [jB, tl_size, vJ, tb, sb]
    simp only [hy]
    have HL := jJ0 (fun W (hO : Old w W) => kJ W (hg.old hO) name)
    clear hy hem hg
    unfold ndC iv
    simp only
    cases hlg : jq (sb name)
    all_goals
      rw [hlg] at HL
      go_enter Tryz.func22, Tryz.ntmps22
      go_wp2_with (first | (go_at_call 20; refine (HL.out _ (by first | exact ((Kp.refl _ _).alloc _) | exact ((Kp.refl _ _).alloc _).alloc _ | exact (((Kp.refl _ _).alloc _).alloc _).alloc _)).mono ?_; rintro e w1 ⟨rfl, rfl⟩) | fail)
      go_ret
      exact ⟨rfl, by first | exact ((Kp.refl _ _).alloc _) | exact ((Kp.refl _ _).alloc _).alloc _ | exact (((Kp.refl _ _).alloc _).alloc _).alloc _⟩
theorem right23 (w : World) (x : MNd) (h : x.n.op = 23) : Calls Tryz.prog 22 #[.agg (ndC x).toArray] w fun e w' => e = .returned (.bool (jB x.n)) /\ Old w w' := by
  obtain ⟨⟨op, name, vk, vn, vt, vs, kids⟩, A, c, vA, vc⟩ := x
  simp only at h
  subst h
  have hem := jw name
  rcases stages (vk = 0) (vn = 0) vt vs kids 3 with a | ⟨a, b⟩ | ⟨a, b, d⟩ | ⟨a, b, d, e⟩ | ⟨a, b, d, e, f⟩ | ⟨a, b, d, e, f⟩
  · have a2 := bnt a
    have hy : jB ⟨23, name, vk, vn, vt, vs, kids⟩ = false := by simp_all [jB]
    simp only [hy]
    clear hy hem
    unfold ndC iv
    simp only
    go_enter Tryz.func22, Tryz.ntmps22
    go_wp2
    all_goals
      go_ret
      exact ⟨rfl, by first | exact ((Kp.refl _ _).alloc _) | exact ((Kp.refl _ _).alloc _).alloc _ | exact (((Kp.refl _ _).alloc _).alloc _).alloc _⟩
  · have a2 := bnf a
    have b2 := bnt b
    have hy : jB ⟨23, name, vk, vn, vt, vs, kids⟩ = false := by simp_all [jB]
    simp only [hy]
    clear hy hem
    unfold ndC iv
    simp only
    go_enter Tryz.func22, Tryz.ntmps22
    go_wp2
    all_goals
      go_ret
      exact ⟨rfl, by first | exact ((Kp.refl _ _).alloc _) | exact ((Kp.refl _ _).alloc _).alloc _ | exact (((Kp.refl _ _).alloc _).alloc _).alloc _⟩
  · have a2 := bnf a
    have b2 := bnf b
    have hy : jB ⟨23, name, vk, vn, vt, vs, kids⟩ = false := by simp_all [jB, tl_size]
    simp only [hy]
    clear hy hem
    unfold ndC iv
    simp only
    go_enter Tryz.func22, Tryz.ntmps22
    go_wp2
    all_goals
      go_ret
      exact ⟨rfl, by first | exact ((Kp.refl _ _).alloc _) | exact ((Kp.refl _ _).alloc _).alloc _ | exact (((Kp.refl _ _).alloc _).alloc _).alloc _⟩
  · have a2 := bnf a
    have b2 := bnf b
    have hy : jB ⟨23, name, vk, vn, vt, vs, kids⟩ = false := by simp_all [jB, tl_size, List.length_pos_iff]
    simp only [hy]
    clear hy hem
    unfold ndC iv
    simp only
    go_enter Tryz.func22, Tryz.ntmps22
    go_wp2
    all_goals
      go_ret
      exact ⟨rfl, by first | exact ((Kp.refl _ _).alloc _) | exact ((Kp.refl _ _).alloc _).alloc _ | exact (((Kp.refl _ _).alloc _).alloc _).alloc _⟩
  · have a2 := bnf a
    have b2 := bnf b
    subst e
    have f1 : (kids.length : Int) ≠ 3 := bne_iff_ne.1 f
    have f2 : ¬ kids.length = 3 := fun e => f1 (by omega)
    clear f1
    have hy : jB ⟨23, name, vk, vn, vt, [], kids⟩ = false := by simp_all [jB, tl_size]
    simp only [hy]
    clear hy hem
    unfold ndC iv
    simp only
    go_enter Tryz.func22, Tryz.ntmps22
    go_wp2
    all_goals
      go_ret
      exact ⟨rfl, by first | exact ((Kp.refl _ _).alloc _) | exact ((Kp.refl _ _).alloc _).alloc _ | exact (((Kp.refl _ _).alloc _).alloc _).alloc _⟩
  · have a2 := bnf a
    have b2 := bnf b
    subst e
    have f1 : (kids.length : Int) = 3 := by simpa using f
    have f2 : kids.length = 3 := by omega
    have hy : jB ⟨23, name, vk, vn, vt, [], kids⟩ = name.toList.isEmpty := by simp_all [jB, tl_size]
    simp only [hy]
    clear hy hem
    unfold ndC iv
    simp only
    go_enter Tryz.func22, Tryz.ntmps22
    go_wp2
    go_ret
    exact ⟨rfl, by first | exact ((Kp.refl _ _).alloc _) | exact ((Kp.refl _ _).alloc _).alloc _ | exact (((Kp.refl _ _).alloc _).alloc _).alloc _⟩
theorem and_one_i64 (E : Int) : bits BinOp.and IntKind.i64 E 1 = E % 2 := by
  have hb : (2 : Int) ^ IntKind.i64.bits = 18446744073709551616 := rfl
  have h1 : (1 % 2 ^ IntKind.i64.bits : Nat) = 1 := by decide
  unfold bits
  simp
  rw [h1, Nat.and_one_is_mod, hb, IntWalk.i64_in _ (by omega)]
  omega
theorem right1 (w : World) (x : MNd) (h : x.n.op = 1) : Calls Tryz.prog 22 #[.agg (ndC x).toArray] w fun e w' => e = .returned (.bool (jB x.n)) /\ Old w w' := by
  obtain ⟨⟨op, name, vk, vn, vt, vs, kids⟩, A, c, vA, vc⟩ := x
  simp only at h
  subst h
  have hem := jw name
  rcases stages (vk = 1) (0 <= vn) vt vs kids 0 with a | ⟨a, b⟩ | ⟨a, b, d⟩ | ⟨a, b, d, e⟩ | ⟨a, b, d, e, f⟩ | ⟨a, b, d, e, f⟩
  · have a2 := bnt a
    have hy : jB ⟨1, name, vk, vn, vt, vs, kids⟩ = false := by simp_all [jB]
    simp only [hy]
    clear hy hem
    unfold ndC iv
    simp only
    go_enter Tryz.func22, Tryz.ntmps22
    go_wp2
    all_goals
      go_ret
      exact ⟨rfl, by first | exact ((Kp.refl _ _).alloc _) | exact ((Kp.refl _ _).alloc _).alloc _ | exact (((Kp.refl _ _).alloc _).alloc _).alloc _⟩
  · have a2 := bnf a
    have b2 : vn < 0 := by omega
    have b3 : ¬ vn = 0 := by omega
    have hy : jB ⟨1, name, vk, vn, vt, vs, kids⟩ = false := by simp_all [jB]; omega
    simp only [hy]
    clear hy hem
    unfold ndC iv
    simp only
    go_enter Tryz.func22, Tryz.ntmps22
    go_wp2
    all_goals
      go_ret
      exact ⟨rfl, by first | exact ((Kp.refl _ _).alloc _) | exact ((Kp.refl _ _).alloc _).alloc _ | exact (((Kp.refl _ _).alloc _).alloc _).alloc _⟩
  · have a2 := bnf a
    have b2 : ¬ vn < 0 := by omega
    have hy : jB ⟨1, name, vk, vn, vt, vs, kids⟩ = false := by simp_all [jB, tl_size]
    simp only [hy]
    clear hy hem
    unfold ndC iv
    simp only
    go_enter Tryz.func22, Tryz.ntmps22
    go_wp2
    all_goals
      go_ret
      exact ⟨rfl, by first | exact ((Kp.refl _ _).alloc _) | exact ((Kp.refl _ _).alloc _).alloc _ | exact (((Kp.refl _ _).alloc _).alloc _).alloc _⟩
  · have a2 := bnf a
    have b2 : ¬ vn < 0 := by omega
    have hy : jB ⟨1, name, vk, vn, vt, vs, kids⟩ = false := by simp_all [jB, tl_size, List.length_pos_iff]
    simp only [hy]
    clear hy hem
    unfold ndC iv
    simp only
    go_enter Tryz.func22, Tryz.ntmps22
    go_wp2
    all_goals
      go_ret
      exact ⟨rfl, by first | exact ((Kp.refl _ _).alloc _) | exact ((Kp.refl _ _).alloc _).alloc _ | exact (((Kp.refl _ _).alloc _).alloc _).alloc _⟩
  · have a2 := bnf a
    have b2 : ¬ vn < 0 := by omega
    subst e
    have f1 : (kids.length : Int) ≠ 0 := bne_iff_ne.1 f
    have f2 : ¬ kids.length = 0 := fun e => f1 (by omega)
    clear f1
    have hy : jB ⟨1, name, vk, vn, vt, [], kids⟩ = false := by simp_all [jB, tl_size]
    simp only [hy]
    clear hy hem
    unfold ndC iv
    simp only
    go_enter Tryz.func22, Tryz.ntmps22
    go_wp2
    all_goals
      go_ret
      exact ⟨rfl, by first | exact ((Kp.refl _ _).alloc _) | exact ((Kp.refl _ _).alloc _).alloc _ | exact (((Kp.refl _ _).alloc _).alloc _).alloc _⟩
  · have a2 := bnf a
    have b2 : ¬ vn < 0 := by omega
    subst e
    have f1 : (kids.length : Int) = 0 := by simpa using f
    have f2 : kids.length = 0 := by omega
    clear f1
    have hy : jB ⟨1, name, vk, vn, vt, [], kids⟩ = name.toList.isEmpty := by simp_all [jB, tl_size]
    simp only [hy]
    clear hy hem
    unfold ndC iv
    simp only
    go_enter Tryz.func22, Tryz.ntmps22
    go_wp2
    go_ret
    exact ⟨rfl, by first | exact ((Kp.refl _ _).alloc _) | exact ((Kp.refl _ _).alloc _).alloc _ | exact (((Kp.refl _ _).alloc _).alloc _).alloc _⟩
theorem right3 (w : World) (x : MNd) (h : x.n.op = 3) : Calls Tryz.prog 22 #[.agg (ndC x).toArray] w fun e w' => e = .returned (.bool (jB x.n)) /\ Old w w' := by
  obtain ⟨⟨op, name, vk, vn, vt, vs, kids⟩, A, c, vA, vc⟩ := x
  simp only at h
  subst h
  have hem := jw name
  rcases stages (vk = 3) (vn = 0) ⟨#[]⟩ vs kids 0 with a | ⟨a, b⟩ | ⟨a, b, d⟩ | ⟨a, b, d, e⟩ | ⟨a, b, d, e, f⟩ | ⟨a, b, d, e, f⟩
  · have a2 := bnt a
    have hy : jB ⟨3, name, vk, vn, vt, vs, kids⟩ = false := by simp_all [jB]
    simp only [hy]
    clear hy hem
    unfold ndC iv
    simp only
    go_enter Tryz.func22, Tryz.ntmps22
    go_wp2
    all_goals
      go_ret
      exact ⟨rfl, by first | exact ((Kp.refl _ _).alloc _) | exact ((Kp.refl _ _).alloc _).alloc _ | exact (((Kp.refl _ _).alloc _).alloc _).alloc _⟩
  · have a2 := bnf a
    have b2 := bnt b
    have hy : jB ⟨3, name, vk, vn, vt, vs, kids⟩ = false := by simp_all [jB]
    simp only [hy]
    clear hy hem
    unfold ndC iv
    simp only
    go_enter Tryz.func22, Tryz.ntmps22
    go_wp2
    all_goals
      go_ret
      exact ⟨rfl, by first | exact ((Kp.refl _ _).alloc _) | exact ((Kp.refl _ _).alloc _).alloc _ | exact (((Kp.refl _ _).alloc _).alloc _).alloc _⟩
  · exact absurd (tl_size.2 rfl) d
  · have a2 := bnf a
    have b2 := bnf b
    clear d
    have hy : jB ⟨3, name, vk, vn, vt, vs, kids⟩ = false := by simp_all [jB, List.length_pos_iff]
    simp only [hy]
    clear hy hem
    unfold ndC iv
    simp only
    go_enter Tryz.func22, Tryz.ntmps22
    go_wp2
    all_goals
      go_ret
      exact ⟨rfl, by first | exact ((Kp.refl _ _).alloc _) | exact ((Kp.refl _ _).alloc _).alloc _ | exact (((Kp.refl _ _).alloc _).alloc _).alloc _⟩
  · have a2 := bnf a
    have b2 := bnf b
    subst e
    clear d
    have f1 : (kids.length : Int) ≠ 0 := bne_iff_ne.1 f
    have f2 : ¬ kids.length = 0 := fun e => f1 (by omega)
    clear f1
    have hy : jB ⟨3, name, vk, vn, vt, [], kids⟩ = false := by simp_all [jB]
    simp only [hy]
    clear hy hem
    unfold ndC iv
    simp only
    go_enter Tryz.func22, Tryz.ntmps22
    go_wp2
    all_goals
      go_ret
      exact ⟨rfl, by first | exact ((Kp.refl _ _).alloc _) | exact ((Kp.refl _ _).alloc _).alloc _ | exact (((Kp.refl _ _).alloc _).alloc _).alloc _⟩
  · have a2 := bnf a
    have b2 := bnf b
    subst e
    clear d
    have f1 : (kids.length : Int) = 0 := by simpa using f
    have f2 : kids.length = 0 := by omega
    clear f1
    have hy : jB ⟨3, name, vk, vn, vt, [], kids⟩ = name.toList.isEmpty := by simp_all [jB]
    simp only [hy]
    clear hy hem
    unfold ndC iv
    simp only
    go_enter Tryz.func22, Tryz.ntmps22
    go_wp2
    go_ret
    exact ⟨rfl, by first | exact ((Kp.refl _ _).alloc _) | exact ((Kp.refl _ _).alloc _).alloc _ | exact (((Kp.refl _ _).alloc _).alloc _).alloc _⟩
theorem right2 (w : World) (x : MNd) (h : x.n.op = 2) : Calls Tryz.prog 22 #[.agg (ndC x).toArray] w fun e w' => e = .returned (.bool (jB x.n)) /\ Old w w' := by
  obtain ⟨⟨op, name, vk, vn, vt, vs, kids⟩, A, c, vA, vc⟩ := x
  simp only at h
  subst h
  have hem := jw name
  have hand := and_one_i64 vn
  rcases stages (vk = 2) (vn % 2 = vn) vt vs kids 0 with a | ⟨a, b⟩ | ⟨a, b, d⟩ | ⟨a, b, d, e⟩ | ⟨a, b, d, e, f⟩ | ⟨a, b, d, e, f⟩
  · have a2 := bnt a
    have hy : jB ⟨2, name, vk, vn, vt, vs, kids⟩ = false := by simp_all [jB]
    simp only [hy]
    clear hy hem
    unfold ndC iv
    simp only
    go_enter Tryz.func22, Tryz.ntmps22
    go_wp2
    all_goals
      go_ret
      exact ⟨rfl, by first | exact ((Kp.refl _ _).alloc _) | exact ((Kp.refl _ _).alloc _).alloc _ | exact (((Kp.refl _ _).alloc _).alloc _).alloc _⟩
  · have a2 := bnf a
    have b2 : (vn != vn % 2) = true := bnt (fun e => b e.symm)
    have b3 : ¬ vn = 0 := by omega
    have b4 : ¬ vn = 1 := by omega
    have hy : jB ⟨2, name, vk, vn, vt, vs, kids⟩ = false := by simp_all [jB]
    simp only [hy]
    clear hy hem
    unfold ndC iv
    simp only
    go_enter Tryz.func22, Tryz.ntmps22
    go_wp2
    all_goals
      go_ret
      exact ⟨rfl, by first | exact ((Kp.refl _ _).alloc _) | exact ((Kp.refl _ _).alloc _).alloc _ | exact (((Kp.refl _ _).alloc _).alloc _).alloc _⟩
  · have a2 := bnf a
    have b2 : (vn != vn % 2) = false := bnf b.symm
    have b3 : vn = 0 \/ vn = 1 := by omega
    have hy : jB ⟨2, name, vk, vn, vt, vs, kids⟩ = false := by simp_all [jB, tl_size]
    simp only [hy]
    clear hy hem
    unfold ndC iv
    simp only
    go_enter Tryz.func22, Tryz.ntmps22
    go_wp2
    all_goals
      go_ret
      exact ⟨rfl, by first | exact ((Kp.refl _ _).alloc _) | exact ((Kp.refl _ _).alloc _).alloc _ | exact (((Kp.refl _ _).alloc _).alloc _).alloc _⟩
  · have a2 := bnf a
    have b2 : (vn != vn % 2) = false := bnf b.symm
    have b3 : vn = 0 \/ vn = 1 := by omega
    have hy : jB ⟨2, name, vk, vn, vt, vs, kids⟩ = false := by simp_all [jB, tl_size, List.length_pos_iff]
    simp only [hy]
    clear hy hem
    unfold ndC iv
    simp only
    go_enter Tryz.func22, Tryz.ntmps22
    go_wp2
    all_goals
      go_ret
      exact ⟨rfl, by first | exact ((Kp.refl _ _).alloc _) | exact ((Kp.refl _ _).alloc _).alloc _ | exact (((Kp.refl _ _).alloc _).alloc _).alloc _⟩
  · have a2 := bnf a
    have b2 : (vn != vn % 2) = false := bnf b.symm
    have b3 : vn = 0 \/ vn = 1 := by omega
    subst e
    have f1 : (kids.length : Int) ≠ 0 := bne_iff_ne.1 f
    have f2 : ¬ kids.length = 0 := fun e => f1 (by omega)
    clear f1
    have hy : jB ⟨2, name, vk, vn, vt, [], kids⟩ = false := by simp_all [jB, tl_size]
    simp only [hy]
    clear hy hem
    unfold ndC iv
    simp only
    go_enter Tryz.func22, Tryz.ntmps22
    go_wp2
    all_goals
      go_ret
      exact ⟨rfl, by first | exact ((Kp.refl _ _).alloc _) | exact ((Kp.refl _ _).alloc _).alloc _ | exact (((Kp.refl _ _).alloc _).alloc _).alloc _⟩
  · have a2 := bnf a
    have b2 : (vn != vn % 2) = false := bnf b.symm
    have b3 : vn = 0 \/ vn = 1 := by omega
    subst e
    have f1 : (kids.length : Int) = 0 := by simpa using f
    have f2 : kids.length = 0 := by omega
    clear f1
    have hy : jB ⟨2, name, vk, vn, vt, [], kids⟩ = name.toList.isEmpty := by simp_all [jB, tl_size]
    simp only [hy]
    clear hy hem
    unfold ndC iv
    simp only
    go_enter Tryz.func22, Tryz.ntmps22
    go_wp2
    go_ret
    exact ⟨rfl, by first | exact ((Kp.refl _ _).alloc _) | exact ((Kp.refl _ _).alloc _).alloc _ | exact (((Kp.refl _ _).alloc _).alloc _).alloc _⟩
theorem right_in (w : World) (x : MNd) (h : 1 <= x.n.op /\ x.n.op < 34) (hne : ¬ (x.n.op = 1 \/ x.n.op = 2 \/ x.n.op = 3 \/ x.n.op = 4 \/ x.n.op = 29 \/ x.n.op = 30 \/ x.n.op = 5 \/ x.n.op = 24 \/ x.n.op = 25 \/ x.n.op = 26 \/ x.n.op = 6 \/ x.n.op = 7 \/ x.n.op = 8 \/ x.n.op = 27 \/ x.n.op = 23)) : Calls Tryz.prog 22 #[.agg (ndC x).toArray] w fun e w' => e = .returned (.bool (jB x.n)) /\ Old w w' := by
  obtain ⟨⟨op, name, vk, vn, vt, vs, kids⟩, A, c, vA, vc⟩ := x
  simp only at h hne
  have hem := jw name
  have r1 : ¬ op = 1 := by omega
  have q1 : (op == 1) = false := beq_eq_false_iff_ne.2 r1
  have r2 : ¬ op = 2 := by omega
  have q2 : (op == 2) = false := beq_eq_false_iff_ne.2 r2
  have r3 : ¬ op = 3 := by omega
  have q3 : (op == 3) = false := beq_eq_false_iff_ne.2 r3
  have r4 : ¬ op = 4 := by omega
  have q4 : (op == 4) = false := beq_eq_false_iff_ne.2 r4
  have r29 : ¬ op = 29 := by omega
  have q29 : (op == 29) = false := beq_eq_false_iff_ne.2 r29
  have r30 : ¬ op = 30 := by omega
  have q30 : (op == 30) = false := beq_eq_false_iff_ne.2 r30
  have r5 : ¬ op = 5 := by omega
  have q5 : (op == 5) = false := beq_eq_false_iff_ne.2 r5
  have r24 : ¬ op = 24 := by omega
  have q24 : (op == 24) = false := beq_eq_false_iff_ne.2 r24
  have r25 : ¬ op = 25 := by omega
  have q25 : (op == 25) = false := beq_eq_false_iff_ne.2 r25
  have r26 : ¬ op = 26 := by omega
  have q26 : (op == 26) = false := beq_eq_false_iff_ne.2 r26
  have r6 : ¬ op = 6 := by omega
  have q6 : (op == 6) = false := beq_eq_false_iff_ne.2 r6
  have r7 : ¬ op = 7 := by omega
  have q7 : (op == 7) = false := beq_eq_false_iff_ne.2 r7
  have r8 : ¬ op = 8 := by omega
  have q8 : (op == 8) = false := beq_eq_false_iff_ne.2 r8
  have r27 : ¬ op = 27 := by omega
  have q27 : (op == 27) = false := beq_eq_false_iff_ne.2 r27
  have r23 : ¬ op = 23 := by omega
  have q23 : (op == 23) = false := beq_eq_false_iff_ne.2 r23
  clear hne
  have g1 : ¬ op < 1 := by omega
  have g2 : ¬ 34 <= op := by omega
  rcases stages (vk = 0) (vn = 0) vt vs kids 2 with a | ⟨a, b⟩ | ⟨a, b, d⟩ | ⟨a, b, d, e⟩ | ⟨a, b, d, e, f⟩ | ⟨a, b, d, e, f⟩
  · have a2 := bnt a
    have hy : jB ⟨op, name, vk, vn, vt, vs, kids⟩ = false := by simp_all [jB]
    simp only [hy]
    clear hy hem
    unfold ndC iv
    simp only
    go_enter Tryz.func22, Tryz.ntmps22
    go_wp2
    all_goals
      go_ret
      exact ⟨rfl, by first | exact ((Kp.refl _ _).alloc _) | exact ((Kp.refl _ _).alloc _).alloc _ | exact (((Kp.refl _ _).alloc _).alloc _).alloc _⟩
  · have a2 := bnf a
    have b2 := bnt b
    have hy : jB ⟨op, name, vk, vn, vt, vs, kids⟩ = false := by simp_all [jB]
    simp only [hy]
    clear hy hem
    unfold ndC iv
    simp only
    go_enter Tryz.func22, Tryz.ntmps22
    go_wp2
    all_goals
      go_ret
      exact ⟨rfl, by first | exact ((Kp.refl _ _).alloc _) | exact ((Kp.refl _ _).alloc _).alloc _ | exact (((Kp.refl _ _).alloc _).alloc _).alloc _⟩
  · have a2 := bnf a
    have b2 := bnf b
    have hy : jB ⟨op, name, vk, vn, vt, vs, kids⟩ = false := by simp_all [jB, tl_size]
    simp only [hy]
    clear hy hem
    unfold ndC iv
    simp only
    go_enter Tryz.func22, Tryz.ntmps22
    go_wp2
    all_goals
      go_ret
      exact ⟨rfl, by first | exact ((Kp.refl _ _).alloc _) | exact ((Kp.refl _ _).alloc _).alloc _ | exact (((Kp.refl _ _).alloc _).alloc _).alloc _⟩
  · have a2 := bnf a
    have b2 := bnf b
    have hy : jB ⟨op, name, vk, vn, vt, vs, kids⟩ = false := by simp_all [jB, tl_size, List.length_pos_iff]
    simp only [hy]
    clear hy hem
    unfold ndC iv
    simp only
    go_enter Tryz.func22, Tryz.ntmps22
    go_wp2
    all_goals
      go_ret
      exact ⟨rfl, by first | exact ((Kp.refl _ _).alloc _) | exact ((Kp.refl _ _).alloc _).alloc _ | exact (((Kp.refl _ _).alloc _).alloc _).alloc _⟩
  · have a2 := bnf a
    have b2 := bnf b
    subst e
    have f1 : (kids.length : Int) ≠ 2 := bne_iff_ne.1 f
    have f2 : ¬ kids.length = 2 := fun e => f1 (by omega)
    clear f1
    have hy : jB ⟨op, name, vk, vn, vt, [], kids⟩ = false := by simp_all [jB, tl_size]
    simp only [hy]
    clear hy hem
    unfold ndC iv
    simp only
    go_enter Tryz.func22, Tryz.ntmps22
    go_wp2
    all_goals
      go_ret
      exact ⟨rfl, by first | exact ((Kp.refl _ _).alloc _) | exact ((Kp.refl _ _).alloc _).alloc _ | exact (((Kp.refl _ _).alloc _).alloc _).alloc _⟩
  · have a2 := bnf a
    have b2 := bnf b
    subst e
    have f1 : (kids.length : Int) = 2 := by simpa using f
    have f2 : kids.length = 2 := by omega
    clear f1
    have hy : jB ⟨op, name, vk, vn, vt, [], kids⟩ = name.toList.isEmpty := by simp_all [jB, tl_size]
    simp only [hy]
    clear hy hem
    unfold ndC iv
    simp only
    go_enter Tryz.func22, Tryz.ntmps22
    go_wp2
    go_ret
    exact ⟨rfl, by first | exact ((Kp.refl _ _).alloc _) | exact ((Kp.refl _ _).alloc _).alloc _ | exact (((Kp.refl _ _).alloc _).alloc _).alloc _⟩
theorem right_out (w : World) (x : MNd) (h : ¬ (1 <= x.n.op /\ x.n.op < 34)) (hne : ¬ (x.n.op = 1 \/ x.n.op = 2 \/ x.n.op = 3 \/ x.n.op = 4 \/ x.n.op = 29 \/ x.n.op = 30 \/ x.n.op = 5 \/ x.n.op = 24 \/ x.n.op = 25 \/ x.n.op = 26 \/ x.n.op = 6 \/ x.n.op = 7 \/ x.n.op = 8 \/ x.n.op = 27 \/ x.n.op = 23)) : Calls Tryz.prog 22 #[.agg (ndC x).toArray] w fun e w' => e = .returned (.bool (jB x.n)) /\ Old w w' := by
  obtain ⟨⟨op, name, vk, vn, vt, vs, kids⟩, A, c, vA, vc⟩ := x
  simp only at h hne
  have hem := jw name
  have r1 : ¬ op = 1 := by omega
  have q1 : (op == 1) = false := beq_eq_false_iff_ne.2 r1
  have r2 : ¬ op = 2 := by omega
  have q2 : (op == 2) = false := beq_eq_false_iff_ne.2 r2
  have r3 : ¬ op = 3 := by omega
  have q3 : (op == 3) = false := beq_eq_false_iff_ne.2 r3
  have r4 : ¬ op = 4 := by omega
  have q4 : (op == 4) = false := beq_eq_false_iff_ne.2 r4
  have r29 : ¬ op = 29 := by omega
  have q29 : (op == 29) = false := beq_eq_false_iff_ne.2 r29
  have r30 : ¬ op = 30 := by omega
  have q30 : (op == 30) = false := beq_eq_false_iff_ne.2 r30
  have r5 : ¬ op = 5 := by omega
  have q5 : (op == 5) = false := beq_eq_false_iff_ne.2 r5
  have r24 : ¬ op = 24 := by omega
  have q24 : (op == 24) = false := beq_eq_false_iff_ne.2 r24
  have r25 : ¬ op = 25 := by omega
  have q25 : (op == 25) = false := beq_eq_false_iff_ne.2 r25
  have r26 : ¬ op = 26 := by omega
  have q26 : (op == 26) = false := beq_eq_false_iff_ne.2 r26
  have r6 : ¬ op = 6 := by omega
  have q6 : (op == 6) = false := beq_eq_false_iff_ne.2 r6
  have r7 : ¬ op = 7 := by omega
  have q7 : (op == 7) = false := beq_eq_false_iff_ne.2 r7
  have r8 : ¬ op = 8 := by omega
  have q8 : (op == 8) = false := beq_eq_false_iff_ne.2 r8
  have r27 : ¬ op = 27 := by omega
  have q27 : (op == 27) = false := beq_eq_false_iff_ne.2 r27
  have r23 : ¬ op = 23 := by omega
  have q23 : (op == 23) = false := beq_eq_false_iff_ne.2 r23
  clear hne
  have hy : jB ⟨op, name, vk, vn, vt, vs, kids⟩ = false := by
    have g : ¬ (1 <= op /\ op < 34) := h
    simp [jB, r1, r2, r3, r4, r29, r30, r5, r24, r25, r26, r6, r7, r8, r27, r23, decide_eq_false g]
  simp only [hy]
  clear hy hem
  unfold ndC iv
  simp only
  rcases Int.lt_or_le op 1 with g1 | g1
  · clear h
    go_enter Tryz.func22, Tryz.ntmps22
    go_wp2
    go_ret
    exact ⟨rfl, by first | exact ((Kp.refl _ _).alloc _) | exact ((Kp.refl _ _).alloc _).alloc _ | exact (((Kp.refl _ _).alloc _).alloc _).alloc _⟩
  · have g2 : 34 <= op := by omega
    have g3 : ¬ op < 1 := by omega
    clear h
    go_enter Tryz.func22, Tryz.ntmps22
    go_wp2
    go_ret
    exact ⟨rfl, by first | exact ((Kp.refl _ _).alloc _) | exact ((Kp.refl _ _).alloc _).alloc _ | exact (((Kp.refl _ _).alloc _).alloc _).alloc _⟩
theorem right_any (w : World) (hg : Sg w) (x : MNd) : Calls Tryz.prog 22 #[.agg (ndC x).toArray] w fun e w' => e = .returned (.bool (jB x.n)) /\ Old w w' := by
  by_cases hne : x.n.op = 1 \/ x.n.op = 2 \/ x.n.op = 3 \/ x.n.op = 4 \/ x.n.op = 29 \/ x.n.op = 30 \/ x.n.op = 5 \/ x.n.op = 24 \/ x.n.op = 25 \/ x.n.op = 26 \/ x.n.op = 6 \/ x.n.op = 7 \/ x.n.op = 8 \/ x.n.op = 27 \/ x.n.op = 23
  · rcases hne with h | h | h | h | h | h | h | h | h | h | h | h | h | h | h
    · exact right1 w x h
    · exact right2 w x h
    · exact right3 w x h
    · exact right4 w x h
    · exact right29 w x h
    · exact right30 w x h
    · exact right5 w hg x h
    · exact right24 w hg x h
    · exact right25 w hg x h
    · exact right26 w hg x h
    · exact right6 w x h
    · exact right7 w x h
    · exact right8 w x h
    · exact right27 w x h
    · exact right23 w x h
  · by_cases h : 1 <= x.n.op /\ x.n.op < 34
    · exact right_in w x h hne
    · exact right_out w x h hne
end Go.Proofs.YtmmjcbbogokmfaaGreatDoor
