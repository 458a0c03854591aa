import Derived.Test.YtmmjcbbogokmfaaGreatDoorMn16
/- Contract of text.Right (operators, more). -/
namespace Go.Proofs.YtmmjcbbogokmfaaGreatDoor
open Go.RowKit

set_option maxRecDepth 100000 in
set_option maxHeartbeats 3200000 in
theorem right24 (w : World) (hg : Sg w) (x : MNd) (h : x.n.op = 24) : Calls Tryz.prog 22 #[.agg (ndC x).toArray] w fun e w' => e = .returned (.bool (rightN x.n)) ∧ Old w w' := by
  obtain ⟨⟨op, name, vk, vn, vt, vs, kids⟩, A, c, vA, vc⟩ := x
  simp only at h
  subst h
  have hem := tl_empty name
  rcases stages (vk = 0) (vn = 0) vt vs kids 0 with a | ⟨a, b⟩ | ⟨a, b, d⟩ | ⟨a, b, d, e⟩ | ⟨a, b, d, e, f⟩ | ⟨a, b, d, e, f⟩
  · have a2 := bnt a
    have hy : rightN ⟨24, name, vk, vn, vt, vs, kids⟩ = false := by simp_all [rightN]
    simp only [hy]
    clear hy hem
    unfold ndC iv
    simp only
    go_enter Tryz.func22, Tryz.ntmps22
    go_wp2
    all_goals
      go_ret
      exact ⟨rfl, by first | exact ((Kp.refl _ _).alloc _) | exact ((Kp.refl _ _).alloc _).alloc _ | exact (((Kp.refl _ _).alloc _).alloc _).alloc _⟩
  · have a2 := bnf a
    have b2 := bnt b
    have hy : rightN ⟨24, name, vk, vn, vt, vs, kids⟩ = false := by simp_all [rightN]
    simp only [hy]
    clear hy hem
    unfold ndC iv
    simp only
    go_enter Tryz.func22, Tryz.ntmps22
    go_wp2
    all_goals
      go_ret
      exact ⟨rfl, by first | exact ((Kp.refl _ _).alloc _) | exact ((Kp.refl _ _).alloc _).alloc _ | exact (((Kp.refl _ _).alloc _).alloc _).alloc _⟩
  · have a2 := bnf a
    have b2 := bnf b
    have hy : rightN ⟨24, name, vk, vn, vt, vs, kids⟩ = false := by simp_all [rightN, tl_size]
    simp only [hy]
    clear hy hem
    unfold ndC iv
    simp only
    go_enter Tryz.func22, Tryz.ntmps22
    go_wp2
    all_goals
      go_ret
      exact ⟨rfl, by first | exact ((Kp.refl _ _).alloc _) | exact ((Kp.refl _ _).alloc _).alloc _ | exact (((Kp.refl _ _).alloc _).alloc _).alloc _⟩
  · have a2 := bnf a
    have b2 := bnf b
    have hy : rightN ⟨24, name, vk, vn, vt, vs, kids⟩ = false := by simp_all [rightN, tl_size, List.length_pos_iff]
    simp only [hy]
    clear hy hem
    unfold ndC iv
    simp only
    go_enter Tryz.func22, Tryz.ntmps22
    go_wp2
    all_goals
      go_ret
      exact ⟨rfl, by first | exact ((Kp.refl _ _).alloc _) | exact ((Kp.refl _ _).alloc _).alloc _ | exact (((Kp.refl _ _).alloc _).alloc _).alloc _⟩
  · have a2 := bnf a
    have b2 := bnf b
    subst e
    have f1 : (kids.length : Int) ≠ 0 := bne_iff_ne.1 f
    have f2 : ¬ kids.length = 0 := fun e => f1 (by omega)
    clear f1
    have hy : rightN ⟨24, name, vk, vn, vt, [], kids⟩ = false := by simp_all [rightN, tl_size]
    simp only [hy]
    clear hy hem
    unfold ndC iv
    simp only
    go_enter Tryz.func22, Tryz.ntmps22
    go_wp2
    all_goals
      go_ret
      exact ⟨rfl, by first | exact ((Kp.refl _ _).alloc _) | exact ((Kp.refl _ _).alloc _).alloc _ | exact (((Kp.refl _ _).alloc _).alloc _).alloc _⟩
  · have a2 := bnf a
    have b2 := bnf b
    subst e
    have f1 : (kids.length : Int) = 0 := by simpa using f
    have f2 : kids.length = 0 := by omega
    have hy : rightN ⟨24, name, vk, vn, vt, [], kids⟩ = legalB (sb name) := by simp_all [rightN, tl_size, legalT, tb, sb]
    simp only [hy]
    have HL := Lib.hid (fun W (hO : Old w W) => legal_any9 W (hg.old hO) name)
    clear hy hem hg
    unfold ndC iv
    simp only
    cases hlg : legalB (sb name)
    all_goals
      rw [hlg] at HL
      go_enter Tryz.func22, Tryz.ntmps22
      go_wp2_with (first | (go_at_call 20; refine (HL.out _ (by first | exact ((Kp.refl _ _).alloc _) | exact ((Kp.refl _ _).alloc _).alloc _ | exact (((Kp.refl _ _).alloc _).alloc _).alloc _)).mono ?_; rintro e w1 ⟨rfl, rfl⟩) | fail)
      go_ret
      exact ⟨rfl, by first | exact ((Kp.refl _ _).alloc _) | exact ((Kp.refl _ _).alloc _).alloc _ | exact (((Kp.refl _ _).alloc _).alloc _).alloc _⟩
set_option maxRecDepth 100000 in
set_option maxHeartbeats 3200000 in
theorem right25 (w : World) (hg : Sg w) (x : MNd) (h : x.n.op = 25) : Calls Tryz.prog 22 #[.agg (ndC x).toArray] w fun e w' => e = .returned (.bool (rightN x.n)) ∧ Old w w' := by
  obtain ⟨⟨op, name, vk, vn, vt, vs, kids⟩, A, c, vA, vc⟩ := x
  simp only at h
  subst h
  have hem := tl_empty name
  rcases stages (vk = 0) (vn = 0) vt vs kids 0 with a | ⟨a, b⟩ | ⟨a, b, d⟩ | ⟨a, b, d, e⟩ | ⟨a, b, d, e, f⟩ | ⟨a, b, d, e, f⟩
  · have a2 := bnt a
    have hy : rightN ⟨25, name, vk, vn, vt, vs, kids⟩ = false := by simp_all [rightN]
    simp only [hy]
    clear hy hem
    unfold ndC iv
    simp only
    go_enter Tryz.func22, Tryz.ntmps22
    go_wp2
    all_goals
      go_ret
      exact ⟨rfl, by first | exact ((Kp.refl _ _).alloc _) | exact ((Kp.refl _ _).alloc _).alloc _ | exact (((Kp.refl _ _).alloc _).alloc _).alloc _⟩
  · have a2 := bnf a
    have b2 := bnt b
    have hy : rightN ⟨25, name, vk, vn, vt, vs, kids⟩ = false := by simp_all [rightN]
    simp only [hy]
    clear hy hem
    unfold ndC iv
    simp only
    go_enter Tryz.func22, Tryz.ntmps22
    go_wp2
    all_goals
      go_ret
      exact ⟨rfl, by first | exact ((Kp.refl _ _).alloc _) | exact ((Kp.refl _ _).alloc _).alloc _ | exact (((Kp.refl _ _).alloc _).alloc _).alloc _⟩
  · have a2 := bnf a
    have b2 := bnf b
    have hy : rightN ⟨25, name, vk, vn, vt, vs, kids⟩ = false := by simp_all [rightN, tl_size]
    simp only [hy]
    clear hy hem
    unfold ndC iv
    simp only
    go_enter Tryz.func22, Tryz.ntmps22
    go_wp2
    all_goals
      go_ret
      exact ⟨rfl, by first | exact ((Kp.refl _ _).alloc _) | exact ((Kp.refl _ _).alloc _).alloc _ | exact (((Kp.refl _ _).alloc _).alloc _).alloc _⟩
  · have a2 := bnf a
    have b2 := bnf b
    have hy : rightN ⟨25, name, vk, vn, vt, vs, kids⟩ = false := by simp_all [rightN, tl_size, List.length_pos_iff]
    simp only [hy]
    clear hy hem
    unfold ndC iv
    simp only
    go_enter Tryz.func22, Tryz.ntmps22
    go_wp2
    all_goals
      go_ret
      exact ⟨rfl, by first | exact ((Kp.refl _ _).alloc _) | exact ((Kp.refl _ _).alloc _).alloc _ | exact (((Kp.refl _ _).alloc _).alloc _).alloc _⟩
  · have a2 := bnf a
    have b2 := bnf b
    subst e
    have f1 : (kids.length : Int) ≠ 0 := bne_iff_ne.1 f
    have f2 : ¬ kids.length = 0 := fun e => f1 (by omega)
    clear f1
    have hy : rightN ⟨25, name, vk, vn, vt, [], kids⟩ = false := by simp_all [rightN, tl_size]
    simp only [hy]
    clear hy hem
    unfold ndC iv
    simp only
    go_enter Tryz.func22, Tryz.ntmps22
    go_wp2
    all_goals
      go_ret
      exact ⟨rfl, by first | exact ((Kp.refl _ _).alloc _) | exact ((Kp.refl _ _).alloc _).alloc _ | exact (((Kp.refl _ _).alloc _).alloc _).alloc _⟩
  · have a2 := bnf a
    have b2 := bnf b
    subst e
    have f1 : (kids.length : Int) = 0 := by simpa using f
    have f2 : kids.length = 0 := by omega
    have hy : rightN ⟨25, name, vk, vn, vt, [], kids⟩ = legalB (sb name) := by simp_all [rightN, tl_size, legalT, tb, sb]
    simp only [hy]
    have HL := Lib.hid (fun W (hO : Old w W) => legal_any9 W (hg.old hO) name)
    clear hy hem hg
    unfold ndC iv
    simp only
    cases hlg : legalB (sb name)
    all_goals
      rw [hlg] at HL
      go_enter Tryz.func22, Tryz.ntmps22
      go_wp2_with (first | (go_at_call 20; refine (HL.out _ (by first | exact ((Kp.refl _ _).alloc _) | exact ((Kp.refl _ _).alloc _).alloc _ | exact (((Kp.refl _ _).alloc _).alloc _).alloc _)).mono ?_; rintro e w1 ⟨rfl, rfl⟩) | fail)
      go_ret
      exact ⟨rfl, by first | exact ((Kp.refl _ _).alloc _) | exact ((Kp.refl _ _).alloc _).alloc _ | exact (((Kp.refl _ _).alloc _).alloc _).alloc _⟩
set_option maxRecDepth 100000 in
set_option maxHeartbeats 3200000 in
theorem right26 (w : World) (hg : Sg w) (x : MNd) (h : x.n.op = 26) : Calls Tryz.prog 22 #[.agg (ndC x).toArray] w fun e w' => e = .returned (.bool (rightN x.n)) ∧ Old w w' := by
  obtain ⟨⟨op, name, vk, vn, vt, vs, kids⟩, A, c, vA, vc⟩ := x
  simp only at h
  subst h
  have hem := tl_empty name
  rcases stages (vk = 0) (vn = 0) vt vs kids 0 with a | ⟨a, b⟩ | ⟨a, b, d⟩ | ⟨a, b, d, e⟩ | ⟨a, b, d, e, f⟩ | ⟨a, b, d, e, f⟩
  · have a2 := bnt a
    have hy : rightN ⟨26, name, vk, vn, vt, vs, kids⟩ = false := by simp_all [rightN]
    simp only [hy]
    clear hy hem
    unfold ndC iv
    simp only
    go_enter Tryz.func22, Tryz.ntmps22
    go_wp2
    all_goals
      go_ret
      exact ⟨rfl, by first | exact ((Kp.refl _ _).alloc _) | exact ((Kp.refl _ _).alloc _).alloc _ | exact (((Kp.refl _ _).alloc _).alloc _).alloc _⟩
  · have a2 := bnf a
    have b2 := bnt b
    have hy : rightN ⟨26, name, vk, vn, vt, vs, kids⟩ = false := by simp_all [rightN]
    simp only [hy]
    clear hy hem
    unfold ndC iv
    simp only
    go_enter Tryz.func22, Tryz.ntmps22
    go_wp2
    all_goals
      go_ret
      exact ⟨rfl, by first | exact ((Kp.refl _ _).alloc _) | exact ((Kp.refl _ _).alloc _).alloc _ | exact (((Kp.refl _ _).alloc _).alloc _).alloc _⟩
  · have a2 := bnf a
    have b2 := bnf b
    have hy : rightN ⟨26, name, vk, vn, vt, vs, kids⟩ = false := by simp_all [rightN, tl_size]
    simp only [hy]
    clear hy hem
    unfold ndC iv
    simp only
    go_enter Tryz.func22, Tryz.ntmps22
    go_wp2
    all_goals
      go_ret
      exact ⟨rfl, by first | exact ((Kp.refl _ _).alloc _) | exact ((Kp.refl _ _).alloc _).alloc _ | exact (((Kp.refl _ _).alloc _).alloc _).alloc _⟩
  · have a2 := bnf a
    have b2 := bnf b
    have hy : rightN ⟨26, name, vk, vn, vt, vs, kids⟩ = false := by simp_all [rightN, tl_size, List.length_pos_iff]
    simp only [hy]
    clear hy hem
    unfold ndC iv
    simp only
    go_enter Tryz.func22, Tryz.ntmps22
    go_wp2
    all_goals
      go_ret
      exact ⟨rfl, by first | exact ((Kp.refl _ _).alloc _) | exact ((Kp.refl _ _).alloc _).alloc _ | exact (((Kp.refl _ _).alloc _).alloc _).alloc _⟩
  · have a2 := bnf a
    have b2 := bnf b
    subst e
    have f1 : (kids.length : Int) ≠ 0 := bne_iff_ne.1 f
    have f2 : ¬ kids.length = 0 := fun e => f1 (by omega)
    clear f1
    have hy : rightN ⟨26, name, vk, vn, vt, [], kids⟩ = false := by simp_all [rightN, tl_size]
    simp only [hy]
    clear hy hem
    unfold ndC iv
    simp only
    go_enter Tryz.func22, Tryz.ntmps22
    go_wp2
    all_goals
      go_ret
      exact ⟨rfl, by first | exact ((Kp.refl _ _).alloc _) | exact ((Kp.refl _ _).alloc _).alloc _ | exact (((Kp.refl _ _).alloc _).alloc _).alloc _⟩
  · have a2 := bnf a
    have b2 := bnf b
    subst e
    have f1 : (kids.length : Int) = 0 := by simpa using f
    have f2 : kids.length = 0 := by omega
    have hy : rightN ⟨26, name, vk, vn, vt, [], kids⟩ = legalB (sb name) := by simp_all [rightN, tl_size, legalT, tb, sb]
    simp only [hy]
    have HL := Lib.hid (fun W (hO : Old w W) => legal_any9 W (hg.old hO) name)
    clear hy hem hg
    unfold ndC iv
    simp only
    cases hlg : legalB (sb name)
    all_goals
      rw [hlg] at HL
      go_enter Tryz.func22, Tryz.ntmps22
      go_wp2_with (first | (go_at_call 20; refine (HL.out _ (by first | exact ((Kp.refl _ _).alloc _) | exact ((Kp.refl _ _).alloc _).alloc _ | exact (((Kp.refl _ _).alloc _).alloc _).alloc _)).mono ?_; rintro e w1 ⟨rfl, rfl⟩) | fail)
      go_ret
      exact ⟨rfl, by first | exact ((Kp.refl _ _).alloc _) | exact ((Kp.refl _ _).alloc _).alloc _ | exact (((Kp.refl _ _).alloc _).alloc _).alloc _⟩
set_option maxRecDepth 100000 in
set_option maxHeartbeats 3200000 in
theorem right23 (w : World) (x : MNd) (h : x.n.op = 23) : Calls Tryz.prog 22 #[.agg (ndC x).toArray] w fun e w' => e = .returned (.bool (rightN x.n)) ∧ Old w w' := by
  obtain ⟨⟨op, name, vk, vn, vt, vs, kids⟩, A, c, vA, vc⟩ := x
  simp only at h
  subst h
  have hem := tl_empty name
  rcases stages (vk = 0) (vn = 0) vt vs kids 3 with a | ⟨a, b⟩ | ⟨a, b, d⟩ | ⟨a, b, d, e⟩ | ⟨a, b, d, e, f⟩ | ⟨a, b, d, e, f⟩
  · have a2 := bnt a
    have hy : rightN ⟨23, name, vk, vn, vt, vs, kids⟩ = false := by simp_all [rightN]
    simp only [hy]
    clear hy hem
    unfold ndC iv
    simp only
    go_enter Tryz.func22, Tryz.ntmps22
    go_wp2
    all_goals
      go_ret
      exact ⟨rfl, by first | exact ((Kp.refl _ _).alloc _) | exact ((Kp.refl _ _).alloc _).alloc _ | exact (((Kp.refl _ _).alloc _).alloc _).alloc _⟩
  · have a2 := bnf a
    have b2 := bnt b
    have hy : rightN ⟨23, name, vk, vn, vt, vs, kids⟩ = false := by simp_all [rightN]
    simp only [hy]
    clear hy hem
    unfold ndC iv
    simp only
    go_enter Tryz.func22, Tryz.ntmps22
    go_wp2
    all_goals
      go_ret
      exact ⟨rfl, by first | exact ((Kp.refl _ _).alloc _) | exact ((Kp.refl _ _).alloc _).alloc _ | exact (((Kp.refl _ _).alloc _).alloc _).alloc _⟩
  · have a2 := bnf a
    have b2 := bnf b
    have hy : rightN ⟨23, name, vk, vn, vt, vs, kids⟩ = false := by simp_all [rightN, tl_size]
    simp only [hy]
    clear hy hem
    unfold ndC iv
    simp only
    go_enter Tryz.func22, Tryz.ntmps22
    go_wp2
    all_goals
      go_ret
      exact ⟨rfl, by first | exact ((Kp.refl _ _).alloc _) | exact ((Kp.refl _ _).alloc _).alloc _ | exact (((Kp.refl _ _).alloc _).alloc _).alloc _⟩
  · have a2 := bnf a
    have b2 := bnf b
    have hy : rightN ⟨23, name, vk, vn, vt, vs, kids⟩ = false := by simp_all [rightN, tl_size, List.length_pos_iff]
    simp only [hy]
    clear hy hem
    unfold ndC iv
    simp only
    go_enter Tryz.func22, Tryz.ntmps22
    go_wp2
    all_goals
      go_ret
      exact ⟨rfl, by first | exact ((Kp.refl _ _).alloc _) | exact ((Kp.refl _ _).alloc _).alloc _ | exact (((Kp.refl _ _).alloc _).alloc _).alloc _⟩
  · have a2 := bnf a
    have b2 := bnf b
    subst e
    have f1 : (kids.length : Int) ≠ 3 := bne_iff_ne.1 f
    have f2 : ¬ kids.length = 3 := fun e => f1 (by omega)
    clear f1
    have hy : rightN ⟨23, name, vk, vn, vt, [], kids⟩ = false := by simp_all [rightN, tl_size]
    simp only [hy]
    clear hy hem
    unfold ndC iv
    simp only
    go_enter Tryz.func22, Tryz.ntmps22
    go_wp2
    all_goals
      go_ret
      exact ⟨rfl, by first | exact ((Kp.refl _ _).alloc _) | exact ((Kp.refl _ _).alloc _).alloc _ | exact (((Kp.refl _ _).alloc _).alloc _).alloc _⟩
  · have a2 := bnf a
    have b2 := bnf b
    subst e
    have f1 : (kids.length : Int) = 3 := by simpa using f
    have f2 : kids.length = 3 := by omega
    have hy : rightN ⟨23, name, vk, vn, vt, [], kids⟩ = name.toList.isEmpty := by simp_all [rightN, tl_size]
    simp only [hy]
    clear hy hem
    unfold ndC iv
    simp only
    go_enter Tryz.func22, Tryz.ntmps22
    go_wp2
    go_ret
    exact ⟨rfl, by first | exact ((Kp.refl _ _).alloc _) | exact ((Kp.refl _ _).alloc _).alloc _ | exact (((Kp.refl _ _).alloc _).alloc _).alloc _⟩
end Go.Proofs.YtmmjcbbogokmfaaGreatDoor

/- Contract of text.Right (literals). -/
namespace Go.Proofs.YtmmjcbbogokmfaaGreatDoor
open Go.RowKit

theorem and_one_i64 (E : Int) : bits BinOp.and IntKind.i64 E 1 = E % 2 := by
  have hb : (2 : Int) ^ IntKind.i64.bits = 18446744073709551616 := rfl
  have h1 : (1 % 2 ^ IntKind.i64.bits : Nat) = 1 := by decide
  unfold bits
  simp
  rw [h1, Nat.and_one_is_mod, hb, IntWalk.i64_in _ (by omega)]
  omega
set_option maxRecDepth 100000 in
set_option maxHeartbeats 3200000 in
theorem right1 (w : World) (x : MNd) (h : x.n.op = 1) : Calls Tryz.prog 22 #[.agg (ndC x).toArray] w fun e w' => e = .returned (.bool (rightN x.n)) ∧ Old w w' := by
  obtain ⟨⟨op, name, vk, vn, vt, vs, kids⟩, A, c, vA, vc⟩ := x
  simp only at h
  subst h
  have hem := tl_empty name
  rcases stages (vk = 1) (0 ≤ vn) vt vs kids 0 with a | ⟨a, b⟩ | ⟨a, b, d⟩ | ⟨a, b, d, e⟩ | ⟨a, b, d, e, f⟩ | ⟨a, b, d, e, f⟩
  · have a2 := bnt a
    have hy : rightN ⟨1, name, vk, vn, vt, vs, kids⟩ = false := by simp_all [rightN]
    simp only [hy]
    clear hy hem
    unfold ndC iv
    simp only
    go_enter Tryz.func22, Tryz.ntmps22
    go_wp2
    all_goals
      go_ret
      exact ⟨rfl, by first | exact ((Kp.refl _ _).alloc _) | exact ((Kp.refl _ _).alloc _).alloc _ | exact (((Kp.refl _ _).alloc _).alloc _).alloc _⟩
  · have a2 := bnf a
    have b2 : vn < 0 := by omega
    have b3 : ¬ vn = 0 := by omega
    have hy : rightN ⟨1, name, vk, vn, vt, vs, kids⟩ = false := by simp_all [rightN]; omega
    simp only [hy]
    clear hy hem
    unfold ndC iv
    simp only
    go_enter Tryz.func22, Tryz.ntmps22
    go_wp2
    all_goals
      go_ret
      exact ⟨rfl, by first | exact ((Kp.refl _ _).alloc _) | exact ((Kp.refl _ _).alloc _).alloc _ | exact (((Kp.refl _ _).alloc _).alloc _).alloc _⟩
  · have a2 := bnf a
    have b2 : ¬ vn < 0 := by omega
    have hy : rightN ⟨1, name, vk, vn, vt, vs, kids⟩ = false := by simp_all [rightN, tl_size]
    simp only [hy]
    clear hy hem
    unfold ndC iv
    simp only
    go_enter Tryz.func22, Tryz.ntmps22
    go_wp2
    all_goals
      go_ret
      exact ⟨rfl, by first | exact ((Kp.refl _ _).alloc _) | exact ((Kp.refl _ _).alloc _).alloc _ | exact (((Kp.refl _ _).alloc _).alloc _).alloc _⟩
  · have a2 := bnf a
    have b2 : ¬ vn < 0 := by omega
    have hy : rightN ⟨1, name, vk, vn, vt, vs, kids⟩ = false := by simp_all [rightN, tl_size, List.length_pos_iff]
    simp only [hy]
    clear hy hem
    unfold ndC iv
    simp only
    go_enter Tryz.func22, Tryz.ntmps22
    go_wp2
    all_goals
      go_ret
      exact ⟨rfl, by first | exact ((Kp.refl _ _).alloc _) | exact ((Kp.refl _ _).alloc _).alloc _ | exact (((Kp.refl _ _).alloc _).alloc _).alloc _⟩
  · have a2 := bnf a
    have b2 : ¬ vn < 0 := by omega
    subst e
    have f1 : (kids.length : Int) ≠ 0 := bne_iff_ne.1 f
    have f2 : ¬ kids.length = 0 := fun e => f1 (by omega)
    clear f1
    have hy : rightN ⟨1, name, vk, vn, vt, [], kids⟩ = false := by simp_all [rightN, tl_size]
    simp only [hy]
    clear hy hem
    unfold ndC iv
    simp only
    go_enter Tryz.func22, Tryz.ntmps22
    go_wp2
    all_goals
      go_ret
      exact ⟨rfl, by first | exact ((Kp.refl _ _).alloc _) | exact ((Kp.refl _ _).alloc _).alloc _ | exact (((Kp.refl _ _).alloc _).alloc _).alloc _⟩
  · have a2 := bnf a
    have b2 : ¬ vn < 0 := by omega
    subst e
    have f1 : (kids.length : Int) = 0 := by simpa using f
    have f2 : kids.length = 0 := by omega
    clear f1
    have hy : rightN ⟨1, name, vk, vn, vt, [], kids⟩ = name.toList.isEmpty := by simp_all [rightN, tl_size]
    simp only [hy]
    clear hy hem
    unfold ndC iv
    simp only
    go_enter Tryz.func22, Tryz.ntmps22
    go_wp2
    go_ret
    exact ⟨rfl, by first | exact ((Kp.refl _ _).alloc _) | exact ((Kp.refl _ _).alloc _).alloc _ | exact (((Kp.refl _ _).alloc _).alloc _).alloc _⟩
set_option maxRecDepth 100000 in
set_option maxHeartbeats 3200000 in
theorem right3 (w : World) (x : MNd) (h : x.n.op = 3) : Calls Tryz.prog 22 #[.agg (ndC x).toArray] w fun e w' => e = .returned (.bool (rightN x.n)) ∧ Old w w' := by
  obtain ⟨⟨op, name, vk, vn, vt, vs, kids⟩, A, c, vA, vc⟩ := x
  simp only at h
  subst h
  have hem := tl_empty name
  rcases stages (vk = 3) (vn = 0) ⟨#[]⟩ vs kids 0 with a | ⟨a, b⟩ | ⟨a, b, d⟩ | ⟨a, b, d, e⟩ | ⟨a, b, d, e, f⟩ | ⟨a, b, d, e, f⟩
  · have a2 := bnt a
    have hy : rightN ⟨3, name, vk, vn, vt, vs, kids⟩ = false := by simp_all [rightN]
    simp only [hy]
    clear hy hem
    unfold ndC iv
    simp only
    go_enter Tryz.func22, Tryz.ntmps22
    go_wp2
    all_goals
      go_ret
      exact ⟨rfl, by first | exact ((Kp.refl _ _).alloc _) | exact ((Kp.refl _ _).alloc _).alloc _ | exact (((Kp.refl _ _).alloc _).alloc _).alloc _⟩
  · have a2 := bnf a
    have b2 := bnt b
    have hy : rightN ⟨3, name, vk, vn, vt, vs, kids⟩ = false := by simp_all [rightN]
    simp only [hy]
    clear hy hem
    unfold ndC iv
    simp only
    go_enter Tryz.func22, Tryz.ntmps22
    go_wp2
    all_goals
      go_ret
      exact ⟨rfl, by first | exact ((Kp.refl _ _).alloc _) | exact ((Kp.refl _ _).alloc _).alloc _ | exact (((Kp.refl _ _).alloc _).alloc _).alloc _⟩
  · exact absurd (tl_size.2 rfl) d
  · have a2 := bnf a
    have b2 := bnf b
    clear d
    have hy : rightN ⟨3, name, vk, vn, vt, vs, kids⟩ = false := by simp_all [rightN, List.length_pos_iff]
    simp only [hy]
    clear hy hem
    unfold ndC iv
    simp only
    go_enter Tryz.func22, Tryz.ntmps22
    go_wp2
    all_goals
      go_ret
      exact ⟨rfl, by first | exact ((Kp.refl _ _).alloc _) | exact ((Kp.refl _ _).alloc _).alloc _ | exact (((Kp.refl _ _).alloc _).alloc _).alloc _⟩
  · have a2 := bnf a
    have b2 := bnf b
    subst e
    clear d
    have f1 : (kids.length : Int) ≠ 0 := bne_iff_ne.1 f
    have f2 : ¬ kids.length = 0 := fun e => f1 (by omega)
    clear f1
    have hy : rightN ⟨3, name, vk, vn, vt, [], kids⟩ = false := by simp_all [rightN]
    simp only [hy]
    clear hy hem
    unfold ndC iv
    simp only
    go_enter Tryz.func22, Tryz.ntmps22
    go_wp2
    all_goals
      go_ret
      exact ⟨rfl, by first | exact ((Kp.refl _ _).alloc _) | exact ((Kp.refl _ _).alloc _).alloc _ | exact (((Kp.refl _ _).alloc _).alloc _).alloc _⟩
  · have a2 := bnf a
    have b2 := bnf b
    subst e
    clear d
    have f1 : (kids.length : Int) = 0 := by simpa using f
    have f2 : kids.length = 0 := by omega
    clear f1
    have hy : rightN ⟨3, name, vk, vn, vt, [], kids⟩ = name.toList.isEmpty := by simp_all [rightN]
    simp only [hy]
    clear hy hem
    unfold ndC iv
    simp only
    go_enter Tryz.func22, Tryz.ntmps22
    go_wp2
    go_ret
    exact ⟨rfl, by first | exact ((Kp.refl _ _).alloc _) | exact ((Kp.refl _ _).alloc _).alloc _ | exact (((Kp.refl _ _).alloc _).alloc _).alloc _⟩
set_option maxRecDepth 100000 in
set_option maxHeartbeats 3200000 in
theorem right2 (w : World) (x : MNd) (h : x.n.op = 2) : Calls Tryz.prog 22 #[.agg (ndC x).toArray] w fun e w' => e = .returned (.bool (rightN x.n)) ∧ Old w w' := by
  obtain ⟨⟨op, name, vk, vn, vt, vs, kids⟩, A, c, vA, vc⟩ := x
  simp only at h
  subst h
  have hem := tl_empty name
  have hand := and_one_i64 vn
  rcases stages (vk = 2) (vn % 2 = vn) vt vs kids 0 with a | ⟨a, b⟩ | ⟨a, b, d⟩ | ⟨a, b, d, e⟩ | ⟨a, b, d, e, f⟩ | ⟨a, b, d, e, f⟩
  · have a2 := bnt a
    have hy : rightN ⟨2, name, vk, vn, vt, vs, kids⟩ = false := by simp_all [rightN]
    simp only [hy]
    clear hy hem
    unfold ndC iv
    simp only
    go_enter Tryz.func22, Tryz.ntmps22
    go_wp2
    all_goals
      go_ret
      exact ⟨rfl, by first | exact ((Kp.refl _ _).alloc _) | exact ((Kp.refl _ _).alloc _).alloc _ | exact (((Kp.refl _ _).alloc _).alloc _).alloc _⟩
  · have a2 := bnf a
    have b2 : (vn != vn % 2) = true := bnt (fun e => b e.symm)
    have b3 : ¬ vn = 0 := by omega
    have b4 : ¬ vn = 1 := by omega
    have hy : rightN ⟨2, name, vk, vn, vt, vs, kids⟩ = false := by simp_all [rightN]
    simp only [hy]
    clear hy hem
    unfold ndC iv
    simp only
    go_enter Tryz.func22, Tryz.ntmps22
    go_wp2
    all_goals
      go_ret
      exact ⟨rfl, by first | exact ((Kp.refl _ _).alloc _) | exact ((Kp.refl _ _).alloc _).alloc _ | exact (((Kp.refl _ _).alloc _).alloc _).alloc _⟩
  · have a2 := bnf a
    have b2 : (vn != vn % 2) = false := bnf b.symm
    have b3 : vn = 0 ∨ vn = 1 := by omega
    have hy : rightN ⟨2, name, vk, vn, vt, vs, kids⟩ = false := by simp_all [rightN, tl_size]
    simp only [hy]
    clear hy hem
    unfold ndC iv
    simp only
    go_enter Tryz.func22, Tryz.ntmps22
    go_wp2
    all_goals
      go_ret
      exact ⟨rfl, by first | exact ((Kp.refl _ _).alloc _) | exact ((Kp.refl _ _).alloc _).alloc _ | exact (((Kp.refl _ _).alloc _).alloc _).alloc _⟩
  · have a2 := bnf a
    have b2 : (vn != vn % 2) = false := bnf b.symm
    have b3 : vn = 0 ∨ vn = 1 := by omega
    have hy : rightN ⟨2, name, vk, vn, vt, vs, kids⟩ = false := by simp_all [rightN, tl_size, List.length_pos_iff]
    simp only [hy]
    clear hy hem
    unfold ndC iv
    simp only
    go_enter Tryz.func22, Tryz.ntmps22
    go_wp2
    all_goals
      go_ret
      exact ⟨rfl, by first | exact ((Kp.refl _ _).alloc _) | exact ((Kp.refl _ _).alloc _).alloc _ | exact (((Kp.refl _ _).alloc _).alloc _).alloc _⟩
  · have a2 := bnf a
    have b2 : (vn != vn % 2) = false := bnf b.symm
    have b3 : vn = 0 ∨ vn = 1 := by omega
    subst e
    have f1 : (kids.length : Int) ≠ 0 := bne_iff_ne.1 f
    have f2 : ¬ kids.length = 0 := fun e => f1 (by omega)
    clear f1
    have hy : rightN ⟨2, name, vk, vn, vt, [], kids⟩ = false := by simp_all [rightN, tl_size]
    simp only [hy]
    clear hy hem
    unfold ndC iv
    simp only
    go_enter Tryz.func22, Tryz.ntmps22
    go_wp2
    all_goals
      go_ret
      exact ⟨rfl, by first | exact ((Kp.refl _ _).alloc _) | exact ((Kp.refl _ _).alloc _).alloc _ | exact (((Kp.refl _ _).alloc _).alloc _).alloc _⟩
  · have a2 := bnf a
    have b2 : (vn != vn % 2) = false := bnf b.symm
    have b3 : vn = 0 ∨ vn = 1 := by omega
    subst e
    have f1 : (kids.length : Int) = 0 := by simpa using f
    have f2 : kids.length = 0 := by omega
    clear f1
    have hy : rightN ⟨2, name, vk, vn, vt, [], kids⟩ = name.toList.isEmpty := by simp_all [rightN, tl_size]
    simp only [hy]
    clear hy hem
    unfold ndC iv
    simp only
    go_enter Tryz.func22, Tryz.ntmps22
    go_wp2
    go_ret
    exact ⟨rfl, by first | exact ((Kp.refl _ _).alloc _) | exact ((Kp.refl _ _).alloc _).alloc _ | exact (((Kp.refl _ _).alloc _).alloc _).alloc _⟩
end Go.Proofs.YtmmjcbbogokmfaaGreatDoor
