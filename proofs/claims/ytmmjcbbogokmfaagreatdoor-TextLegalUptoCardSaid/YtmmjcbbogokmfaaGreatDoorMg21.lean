import Derived.Test.YtmmjcbbogokmfaaGreatDoorMg03
import Derived.Test.YtmmjcbbogokmfaaGreatDoorMg20
/- Contract of docketref9.Right. -/
namespace Go.Proofs.YtmmjcbbogokmfaaGreatDoor
open Go.RowKit

def namedR (op : Int) : Bool := decide (op = 5 ∨ op = 24 ∨ op = 25 ∨ op = 26)
def lastR (n : Nd) : Bool :=
  if n.op = 1 then decide (n.vk = 1 ∧ 0 ≤ n.vn ∧ n.vt.size = 0)
  else if n.op = 2 then decide (n.vk = 2 ∧ (n.vn = 0 ∨ n.vn = 1) ∧ n.vt.size = 0)
  else if n.op = 3 then decide (n.vk = 3 ∧ n.vn = 0)
  else decide (n.vk = 0 ∧ n.vn = 0 ∧ n.vt.size = 0)
/-- is a node right, by the document? -/
def rightR (n : Nd) : Bool :=
  if kidsR n.op = -2 ∨ (0 ≤ kidsR n.op ∧ (n.kids.length : Int) ≠ kidsR n.op) then false
  else if (if namedR n.op = true then legalT n.name = false else n.name.size ≠ 0) then false
  else if n.vs ≠ [] then false
  else lastR n
theorem bqt {a b : Int} (h : a = b) : (a == b) = true := beq_iff_eq.2 h
theorem bqf {a b : Int} (h : ¬ a = b) : (a == b) = false := beq_eq_false_iff_ne.2 h
theorem paths (A B C D E F : Prop) : ¬ A ∨ (A ∧ ¬ B) ∨ (A ∧ B ∧ ¬ C) ∨ (A ∧ B ∧ C ∧ ¬ D) ∨ (A ∧ B ∧ C ∧ D ∧ ¬ E) ∨ (A ∧ B ∧ C ∧ D ∧ E ∧ ¬ F) ∨ (A ∧ B ∧ C ∧ D ∧ E ∧ F) := by
  by_cases a : A
  · by_cases b : B
    · by_cases c : C
      · by_cases d : D
        · by_cases e : E
          · by_cases f : F
            · exact .inr (.inr (.inr (.inr (.inr (.inr ⟨a, b, c, d, e, f⟩)))))
            · exact .inr (.inr (.inr (.inr (.inr (.inl ⟨a, b, c, d, e, f⟩)))))
          · exact .inr (.inr (.inr (.inr (.inl ⟨a, b, c, d, e⟩))))
        · exact .inr (.inr (.inr (.inl ⟨a, b, c, d⟩)))
      · exact .inr (.inr (.inl ⟨a, b, c⟩))
    · exact .inr (.inl ⟨a, b⟩)
  · exact .inl a
set_option maxRecDepth 100000 in
set_option maxHeartbeats 6400000 in
theorem rright5 (w : World) (hg : SgR w) (x : MNd) (h : x.n.op = 5) : Calls Tryz.prog 23 #[.agg (ndC x).toArray] w fun e w' => e = .returned (.bool (rightR x.n)) ∧ Old w w' := by
  obtain ⟨⟨op, name, vk, vn, vt, vs, kids⟩, A, c, vA, vc⟩ := x
  simp only at h
  subst h
  have HK := Lib.hid (fun W => rkids_any W 5)
  rw [show kidsR 5 = 0 from rfl] at HK
  have hkid : kidsR 5 = 0 := rfl
  have hnm : namedR 5 = true := by decide
  rcases paths ((kids.length : Int) = 0) (legalT name = true) (vs = []) (vk = 0) (vn = 0) (vt.size = 0) with a | ⟨a, b⟩ | ⟨a, b, d⟩ | ⟨a, b, d, e⟩ | ⟨a, b, d, e, f⟩ | ⟨a, b, d, e, f, g⟩ | ⟨a, b, d, e, f, g⟩
  · have hy : rightR ⟨5, name, vk, vn, vt, vs, kids⟩ = false := by unfold rightR; simp only [hkid]; rw [if_pos (.inr ⟨by omega, a⟩)]
    have a2 := bnt a
    simp only [hy]
    clear hy hnm hkid
    unfold ndC iv
    go_enter Tryz.func23, Tryz.ntmps23
    go_wp2_with (first | (go_at_call 73; refine (HK.out _).mono ?_; rintro e w1 ⟨rfl, rfl⟩) | fail)
    go_ret
    exact ⟨rfl, by first | exact (Kp.refl _ _) | exact ((Kp.refl _ _).alloc _) | exact ((Kp.refl _ _).alloc _).alloc _ | exact (((Kp.refl _ _).alloc _).alloc _).alloc _⟩
  · have hy : rightR ⟨5, name, vk, vn, vt, vs, kids⟩ = false := by unfold rightR; simp only [hkid, hnm]; rw [if_neg (fun e => e.elim (fun e => by omega) (fun e => e.2 a)), if_pos (by rw [if_pos trivial]; exact (Bool.not_eq_true _).mp b)]
    have a2 := bnf a
    have HL := Lib.hid (fun W (hO : Old w W) => rlegal_any W (hg.old hO) name)
    rw [show legalB (sb name) = false from (Bool.not_eq_true _).mp b] at HL
    simp only [hy]
    clear hy hnm hkid
    unfold ndC iv
    go_enter Tryz.func23, Tryz.ntmps23
    go_wp2_with (first | (go_at_call 21; refine (HL.out _ (by first | exact (Kp.refl _ _) | exact ((Kp.refl _ _).alloc _) | exact ((Kp.refl _ _).alloc _).alloc _ | exact (((Kp.refl _ _).alloc _).alloc _).alloc _)).mono ?_; rintro e w1 ⟨rfl, rfl⟩) | (go_at_call 73; refine (HK.out _).mono ?_; rintro e w1 ⟨rfl, rfl⟩) | fail)
    go_ret
    exact ⟨rfl, by first | exact (Kp.refl _ _) | exact ((Kp.refl _ _).alloc _) | exact ((Kp.refl _ _).alloc _).alloc _ | exact (((Kp.refl _ _).alloc _).alloc _).alloc _⟩
  · have hy : rightR ⟨5, name, vk, vn, vt, vs, kids⟩ = false := by unfold rightR; simp only [hkid, hnm]; rw [if_neg (fun e => e.elim (fun e => by omega) (fun e => e.2 a)), if_neg (by rw [if_pos trivial, b]; decide), if_pos d]
    have a2 := bnf a
    have HL := Lib.hid (fun W (hO : Old w W) => rlegal_any W (hg.old hO) name)
    rw [show legalB (sb name) = true from b] at HL
    have d2 : (0 : Int) < (vs.length : Int) := by have := List.length_pos_iff.2 d; omega
    simp only [hy]
    clear hy hnm hkid
    unfold ndC iv
    go_enter Tryz.func23, Tryz.ntmps23
    go_wp2_with (first | (go_at_call 21; refine (HL.out _ (by first | exact (Kp.refl _ _) | exact ((Kp.refl _ _).alloc _) | exact ((Kp.refl _ _).alloc _).alloc _ | exact (((Kp.refl _ _).alloc _).alloc _).alloc _)).mono ?_; rintro e w1 ⟨rfl, rfl⟩) | (go_at_call 73; refine (HK.out _).mono ?_; rintro e w1 ⟨rfl, rfl⟩) | fail)
    go_ret
    exact ⟨rfl, by first | exact (Kp.refl _ _) | exact ((Kp.refl _ _).alloc _) | exact ((Kp.refl _ _).alloc _).alloc _ | exact (((Kp.refl _ _).alloc _).alloc _).alloc _⟩
  · have hy : rightR ⟨5, name, vk, vn, vt, vs, kids⟩ = false := by unfold rightR; simp only [hkid, hnm]; rw [if_neg (fun e => e.elim (fun e => by omega) (fun e => e.2 a)), if_neg (by rw [if_pos trivial, b]; decide), if_neg (fun e => e d)]; unfold lastR; simp only; rw [if_neg (by decide), if_neg (by decide), if_neg (by decide)]; exact decide_eq_false (fun u => e u.1)
    have a2 := bnf a
    have HL := Lib.hid (fun W (hO : Old w W) => rlegal_any W (hg.old hO) name)
    rw [show legalB (sb name) = true from b] at HL
    subst d
    have e2 := bqf e
    simp only [hy]
    clear hy hnm hkid
    unfold ndC iv
    go_enter Tryz.func23, Tryz.ntmps23
    go_wp2_with (first | (go_at_call 21; refine (HL.out _ (by first | exact (Kp.refl _ _) | exact ((Kp.refl _ _).alloc _) | exact ((Kp.refl _ _).alloc _).alloc _ | exact (((Kp.refl _ _).alloc _).alloc _).alloc _)).mono ?_; rintro e w1 ⟨rfl, rfl⟩) | (go_at_call 73; refine (HK.out _).mono ?_; rintro e w1 ⟨rfl, rfl⟩) | fail)
    go_ret
    exact ⟨rfl, by first | exact (Kp.refl _ _) | exact ((Kp.refl _ _).alloc _) | exact ((Kp.refl _ _).alloc _).alloc _ | exact (((Kp.refl _ _).alloc _).alloc _).alloc _⟩
  · have hy : rightR ⟨5, name, vk, vn, vt, vs, kids⟩ = false := by unfold rightR; simp only [hkid, hnm]; rw [if_neg (fun e => e.elim (fun e => by omega) (fun e => e.2 a)), if_neg (by rw [if_pos trivial, b]; decide), if_neg (fun e => e d)]; unfold lastR; simp only; rw [if_neg (by decide), if_neg (by decide), if_neg (by decide)]; exact decide_eq_false (fun u => f u.2.1)
    have a2 := bnf a
    have HL := Lib.hid (fun W (hO : Old w W) => rlegal_any W (hg.old hO) name)
    rw [show legalB (sb name) = true from b] at HL
    subst d
    have e2 := bqt e
    have f2 := bqf f
    simp only [hy]
    clear hy hnm hkid
    unfold ndC iv
    go_enter Tryz.func23, Tryz.ntmps23
    go_wp2_with (first | (go_at_call 21; refine (HL.out _ (by first | exact (Kp.refl _ _) | exact ((Kp.refl _ _).alloc _) | exact ((Kp.refl _ _).alloc _).alloc _ | exact (((Kp.refl _ _).alloc _).alloc _).alloc _)).mono ?_; rintro e w1 ⟨rfl, rfl⟩) | (go_at_call 73; refine (HK.out _).mono ?_; rintro e w1 ⟨rfl, rfl⟩) | fail)
    go_ret
    exact ⟨rfl, by first | exact (Kp.refl _ _) | exact ((Kp.refl _ _).alloc _) | exact ((Kp.refl _ _).alloc _).alloc _ | exact (((Kp.refl _ _).alloc _).alloc _).alloc _⟩
  · have hy : rightR ⟨5, name, vk, vn, vt, vs, kids⟩ = false := by unfold rightR; simp only [hkid, hnm]; rw [if_neg (fun e => e.elim (fun e => by omega) (fun e => e.2 a)), if_neg (by rw [if_pos trivial, b]; decide), if_neg (fun e => e d)]; unfold lastR; simp only; rw [if_neg (by decide), if_neg (by decide), if_neg (by decide)]; exact decide_eq_false (fun u => g u.2.2)
    have a2 := bnf a
    have HL := Lib.hid (fun W (hO : Old w W) => rlegal_any W (hg.old hO) name)
    rw [show legalB (sb name) = true from b] at HL
    subst d
    have e2 := bqt e
    have f2 := bqt f
    have g2 : vt.toList.isEmpty = false := by rw [tl_empty]; exact decide_eq_false g
    simp only [hy]
    clear hy hnm hkid
    unfold ndC iv
    go_enter Tryz.func23, Tryz.ntmps23
    go_wp2_with (first | (go_at_call 21; refine (HL.out _ (by first | exact (Kp.refl _ _) | exact ((Kp.refl _ _).alloc _) | exact ((Kp.refl _ _).alloc _).alloc _ | exact (((Kp.refl _ _).alloc _).alloc _).alloc _)).mono ?_; rintro e w1 ⟨rfl, rfl⟩) | (go_at_call 73; refine (HK.out _).mono ?_; rintro e w1 ⟨rfl, rfl⟩) | fail)
    go_ret
    exact ⟨rfl, by first | exact (Kp.refl _ _) | exact ((Kp.refl _ _).alloc _) | exact ((Kp.refl _ _).alloc _).alloc _ | exact (((Kp.refl _ _).alloc _).alloc _).alloc _⟩
  · have hy : rightR ⟨5, name, vk, vn, vt, vs, kids⟩ = true := by unfold rightR; simp only [hkid, hnm]; rw [if_neg (fun e => e.elim (fun e => by omega) (fun e => e.2 a)), if_neg (by rw [if_pos trivial, b]; decide), if_neg (fun e => e d)]; unfold lastR; simp only; rw [if_neg (by decide), if_neg (by decide), if_neg (by decide)]; exact decide_eq_true ⟨e, f, g⟩
    have a2 := bnf a
    have HL := Lib.hid (fun W (hO : Old w W) => rlegal_any W (hg.old hO) name)
    rw [show legalB (sb name) = true from b] at HL
    subst d
    have e2 := bqt e
    have f2 := bqt f
    have g2 : vt.toList.isEmpty = true := by rw [tl_empty]; exact decide_eq_true g
    simp only [hy]
    clear hy hnm hkid
    unfold ndC iv
    go_enter Tryz.func23, Tryz.ntmps23
    go_wp2_with (first | (go_at_call 21; refine (HL.out _ (by first | exact (Kp.refl _ _) | exact ((Kp.refl _ _).alloc _) | exact ((Kp.refl _ _).alloc _).alloc _ | exact (((Kp.refl _ _).alloc _).alloc _).alloc _)).mono ?_; rintro e w1 ⟨rfl, rfl⟩) | (go_at_call 73; refine (HK.out _).mono ?_; rintro e w1 ⟨rfl, rfl⟩) | fail)
    go_ret
    exact ⟨rfl, by first | exact (Kp.refl _ _) | exact ((Kp.refl _ _).alloc _) | exact ((Kp.refl _ _).alloc _).alloc _ | exact (((Kp.refl _ _).alloc _).alloc _).alloc _⟩
set_option maxRecDepth 100000 in
set_option maxHeartbeats 6400000 in
theorem rright24 (w : World) (hg : SgR w) (x : MNd) (h : x.n.op = 24) : Calls Tryz.prog 23 #[.agg (ndC x).toArray] w fun e w' => e = .returned (.bool (rightR x.n)) ∧ Old w w' := by
  obtain ⟨⟨op, name, vk, vn, vt, vs, kids⟩, A, c, vA, vc⟩ := x
  simp only at h
  subst h
  have HK := Lib.hid (fun W => rkids_any W 24)
  rw [show kidsR 24 = 0 from rfl] at HK
  have hkid : kidsR 24 = 0 := rfl
  have hnm : namedR 24 = true := by decide
  rcases paths ((kids.length : Int) = 0) (legalT name = true) (vs = []) (vk = 0) (vn = 0) (vt.size = 0) with a | ⟨a, b⟩ | ⟨a, b, d⟩ | ⟨a, b, d, e⟩ | ⟨a, b, d, e, f⟩ | ⟨a, b, d, e, f, g⟩ | ⟨a, b, d, e, f, g⟩
  · have hy : rightR ⟨24, name, vk, vn, vt, vs, kids⟩ = false := by unfold rightR; simp only [hkid]; rw [if_pos (.inr ⟨by omega, a⟩)]
    have a2 := bnt a
    simp only [hy]
    clear hy hnm hkid
    unfold ndC iv
    go_enter Tryz.func23, Tryz.ntmps23
    go_wp2_with (first | (go_at_call 73; refine (HK.out _).mono ?_; rintro e w1 ⟨rfl, rfl⟩) | fail)
    go_ret
    exact ⟨rfl, by first | exact (Kp.refl _ _) | exact ((Kp.refl _ _).alloc _) | exact ((Kp.refl _ _).alloc _).alloc _ | exact (((Kp.refl _ _).alloc _).alloc _).alloc _⟩
  · have hy : rightR ⟨24, name, vk, vn, vt, vs, kids⟩ = false := by unfold rightR; simp only [hkid, hnm]; rw [if_neg (fun e => e.elim (fun e => by omega) (fun e => e.2 a)), if_pos (by rw [if_pos trivial]; exact (Bool.not_eq_true _).mp b)]
    have a2 := bnf a
    have HL := Lib.hid (fun W (hO : Old w W) => rlegal_any W (hg.old hO) name)
    rw [show legalB (sb name) = false from (Bool.not_eq_true _).mp b] at HL
    simp only [hy]
    clear hy hnm hkid
    unfold ndC iv
    go_enter Tryz.func23, Tryz.ntmps23
    go_wp2_with (first | (go_at_call 21; refine (HL.out _ (by first | exact (Kp.refl _ _) | exact ((Kp.refl _ _).alloc _) | exact ((Kp.refl _ _).alloc _).alloc _ | exact (((Kp.refl _ _).alloc _).alloc _).alloc _)).mono ?_; rintro e w1 ⟨rfl, rfl⟩) | (go_at_call 73; refine (HK.out _).mono ?_; rintro e w1 ⟨rfl, rfl⟩) | fail)
    go_ret
    exact ⟨rfl, by first | exact (Kp.refl _ _) | exact ((Kp.refl _ _).alloc _) | exact ((Kp.refl _ _).alloc _).alloc _ | exact (((Kp.refl _ _).alloc _).alloc _).alloc _⟩
  · have hy : rightR ⟨24, name, vk, vn, vt, vs, kids⟩ = false := by unfold rightR; simp only [hkid, hnm]; rw [if_neg (fun e => e.elim (fun e => by omega) (fun e => e.2 a)), if_neg (by rw [if_pos trivial, b]; decide), if_pos d]
    have a2 := bnf a
    have HL := Lib.hid (fun W (hO : Old w W) => rlegal_any W (hg.old hO) name)
    rw [show legalB (sb name) = true from b] at HL
    have d2 : (0 : Int) < (vs.length : Int) := by have := List.length_pos_iff.2 d; omega
    simp only [hy]
    clear hy hnm hkid
    unfold ndC iv
    go_enter Tryz.func23, Tryz.ntmps23
    go_wp2_with (first | (go_at_call 21; refine (HL.out _ (by first | exact (Kp.refl _ _) | exact ((Kp.refl _ _).alloc _) | exact ((Kp.refl _ _).alloc _).alloc _ | exact (((Kp.refl _ _).alloc _).alloc _).alloc _)).mono ?_; rintro e w1 ⟨rfl, rfl⟩) | (go_at_call 73; refine (HK.out _).mono ?_; rintro e w1 ⟨rfl, rfl⟩) | fail)
    go_ret
    exact ⟨rfl, by first | exact (Kp.refl _ _) | exact ((Kp.refl _ _).alloc _) | exact ((Kp.refl _ _).alloc _).alloc _ | exact (((Kp.refl _ _).alloc _).alloc _).alloc _⟩
  · have hy : rightR ⟨24, name, vk, vn, vt, vs, kids⟩ = false := by unfold rightR; simp only [hkid, hnm]; rw [if_neg (fun e => e.elim (fun e => by omega) (fun e => e.2 a)), if_neg (by rw [if_pos trivial, b]; decide), if_neg (fun e => e d)]; unfold lastR; simp only; rw [if_neg (by decide), if_neg (by decide), if_neg (by decide)]; exact decide_eq_false (fun u => e u.1)
    have a2 := bnf a
    have HL := Lib.hid (fun W (hO : Old w W) => rlegal_any W (hg.old hO) name)
    rw [show legalB (sb name) = true from b] at HL
    subst d
    have e2 := bqf e
    simp only [hy]
    clear hy hnm hkid
    unfold ndC iv
    go_enter Tryz.func23, Tryz.ntmps23
    go_wp2_with (first | (go_at_call 21; refine (HL.out _ (by first | exact (Kp.refl _ _) | exact ((Kp.refl _ _).alloc _) | exact ((Kp.refl _ _).alloc _).alloc _ | exact (((Kp.refl _ _).alloc _).alloc _).alloc _)).mono ?_; rintro e w1 ⟨rfl, rfl⟩) | (go_at_call 73; refine (HK.out _).mono ?_; rintro e w1 ⟨rfl, rfl⟩) | fail)
    go_ret
    exact ⟨rfl, by first | exact (Kp.refl _ _) | exact ((Kp.refl _ _).alloc _) | exact ((Kp.refl _ _).alloc _).alloc _ | exact (((Kp.refl _ _).alloc _).alloc _).alloc _⟩
  · have hy : rightR ⟨24, name, vk, vn, vt, vs, kids⟩ = false := by unfold rightR; simp only [hkid, hnm]; rw [if_neg (fun e => e.elim (fun e => by omega) (fun e => e.2 a)), if_neg (by rw [if_pos trivial, b]; decide), if_neg (fun e => e d)]; unfold lastR; simp only; rw [if_neg (by decide), if_neg (by decide), if_neg (by decide)]; exact decide_eq_false (fun u => f u.2.1)
    have a2 := bnf a
    have HL := Lib.hid (fun W (hO : Old w W) => rlegal_any W (hg.old hO) name)
    rw [show legalB (sb name) = true from b] at HL
    subst d
    have e2 := bqt e
    have f2 := bqf f
    simp only [hy]
    clear hy hnm hkid
    unfold ndC iv
    go_enter Tryz.func23, Tryz.ntmps23
    go_wp2_with (first | (go_at_call 21; refine (HL.out _ (by first | exact (Kp.refl _ _) | exact ((Kp.refl _ _).alloc _) | exact ((Kp.refl _ _).alloc _).alloc _ | exact (((Kp.refl _ _).alloc _).alloc _).alloc _)).mono ?_; rintro e w1 ⟨rfl, rfl⟩) | (go_at_call 73; refine (HK.out _).mono ?_; rintro e w1 ⟨rfl, rfl⟩) | fail)
    go_ret
    exact ⟨rfl, by first | exact (Kp.refl _ _) | exact ((Kp.refl _ _).alloc _) | exact ((Kp.refl _ _).alloc _).alloc _ | exact (((Kp.refl _ _).alloc _).alloc _).alloc _⟩
  · have hy : rightR ⟨24, name, vk, vn, vt, vs, kids⟩ = false := by unfold rightR; simp only [hkid, hnm]; rw [if_neg (fun e => e.elim (fun e => by omega) (fun e => e.2 a)), if_neg (by rw [if_pos trivial, b]; decide), if_neg (fun e => e d)]; unfold lastR; simp only; rw [if_neg (by decide), if_neg (by decide), if_neg (by decide)]; exact decide_eq_false (fun u => g u.2.2)
    have a2 := bnf a
    have HL := Lib.hid (fun W (hO : Old w W) => rlegal_any W (hg.old hO) name)
    rw [show legalB (sb name) = true from b] at HL
    subst d
    have e2 := bqt e
    have f2 := bqt f
    have g2 : vt.toList.isEmpty = false := by rw [tl_empty]; exact decide_eq_false g
    simp only [hy]
    clear hy hnm hkid
    unfold ndC iv
    go_enter Tryz.func23, Tryz.ntmps23
    go_wp2_with (first | (go_at_call 21; refine (HL.out _ (by first | exact (Kp.refl _ _) | exact ((Kp.refl _ _).alloc _) | exact ((Kp.refl _ _).alloc _).alloc _ | exact (((Kp.refl _ _).alloc _).alloc _).alloc _)).mono ?_; rintro e w1 ⟨rfl, rfl⟩) | (go_at_call 73; refine (HK.out _).mono ?_; rintro e w1 ⟨rfl, rfl⟩) | fail)
    go_ret
    exact ⟨rfl, by first | exact (Kp.refl _ _) | exact ((Kp.refl _ _).alloc _) | exact ((Kp.refl _ _).alloc _).alloc _ | exact (((Kp.refl _ _).alloc _).alloc _).alloc _⟩
  · have hy : rightR ⟨24, name, vk, vn, vt, vs, kids⟩ = true := by unfold rightR; simp only [hkid, hnm]; rw [if_neg (fun e => e.elim (fun e => by omega) (fun e => e.2 a)), if_neg (by rw [if_pos trivial, b]; decide), if_neg (fun e => e d)]; unfold lastR; simp only; rw [if_neg (by decide), if_neg (by decide), if_neg (by decide)]; exact decide_eq_true ⟨e, f, g⟩
    have a2 := bnf a
    have HL := Lib.hid (fun W (hO : Old w W) => rlegal_any W (hg.old hO) name)
    rw [show legalB (sb name) = true from b] at HL
    subst d
    have e2 := bqt e
    have f2 := bqt f
    have g2 : vt.toList.isEmpty = true := by rw [tl_empty]; exact decide_eq_true g
    simp only [hy]
    clear hy hnm hkid
    unfold ndC iv
    go_enter Tryz.func23, Tryz.ntmps23
    go_wp2_with (first | (go_at_call 21; refine (HL.out _ (by first | exact (Kp.refl _ _) | exact ((Kp.refl _ _).alloc _) | exact ((Kp.refl _ _).alloc _).alloc _ | exact (((Kp.refl _ _).alloc _).alloc _).alloc _)).mono ?_; rintro e w1 ⟨rfl, rfl⟩) | (go_at_call 73; refine (HK.out _).mono ?_; rintro e w1 ⟨rfl, rfl⟩) | fail)
    go_ret
    exact ⟨rfl, by first | exact (Kp.refl _ _) | exact ((Kp.refl _ _).alloc _) | exact ((Kp.refl _ _).alloc _).alloc _ | exact (((Kp.refl _ _).alloc _).alloc _).alloc _⟩
set_option maxRecDepth 100000 in
set_option maxHeartbeats 6400000 in
theorem rright25 (w : World) (hg : SgR w) (x : MNd) (h : x.n.op = 25) : Calls Tryz.prog 23 #[.agg (ndC x).toArray] w fun e w' => e = .returned (.bool (rightR x.n)) ∧ Old w w' := by
  obtain ⟨⟨op, name, vk, vn, vt, vs, kids⟩, A, c, vA, vc⟩ := x
  simp only at h
  subst h
  have HK := Lib.hid (fun W => rkids_any W 25)
  rw [show kidsR 25 = 0 from rfl] at HK
  have hkid : kidsR 25 = 0 := rfl
  have hnm : namedR 25 = true := by decide
  rcases paths ((kids.length : Int) = 0) (legalT name = true) (vs = []) (vk = 0) (vn = 0) (vt.size = 0) with a | ⟨a, b⟩ | ⟨a, b, d⟩ | ⟨a, b, d, e⟩ | ⟨a, b, d, e, f⟩ | ⟨a, b, d, e, f, g⟩ | ⟨a, b, d, e, f, g⟩
  · have hy : rightR ⟨25, name, vk, vn, vt, vs, kids⟩ = false := by unfold rightR; simp only [hkid]; rw [if_pos (.inr ⟨by omega, a⟩)]
    have a2 := bnt a
    simp only [hy]
    clear hy hnm hkid
    unfold ndC iv
    go_enter Tryz.func23, Tryz.ntmps23
    go_wp2_with (first | (go_at_call 73; refine (HK.out _).mono ?_; rintro e w1 ⟨rfl, rfl⟩) | fail)
    go_ret
    exact ⟨rfl, by first | exact (Kp.refl _ _) | exact ((Kp.refl _ _).alloc _) | exact ((Kp.refl _ _).alloc _).alloc _ | exact (((Kp.refl _ _).alloc _).alloc _).alloc _⟩
  · have hy : rightR ⟨25, name, vk, vn, vt, vs, kids⟩ = false := by unfold rightR; simp only [hkid, hnm]; rw [if_neg (fun e => e.elim (fun e => by omega) (fun e => e.2 a)), if_pos (by rw [if_pos trivial]; exact (Bool.not_eq_true _).mp b)]
    have a2 := bnf a
    have HL := Lib.hid (fun W (hO : Old w W) => rlegal_any W (hg.old hO) name)
    rw [show legalB (sb name) = false from (Bool.not_eq_true _).mp b] at HL
    simp only [hy]
    clear hy hnm hkid
    unfold ndC iv
    go_enter Tryz.func23, Tryz.ntmps23
    go_wp2_with (first | (go_at_call 21; refine (HL.out _ (by first | exact (Kp.refl _ _) | exact ((Kp.refl _ _).alloc _) | exact ((Kp.refl _ _).alloc _).alloc _ | exact (((Kp.refl _ _).alloc _).alloc _).alloc _)).mono ?_; rintro e w1 ⟨rfl, rfl⟩) | (go_at_call 73; refine (HK.out _).mono ?_; rintro e w1 ⟨rfl, rfl⟩) | fail)
    go_ret
    exact ⟨rfl, by first | exact (Kp.refl _ _) | exact ((Kp.refl _ _).alloc _) | exact ((Kp.refl _ _).alloc _).alloc _ | exact (((Kp.refl _ _).alloc _).alloc _).alloc _⟩
  · have hy : rightR ⟨25, name, vk, vn, vt, vs, kids⟩ = false := by unfold rightR; simp only [hkid, hnm]; rw [if_neg (fun e => e.elim (fun e => by omega) (fun e => e.2 a)), if_neg (by rw [if_pos trivial, b]; decide), if_pos d]
    have a2 := bnf a
    have HL := Lib.hid (fun W (hO : Old w W) => rlegal_any W (hg.old hO) name)
    rw [show legalB (sb name) = true from b] at HL
    have d2 : (0 : Int) < (vs.length : Int) := by have := List.length_pos_iff.2 d; omega
    simp only [hy]
    clear hy hnm hkid
    unfold ndC iv
    go_enter Tryz.func23, Tryz.ntmps23
    go_wp2_with (first | (go_at_call 21; refine (HL.out _ (by first | exact (Kp.refl _ _) | exact ((Kp.refl _ _).alloc _) | exact ((Kp.refl _ _).alloc _).alloc _ | exact (((Kp.refl _ _).alloc _).alloc _).alloc _)).mono ?_; rintro e w1 ⟨rfl, rfl⟩) | (go_at_call 73; refine (HK.out _).mono ?_; rintro e w1 ⟨rfl, rfl⟩) | fail)
    go_ret
    exact ⟨rfl, by first | exact (Kp.refl _ _) | exact ((Kp.refl _ _).alloc _) | exact ((Kp.refl _ _).alloc _).alloc _ | exact (((Kp.refl _ _).alloc _).alloc _).alloc _⟩
  · have hy : rightR ⟨25, name, vk, vn, vt, vs, kids⟩ = false := by unfold rightR; simp only [hkid, hnm]; rw [if_neg (fun e => e.elim (fun e => by omega) (fun e => e.2 a)), if_neg (by rw [if_pos trivial, b]; decide), if_neg (fun e => e d)]; unfold lastR; simp only; rw [if_neg (by decide), if_neg (by decide), if_neg (by decide)]; exact decide_eq_false (fun u => e u.1)
    have a2 := bnf a
    have HL := Lib.hid (fun W (hO : Old w W) => rlegal_any W (hg.old hO) name)
    rw [show legalB (sb name) = true from b] at HL
    subst d
    have e2 := bqf e
    simp only [hy]
    clear hy hnm hkid
    unfold ndC iv
    go_enter Tryz.func23, Tryz.ntmps23
    go_wp2_with (first | (go_at_call 21; refine (HL.out _ (by first | exact (Kp.refl _ _) | exact ((Kp.refl _ _).alloc _) | exact ((Kp.refl _ _).alloc _).alloc _ | exact (((Kp.refl _ _).alloc _).alloc _).alloc _)).mono ?_; rintro e w1 ⟨rfl, rfl⟩) | (go_at_call 73; refine (HK.out _).mono ?_; rintro e w1 ⟨rfl, rfl⟩) | fail)
    go_ret
    exact ⟨rfl, by first | exact (Kp.refl _ _) | exact ((Kp.refl _ _).alloc _) | exact ((Kp.refl _ _).alloc _).alloc _ | exact (((Kp.refl _ _).alloc _).alloc _).alloc _⟩
  · have hy : rightR ⟨25, name, vk, vn, vt, vs, kids⟩ = false := by unfold rightR; simp only [hkid, hnm]; rw [if_neg (fun e => e.elim (fun e => by omega) (fun e => e.2 a)), if_neg (by rw [if_pos trivial, b]; decide), if_neg (fun e => e d)]; unfold lastR; simp only; rw [if_neg (by decide), if_neg (by decide), if_neg (by decide)]; exact decide_eq_false (fun u => f u.2.1)
    have a2 := bnf a
    have HL := Lib.hid (fun W (hO : Old w W) => rlegal_any W (hg.old hO) name)
    rw [show legalB (sb name) = true from b] at HL
    subst d
    have e2 := bqt e
    have f2 := bqf f
    simp only [hy]
    clear hy hnm hkid
    unfold ndC iv
    go_enter Tryz.func23, Tryz.ntmps23
    go_wp2_with (first | (go_at_call 21; refine (HL.out _ (by first | exact (Kp.refl _ _) | exact ((Kp.refl _ _).alloc _) | exact ((Kp.refl _ _).alloc _).alloc _ | exact (((Kp.refl _ _).alloc _).alloc _).alloc _)).mono ?_; rintro e w1 ⟨rfl, rfl⟩) | (go_at_call 73; refine (HK.out _).mono ?_; rintro e w1 ⟨rfl, rfl⟩) | fail)
    go_ret
    exact ⟨rfl, by first | exact (Kp.refl _ _) | exact ((Kp.refl _ _).alloc _) | exact ((Kp.refl _ _).alloc _).alloc _ | exact (((Kp.refl _ _).alloc _).alloc _).alloc _⟩
  · have hy : rightR ⟨25, name, vk, vn, vt, vs, kids⟩ = false := by unfold rightR; simp only [hkid, hnm]; rw [if_neg (fun e => e.elim (fun e => by omega) (fun e => e.2 a)), if_neg (by rw [if_pos trivial, b]; decide), if_neg (fun e => e d)]; unfold lastR; simp only; rw [if_neg (by decide), if_neg (by decide), if_neg (by decide)]; exact decide_eq_false (fun u => g u.2.2)
    have a2 := bnf a
    have HL := Lib.hid (fun W (hO : Old w W) => rlegal_any W (hg.old hO) name)
    rw [show legalB (sb name) = true from b] at HL
    subst d
    have e2 := bqt e
    have f2 := bqt f
    have g2 : vt.toList.isEmpty = false := by rw [tl_empty]; exact decide_eq_false g
    simp only [hy]
    clear hy hnm hkid
    unfold ndC iv
    go_enter Tryz.func23, Tryz.ntmps23
    go_wp2_with (first | (go_at_call 21; refine (HL.out _ (by first | exact (Kp.refl _ _) | exact ((Kp.refl _ _).alloc _) | exact ((Kp.refl _ _).alloc _).alloc _ | exact (((Kp.refl _ _).alloc _).alloc _).alloc _)).mono ?_; rintro e w1 ⟨rfl, rfl⟩) | (go_at_call 73; refine (HK.out _).mono ?_; rintro e w1 ⟨rfl, rfl⟩) | fail)
    go_ret
    exact ⟨rfl, by first | exact (Kp.refl _ _) | exact ((Kp.refl _ _).alloc _) | exact ((Kp.refl _ _).alloc _).alloc _ | exact (((Kp.refl _ _).alloc _).alloc _).alloc _⟩
  · have hy : rightR ⟨25, name, vk, vn, vt, vs, kids⟩ = true := by unfold rightR; simp only [hkid, hnm]; rw [if_neg (fun e => e.elim (fun e => by omega) (fun e => e.2 a)), if_neg (by rw [if_pos trivial, b]; decide), if_neg (fun e => e d)]; unfold lastR; simp only; rw [if_neg (by decide), if_neg (by decide), if_neg (by decide)]; exact decide_eq_true ⟨e, f, g⟩
    have a2 := bnf a
    have HL := Lib.hid (fun W (hO : Old w W) => rlegal_any W (hg.old hO) name)
    rw [show legalB (sb name) = true from b] at HL
    subst d
    have e2 := bqt e
    have f2 := bqt f
    have g2 : vt.toList.isEmpty = true := by rw [tl_empty]; exact decide_eq_true g
    simp only [hy]
    clear hy hnm hkid
    unfold ndC iv
    go_enter Tryz.func23, Tryz.ntmps23
    go_wp2_with (first | (go_at_call 21; refine (HL.out _ (by first | exact (Kp.refl _ _) | exact ((Kp.refl _ _).alloc _) | exact ((Kp.refl _ _).alloc _).alloc _ | exact (((Kp.refl _ _).alloc _).alloc _).alloc _)).mono ?_; rintro e w1 ⟨rfl, rfl⟩) | (go_at_call 73; refine (HK.out _).mono ?_; rintro e w1 ⟨rfl, rfl⟩) | fail)
    go_ret
    exact ⟨rfl, by first | exact (Kp.refl _ _) | exact ((Kp.refl _ _).alloc _) | exact ((Kp.refl _ _).alloc _).alloc _ | exact (((Kp.refl _ _).alloc _).alloc _).alloc _⟩
set_option maxRecDepth 100000 in
set_option maxHeartbeats 6400000 in
theorem rright26 (w : World) (hg : SgR w) (x : MNd) (h : x.n.op = 26) : Calls Tryz.prog 23 #[.agg (ndC x).toArray] w fun e w' => e = .returned (.bool (rightR x.n)) ∧ Old w w' := by
  obtain ⟨⟨op, name, vk, vn, vt, vs, kids⟩, A, c, vA, vc⟩ := x
  simp only at h
  subst h
  have HK := Lib.hid (fun W => rkids_any W 26)
  rw [show kidsR 26 = 0 from rfl] at HK
  have hkid : kidsR 26 = 0 := rfl
  have hnm : namedR 26 = true := by decide
  rcases paths ((kids.length : Int) = 0) (legalT name = true) (vs = []) (vk = 0) (vn = 0) (vt.size = 0) with a | ⟨a, b⟩ | ⟨a, b, d⟩ | ⟨a, b, d, e⟩ | ⟨a, b, d, e, f⟩ | ⟨a, b, d, e, f, g⟩ | ⟨a, b, d, e, f, g⟩
  · have hy : rightR ⟨26, name, vk, vn, vt, vs, kids⟩ = false := by unfold rightR; simp only [hkid]; rw [if_pos (.inr ⟨by omega, a⟩)]
    have a2 := bnt a
    simp only [hy]
    clear hy hnm hkid
    unfold ndC iv
    go_enter Tryz.func23, Tryz.ntmps23
    go_wp2_with (first | (go_at_call 73; refine (HK.out _).mono ?_; rintro e w1 ⟨rfl, rfl⟩) | fail)
    go_ret
    exact ⟨rfl, by first | exact (Kp.refl _ _) | exact ((Kp.refl _ _).alloc _) | exact ((Kp.refl _ _).alloc _).alloc _ | exact (((Kp.refl _ _).alloc _).alloc _).alloc _⟩
  · have hy : rightR ⟨26, name, vk, vn, vt, vs, kids⟩ = false := by unfold rightR; simp only [hkid, hnm]; rw [if_neg (fun e => e.elim (fun e => by omega) (fun e => e.2 a)), if_pos (by rw [if_pos trivial]; exact (Bool.not_eq_true _).mp b)]
    have a2 := bnf a
    have HL := Lib.hid (fun W (hO : Old w W) => rlegal_any W (hg.old hO) name)
    rw [show legalB (sb name) = false from (Bool.not_eq_true _).mp b] at HL
    simp only [hy]
    clear hy hnm hkid
    unfold ndC iv
    go_enter Tryz.func23, Tryz.ntmps23
    go_wp2_with (first | (go_at_call 21; refine (HL.out _ (by first | exact (Kp.refl _ _) | exact ((Kp.refl _ _).alloc _) | exact ((Kp.refl _ _).alloc _).alloc _ | exact (((Kp.refl _ _).alloc _).alloc _).alloc _)).mono ?_; rintro e w1 ⟨rfl, rfl⟩) | (go_at_call 73; refine (HK.out _).mono ?_; rintro e w1 ⟨rfl, rfl⟩) | fail)
    go_ret
    exact ⟨rfl, by first | exact (Kp.refl _ _) | exact ((Kp.refl _ _).alloc _) | exact ((Kp.refl _ _).alloc _).alloc _ | exact (((Kp.refl _ _).alloc _).alloc _).alloc _⟩
  · have hy : rightR ⟨26, name, vk, vn, vt, vs, kids⟩ = false := by unfold rightR; simp only [hkid, hnm]; rw [if_neg (fun e => e.elim (fun e => by omega) (fun e => e.2 a)), if_neg (by rw [if_pos trivial, b]; decide), if_pos d]
    have a2 := bnf a
    have HL := Lib.hid (fun W (hO : Old w W) => rlegal_any W (hg.old hO) name)
    rw [show legalB (sb name) = true from b] at HL
    have d2 : (0 : Int) < (vs.length : Int) := by have := List.length_pos_iff.2 d; omega
    simp only [hy]
    clear hy hnm hkid
    unfold ndC iv
    go_enter Tryz.func23, Tryz.ntmps23
    go_wp2_with (first | (go_at_call 21; refine (HL.out _ (by first | exact (Kp.refl _ _) | exact ((Kp.refl _ _).alloc _) | exact ((Kp.refl _ _).alloc _).alloc _ | exact (((Kp.refl _ _).alloc _).alloc _).alloc _)).mono ?_; rintro e w1 ⟨rfl, rfl⟩) | (go_at_call 73; refine (HK.out _).mono ?_; rintro e w1 ⟨rfl, rfl⟩) | fail)
    go_ret
    exact ⟨rfl, by first | exact (Kp.refl _ _) | exact ((Kp.refl _ _).alloc _) | exact ((Kp.refl _ _).alloc _).alloc _ | exact (((Kp.refl _ _).alloc _).alloc _).alloc _⟩
  · have hy : rightR ⟨26, name, vk, vn, vt, vs, kids⟩ = false := by unfold rightR; simp only [hkid, hnm]; rw [if_neg (fun e => e.elim (fun e => by omega) (fun e => e.2 a)), if_neg (by rw [if_pos trivial, b]; decide), if_neg (fun e => e d)]; unfold lastR; simp only; rw [if_neg (by decide), if_neg (by decide), if_neg (by decide)]; exact decide_eq_false (fun u => e u.1)
    have a2 := bnf a
    have HL := Lib.hid (fun W (hO : Old w W) => rlegal_any W (hg.old hO) name)
    rw [show legalB (sb name) = true from b] at HL
    subst d
    have e2 := bqf e
    simp only [hy]
    clear hy hnm hkid
    unfold ndC iv
    go_enter Tryz.func23, Tryz.ntmps23
    go_wp2_with (first | (go_at_call 21; refine (HL.out _ (by first | exact (Kp.refl _ _) | exact ((Kp.refl _ _).alloc _) | exact ((Kp.refl _ _).alloc _).alloc _ | exact (((Kp.refl _ _).alloc _).alloc _).alloc _)).mono ?_; rintro e w1 ⟨rfl, rfl⟩) | (go_at_call 73; refine (HK.out _).mono ?_; rintro e w1 ⟨rfl, rfl⟩) | fail)
    go_ret
    exact ⟨rfl, by first | exact (Kp.refl _ _) | exact ((Kp.refl _ _).alloc _) | exact ((Kp.refl _ _).alloc _).alloc _ | exact (((Kp.refl _ _).alloc _).alloc _).alloc _⟩
  · have hy : rightR ⟨26, name, vk, vn, vt, vs, kids⟩ = false := by unfold rightR; simp only [hkid, hnm]; rw [if_neg (fun e => e.elim (fun e => by omega) (fun e => e.2 a)), if_neg (by rw [if_pos trivial, b]; decide), if_neg (fun e => e d)]; unfold lastR; simp only; rw [if_neg (by decide), if_neg (by decide), if_neg (by decide)]; exact decide_eq_false (fun u => f u.2.1)
    have a2 := bnf a
    have HL := Lib.hid (fun W (hO : Old w W) => rlegal_any W (hg.old hO) name)
    rw [show legalB (sb name) = true from b] at HL
    subst d
    have e2 := bqt e
    have f2 := bqf f
    simp only [hy]
    clear hy hnm hkid
    unfold ndC iv
    go_enter Tryz.func23, Tryz.ntmps23
    go_wp2_with (first | (go_at_call 21; refine (HL.out _ (by first | exact (Kp.refl _ _) | exact ((Kp.refl _ _).alloc _) | exact ((Kp.refl _ _).alloc _).alloc _ | exact (((Kp.refl _ _).alloc _).alloc _).alloc _)).mono ?_; rintro e w1 ⟨rfl, rfl⟩) | (go_at_call 73; refine (HK.out _).mono ?_; rintro e w1 ⟨rfl, rfl⟩) | fail)
    go_ret
    exact ⟨rfl, by first | exact (Kp.refl _ _) | exact ((Kp.refl _ _).alloc _) | exact ((Kp.refl _ _).alloc _).alloc _ | exact (((Kp.refl _ _).alloc _).alloc _).alloc _⟩
  · have hy : rightR ⟨26, name, vk, vn, vt, vs, kids⟩ = false := by unfold rightR; simp only [hkid, hnm]; rw [if_neg (fun e => e.elim (fun e => by omega) (fun e => e.2 a)), if_neg (by rw [if_pos trivial, b]; decide), if_neg (fun e => e d)]; unfold lastR; simp only; rw [if_neg (by decide), if_neg (by decide), if_neg (by decide)]; exact decide_eq_false (fun u => g u.2.2)
    have a2 := bnf a
    have HL := Lib.hid (fun W (hO : Old w W) => rlegal_any W (hg.old hO) name)
    rw [show legalB (sb name) = true from b] at HL
    subst d
    have e2 := bqt e
    have f2 := bqt f
    have g2 : vt.toList.isEmpty = false := by rw [tl_empty]; exact decide_eq_false g
    simp only [hy]
    clear hy hnm hkid
    unfold ndC iv
    go_enter Tryz.func23, Tryz.ntmps23
    go_wp2_with (first | (go_at_call 21; refine (HL.out _ (by first | exact (Kp.refl _ _) | exact ((Kp.refl _ _).alloc _) | exact ((Kp.refl _ _).alloc _).alloc _ | exact (((Kp.refl _ _).alloc _).alloc _).alloc _)).mono ?_; rintro e w1 ⟨rfl, rfl⟩) | (go_at_call 73; refine (HK.out _).mono ?_; rintro e w1 ⟨rfl, rfl⟩) | fail)
    go_ret
    exact ⟨rfl, by first | exact (Kp.refl _ _) | exact ((Kp.refl _ _).alloc _) | exact ((Kp.refl _ _).alloc _).alloc _ | exact (((Kp.refl _ _).alloc _).alloc _).alloc _⟩
  · have hy : rightR ⟨26, name, vk, vn, vt, vs, kids⟩ = true := by unfold rightR; simp only [hkid, hnm]; rw [if_neg (fun e => e.elim (fun e => by omega) (fun e => e.2 a)), if_neg (by rw [if_pos trivial, b]; decide), if_neg (fun e => e d)]; unfold lastR; simp only; rw [if_neg (by decide), if_neg (by decide), if_neg (by decide)]; exact decide_eq_true ⟨e, f, g⟩
    have a2 := bnf a
    have HL := Lib.hid (fun W (hO : Old w W) => rlegal_any W (hg.old hO) name)
    rw [show legalB (sb name) = true from b] at HL
    subst d
    have e2 := bqt e
    have f2 := bqt f
    have g2 : vt.toList.isEmpty = true := by rw [tl_empty]; exact decide_eq_true g
    simp only [hy]
    clear hy hnm hkid
    unfold ndC iv
    go_enter Tryz.func23, Tryz.ntmps23
    go_wp2_with (first | (go_at_call 21; refine (HL.out _ (by first | exact (Kp.refl _ _) | exact ((Kp.refl _ _).alloc _) | exact ((Kp.refl _ _).alloc _).alloc _ | exact (((Kp.refl _ _).alloc _).alloc _).alloc _)).mono ?_; rintro e w1 ⟨rfl, rfl⟩) | (go_at_call 73; refine (HK.out _).mono ?_; rintro e w1 ⟨rfl, rfl⟩) | fail)
    go_ret
    exact ⟨rfl, by first | exact (Kp.refl _ _) | exact ((Kp.refl _ _).alloc _) | exact ((Kp.refl _ _).alloc _).alloc _ | exact (((Kp.refl _ _).alloc _).alloc _).alloc _⟩
set_option maxRecDepth 100000 in
set_option maxHeartbeats 6400000 in
theorem rright1 (w : World) (x : MNd) (h : x.n.op = 1) : Calls Tryz.prog 23 #[.agg (ndC x).toArray] w fun e w' => e = .returned (.bool (rightR x.n)) ∧ Old w w' := by
  obtain ⟨⟨op, name, vk, vn, vt, vs, kids⟩, A, c, vA, vc⟩ := x
  simp only at h
  subst h
  have HK := Lib.hid (fun W => rkids_any W 1)
  rw [show kidsR 1 = 0 from rfl] at HK
  have hkid : kidsR 1 = 0 := rfl
  have hnm : namedR 1 = false := by decide
  rcases paths ((kids.length : Int) = 0) (name.size = 0) (vs = []) (vk = 1) (0 ≤ vn) (vt.size = 0) with a | ⟨a, b⟩ | ⟨a, b, d⟩ | ⟨a, b, d, e⟩ | ⟨a, b, d, e, f⟩ | ⟨a, b, d, e, f, g⟩ | ⟨a, b, d, e, f, g⟩
  · have hy : rightR ⟨1, name, vk, vn, vt, vs, kids⟩ = false := by unfold rightR; simp only [hkid]; rw [if_pos (.inr ⟨by omega, a⟩)]
    have a2 := bnt a
    simp only [hy]
    clear hy hnm hkid
    unfold ndC iv
    go_enter Tryz.func23, Tryz.ntmps23
    go_wp2_with (first | (go_at_call 73; refine (HK.out _).mono ?_; rintro e w1 ⟨rfl, rfl⟩) | fail)
    go_ret
    exact ⟨rfl, by first | exact (Kp.refl _ _) | exact ((Kp.refl _ _).alloc _) | exact ((Kp.refl _ _).alloc _).alloc _ | exact (((Kp.refl _ _).alloc _).alloc _).alloc _⟩
  · have hy : rightR ⟨1, name, vk, vn, vt, vs, kids⟩ = false := by unfold rightR; simp only [hkid, hnm]; rw [if_neg (fun e => e.elim (fun e => by omega) (fun e => e.2 a)), if_pos (by rw [if_neg (by decide)]; exact b)]
    have a2 := bnf a
    have b2 : name.toList.isEmpty = false := by rw [tl_empty]; exact decide_eq_false b
    simp only [hy]
    clear hy hnm hkid
    unfold ndC iv
    go_enter Tryz.func23, Tryz.ntmps23
    go_wp2_with (first | (go_at_call 73; refine (HK.out _).mono ?_; rintro e w1 ⟨rfl, rfl⟩) | fail)
    go_ret
    exact ⟨rfl, by first | exact (Kp.refl _ _) | exact ((Kp.refl _ _).alloc _) | exact ((Kp.refl _ _).alloc _).alloc _ | exact (((Kp.refl _ _).alloc _).alloc _).alloc _⟩
  · have hy : rightR ⟨1, name, vk, vn, vt, vs, kids⟩ = false := by unfold rightR; simp only [hkid, hnm]; rw [if_neg (fun e => e.elim (fun e => by omega) (fun e => e.2 a)), if_neg (by rw [if_neg (by decide)]; exact fun e => e b), if_pos d]
    have a2 := bnf a
    have b2 : name.toList.isEmpty = true := by rw [tl_empty]; exact decide_eq_true b
    have d2 : (0 : Int) < (vs.length : Int) := by have := List.length_pos_iff.2 d; omega
    simp only [hy]
    clear hy hnm hkid
    unfold ndC iv
    go_enter Tryz.func23, Tryz.ntmps23
    go_wp2_with (first | (go_at_call 73; refine (HK.out _).mono ?_; rintro e w1 ⟨rfl, rfl⟩) | fail)
    go_ret
    exact ⟨rfl, by first | exact (Kp.refl _ _) | exact ((Kp.refl _ _).alloc _) | exact ((Kp.refl _ _).alloc _).alloc _ | exact (((Kp.refl _ _).alloc _).alloc _).alloc _⟩
  · have hy : rightR ⟨1, name, vk, vn, vt, vs, kids⟩ = false := by unfold rightR; simp only [hkid, hnm]; rw [if_neg (fun e => e.elim (fun e => by omega) (fun e => e.2 a)), if_neg (by rw [if_neg (by decide)]; exact fun e => e b), if_neg (fun e => e d)]; unfold lastR; simp only; rw [if_pos trivial]; exact decide_eq_false (fun u => e u.1)
    have a2 := bnf a
    have b2 : name.toList.isEmpty = true := by rw [tl_empty]; exact decide_eq_true b
    subst d
    have e2 := bqf e
    simp only [hy]
    clear hy hnm hkid
    unfold ndC iv
    go_enter Tryz.func23, Tryz.ntmps23
    go_wp2_with (first | (go_at_call 73; refine (HK.out _).mono ?_; rintro e w1 ⟨rfl, rfl⟩) | fail)
    go_ret
    exact ⟨rfl, by first | exact (Kp.refl _ _) | exact ((Kp.refl _ _).alloc _) | exact ((Kp.refl _ _).alloc _).alloc _ | exact (((Kp.refl _ _).alloc _).alloc _).alloc _⟩
  · have hy : rightR ⟨1, name, vk, vn, vt, vs, kids⟩ = false := by unfold rightR; simp only [hkid, hnm]; rw [if_neg (fun e => e.elim (fun e => by omega) (fun e => e.2 a)), if_neg (by rw [if_neg (by decide)]; exact fun e => e b), if_neg (fun e => e d)]; unfold lastR; simp only; rw [if_pos trivial]; exact decide_eq_false (fun u => f u.2.1)
    have a2 := bnf a
    have b2 : name.toList.isEmpty = true := by rw [tl_empty]; exact decide_eq_true b
    subst d
    have e2 := bqt e
    have f2 : ¬ 0 ≤ vn := f
    simp only [hy]
    clear hy hnm hkid
    unfold ndC iv
    go_enter Tryz.func23, Tryz.ntmps23
    go_wp2_with (first | (go_at_call 73; refine (HK.out _).mono ?_; rintro e w1 ⟨rfl, rfl⟩) | fail)
    go_ret
    exact ⟨rfl, by first | exact (Kp.refl _ _) | exact ((Kp.refl _ _).alloc _) | exact ((Kp.refl _ _).alloc _).alloc _ | exact (((Kp.refl _ _).alloc _).alloc _).alloc _⟩
  · have hy : rightR ⟨1, name, vk, vn, vt, vs, kids⟩ = false := by unfold rightR; simp only [hkid, hnm]; rw [if_neg (fun e => e.elim (fun e => by omega) (fun e => e.2 a)), if_neg (by rw [if_neg (by decide)]; exact fun e => e b), if_neg (fun e => e d)]; unfold lastR; simp only; rw [if_pos trivial]; exact decide_eq_false (fun u => g u.2.2)
    have a2 := bnf a
    have b2 : name.toList.isEmpty = true := by rw [tl_empty]; exact decide_eq_true b
    subst d
    have e2 := bqt e
    have f2 : 0 ≤ vn := f
    have g2 : vt.toList.isEmpty = false := by rw [tl_empty]; exact decide_eq_false g
    simp only [hy]
    clear hy hnm hkid
    unfold ndC iv
    go_enter Tryz.func23, Tryz.ntmps23
    go_wp2_with (first | (go_at_call 73; refine (HK.out _).mono ?_; rintro e w1 ⟨rfl, rfl⟩) | fail)
    go_ret
    exact ⟨rfl, by first | exact (Kp.refl _ _) | exact ((Kp.refl _ _).alloc _) | exact ((Kp.refl _ _).alloc _).alloc _ | exact (((Kp.refl _ _).alloc _).alloc _).alloc _⟩
  · have hy : rightR ⟨1, name, vk, vn, vt, vs, kids⟩ = true := by unfold rightR; simp only [hkid, hnm]; rw [if_neg (fun e => e.elim (fun e => by omega) (fun e => e.2 a)), if_neg (by rw [if_neg (by decide)]; exact fun e => e b), if_neg (fun e => e d)]; unfold lastR; simp only; rw [if_pos trivial]; exact decide_eq_true ⟨e, f, g⟩
    have a2 := bnf a
    have b2 : name.toList.isEmpty = true := by rw [tl_empty]; exact decide_eq_true b
    subst d
    have e2 := bqt e
    have f2 : 0 ≤ vn := f
    have g2 : vt.toList.isEmpty = true := by rw [tl_empty]; exact decide_eq_true g
    simp only [hy]
    clear hy hnm hkid
    unfold ndC iv
    go_enter Tryz.func23, Tryz.ntmps23
    go_wp2_with (first | (go_at_call 73; refine (HK.out _).mono ?_; rintro e w1 ⟨rfl, rfl⟩) | fail)
    go_ret
    exact ⟨rfl, by first | exact (Kp.refl _ _) | exact ((Kp.refl _ _).alloc _) | exact ((Kp.refl _ _).alloc _).alloc _ | exact (((Kp.refl _ _).alloc _).alloc _).alloc _⟩
set_option maxRecDepth 100000 in
set_option maxHeartbeats 6400000 in
theorem rright2 (w : World) (x : MNd) (h : x.n.op = 2) : Calls Tryz.prog 23 #[.agg (ndC x).toArray] w fun e w' => e = .returned (.bool (rightR x.n)) ∧ Old w w' := by
  obtain ⟨⟨op, name, vk, vn, vt, vs, kids⟩, A, c, vA, vc⟩ := x
  simp only at h
  subst h
  have HK := Lib.hid (fun W => rkids_any W 2)
  rw [show kidsR 2 = 0 from rfl] at HK
  have hkid : kidsR 2 = 0 := rfl
  have hnm : namedR 2 = false := by decide
  rcases paths ((kids.length : Int) = 0) (name.size = 0) (vs = []) (vk = 2) (vn = 0 ∨ vn = 1) (vt.size = 0) with a | ⟨a, b⟩ | ⟨a, b, d⟩ | ⟨a, b, d, e⟩ | ⟨a, b, d, e, f⟩ | ⟨a, b, d, e, f, g⟩ | ⟨a, b, d, e, f, g⟩
  · have hy : rightR ⟨2, name, vk, vn, vt, vs, kids⟩ = false := by unfold rightR; simp only [hkid]; rw [if_pos (.inr ⟨by omega, a⟩)]
    have a2 := bnt a
    simp only [hy]
    clear hy hnm hkid
    unfold ndC iv
    go_enter Tryz.func23, Tryz.ntmps23
    go_wp2_with (first | (go_at_call 73; refine (HK.out _).mono ?_; rintro e w1 ⟨rfl, rfl⟩) | fail)
    go_ret
    exact ⟨rfl, by first | exact (Kp.refl _ _) | exact ((Kp.refl _ _).alloc _) | exact ((Kp.refl _ _).alloc _).alloc _ | exact (((Kp.refl _ _).alloc _).alloc _).alloc _⟩
  · have hy : rightR ⟨2, name, vk, vn, vt, vs, kids⟩ = false := by unfold rightR; simp only [hkid, hnm]; rw [if_neg (fun e => e.elim (fun e => by omega) (fun e => e.2 a)), if_pos (by rw [if_neg (by decide)]; exact b)]
    have a2 := bnf a
    have b2 : name.toList.isEmpty = false := by rw [tl_empty]; exact decide_eq_false b
    simp only [hy]
    clear hy hnm hkid
    unfold ndC iv
    go_enter Tryz.func23, Tryz.ntmps23
    go_wp2_with (first | (go_at_call 73; refine (HK.out _).mono ?_; rintro e w1 ⟨rfl, rfl⟩) | fail)
    go_ret
    exact ⟨rfl, by first | exact (Kp.refl _ _) | exact ((Kp.refl _ _).alloc _) | exact ((Kp.refl _ _).alloc _).alloc _ | exact (((Kp.refl _ _).alloc _).alloc _).alloc _⟩
  · have hy : rightR ⟨2, name, vk, vn, vt, vs, kids⟩ = false := by unfold rightR; simp only [hkid, hnm]; rw [if_neg (fun e => e.elim (fun e => by omega) (fun e => e.2 a)), if_neg (by rw [if_neg (by decide)]; exact fun e => e b), if_pos d]
    have a2 := bnf a
    have b2 : name.toList.isEmpty = true := by rw [tl_empty]; exact decide_eq_true b
    have d2 : (0 : Int) < (vs.length : Int) := by have := List.length_pos_iff.2 d; omega
    simp only [hy]
    clear hy hnm hkid
    unfold ndC iv
    go_enter Tryz.func23, Tryz.ntmps23
    go_wp2_with (first | (go_at_call 73; refine (HK.out _).mono ?_; rintro e w1 ⟨rfl, rfl⟩) | fail)
    go_ret
    exact ⟨rfl, by first | exact (Kp.refl _ _) | exact ((Kp.refl _ _).alloc _) | exact ((Kp.refl _ _).alloc _).alloc _ | exact (((Kp.refl _ _).alloc _).alloc _).alloc _⟩
  · have hy : rightR ⟨2, name, vk, vn, vt, vs, kids⟩ = false := by unfold rightR; simp only [hkid, hnm]; rw [if_neg (fun e => e.elim (fun e => by omega) (fun e => e.2 a)), if_neg (by rw [if_neg (by decide)]; exact fun e => e b), if_neg (fun e => e d)]; unfold lastR; simp only; rw [if_neg (by decide), if_pos trivial]; exact decide_eq_false (fun u => e u.1)
    have a2 := bnf a
    have b2 : name.toList.isEmpty = true := by rw [tl_empty]; exact decide_eq_true b
    subst d
    have e2 := bqf e
    simp only [hy]
    clear hy hnm hkid
    unfold ndC iv
    go_enter Tryz.func23, Tryz.ntmps23
    go_wp2_with (first | (go_at_call 73; refine (HK.out _).mono ?_; rintro e w1 ⟨rfl, rfl⟩) | fail)
    go_ret
    exact ⟨rfl, by first | exact (Kp.refl _ _) | exact ((Kp.refl _ _).alloc _) | exact ((Kp.refl _ _).alloc _).alloc _ | exact (((Kp.refl _ _).alloc _).alloc _).alloc _⟩
  · have hy : rightR ⟨2, name, vk, vn, vt, vs, kids⟩ = false := by unfold rightR; simp only [hkid, hnm]; rw [if_neg (fun e => e.elim (fun e => by omega) (fun e => e.2 a)), if_neg (by rw [if_neg (by decide)]; exact fun e => e b), if_neg (fun e => e d)]; unfold lastR; simp only; rw [if_neg (by decide), if_pos trivial]; exact decide_eq_false (fun u => f u.2.1)
    have a2 := bnf a
    have b2 : name.toList.isEmpty = true := by rw [tl_empty]; exact decide_eq_true b
    subst d
    have e2 := bqt e
    have f2 := bqf (fun e => f (.inl e))
    have f3 := bqf (fun e => f (.inr e))
    simp only [hy]
    clear hy hnm hkid
    unfold ndC iv
    go_enter Tryz.func23, Tryz.ntmps23
    go_wp2_with (first | (go_at_call 73; refine (HK.out _).mono ?_; rintro e w1 ⟨rfl, rfl⟩) | fail)
    go_ret
    exact ⟨rfl, by first | exact (Kp.refl _ _) | exact ((Kp.refl _ _).alloc _) | exact ((Kp.refl _ _).alloc _).alloc _ | exact (((Kp.refl _ _).alloc _).alloc _).alloc _⟩
  · have hy : rightR ⟨2, name, vk, vn, vt, vs, kids⟩ = false := by unfold rightR; simp only [hkid, hnm]; rw [if_neg (fun e => e.elim (fun e => by omega) (fun e => e.2 a)), if_neg (by rw [if_neg (by decide)]; exact fun e => e b), if_neg (fun e => e d)]; unfold lastR; simp only; rw [if_neg (by decide), if_pos trivial]; exact decide_eq_false (fun u => g u.2.2)
    have a2 := bnf a
    have b2 : name.toList.isEmpty = true := by rw [tl_empty]; exact decide_eq_true b
    subst d
    have e2 := bqt e
    have g2 : vt.toList.isEmpty = false := by rw [tl_empty]; exact decide_eq_false g
    simp only [hy]
    clear hy hnm hkid
    rcases f with f | f
    all_goals
      have f2 := bqt f
      subst f
      unfold ndC iv
      go_enter Tryz.func23, Tryz.ntmps23
      go_wp2_with (first | (go_at_call 73; refine (HK.out _).mono ?_; rintro e w1 ⟨rfl, rfl⟩) | fail)
      go_ret
      exact ⟨rfl, by first | exact (Kp.refl _ _) | exact ((Kp.refl _ _).alloc _) | exact ((Kp.refl _ _).alloc _).alloc _ | exact (((Kp.refl _ _).alloc _).alloc _).alloc _⟩
  · have hy : rightR ⟨2, name, vk, vn, vt, vs, kids⟩ = true := by unfold rightR; simp only [hkid, hnm]; rw [if_neg (fun e => e.elim (fun e => by omega) (fun e => e.2 a)), if_neg (by rw [if_neg (by decide)]; exact fun e => e b), if_neg (fun e => e d)]; unfold lastR; simp only; rw [if_neg (by decide), if_pos trivial]; exact decide_eq_true ⟨e, f, g⟩
    have a2 := bnf a
    have b2 : name.toList.isEmpty = true := by rw [tl_empty]; exact decide_eq_true b
    subst d
    have e2 := bqt e
    have g2 : vt.toList.isEmpty = true := by rw [tl_empty]; exact decide_eq_true g
    simp only [hy]
    clear hy hnm hkid
    rcases f with f | f
    all_goals
      have f2 := bqt f
      subst f
      unfold ndC iv
      go_enter Tryz.func23, Tryz.ntmps23
      go_wp2_with (first | (go_at_call 73; refine (HK.out _).mono ?_; rintro e w1 ⟨rfl, rfl⟩) | fail)
      go_ret
      exact ⟨rfl, by first | exact (Kp.refl _ _) | exact ((Kp.refl _ _).alloc _) | exact ((Kp.refl _ _).alloc _).alloc _ | exact (((Kp.refl _ _).alloc _).alloc _).alloc _⟩
set_option maxRecDepth 100000 in
set_option maxHeartbeats 6400000 in
theorem rright3 (w : World) (x : MNd) (h : x.n.op = 3) : Calls Tryz.prog 23 #[.agg (ndC x).toArray] w fun e w' => e = .returned (.bool (rightR x.n)) ∧ Old w w' := by
  obtain ⟨⟨op, name, vk, vn, vt, vs, kids⟩, A, c, vA, vc⟩ := x
  simp only at h
  subst h
  have HK := Lib.hid (fun W => rkids_any W 3)
  rw [show kidsR 3 = 0 from rfl] at HK
  have hkid : kidsR 3 = 0 := rfl
  have hnm : namedR 3 = false := by decide
  rcases paths ((kids.length : Int) = 0) (name.size = 0) (vs = []) (vk = 3) (vn = 0) (True) with a | ⟨a, b⟩ | ⟨a, b, d⟩ | ⟨a, b, d, e⟩ | ⟨a, b, d, e, f⟩ | ⟨a, b, d, e, f, g⟩ | ⟨a, b, d, e, f, g⟩
  · have hy : rightR ⟨3, name, vk, vn, vt, vs, kids⟩ = false := by unfold rightR; simp only [hkid]; rw [if_pos (.inr ⟨by omega, a⟩)]
    have a2 := bnt a
    simp only [hy]
    clear hy hnm hkid
    unfold ndC iv
    go_enter Tryz.func23, Tryz.ntmps23
    go_wp2_with (first | (go_at_call 73; refine (HK.out _).mono ?_; rintro e w1 ⟨rfl, rfl⟩) | fail)
    go_ret
    exact ⟨rfl, by first | exact (Kp.refl _ _) | exact ((Kp.refl _ _).alloc _) | exact ((Kp.refl _ _).alloc _).alloc _ | exact (((Kp.refl _ _).alloc _).alloc _).alloc _⟩
  · have hy : rightR ⟨3, name, vk, vn, vt, vs, kids⟩ = false := by unfold rightR; simp only [hkid, hnm]; rw [if_neg (fun e => e.elim (fun e => by omega) (fun e => e.2 a)), if_pos (by rw [if_neg (by decide)]; exact b)]
    have a2 := bnf a
    have b2 : name.toList.isEmpty = false := by rw [tl_empty]; exact decide_eq_false b
    simp only [hy]
    clear hy hnm hkid
    unfold ndC iv
    go_enter Tryz.func23, Tryz.ntmps23
    go_wp2_with (first | (go_at_call 73; refine (HK.out _).mono ?_; rintro e w1 ⟨rfl, rfl⟩) | fail)
    go_ret
    exact ⟨rfl, by first | exact (Kp.refl _ _) | exact ((Kp.refl _ _).alloc _) | exact ((Kp.refl _ _).alloc _).alloc _ | exact (((Kp.refl _ _).alloc _).alloc _).alloc _⟩
  · have hy : rightR ⟨3, name, vk, vn, vt, vs, kids⟩ = false := by unfold rightR; simp only [hkid, hnm]; rw [if_neg (fun e => e.elim (fun e => by omega) (fun e => e.2 a)), if_neg (by rw [if_neg (by decide)]; exact fun e => e b), if_pos d]
    have a2 := bnf a
    have b2 : name.toList.isEmpty = true := by rw [tl_empty]; exact decide_eq_true b
    have d2 : (0 : Int) < (vs.length : Int) := by have := List.length_pos_iff.2 d; omega
    simp only [hy]
    clear hy hnm hkid
    unfold ndC iv
    go_enter Tryz.func23, Tryz.ntmps23
    go_wp2_with (first | (go_at_call 73; refine (HK.out _).mono ?_; rintro e w1 ⟨rfl, rfl⟩) | fail)
    go_ret
    exact ⟨rfl, by first | exact (Kp.refl _ _) | exact ((Kp.refl _ _).alloc _) | exact ((Kp.refl _ _).alloc _).alloc _ | exact (((Kp.refl _ _).alloc _).alloc _).alloc _⟩
  · have hy : rightR ⟨3, name, vk, vn, vt, vs, kids⟩ = false := by unfold rightR; simp only [hkid, hnm]; rw [if_neg (fun e => e.elim (fun e => by omega) (fun e => e.2 a)), if_neg (by rw [if_neg (by decide)]; exact fun e => e b), if_neg (fun e => e d)]; unfold lastR; simp only; rw [if_neg (by decide), if_neg (by decide), if_pos trivial]; exact decide_eq_false (fun u => e u.1)
    have a2 := bnf a
    have b2 : name.toList.isEmpty = true := by rw [tl_empty]; exact decide_eq_true b
    subst d
    have e2 := bqf e
    simp only [hy]
    clear hy hnm hkid
    unfold ndC iv
    go_enter Tryz.func23, Tryz.ntmps23
    go_wp2_with (first | (go_at_call 73; refine (HK.out _).mono ?_; rintro e w1 ⟨rfl, rfl⟩) | fail)
    go_ret
    exact ⟨rfl, by first | exact (Kp.refl _ _) | exact ((Kp.refl _ _).alloc _) | exact ((Kp.refl _ _).alloc _).alloc _ | exact (((Kp.refl _ _).alloc _).alloc _).alloc _⟩
  · have hy : rightR ⟨3, name, vk, vn, vt, vs, kids⟩ = false := by unfold rightR; simp only [hkid, hnm]; rw [if_neg (fun e => e.elim (fun e => by omega) (fun e => e.2 a)), if_neg (by rw [if_neg (by decide)]; exact fun e => e b), if_neg (fun e => e d)]; unfold lastR; simp only; rw [if_neg (by decide), if_neg (by decide), if_pos trivial]; exact decide_eq_false (fun u => f u.2)
    have a2 := bnf a
    have b2 : name.toList.isEmpty = true := by rw [tl_empty]; exact decide_eq_true b
    subst d
    have e2 := bqt e
    have f2 := bqf f
    simp only [hy]
    clear hy hnm hkid
    unfold ndC iv
    go_enter Tryz.func23, Tryz.ntmps23
    go_wp2_with (first | (go_at_call 73; refine (HK.out _).mono ?_; rintro e w1 ⟨rfl, rfl⟩) | fail)
    go_ret
    exact ⟨rfl, by first | exact (Kp.refl _ _) | exact ((Kp.refl _ _).alloc _) | exact ((Kp.refl _ _).alloc _).alloc _ | exact (((Kp.refl _ _).alloc _).alloc _).alloc _⟩
  · exact absurd trivial g
  · have hy : rightR ⟨3, name, vk, vn, vt, vs, kids⟩ = true := by unfold rightR; simp only [hkid, hnm]; rw [if_neg (fun e => e.elim (fun e => by omega) (fun e => e.2 a)), if_neg (by rw [if_neg (by decide)]; exact fun e => e b), if_neg (fun e => e d)]; unfold lastR; simp only; rw [if_neg (by decide), if_neg (by decide), if_pos trivial]; exact decide_eq_true ⟨e, f⟩
    have a2 := bnf a
    have b2 : name.toList.isEmpty = true := by rw [tl_empty]; exact decide_eq_true b
    subst d
    have e2 := bqt e
    have f2 := bqt f
    simp only [hy]
    clear hy hnm hkid
    unfold ndC iv
    go_enter Tryz.func23, Tryz.ntmps23
    go_wp2_with (first | (go_at_call 73; refine (HK.out _).mono ?_; rintro e w1 ⟨rfl, rfl⟩) | fail)
    go_ret
    exact ⟨rfl, by first | exact (Kp.refl _ _) | exact ((Kp.refl _ _).alloc _) | exact ((Kp.refl _ _).alloc _).alloc _ | exact (((Kp.refl _ _).alloc _).alloc _).alloc _⟩
set_option maxRecDepth 100000 in
set_option maxHeartbeats 6400000 in
theorem rright6 (w : World) (x : MNd) (h : x.n.op = 6) : Calls Tryz.prog 23 #[.agg (ndC x).toArray] w fun e w' => e = .returned (.bool (rightR x.n)) ∧ Old w w' := by
  obtain ⟨⟨op, name, vk, vn, vt, vs, kids⟩, A, c, vA, vc⟩ := x
  simp only at h
  subst h
  have HK := Lib.hid (fun W => rkids_any W 6)
  rw [show kidsR 6 = -1 from rfl] at HK
  have hkid : kidsR 6 = -1 := rfl
  have hnm : namedR 6 = false := by decide
  rcases paths (True) (name.size = 0) (vs = []) (vk = 0) (vn = 0) (vt.size = 0) with a | ⟨a, b⟩ | ⟨a, b, d⟩ | ⟨a, b, d, e⟩ | ⟨a, b, d, e, f⟩ | ⟨a, b, d, e, f, g⟩ | ⟨a, b, d, e, f, g⟩
  · exact absurd trivial a
  · have hy : rightR ⟨6, name, vk, vn, vt, vs, kids⟩ = false := by unfold rightR; simp only [hkid, hnm]; rw [if_neg (fun e => e.elim (fun e => by omega) (fun e => absurd e.1 (by decide))), if_pos (by rw [if_neg (by decide)]; exact b)]
    have b2 : name.toList.isEmpty = false := by rw [tl_empty]; exact decide_eq_false b
    simp only [hy]
    clear hy hnm hkid
    unfold ndC iv
    go_enter Tryz.func23, Tryz.ntmps23
    go_wp2_with (first | (go_at_call 73; refine (HK.out _).mono ?_; rintro e w1 ⟨rfl, rfl⟩) | fail)
    go_ret
    exact ⟨rfl, by first | exact (Kp.refl _ _) | exact ((Kp.refl _ _).alloc _) | exact ((Kp.refl _ _).alloc _).alloc _ | exact (((Kp.refl _ _).alloc _).alloc _).alloc _⟩
  · have hy : rightR ⟨6, name, vk, vn, vt, vs, kids⟩ = false := by unfold rightR; simp only [hkid, hnm]; rw [if_neg (fun e => e.elim (fun e => by omega) (fun e => absurd e.1 (by decide))), if_neg (by rw [if_neg (by decide)]; exact fun e => e b), if_pos d]
    have b2 : name.toList.isEmpty = true := by rw [tl_empty]; exact decide_eq_true b
    have d2 : (0 : Int) < (vs.length : Int) := by have := List.length_pos_iff.2 d; omega
    simp only [hy]
    clear hy hnm hkid
    unfold ndC iv
    go_enter Tryz.func23, Tryz.ntmps23
    go_wp2_with (first | (go_at_call 73; refine (HK.out _).mono ?_; rintro e w1 ⟨rfl, rfl⟩) | fail)
    go_ret
    exact ⟨rfl, by first | exact (Kp.refl _ _) | exact ((Kp.refl _ _).alloc _) | exact ((Kp.refl _ _).alloc _).alloc _ | exact (((Kp.refl _ _).alloc _).alloc _).alloc _⟩
  · have hy : rightR ⟨6, name, vk, vn, vt, vs, kids⟩ = false := by unfold rightR; simp only [hkid, hnm]; rw [if_neg (fun e => e.elim (fun e => by omega) (fun e => absurd e.1 (by decide))), if_neg (by rw [if_neg (by decide)]; exact fun e => e b), if_neg (fun e => e d)]; unfold lastR; simp only; rw [if_neg (by decide), if_neg (by decide), if_neg (by decide)]; exact decide_eq_false (fun u => e u.1)
    have b2 : name.toList.isEmpty = true := by rw [tl_empty]; exact decide_eq_true b
    subst d
    have e2 := bqf e
    simp only [hy]
    clear hy hnm hkid
    unfold ndC iv
    go_enter Tryz.func23, Tryz.ntmps23
    go_wp2_with (first | (go_at_call 73; refine (HK.out _).mono ?_; rintro e w1 ⟨rfl, rfl⟩) | fail)
    go_ret
    exact ⟨rfl, by first | exact (Kp.refl _ _) | exact ((Kp.refl _ _).alloc _) | exact ((Kp.refl _ _).alloc _).alloc _ | exact (((Kp.refl _ _).alloc _).alloc _).alloc _⟩
  · have hy : rightR ⟨6, name, vk, vn, vt, vs, kids⟩ = false := by unfold rightR; simp only [hkid, hnm]; rw [if_neg (fun e => e.elim (fun e => by omega) (fun e => absurd e.1 (by decide))), if_neg (by rw [if_neg (by decide)]; exact fun e => e b), if_neg (fun e => e d)]; unfold lastR; simp only; rw [if_neg (by decide), if_neg (by decide), if_neg (by decide)]; exact decide_eq_false (fun u => f u.2.1)
    have b2 : name.toList.isEmpty = true := by rw [tl_empty]; exact decide_eq_true b
    subst d
    have e2 := bqt e
    have f2 := bqf f
    simp only [hy]
    clear hy hnm hkid
    unfold ndC iv
    go_enter Tryz.func23, Tryz.ntmps23
    go_wp2_with (first | (go_at_call 73; refine (HK.out _).mono ?_; rintro e w1 ⟨rfl, rfl⟩) | fail)
    go_ret
    exact ⟨rfl, by first | exact (Kp.refl _ _) | exact ((Kp.refl _ _).alloc _) | exact ((Kp.refl _ _).alloc _).alloc _ | exact (((Kp.refl _ _).alloc _).alloc _).alloc _⟩
  · have hy : rightR ⟨6, name, vk, vn, vt, vs, kids⟩ = false := by unfold rightR; simp only [hkid, hnm]; rw [if_neg (fun e => e.elim (fun e => by omega) (fun e => absurd e.1 (by decide))), if_neg (by rw [if_neg (by decide)]; exact fun e => e b), if_neg (fun e => e d)]; unfold lastR; simp only; rw [if_neg (by decide), if_neg (by decide), if_neg (by decide)]; exact decide_eq_false (fun u => g u.2.2)
    have b2 : name.toList.isEmpty = true := by rw [tl_empty]; exact decide_eq_true b
    subst d
    have e2 := bqt e
    have f2 := bqt f
    have g2 : vt.toList.isEmpty = false := by rw [tl_empty]; exact decide_eq_false g
    simp only [hy]
    clear hy hnm hkid
    unfold ndC iv
    go_enter Tryz.func23, Tryz.ntmps23
    go_wp2_with (first | (go_at_call 73; refine (HK.out _).mono ?_; rintro e w1 ⟨rfl, rfl⟩) | fail)
    go_ret
    exact ⟨rfl, by first | exact (Kp.refl _ _) | exact ((Kp.refl _ _).alloc _) | exact ((Kp.refl _ _).alloc _).alloc _ | exact (((Kp.refl _ _).alloc _).alloc _).alloc _⟩
  · have hy : rightR ⟨6, name, vk, vn, vt, vs, kids⟩ = true := by unfold rightR; simp only [hkid, hnm]; rw [if_neg (fun e => e.elim (fun e => by omega) (fun e => absurd e.1 (by decide))), if_neg (by rw [if_neg (by decide)]; exact fun e => e b), if_neg (fun e => e d)]; unfold lastR; simp only; rw [if_neg (by decide), if_neg (by decide), if_neg (by decide)]; exact decide_eq_true ⟨e, f, g⟩
    have b2 : name.toList.isEmpty = true := by rw [tl_empty]; exact decide_eq_true b
    subst d
    have e2 := bqt e
    have f2 := bqt f
    have g2 : vt.toList.isEmpty = true := by rw [tl_empty]; exact decide_eq_true g
    simp only [hy]
    clear hy hnm hkid
    unfold ndC iv
    go_enter Tryz.func23, Tryz.ntmps23
    go_wp2_with (first | (go_at_call 73; refine (HK.out _).mono ?_; rintro e w1 ⟨rfl, rfl⟩) | fail)
    go_ret
    exact ⟨rfl, by first | exact (Kp.refl _ _) | exact ((Kp.refl _ _).alloc _) | exact ((Kp.refl _ _).alloc _).alloc _ | exact (((Kp.refl _ _).alloc _).alloc _).alloc _⟩
set_option maxRecDepth 100000 in
set_option maxHeartbeats 6400000 in
theorem rrightO (w : World) (x : MNd) (h1 : ¬ x.n.op = 1) (h2 : ¬ x.n.op = 2) (h3 : ¬ x.n.op = 3) (h5 : ¬ x.n.op = 5) (h6 : ¬ x.n.op = 6) (h24 : ¬ x.n.op = 24) (h25 : ¬ x.n.op = 25) (h26 : ¬ x.n.op = 26) : Calls Tryz.prog 23 #[.agg (ndC x).toArray] w fun e w' => e = .returned (.bool (rightR x.n)) ∧ Old w w' := by
  obtain ⟨⟨op, name, vk, vn, vt, vs, kids⟩, A, c, vA, vc⟩ := x
  simp only at h1 h2 h3 h5 h6 h24 h25 h26
  have q1 := bqf h1
  have q2 := bqf h2
  have q3 := bqf h3
  have q5 := bqf h5
  have q24 := bqf h24
  have q25 := bqf h25
  have q26 := bqf h26
  have HK := Lib.hid (fun W => rkids_any W op)
  have hkid : kidsR op = kidsR op := rfl
  have hk0 : kidsR op = -2 ∨ 0 ≤ kidsR op := by
    unfold kidsR
    repeat' split
    all_goals omega
  have hnm : namedR op = false := decide_eq_false (by omega)
  generalize hKK : kidsR op = K at *
  by_cases hm2 : K = -2
  · have p2 := bqt hm2
    have hy : rightR ⟨op, name, vk, vn, vt, vs, kids⟩ = false := by unfold rightR; simp only [hKK]; rw [if_pos (.inl hm2)]
    simp only [hy]
    clear hy hKK hnm hk0 hkid
    unfold ndC iv
    go_enter Tryz.func23, Tryz.ntmps23
    go_wp2_with (first | (go_at_call 73; refine (HK.out _).mono ?_; rintro e w1 ⟨rfl, rfl⟩) | fail)
    go_ret
    exact ⟨rfl, by first | exact (Kp.refl _ _) | exact ((Kp.refl _ _).alloc _) | exact ((Kp.refl _ _).alloc _).alloc _ | exact (((Kp.refl _ _).alloc _).alloc _).alloc _⟩
  have hk1 : 0 ≤ K := by omega
  have p2 := bqf hm2
  rcases paths ((kids.length : Int) = K) (name.size = 0) (vs = []) (vk = 0) (vn = 0) (vt.size = 0) with a | ⟨a, b⟩ | ⟨a, b, d⟩ | ⟨a, b, d, e⟩ | ⟨a, b, d, e, f⟩ | ⟨a, b, d, e, f, g⟩ | ⟨a, b, d, e, f, g⟩
  · have hy : rightR ⟨op, name, vk, vn, vt, vs, kids⟩ = false := by unfold rightR; simp only [hKK]; rw [if_pos (.inr ⟨by omega, a⟩)]
    have a2 := bnt a
    simp only [hy]
    clear hy hnm hkid hKK
    unfold ndC iv
    go_enter Tryz.func23, Tryz.ntmps23
    go_wp2_with (first | (go_at_call 73; refine (HK.out _).mono ?_; rintro e w1 ⟨rfl, rfl⟩) | fail)
    go_ret
    exact ⟨rfl, by first | exact (Kp.refl _ _) | exact ((Kp.refl _ _).alloc _) | exact ((Kp.refl _ _).alloc _).alloc _ | exact (((Kp.refl _ _).alloc _).alloc _).alloc _⟩
  · have hy : rightR ⟨op, name, vk, vn, vt, vs, kids⟩ = false := by unfold rightR; simp only [hKK, hnm]; rw [if_neg (fun e => e.elim (fun e => by omega) (fun e => e.2 a)), if_pos (by rw [if_neg (by decide)]; exact b)]
    have a2 := bnf a
    have b2 : name.toList.isEmpty = false := by rw [tl_empty]; exact decide_eq_false b
    simp only [hy]
    clear hy hnm hkid hKK
    unfold ndC iv
    go_enter Tryz.func23, Tryz.ntmps23
    go_wp2_with (first | (go_at_call 73; refine (HK.out _).mono ?_; rintro e w1 ⟨rfl, rfl⟩) | fail)
    go_ret
    exact ⟨rfl, by first | exact (Kp.refl _ _) | exact ((Kp.refl _ _).alloc _) | exact ((Kp.refl _ _).alloc _).alloc _ | exact (((Kp.refl _ _).alloc _).alloc _).alloc _⟩
  · have hy : rightR ⟨op, name, vk, vn, vt, vs, kids⟩ = false := by unfold rightR; simp only [hKK, hnm]; rw [if_neg (fun e => e.elim (fun e => by omega) (fun e => e.2 a)), if_neg (by rw [if_neg (by decide)]; exact fun e => e b), if_pos d]
    have a2 := bnf a
    have b2 : name.toList.isEmpty = true := by rw [tl_empty]; exact decide_eq_true b
    have d2 : (0 : Int) < (vs.length : Int) := by have := List.length_pos_iff.2 d; omega
    simp only [hy]
    clear hy hnm hkid hKK
    unfold ndC iv
    go_enter Tryz.func23, Tryz.ntmps23
    go_wp2_with (first | (go_at_call 73; refine (HK.out _).mono ?_; rintro e w1 ⟨rfl, rfl⟩) | fail)
    go_ret
    exact ⟨rfl, by first | exact (Kp.refl _ _) | exact ((Kp.refl _ _).alloc _) | exact ((Kp.refl _ _).alloc _).alloc _ | exact (((Kp.refl _ _).alloc _).alloc _).alloc _⟩
  · have hy : rightR ⟨op, name, vk, vn, vt, vs, kids⟩ = false := by unfold rightR; simp only [hKK, hnm]; rw [if_neg (fun e => e.elim (fun e => by omega) (fun e => e.2 a)), if_neg (by rw [if_neg (by decide)]; exact fun e => e b), if_neg (fun e => e d)]; unfold lastR; simp only; rw [if_neg h1, if_neg h2, if_neg h3]; exact decide_eq_false (fun u => e u.1)
    have a2 := bnf a
    have b2 : name.toList.isEmpty = true := by rw [tl_empty]; exact decide_eq_true b
    subst d
    have e2 := bqf e
    simp only [hy]
    clear hy hnm hkid hKK
    unfold ndC iv
    go_enter Tryz.func23, Tryz.ntmps23
    go_wp2_with (first | (go_at_call 73; refine (HK.out _).mono ?_; rintro e w1 ⟨rfl, rfl⟩) | fail)
    go_ret
    exact ⟨rfl, by first | exact (Kp.refl _ _) | exact ((Kp.refl _ _).alloc _) | exact ((Kp.refl _ _).alloc _).alloc _ | exact (((Kp.refl _ _).alloc _).alloc _).alloc _⟩
  · have hy : rightR ⟨op, name, vk, vn, vt, vs, kids⟩ = false := by unfold rightR; simp only [hKK, hnm]; rw [if_neg (fun e => e.elim (fun e => by omega) (fun e => e.2 a)), if_neg (by rw [if_neg (by decide)]; exact fun e => e b), if_neg (fun e => e d)]; unfold lastR; simp only; rw [if_neg h1, if_neg h2, if_neg h3]; exact decide_eq_false (fun u => f u.2.1)
    have a2 := bnf a
    have b2 : name.toList.isEmpty = true := by rw [tl_empty]; exact decide_eq_true b
    subst d
    have e2 := bqt e
    have f2 := bqf f
    simp only [hy]
    clear hy hnm hkid hKK
    unfold ndC iv
    go_enter Tryz.func23, Tryz.ntmps23
    go_wp2_with (first | (go_at_call 73; refine (HK.out _).mono ?_; rintro e w1 ⟨rfl, rfl⟩) | fail)
    go_ret
    exact ⟨rfl, by first | exact (Kp.refl _ _) | exact ((Kp.refl _ _).alloc _) | exact ((Kp.refl _ _).alloc _).alloc _ | exact (((Kp.refl _ _).alloc _).alloc _).alloc _⟩
  · have hy : rightR ⟨op, name, vk, vn, vt, vs, kids⟩ = false := by unfold rightR; simp only [hKK, hnm]; rw [if_neg (fun e => e.elim (fun e => by omega) (fun e => e.2 a)), if_neg (by rw [if_neg (by decide)]; exact fun e => e b), if_neg (fun e => e d)]; unfold lastR; simp only; rw [if_neg h1, if_neg h2, if_neg h3]; exact decide_eq_false (fun u => g u.2.2)
    have a2 := bnf a
    have b2 : name.toList.isEmpty = true := by rw [tl_empty]; exact decide_eq_true b
    subst d
    have e2 := bqt e
    have f2 := bqt f
    have g2 : vt.toList.isEmpty = false := by rw [tl_empty]; exact decide_eq_false g
    simp only [hy]
    clear hy hnm hkid hKK
    unfold ndC iv
    go_enter Tryz.func23, Tryz.ntmps23
    go_wp2_with (first | (go_at_call 73; refine (HK.out _).mono ?_; rintro e w1 ⟨rfl, rfl⟩) | fail)
    go_ret
    exact ⟨rfl, by first | exact (Kp.refl _ _) | exact ((Kp.refl _ _).alloc _) | exact ((Kp.refl _ _).alloc _).alloc _ | exact (((Kp.refl _ _).alloc _).alloc _).alloc _⟩
  · have hy : rightR ⟨op, name, vk, vn, vt, vs, kids⟩ = true := by unfold rightR; simp only [hKK, hnm]; rw [if_neg (fun e => e.elim (fun e => by omega) (fun e => e.2 a)), if_neg (by rw [if_neg (by decide)]; exact fun e => e b), if_neg (fun e => e d)]; unfold lastR; simp only; rw [if_neg h1, if_neg h2, if_neg h3]; exact decide_eq_true ⟨e, f, g⟩
    have a2 := bnf a
    have b2 : name.toList.isEmpty = true := by rw [tl_empty]; exact decide_eq_true b
    subst d
    have e2 := bqt e
    have f2 := bqt f
    have g2 : vt.toList.isEmpty = true := by rw [tl_empty]; exact decide_eq_true g
    simp only [hy]
    clear hy hnm hkid hKK
    unfold ndC iv
    go_enter Tryz.func23, Tryz.ntmps23
    go_wp2_with (first | (go_at_call 73; refine (HK.out _).mono ?_; rintro e w1 ⟨rfl, rfl⟩) | fail)
    go_ret
    exact ⟨rfl, by first | exact (Kp.refl _ _) | exact ((Kp.refl _ _).alloc _) | exact ((Kp.refl _ _).alloc _).alloc _ | exact (((Kp.refl _ _).alloc _).alloc _).alloc _⟩
end Go.Proofs.YtmmjcbbogokmfaaGreatDoor
