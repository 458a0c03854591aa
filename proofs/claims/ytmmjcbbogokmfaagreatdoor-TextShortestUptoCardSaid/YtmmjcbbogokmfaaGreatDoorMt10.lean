import Derived.Test.YtmmjcbbogokmfaaGreatDoorMt01
import Derived.Test.YtmmjcbbogokmfaaGreatDoorMt09
set_option maxRecDepth 100000
set_option maxHeartbeats 25600000
namespace Go.Proofs.YtmmjcbbogokmfaaGreatDoor
open Go.RowKit
def yv (n : Nat) : Value := .int .u8 (n : Int)
theorem jz (w : World) (t : Nat) : Calls Tryz.prog 239 #[yv t] w fun e w' => e = .returned (.bool (jd t)) /\ w = w' := by
  have Hy := jJ0 (show jd t = decide (t = 2 \/ t = 46 \/ t = 47 \/ t = 3 \/ t = 48 \/ t = 1 \/ t = 6 \/ t = 4 \/ t = 31 \/ (49 <= t /\ t <= 57)) from rfl)
  generalize jd t = R at *
  unfold yv
  go_enter Tryz.func239, Tryz.ntmps239
  go_wp2
  all_goals (go_ret; refine ⟨?_, rfl⟩; rw [Hy.out]; refine retb ?_; simp only [beq_iff_eq, beq_eq_false_iff_ne, ne_eq, decide_eq_true_eq, Bool.false_eq_true, true_iff, false_iff] at *; omega)
theorem empty_any (w : World) (n : Nat) : Calls Tryz.prog 202 #[yv n] w fun e w' => e = .returned (.bool (jY n)) /\ w = w' := by
  have Hy := jJ0 (show jY n = decide (n = 58 \/ n = 59 \/ n = 61 \/ n = 62 \/ n = 63 \/ n = 64 \/ n = 65 \/ n = 66 \/ n = 67 \/ n = 68 \/ n = 71 \/ n = 73 \/ n = 76 \/ n = 78 \/ n = 80 \/ n = 83 \/ n = 84) from rfl)
  generalize jY n = R at *
  unfold yv
  go_enter Tryz.func202, Tryz.ntmps202
  go_wp2
  all_goals (go_ret; refine ⟨?_, rfl⟩; rw [Hy.out]; refine retb ?_; simp only [beq_iff_eq, beq_eq_false_iff_ne, ne_eq, decide_eq_true_eq, Bool.false_eq_true, true_iff, false_iff] at *; omega)
def wk1 (a : Bool) (t : Nat) : Bool := decide (t = 40 \/ t = 45 \/ t = 19) || a
def wk2 (a : Bool) (t : Nat) : Bool := decide (t = 45 \/ t = 19) || a
def wk3 (a : Bool) (t : Nat) : Bool := decide (t = 19) || a
def wk4 (a : Bool) (_ : Nat) : Bool := a
def wk5 (_ : Bool) (t : Nat) : Bool := decide (t = 43)
def wk6 (_ : Bool) (t : Nat) : Bool := decide (t = 44)
def wk7 (_ : Bool) (t : Nat) : Bool := decide ((12 <= t /\ t <= 17) \/ t = 28)
def wk8 (_ : Bool) (t : Nat) : Bool := decide (t = 18 \/ t = 19)
def wk9 (_ : Bool) (t : Nat) : Bool := decide (20 <= t /\ t <= 22)
theorem worked83 (w : World) (t : Nat) : Calls Tryz.prog 229 #[.int .u8 83, yv t] w fun e w' => e = .returned (.bool (jO 83 t)) /\ w = w' := by
  have Hy := jJ0 (show jO 83 t = wk1 (jd t) t from rfl)
  have H := jJ0 (jz w t)
  generalize jO 83 t = R at *
  generalize jd t = a at *
  unfold yv at *
  go_enter Tryz.func229, Tryz.ntmps229
  go_wp2_with (go_at_call 239; refine H.out.mono ?_; rintro e w1 ⟨rfl, rfl⟩)
  all_goals (go_ret; refine ⟨?_, rfl⟩; rw [Hy.out]; refine retb ?_; clear Hy H; cases a <;> (simp [wk1] at *; try omega))
theorem worked69 (w : World) (t : Nat) : Calls Tryz.prog 229 #[.int .u8 69, yv t] w fun e w' => e = .returned (.bool (jO 69 t)) /\ w = w' := by
  have Hy := jJ0 (show jO 69 t = wk1 (jd t) t from rfl)
  have H := jJ0 (jz w t)
  generalize jO 69 t = R at *
  generalize jd t = a at *
  unfold yv at *
  go_enter Tryz.func229, Tryz.ntmps229
  go_wp2_with (go_at_call 239; refine H.out.mono ?_; rintro e w1 ⟨rfl, rfl⟩)
  all_goals (go_ret; refine ⟨?_, rfl⟩; rw [Hy.out]; refine retb ?_; clear Hy H; cases a <;> (simp [wk1] at *; try omega))
theorem worked70 (w : World) (t : Nat) : Calls Tryz.prog 229 #[.int .u8 70, yv t] w fun e w' => e = .returned (.bool (jO 70 t)) /\ w = w' := by
  have Hy := jJ0 (show jO 70 t = wk2 (jd t) t from rfl)
  have H := jJ0 (jz w t)
  generalize jO 70 t = R at *
  generalize jd t = a at *
  unfold yv at *
  go_enter Tryz.func229, Tryz.ntmps229
  go_wp2_with (go_at_call 239; refine H.out.mono ?_; rintro e w1 ⟨rfl, rfl⟩)
  all_goals (go_ret; refine ⟨?_, rfl⟩; rw [Hy.out]; refine retb ?_; clear Hy H; cases a <;> (simp [wk2] at *; try omega))
theorem worked72 (w : World) (t : Nat) : Calls Tryz.prog 229 #[.int .u8 72, yv t] w fun e w' => e = .returned (.bool (jO 72 t)) /\ w = w' := by
  have Hy := jJ0 (show jO 72 t = wk2 (jd t) t from rfl)
  have H := jJ0 (jz w t)
  generalize jO 72 t = R at *
  generalize jd t = a at *
  unfold yv at *
  go_enter Tryz.func229, Tryz.ntmps229
  go_wp2_with (go_at_call 239; refine H.out.mono ?_; rintro e w1 ⟨rfl, rfl⟩)
  all_goals (go_ret; refine ⟨?_, rfl⟩; rw [Hy.out]; refine retb ?_; clear Hy H; cases a <;> (simp [wk2] at *; try omega))
theorem worked74 (w : World) (t : Nat) : Calls Tryz.prog 229 #[.int .u8 74, yv t] w fun e w' => e = .returned (.bool (jO 74 t)) /\ w = w' := by
  have Hy := jJ0 (show jO 74 t = wk2 (jd t) t from rfl)
  have H := jJ0 (jz w t)
  generalize jO 74 t = R at *
  generalize jd t = a at *
  unfold yv at *
  go_enter Tryz.func229, Tryz.ntmps229
  go_wp2_with (go_at_call 239; refine H.out.mono ?_; rintro e w1 ⟨rfl, rfl⟩)
  all_goals (go_ret; refine ⟨?_, rfl⟩; rw [Hy.out]; refine retb ?_; clear Hy H; cases a <;> (simp [wk2] at *; try omega))
theorem worked75 (w : World) (t : Nat) : Calls Tryz.prog 229 #[.int .u8 75, yv t] w fun e w' => e = .returned (.bool (jO 75 t)) /\ w = w' := by
  have Hy := jJ0 (show jO 75 t = wk3 (jd t) t from rfl)
  have H := jJ0 (jz w t)
  generalize jO 75 t = R at *
  generalize jd t = a at *
  unfold yv at *
  go_enter Tryz.func229, Tryz.ntmps229
  go_wp2_with (go_at_call 239; refine H.out.mono ?_; rintro e w1 ⟨rfl, rfl⟩)
  all_goals (go_ret; refine ⟨?_, rfl⟩; rw [Hy.out]; refine retb ?_; clear Hy H; cases a <;> (simp [wk3] at *; try omega))
theorem worked77 (w : World) (t : Nat) : Calls Tryz.prog 229 #[.int .u8 77, yv t] w fun e w' => e = .returned (.bool (jO 77 t)) /\ w = w' := by
  have Hy := jJ0 (show jO 77 t = wk3 (jd t) t from rfl)
  have H := jJ0 (jz w t)
  generalize jO 77 t = R at *
  generalize jd t = a at *
  unfold yv at *
  go_enter Tryz.func229, Tryz.ntmps229
  go_wp2_with (go_at_call 239; refine H.out.mono ?_; rintro e w1 ⟨rfl, rfl⟩)
  all_goals (go_ret; refine ⟨?_, rfl⟩; rw [Hy.out]; refine retb ?_; clear Hy H; cases a <;> (simp [wk3] at *; try omega))
theorem worked79 (w : World) (t : Nat) : Calls Tryz.prog 229 #[.int .u8 79, yv t] w fun e w' => e = .returned (.bool (jO 79 t)) /\ w = w' := by
  have Hy := jJ0 (show jO 79 t = wk3 (jd t) t from rfl)
  have H := jJ0 (jz w t)
  generalize jO 79 t = R at *
  generalize jd t = a at *
  unfold yv at *
  go_enter Tryz.func229, Tryz.ntmps229
  go_wp2_with (go_at_call 239; refine H.out.mono ?_; rintro e w1 ⟨rfl, rfl⟩)
  all_goals (go_ret; refine ⟨?_, rfl⟩; rw [Hy.out]; refine retb ?_; clear Hy H; cases a <;> (simp [wk3] at *; try omega))
theorem worked81 (w : World) (t : Nat) : Calls Tryz.prog 229 #[.int .u8 81, yv t] w fun e w' => e = .returned (.bool (jO 81 t)) /\ w = w' := by
  have Hy := jJ0 (show jO 81 t = wk3 (jd t) t from rfl)
  have H := jJ0 (jz w t)
  generalize jO 81 t = R at *
  generalize jd t = a at *
  unfold yv at *
  go_enter Tryz.func229, Tryz.ntmps229
  go_wp2_with (go_at_call 239; refine H.out.mono ?_; rintro e w1 ⟨rfl, rfl⟩)
  all_goals (go_ret; refine ⟨?_, rfl⟩; rw [Hy.out]; refine retb ?_; clear Hy H; cases a <;> (simp [wk3] at *; try omega))
theorem worked82 (w : World) (t : Nat) : Calls Tryz.prog 229 #[.int .u8 82, yv t] w fun e w' => e = .returned (.bool (jO 82 t)) /\ w = w' := by
  have Hy := jJ0 (show jO 82 t = wk4 (jd t) t from rfl)
  have H := jJ0 (jz w t)
  generalize jO 82 t = R at *
  generalize jd t = a at *
  unfold yv at *
  go_enter Tryz.func229, Tryz.ntmps229
  go_wp2_with (go_at_call 239; refine H.out.mono ?_; rintro e w1 ⟨rfl, rfl⟩)
  all_goals (go_ret; refine ⟨?_, rfl⟩; rw [Hy.out]; refine retb ?_; clear Hy H; cases a <;> (simp [wk4] at *; try omega))
theorem worked71 (w : World) (t : Nat) : Calls Tryz.prog 229 #[.int .u8 71, yv t] w fun e w' => e = .returned (.bool (jO 71 t)) /\ w = w' := by
  have Hy := jJ0 (show jO 71 t = wk5 (jd t) t from rfl)
  have H := jJ0 (jz w t)
  generalize jO 71 t = R at *
  generalize jd t = a at *
  unfold yv at *
  go_enter Tryz.func229, Tryz.ntmps229
  go_wp2_with (go_at_call 239; refine H.out.mono ?_; rintro e w1 ⟨rfl, rfl⟩)
  all_goals (go_ret; refine ⟨?_, rfl⟩; rw [Hy.out]; refine retb ?_; clear Hy H; cases a <;> (simp [wk5] at *; try omega))
theorem worked73 (w : World) (t : Nat) : Calls Tryz.prog 229 #[.int .u8 73, yv t] w fun e w' => e = .returned (.bool (jO 73 t)) /\ w = w' := by
  have Hy := jJ0 (show jO 73 t = wk6 (jd t) t from rfl)
  have H := jJ0 (jz w t)
  generalize jO 73 t = R at *
  generalize jd t = a at *
  unfold yv at *
  go_enter Tryz.func229, Tryz.ntmps229
  go_wp2_with (go_at_call 239; refine H.out.mono ?_; rintro e w1 ⟨rfl, rfl⟩)
  all_goals (go_ret; refine ⟨?_, rfl⟩; rw [Hy.out]; refine retb ?_; clear Hy H; cases a <;> (simp [wk6] at *; try omega))
theorem worked76 (w : World) (t : Nat) : Calls Tryz.prog 229 #[.int .u8 76, yv t] w fun e w' => e = .returned (.bool (jO 76 t)) /\ w = w' := by
  have Hy := jJ0 (show jO 76 t = wk7 (jd t) t from rfl)
  have H := jJ0 (jz w t)
  generalize jO 76 t = R at *
  generalize jd t = a at *
  unfold yv at *
  go_enter Tryz.func229, Tryz.ntmps229
  go_wp2_with (go_at_call 239; refine H.out.mono ?_; rintro e w1 ⟨rfl, rfl⟩)
  all_goals (go_ret; refine ⟨?_, rfl⟩; rw [Hy.out]; refine retb ?_; clear Hy H; cases a <;> (simp [wk7] at *; try omega))
theorem worked78 (w : World) (t : Nat) : Calls Tryz.prog 229 #[.int .u8 78, yv t] w fun e w' => e = .returned (.bool (jO 78 t)) /\ w = w' := by
  have Hy := jJ0 (show jO 78 t = wk8 (jd t) t from rfl)
  have H := jJ0 (jz w t)
  generalize jO 78 t = R at *
  generalize jd t = a at *
  unfold yv at *
  go_enter Tryz.func229, Tryz.ntmps229
  go_wp2_with (go_at_call 239; refine H.out.mono ?_; rintro e w1 ⟨rfl, rfl⟩)
  all_goals (go_ret; refine ⟨?_, rfl⟩; rw [Hy.out]; refine retb ?_; clear Hy H; cases a <;> (simp [wk8] at *; try omega))
theorem worked80 (w : World) (t : Nat) : Calls Tryz.prog 229 #[.int .u8 80, yv t] w fun e w' => e = .returned (.bool (jO 80 t)) /\ w = w' := by
  have Hy := jJ0 (show jO 80 t = wk9 (jd t) t from rfl)
  have H := jJ0 (jz w t)
  generalize jO 80 t = R at *
  generalize jd t = a at *
  unfold yv at *
  go_enter Tryz.func229, Tryz.ntmps229
  go_wp2_with (go_at_call 239; refine H.out.mono ?_; rintro e w1 ⟨rfl, rfl⟩)
  all_goals (go_ret; refine ⟨?_, rfl⟩; rw [Hy.out]; refine retb ?_; clear Hy H; cases a <;> (simp [wk9] at *; try omega))
theorem worked_no (n t : Nat) (h69 : n ≠ 69) (h70 : n ≠ 70) (h71 : n ≠ 71) (h72 : n ≠ 72) (h73 : n ≠ 73) (h74 : n ≠ 74) (h75 : n ≠ 75) (h76 : n ≠ 76) (h77 : n ≠ 77) (h78 : n ≠ 78) (h79 : n ≠ 79) (h80 : n ≠ 80) (h81 : n ≠ 81) (h82 : n ≠ 82) (h83 : n ≠ 83) : jO n t = false := by
  unfold jO
  rw [if_neg (by omega), if_neg (by omega), if_neg (by omega), if_neg (by omega), if_neg (by omega), if_neg (by omega), if_neg (by omega), if_neg (by omega), if_neg (by omega)]
theorem worked_any (w : World) (n t : Nat) : Calls Tryz.prog 229 #[yv n, yv t] w fun e w' => e = .returned (.bool (jO n t)) /\ w = w' := by
  by_cases h69 : n = 69
  · subst h69; exact worked69 w t
  by_cases h70 : n = 70
  · subst h70; exact worked70 w t
  by_cases h71 : n = 71
  · subst h71; exact worked71 w t
  by_cases h72 : n = 72
  · subst h72; exact worked72 w t
  by_cases h73 : n = 73
  · subst h73; exact worked73 w t
  by_cases h74 : n = 74
  · subst h74; exact worked74 w t
  by_cases h75 : n = 75
  · subst h75; exact worked75 w t
  by_cases h76 : n = 76
  · subst h76; exact worked76 w t
  by_cases h77 : n = 77
  · subst h77; exact worked77 w t
  by_cases h78 : n = 78
  · subst h78; exact worked78 w t
  by_cases h79 : n = 79
  · subst h79; exact worked79 w t
  by_cases h80 : n = 80
  · subst h80; exact worked80 w t
  by_cases h81 : n = 81
  · subst h81; exact worked81 w t
  by_cases h82 : n = 82
  · subst h82; exact worked82 w t
  by_cases h83 : n = 83
  · subst h83; exact worked83 w t
  have Hy := jJ0 (worked_no n t h69 h70 h71 h72 h73 h74 h75 h76 h77 h78 h79 h80 h81 h82 h83)
  generalize jO n t = R at *
  have b69 : ((n : Int) == 69) = false := beq_eq_false_iff_ne.2 (by omega)
  have b70 : ((n : Int) == 70) = false := beq_eq_false_iff_ne.2 (by omega)
  have b71 : ((n : Int) == 71) = false := beq_eq_false_iff_ne.2 (by omega)
  have b72 : ((n : Int) == 72) = false := beq_eq_false_iff_ne.2 (by omega)
  have b73 : ((n : Int) == 73) = false := beq_eq_false_iff_ne.2 (by omega)
  have b74 : ((n : Int) == 74) = false := beq_eq_false_iff_ne.2 (by omega)
  have b75 : ((n : Int) == 75) = false := beq_eq_false_iff_ne.2 (by omega)
  have b76 : ((n : Int) == 76) = false := beq_eq_false_iff_ne.2 (by omega)
  have b77 : ((n : Int) == 77) = false := beq_eq_false_iff_ne.2 (by omega)
  have b78 : ((n : Int) == 78) = false := beq_eq_false_iff_ne.2 (by omega)
  have b79 : ((n : Int) == 79) = false := beq_eq_false_iff_ne.2 (by omega)
  have b80 : ((n : Int) == 80) = false := beq_eq_false_iff_ne.2 (by omega)
  have b81 : ((n : Int) == 81) = false := beq_eq_false_iff_ne.2 (by omega)
  have b82 : ((n : Int) == 82) = false := beq_eq_false_iff_ne.2 (by omega)
  have b83 : ((n : Int) == 83) = false := beq_eq_false_iff_ne.2 (by omega)
  clear h69 h70 h71 h72 h73 h74 h75 h76 h77 h78 h79 h80 h81 h82 h83
  unfold yv
  go_enter Tryz.func229, Tryz.ntmps229
  go_wp2
  go_ret
  exact ⟨by rw [Hy.out]; rfl, rfl⟩
def bk58 (t : Nat) : Bool := decide (24 <= t /\ t <= 27)
def bk59 (t : Nat) : Bool := decide (t = 39)
def bk60 (t : Nat) : Bool := decide (34 <= t /\ t <= 38)
def bk61 (t : Nat) : Bool := decide (t = 12)
def bk62 (t : Nat) : Bool := decide (t = 32)
def bk63 (t : Nat) : Bool := decide (t = 28)
def bk64 (t : Nat) : Bool := decide (t = 29)
def bk65 (t : Nat) : Bool := decide (t = 30)
def bk66 (t : Nat) : Bool := decide (t = 1)
def bk67 (t : Nat) : Bool := decide (t = 8)
def bk68 (t : Nat) : Bool := decide (t = 1 \/ t = 33)
def bk84 (t : Nat) : Bool := decide (t = 8)
theorem begins58 (w : World) (t : Nat) : Calls Tryz.prog 206 #[.int .u8 58, yv t] w fun e w' => e = .returned (.bool (jD 58 t)) /\ w = w' := by
  have Hy := jJ0 (show jD 58 t = bk58 t from rfl)
  generalize jD 58 t = R at *
  unfold yv at *
  go_enter Tryz.func206, Tryz.ntmps206
  go_wp2
  all_goals (go_ret; refine ⟨?_, rfl⟩; rw [Hy.out]; refine retb ?_; clear Hy; simp [bk58] at *; try omega)
theorem begins59 (w : World) (t : Nat) : Calls Tryz.prog 206 #[.int .u8 59, yv t] w fun e w' => e = .returned (.bool (jD 59 t)) /\ w = w' := by
  have Hy := jJ0 (show jD 59 t = bk59 t from rfl)
  generalize jD 59 t = R at *
  unfold yv at *
  go_enter Tryz.func206, Tryz.ntmps206
  go_wp2
  all_goals (go_ret; refine ⟨?_, rfl⟩; rw [Hy.out]; refine retb ?_; clear Hy; simp [bk59] at *; try omega)
theorem begins60 (w : World) (t : Nat) : Calls Tryz.prog 206 #[.int .u8 60, yv t] w fun e w' => e = .returned (.bool (jD 60 t)) /\ w = w' := by
  have Hy := jJ0 (show jD 60 t = bk60 t from rfl)
  generalize jD 60 t = R at *
  unfold yv at *
  go_enter Tryz.func206, Tryz.ntmps206
  go_wp2
  all_goals (go_ret; refine ⟨?_, rfl⟩; rw [Hy.out]; refine retb ?_; clear Hy; simp [bk60] at *; try omega)
theorem begins61 (w : World) (t : Nat) : Calls Tryz.prog 206 #[.int .u8 61, yv t] w fun e w' => e = .returned (.bool (jD 61 t)) /\ w = w' := by
  have Hy := jJ0 (show jD 61 t = bk61 t from rfl)
  generalize jD 61 t = R at *
  unfold yv at *
  go_enter Tryz.func206, Tryz.ntmps206
  go_wp2
  all_goals (go_ret; refine ⟨?_, rfl⟩; rw [Hy.out]; refine retb ?_; clear Hy; simp [bk61] at *; try omega)
theorem begins62 (w : World) (t : Nat) : Calls Tryz.prog 206 #[.int .u8 62, yv t] w fun e w' => e = .returned (.bool (jD 62 t)) /\ w = w' := by
  have Hy := jJ0 (show jD 62 t = bk62 t from rfl)
  generalize jD 62 t = R at *
  unfold yv at *
  go_enter Tryz.func206, Tryz.ntmps206
  go_wp2
  all_goals (go_ret; refine ⟨?_, rfl⟩; rw [Hy.out]; refine retb ?_; clear Hy; simp [bk62] at *; try omega)
theorem begins63 (w : World) (t : Nat) : Calls Tryz.prog 206 #[.int .u8 63, yv t] w fun e w' => e = .returned (.bool (jD 63 t)) /\ w = w' := by
  have Hy := jJ0 (show jD 63 t = bk63 t from rfl)
  generalize jD 63 t = R at *
  unfold yv at *
  go_enter Tryz.func206, Tryz.ntmps206
  go_wp2
  all_goals (go_ret; refine ⟨?_, rfl⟩; rw [Hy.out]; refine retb ?_; clear Hy; simp [bk63] at *; try omega)
theorem begins64 (w : World) (t : Nat) : Calls Tryz.prog 206 #[.int .u8 64, yv t] w fun e w' => e = .returned (.bool (jD 64 t)) /\ w = w' := by
  have Hy := jJ0 (show jD 64 t = bk64 t from rfl)
  generalize jD 64 t = R at *
  unfold yv at *
  go_enter Tryz.func206, Tryz.ntmps206
  go_wp2
  all_goals (go_ret; refine ⟨?_, rfl⟩; rw [Hy.out]; refine retb ?_; clear Hy; simp [bk64] at *; try omega)
theorem begins65 (w : World) (t : Nat) : Calls Tryz.prog 206 #[.int .u8 65, yv t] w fun e w' => e = .returned (.bool (jD 65 t)) /\ w = w' := by
  have Hy := jJ0 (show jD 65 t = bk65 t from rfl)
  generalize jD 65 t = R at *
  unfold yv at *
  go_enter Tryz.func206, Tryz.ntmps206
  go_wp2
  all_goals (go_ret; refine ⟨?_, rfl⟩; rw [Hy.out]; refine retb ?_; clear Hy; simp [bk65] at *; try omega)
theorem begins66 (w : World) (t : Nat) : Calls Tryz.prog 206 #[.int .u8 66, yv t] w fun e w' => e = .returned (.bool (jD 66 t)) /\ w = w' := by
  have Hy := jJ0 (show jD 66 t = bk66 t from rfl)
  generalize jD 66 t = R at *
  unfold yv at *
  go_enter Tryz.func206, Tryz.ntmps206
  go_wp2
  all_goals (go_ret; refine ⟨?_, rfl⟩; rw [Hy.out]; refine retb ?_; clear Hy; simp [bk66] at *; try omega)
theorem begins67 (w : World) (t : Nat) : Calls Tryz.prog 206 #[.int .u8 67, yv t] w fun e w' => e = .returned (.bool (jD 67 t)) /\ w = w' := by
  have Hy := jJ0 (show jD 67 t = bk67 t from rfl)
  generalize jD 67 t = R at *
  unfold yv at *
  go_enter Tryz.func206, Tryz.ntmps206
  go_wp2
  all_goals (go_ret; refine ⟨?_, rfl⟩; rw [Hy.out]; refine retb ?_; clear Hy; simp [bk67] at *; try omega)
theorem begins68 (w : World) (t : Nat) : Calls Tryz.prog 206 #[.int .u8 68, yv t] w fun e w' => e = .returned (.bool (jD 68 t)) /\ w = w' := by
  have Hy := jJ0 (show jD 68 t = bk68 t from rfl)
  generalize jD 68 t = R at *
  unfold yv at *
  go_enter Tryz.func206, Tryz.ntmps206
  go_wp2
  all_goals (go_ret; refine ⟨?_, rfl⟩; rw [Hy.out]; refine retb ?_; clear Hy; simp [bk68] at *; try omega)
theorem begins84 (w : World) (t : Nat) : Calls Tryz.prog 206 #[.int .u8 84, yv t] w fun e w' => e = .returned (.bool (jD 84 t)) /\ w = w' := by
  have Hy := jJ0 (show jD 84 t = bk84 t from rfl)
  generalize jD 84 t = R at *
  unfold yv at *
  go_enter Tryz.func206, Tryz.ntmps206
  go_wp2
  all_goals (go_ret; refine ⟨?_, rfl⟩; rw [Hy.out]; refine retb ?_; clear Hy; simp [bk84] at *; try omega)
theorem begins_no (n t : Nat) (h58 : n ≠ 58) (h59 : n ≠ 59) (h60 : n ≠ 60) (h61 : n ≠ 61) (h62 : n ≠ 62) (h63 : n ≠ 63) (h64 : n ≠ 64) (h65 : n ≠ 65) (h66 : n ≠ 66) (h67 : n ≠ 67) (h68 : n ≠ 68) (h84 : n ≠ 84) : jD n t = (decide (n = t) || (decide (69 <= n) && jO n t)) := by
  unfold jD
  rw [if_neg (by omega), if_neg (by omega), if_neg (by omega), if_neg (by omega), if_neg (by omega), if_neg (by omega), if_neg (by omega), if_neg (by omega), if_neg (by omega), if_neg (by omega), if_neg (by omega)]
theorem jm (w : World) (n t : Nat) : Calls Tryz.prog 206 #[yv n, yv t] w fun e w' => e = .returned (.bool (jD n t)) /\ w = w' := by
  by_cases h58 : n = 58
  · subst h58; exact begins58 w t
  by_cases h59 : n = 59
  · subst h59; exact begins59 w t
  by_cases h60 : n = 60
  · subst h60; exact begins60 w t
  by_cases h61 : n = 61
  · subst h61; exact begins61 w t
  by_cases h62 : n = 62
  · subst h62; exact begins62 w t
  by_cases h63 : n = 63
  · subst h63; exact begins63 w t
  by_cases h64 : n = 64
  · subst h64; exact begins64 w t
  by_cases h65 : n = 65
  · subst h65; exact begins65 w t
  by_cases h66 : n = 66
  · subst h66; exact begins66 w t
  by_cases h67 : n = 67
  · subst h67; exact begins67 w t
  by_cases h68 : n = 68
  · subst h68; exact begins68 w t
  by_cases h84 : n = 84
  · subst h84; exact begins84 w t
  have Hy := jJ0 (begins_no n t h58 h59 h60 h61 h62 h63 h64 h65 h66 h67 h68 h84)
  have H := jJ0 (worked_any w n t)
  generalize jD n t = R at *
  generalize jO n t = a at *
  have b58 : ((n : Int) == 58) = false := beq_eq_false_iff_ne.2 (by omega)
  have b59 : ((n : Int) == 59) = false := beq_eq_false_iff_ne.2 (by omega)
  have b60 : ((n : Int) == 60) = false := beq_eq_false_iff_ne.2 (by omega)
  have b61 : ((n : Int) == 61) = false := beq_eq_false_iff_ne.2 (by omega)
  have b62 : ((n : Int) == 62) = false := beq_eq_false_iff_ne.2 (by omega)
  have b63 : ((n : Int) == 63) = false := beq_eq_false_iff_ne.2 (by omega)
  have b64 : ((n : Int) == 64) = false := beq_eq_false_iff_ne.2 (by omega)
  have b65 : ((n : Int) == 65) = false := beq_eq_false_iff_ne.2 (by omega)
  have b66 : ((n : Int) == 66) = false := beq_eq_false_iff_ne.2 (by omega)
  have b67 : ((n : Int) == 67) = false := beq_eq_false_iff_ne.2 (by omega)
  have b68 : ((n : Int) == 68) = false := beq_eq_false_iff_ne.2 (by omega)
  have b84 : ((n : Int) == 84) = false := beq_eq_false_iff_ne.2 (by omega)
  clear h58 h59 h60 h61 h62 h63 h64 h65 h66 h67 h68 h84
  unfold yv at *
  by_cases e : n = t
  · have b1 : ((n : Int) == (t : Int)) = true := by rw [e]; simp
    have Hr := jJ0 (show R = true by rw [Hy.out, decide_eq_true e]; rfl)
    clear Hy e
    go_enter Tryz.func206, Tryz.ntmps206
    go_wp2
    go_ret
    exact ⟨by rw [Hr.out]; rfl, rfl⟩
  · have b1 : ((n : Int) == (t : Int)) = false := beq_eq_false_iff_ne.2 (by omega)
    by_cases e9 : 69 <= n
    · have b2 : ¬ (n : Int) < 69 := by omega
      have Hr := jJ0 (show R = a by rw [Hy.out, decide_eq_false e, decide_eq_true e9]; simp)
      clear Hy e e9
      go_enter Tryz.func206, Tryz.ntmps206
      go_wp2_with (go_at_call 229; refine H.out.mono ?_; rintro e w1 ⟨rfl, rfl⟩)
      go_ret
      exact ⟨by rw [Hr.out]; rfl, rfl⟩
    · have b2 : (n : Int) < 69 := by omega
      have Hr := jJ0 (show R = false by rw [Hy.out, decide_eq_false e, decide_eq_false e9]; rfl)
      clear Hy e e9
      go_enter Tryz.func206, Tryz.ntmps206
      go_wp2
      go_ret
      exact ⟨by rw [Hr.out]; rfl, rfl⟩
theorem worded_any (w : World) (n : Nat) : Calls Tryz.prog 205 #[yv n] w fun e w' => e = .returned (.bool (decide (n <= 2 \/ 23 <= n))) /\ w = w' := by
  unfold yv
  go_enter Tryz.func205, Tryz.ntmps205
  go_wp2
  all_goals (go_ret; refine ⟨?_, rfl⟩; refine retb ?_; simp at *; try omega)
theorem Tryz.infoSym : (Tryz.prog.info? 163).map (fun i => (i.zero, i.size, i.bytes)) = some (some (.int .u8 0), 1, 1) := by kernel_rfl
def Stk (w : World) (st : List Nat) (A : Option Addr) (c : Nat) : Prop := w.ownsRow 8 163 1 (.slice A st.length c) st.length (st.reverse.map yv)
structure Mac (w : World) (g : Nat) (r : Option Nat) (src : ByteArray) (m : Mc) (A : Option Addr) (c : Nat) : Prop where
  low : 8 <= g
  blk : Blk w g 162 #[.string src, .int .i64 (m.at_ : Int), .slice A m.stack.length c, .int .u8 (m.fin : Int), .int .i64 (m.from_ : Int)]
  own : Stk w m.stack A c
  row : A.map (·.block) = r
  sym : ∀ n ∈ m.stack, n < 85
def MX (g : Nat) (r : Option Nat) : Nat -> Prop := fun k => k = g \/ some k = r
def MFr (w : World) (r r' : Option Nat) : Prop := r' = r \/ ∃ k, r' = some k /\ w.heap.size <= k
def MStep (w : World) (g : Nat) (r : Option Nat) (w' : World) (src : ByteArray) (m : Mc) : Prop := ∃ r' A c, Mac w' g r' src m A c /\ Kp (MX g r) w w' /\ MFr w r r'
theorem yv_inj {a b : Nat} (h : yv a = yv b) : a = b := by
  unfold yv at h
  injection h with _ h
  omega
theorem map_yv_inj : ∀ {a b : List Nat}, a.map yv = b.map yv -> a = b
  | [], [], _ => rfl
  | [], _ :: _, h => by cases h
  | _ :: _, [], h => by cases h
  | x :: a, y :: b, h => by
    rw [List.map_cons, List.map_cons] at h
    injection h with h1 h2
    rw [yv_inj h1, map_yv_inj h2]
theorem one_yv (l : List Nat) : ∀ u ∈ l.map yv, u.oneCell' = true := by
  intro u hu
  obtain ⟨b, _, rfl⟩ := List.mem_map.1 hu
  rfl
section
variable {w w1 w2 : World} {g : Nat} {r r1 : Option Nat} {src : ByteArray} {m m' : Mc} {st : List Nat} {A : Option Addr} {c n : Nat}
theorem Stk.pop (h : Stk w (n :: st) A c) : Stk w st A c := by
  obtain ⟨h1, h2⟩ := h
  refine ⟨by simp, ?_⟩
  rcases h2 with ⟨_, h0⟩ | ⟨g, cap, cur, hv, hb, hg, hn, hm, hs, htk⟩
  · simp at h0
  · injection hv with hA _ hc
    subst hA hc
    refine .inr ⟨g, c, cur, rfl, hb, hg, by simp at hn; omega, hm, hs, ?_⟩
    have e : cur.toList.take (st.length * 1) = (cur.toList.take ((n :: st).length * 1)).take (st.length * 1) := by
      rw [List.take_take, List.length_cons, Nat.min_eq_left (by omega)]
    rw [e, htk, List.reverse_cons, List.map_append]
    exact List.take_left' (by simp)
theorem Stk.cap (h : Stk w (n :: st) A c) : st.length <= c := by
  rcases h.2 with ⟨h1, h0⟩ | ⟨g', cap, cur, hv, _, _, h1, _⟩
  · cases h0
  · injection hv with _ _ hv
    subst hv
    simp only [List.length_cons] at h1
    omega
theorem Stk.rd (h : Stk w st A c) : Rd w 1 A st.length (st.reverse.map yv) := Rd.of_own h
theorem Stk.kp {X : Nat -> Prop} (h : Stk w st A c) (hk : Kp X w w1) (hx : ∀ k, A.map (·.block) = some k -> ¬ X k) : Stk w1 st A c :=
  jX h hk (fun k e => hx k (by rw [<- jC A st.length c]; exact e))
theorem Stk.at_ (h : Stk w st A c) (j : Nat) (hj : j < st.length) : ∃ b o, A = some ⟨b, o, none⟩ /\ w.cell? ⟨b, o + (st.length - 1 - j), none⟩ = some (yv (st.getD j 0)) := by
  obtain ⟨b, o, u, hA, hu, hc⟩ := h.rd.at_ (k := st.length - 1 - j) (by omega)
  refine ⟨b, o, hA, ?_⟩
  rw [List.getElem?_map, List.getElem?_reverse (by omega), show st.length - 1 - (st.length - 1 - j) = j by omega, List.getElem?_eq_getElem hj] at hu
  simp only [Option.map_some, Option.some.injEq] at hu
  rw [hc, <- hu]
  simp [List.getD, List.getElem?_eq_getElem hj]
theorem Mac.c0 (h : Mac w g r src m A c) : w.cell? ⟨g, 0, none⟩ = some (.string src) := h.blk.at_ 0 rfl
theorem Mac.c1 (h : Mac w g r src m A c) : w.cell? ⟨g, 1, none⟩ = some (.int .i64 (m.at_ : Int)) := h.blk.at_ 1 rfl
theorem Mac.c2 (h : Mac w g r src m A c) : w.cell? ⟨g, 2, none⟩ = some (.slice A m.stack.length c) := h.blk.at_ 2 rfl
theorem Mac.c3 (h : Mac w g r src m A c) : w.cell? ⟨g, 3, none⟩ = some (.int .u8 (m.fin : Int)) := h.blk.at_ 3 rfl
theorem Mac.c4 (h : Mac w g r src m A c) : w.cell? ⟨g, 4, none⟩ = some (.int .i64 (m.from_ : Int)) := h.blk.at_ 4 rfl
theorem Mac.z (h : Mac w g r src m A c) (i : Nat) : w.frozen? ⟨g, i, none⟩ = false := h.blk.frozen i
theorem Mac.ne (h : Mac w g r src m A c) : r ≠ some g := by
  have := jM h.own h.blk (by decide)
  rw [jC, h.row] at this
  exact this
theorem Mac.lt (h : Mac w g r src m A c) : ∀ k, r = some k -> 8 <= k /\ k < w.heap.size := fun k hk => h.own.lt k (by rw [jC, h.row]; exact hk)
theorem Mac.kp {X : Nat -> Prop} (h : Mac w g r src m A c) (hk : Kp X w w1) (hg : ¬ X g) (hr : ∀ k, r = some k -> ¬ X k) : Mac w1 g r src m A c :=
  ⟨h.low, h.blk.kp hk hg, h.own.kp hk (fun k e => hr k (by rw [<- h.row]; exact e)), h.row, h.sym⟩
theorem Mac.old (h : Mac w g r src m A c) (hk : Old w w1) : Mac w1 g r src m A c := h.kp hk (fun f => f) (fun _ _ f => f)
theorem Mac.step (h : Mac w g r src m A c) : MStep w g r w src m := ⟨r, A, c, h, Kp.refl _ _, .inl rfl⟩
theorem MX.trans (hf : MFr w r r1) : ∀ b, b < w.heap.size -> MX g r1 b -> MX g r b := by
  intro b hb hx
  rcases hx with rfl | hx
  · exact .inl rfl
  · rcases hf with rfl | ⟨k, rfl, hle⟩
    · exact .inr hx
    · injection hx with hx; omega
theorem MFr.trans {r2 : Option Nat} (hf : MFr w r r1) (hs : w.heap.size <= w1.heap.size) (hf2 : MFr w1 r1 r2) : MFr w r r2 := by
  rcases hf2 with rfl | ⟨k, rfl, hle⟩
  · exact hf
  · exact .inr ⟨k, rfl, Nat.le_trans hs hle⟩
theorem MStep.trans (hk : Kp (MX g r) w w1) (hf : MFr w r r1) (h : MStep w1 g r1 w2 src m) : MStep w g r w2 src m := by
  obtain ⟨r2, A, c, hw, hk2, hf2⟩ := h
  exact ⟨r2, A, c, hw, hk.trans hk2 (MX.trans hf), hf.trans hk.size hf2⟩
theorem Sg.mx (h : Sg w) (hM : Mac w g r src m A c) (hk : Kp (MX g r) w w1) : Sg w1 := by
  have := hM.low
  refine h.kp hk ?_ ?_
  · rintro (e | e)
    · omega
    · have := hM.lt 0 e.symm; omega
  · rintro (e | e)
    · omega
    · have := hM.lt 2 e.symm; omega
theorem Mac.setAt (h : Mac w g r src m A c) (k : Nat) : Mac (w.setCell ⟨g, 1, none⟩ (.int .i64 (k : Int))) g r src { m with at_ := k } A c /\ Kp (MX g r) w (w.setCell ⟨g, 1, none⟩ (.int .i64 (k : Int))) := by
  have hk := (Kp.refl (fun b => b = g) w).setCell (p := ⟨g, 1, none⟩) (fun _ => rfl) (.int .i64 (k : Int))
  exact ⟨⟨h.low, by simpa using h.blk.set_ 1 (.int .i64 (k : Int)), h.own.kp hk (fun b e e' => h.ne (by rw [<- h.row, e, e'])), h.row, h.sym⟩, hk.mono (fun _ _ e => .inl e)⟩
theorem Mac.setFin (h : Mac w g r src m A c) (k : Nat) : Mac (w.setCell ⟨g, 3, none⟩ (.int .u8 (k : Int))) g r src { m with fin := k } A c /\ Kp (MX g r) w (w.setCell ⟨g, 3, none⟩ (.int .u8 (k : Int))) := by
  have hk := (Kp.refl (fun b => b = g) w).setCell (p := ⟨g, 3, none⟩) (fun _ => rfl) (.int .u8 (k : Int))
  exact ⟨⟨h.low, by simpa using h.blk.set_ 3 (.int .u8 (k : Int)), h.own.kp hk (fun b e e' => h.ne (by rw [<- h.row, e, e'])), h.row, h.sym⟩, hk.mono (fun _ _ e => .inl e)⟩
theorem Mac.setFrom (h : Mac w g r src m A c) (k : Nat) : Mac (w.setCell ⟨g, 4, none⟩ (.int .i64 (k : Int))) g r src { m with from_ := k } A c /\ Kp (MX g r) w (w.setCell ⟨g, 4, none⟩ (.int .i64 (k : Int))) := by
  have hk := (Kp.refl (fun b => b = g) w).setCell (p := ⟨g, 4, none⟩) (fun _ => rfl) (.int .i64 (k : Int))
  exact ⟨⟨h.low, by simpa using h.blk.set_ 4 (.int .i64 (k : Int)), h.own.kp hk (fun b e e' => h.ne (by rw [<- h.row, e, e'])), h.row, h.sym⟩, hk.mono (fun _ _ e => .inl e)⟩
theorem Mac.setPop (h : Mac w g r src m A c) (hm : m.stack = n :: st) : Mac (w.setCell ⟨g, 2, none⟩ (.slice A st.length c)) g r src { m with stack := st } A c /\ Kp (MX g r) w (w.setCell ⟨g, 2, none⟩ (.slice A st.length c)) := by
  have hk := (Kp.refl (fun b => b = g) w).setCell (p := ⟨g, 2, none⟩) (fun _ => rfl) (.slice A st.length c)
  have ho : Stk w st A c := (hm ▸ h.own : Stk w (n :: st) A c).pop
  exact ⟨⟨h.low, by simpa using h.blk.set_ 2 (.slice A st.length c), ho.kp hk (fun b e e' => h.ne (by rw [<- h.row, e, e'])), h.row, fun x hx => h.sym x (by rw [hm]; exact List.mem_cons_of_mem _ hx)⟩, hk.mono (fun _ _ e => .inl e)⟩
theorem Mac.put {wr wx : World} {A' : Option Addr} {c' k x : Nat} (h : Mac wr g r src m A c) (hk : m.stack.length = k) (hx : Old wr wx) (hx5 : x < 85)
    (hown : w1.ownsRow 8 163 1 (.slice A' (k + 1) c') (k + 1) (m.stack.reverse.map yv ++ [yv x])) (hg : wx.grownBy w1 (Value.slice A k c).ownBlock)
    (hat : A'.map (·.block) = (Value.slice A k c).ownBlock \/ A'.map (·.block) = some wx.heap.size) :
    MStep wr g r (w1.setCell ⟨g, 2, none⟩ (.slice A' (k + 1) c')) src { m with stack := x :: m.stack } := by
  subst hk
  rw [jC] at hat hg
  have hne := h.ne
  rw [<- h.row] at hne
  have hb1 := (h.blk.old hx).grown hg (fun e => hne e.symm)
  have hb2 := hb1.set_ 2 (.slice A' (m.stack.length + 1) c')
  have hgl := h.blk.lt
  refine ⟨A'.map (·.block), A', c', ⟨h.low, by simpa using hb2, ?_, rfl, ?_⟩, ?_, ?_⟩
  · show World.ownsRow _ 8 _ 1 (.slice A' (m.stack.length + 1) c') (m.stack.length + 1) _
    rw [List.reverse_cons, List.map_append]
    refine jX hown ((Kp.refl (fun k => k = g) _).setCell (p := ⟨g, 2, none⟩) (fun _ => rfl) _) ?_
    rw [jC]
    rintro k e rfl
    rcases hat with h1 | h1
    · rw [h1] at e; exact hne e
    · rw [h1] at e; injection e with e; have := hx.size; omega
  · intro n hn
    rcases List.mem_cons.1 hn with rfl | hn
    · exact hx5
    · exact h.sym n hn
  · rw [<- h.row]
    exact Kp.setCell (Kp.grown (hx.mono (Y := MX g (A.map (·.block))) (fun _ _ f => f.elim)) hg (fun k e _ => .inr e.symm)) (p := ⟨g, 2, none⟩) (fun _ => .inl rfl) _
  · rcases hat with h1 | h1
    · exact .inl (by rw [h1, h.row])
    · exact .inr ⟨_, h1, hx.size⟩
theorem Stk.uniq {st' : List Nat} (h : Stk w st A c) (h' : Stk w st' A c) (hl : st.length = st'.length) : st = st' := by
  have e : st.reverse.map yv = st'.reverse.map yv := by
    apply List.ext_getElem?
    intro j
    by_cases hj : j < st.length
    · obtain ⟨b, o, u, hA, hu, hc⟩ := h.rd.at_ (k := j) hj
      obtain ⟨b', o', u', hA', hu', hc'⟩ := h'.rd.at_ (k := j) (by omega)
      rw [hA] at hA'
      injection hA' with hA'
      injection hA' with h1 h2
      subst h1 h2
      rw [hc] at hc'
      rw [hu, hu', hc']
    · rw [List.getElem?_eq_none (by simpa using hj), List.getElem?_eq_none (by simp; omega)]
  have := map_yv_inj e
  exact List.reverse_inj.1 this
theorem Mac.uniq {src' : ByteArray} {A' : Option Addr} {c' : Nat} (h : Mac w g r src m A c) (h' : Mac w g r1 src' m' A' c') : m.stack = m'.stack := by
  have hb := h.blk
  have hb' := h'.blk
  unfold Blk at hb hb'
  rw [hb] at hb'
  injection hb' with e
  injection e with e _ _
  have e2 : (#[Value.string src, .int .i64 (m.at_ : Int), .slice A m.stack.length c, .int .u8 (m.fin : Int), .int .i64 (m.from_ : Int)])[2]? = (#[Value.string src', .int .i64 (m'.at_ : Int), .slice A' m'.stack.length c', .int .u8 (m'.fin : Int), .int .i64 (m'.from_ : Int)])[2]? := by rw [e]
  simp only [List.getElem?_toArray, List.getElem?_cons_succ, List.getElem?_cons_zero, Option.some.injEq, Value.slice.injEq] at e2
  obtain ⟨rfl, hl, rfl⟩ := e2
  exact h.own.uniq h'.own hl
end
end Go.Proofs.YtmmjcbbogokmfaaGreatDoor
