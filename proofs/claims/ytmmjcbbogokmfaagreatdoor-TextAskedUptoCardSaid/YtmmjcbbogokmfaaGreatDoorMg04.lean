import Derived.Test.YtmmjcbbogokmfaaGreatDoorMg01
import Derived.Test.YtmmjcbbogokmfaaGreatDoorMg03
/- Contracts of the grammar's tests: worked, begins. -/
namespace Go.Proofs.YtmmjcbbogokmfaaGreatDoor
open Go.RowKit

theorem worked_no (n t : Nat) (h69 : n ≠ 69) (h70 : n ≠ 70) (h71 : n ≠ 71) (h72 : n ≠ 72) (h73 : n ≠ 73) (h74 : n ≠ 74) (h75 : n ≠ 75) (h76 : n ≠ 76) (h77 : n ≠ 77) (h78 : n ≠ 78) (h79 : n ≠ 79) (h80 : n ≠ 80) (h81 : n ≠ 81) (h82 : n ≠ 82) (h83 : n ≠ 83) : workedN n t = false := by
  unfold workedN
  rw [if_neg (by omega), if_neg (by omega), if_neg (by omega), if_neg (by omega), if_neg (by omega), if_neg (by omega), if_neg (by omega), if_neg (by omega), if_neg (by omega)]
set_option maxRecDepth 100000 in
theorem worked_any (w : World) (n t : Nat) : Calls Tryz.prog 229 #[yv n, yv t] w fun e w' => e = .returned (.bool (workedN n t)) ∧ w = w' := by
  by_cases h69 : n = 69
  · subst h69; exact worked69 w t
  by_cases h70 : n = 70
  · subst h70; exact worked70 w t
  by_cases h71 : n = 71
  · subst h71; exact worked71 w t
  by_cases h72 : n = 72
  · subst h72; exact worked72 w t
  by_cases h73 : n = 73
  · subst h73; exact worked73 w t
  by_cases h74 : n = 74
  · subst h74; exact worked74 w t
  by_cases h75 : n = 75
  · subst h75; exact worked75 w t
  by_cases h76 : n = 76
  · subst h76; exact worked76 w t
  by_cases h77 : n = 77
  · subst h77; exact worked77 w t
  by_cases h78 : n = 78
  · subst h78; exact worked78 w t
  by_cases h79 : n = 79
  · subst h79; exact worked79 w t
  by_cases h80 : n = 80
  · subst h80; exact worked80 w t
  by_cases h81 : n = 81
  · subst h81; exact worked81 w t
  by_cases h82 : n = 82
  · subst h82; exact worked82 w t
  by_cases h83 : n = 83
  · subst h83; exact worked83 w t
  have Hy := Lib.hid (worked_no n t h69 h70 h71 h72 h73 h74 h75 h76 h77 h78 h79 h80 h81 h82 h83)
  generalize workedN n t = R at *
  have b69 : ((n : Int) == 69) = false := beq_eq_false_iff_ne.2 (by omega)
  have b70 : ((n : Int) == 70) = false := beq_eq_false_iff_ne.2 (by omega)
  have b71 : ((n : Int) == 71) = false := beq_eq_false_iff_ne.2 (by omega)
  have b72 : ((n : Int) == 72) = false := beq_eq_false_iff_ne.2 (by omega)
  have b73 : ((n : Int) == 73) = false := beq_eq_false_iff_ne.2 (by omega)
  have b74 : ((n : Int) == 74) = false := beq_eq_false_iff_ne.2 (by omega)
  have b75 : ((n : Int) == 75) = false := beq_eq_false_iff_ne.2 (by omega)
  have b76 : ((n : Int) == 76) = false := beq_eq_false_iff_ne.2 (by omega)
  have b77 : ((n : Int) == 77) = false := beq_eq_false_iff_ne.2 (by omega)
  have b78 : ((n : Int) == 78) = false := beq_eq_false_iff_ne.2 (by omega)
  have b79 : ((n : Int) == 79) = false := beq_eq_false_iff_ne.2 (by omega)
  have b80 : ((n : Int) == 80) = false := beq_eq_false_iff_ne.2 (by omega)
  have b81 : ((n : Int) == 81) = false := beq_eq_false_iff_ne.2 (by omega)
  have b82 : ((n : Int) == 82) = false := beq_eq_false_iff_ne.2 (by omega)
  have b83 : ((n : Int) == 83) = false := beq_eq_false_iff_ne.2 (by omega)
  clear h69 h70 h71 h72 h73 h74 h75 h76 h77 h78 h79 h80 h81 h82 h83
  unfold yv
  go_enter Tryz.func229, Tryz.ntmps229
  go_wp2
  go_ret
  exact ⟨by rw [Hy.out]; rfl, rfl⟩
/-- the tests of a symbol, by its number -/
def bk58 (t : Nat) : Bool := decide (24 ≤ t ∧ t ≤ 27)
def bk59 (t : Nat) : Bool := decide (t = 39)
def bk60 (t : Nat) : Bool := decide (34 ≤ t ∧ t ≤ 38)
def bk61 (t : Nat) : Bool := decide (t = 12)
def bk62 (t : Nat) : Bool := decide (t = 32)
def bk63 (t : Nat) : Bool := decide (t = 28)
def bk64 (t : Nat) : Bool := decide (t = 29)
def bk65 (t : Nat) : Bool := decide (t = 30)
def bk66 (t : Nat) : Bool := decide (t = 1)
def bk67 (t : Nat) : Bool := decide (t = 8)
def bk68 (t : Nat) : Bool := decide (t = 1 ∨ t = 33)
def bk84 (t : Nat) : Bool := decide (t = 8)
set_option maxRecDepth 100000 in
theorem begins58 (w : World) (t : Nat) : Calls Tryz.prog 206 #[.int .u8 58, yv t] w fun e w' => e = .returned (.bool (beginsN 58 t)) ∧ w = w' := by
  have Hy := Lib.hid (show beginsN 58 t = bk58 t from rfl)
  generalize beginsN 58 t = R at *
  unfold yv at *
  go_enter Tryz.func206, Tryz.ntmps206
  go_wp2
  all_goals (go_ret; refine ⟨?_, rfl⟩; rw [Hy.out]; refine retb ?_; clear Hy; simp [bk58] at *; try omega)
set_option maxRecDepth 100000 in
theorem begins59 (w : World) (t : Nat) : Calls Tryz.prog 206 #[.int .u8 59, yv t] w fun e w' => e = .returned (.bool (beginsN 59 t)) ∧ w = w' := by
  have Hy := Lib.hid (show beginsN 59 t = bk59 t from rfl)
  generalize beginsN 59 t = R at *
  unfold yv at *
  go_enter Tryz.func206, Tryz.ntmps206
  go_wp2
  all_goals (go_ret; refine ⟨?_, rfl⟩; rw [Hy.out]; refine retb ?_; clear Hy; simp [bk59] at *; try omega)
set_option maxRecDepth 100000 in
theorem begins60 (w : World) (t : Nat) : Calls Tryz.prog 206 #[.int .u8 60, yv t] w fun e w' => e = .returned (.bool (beginsN 60 t)) ∧ w = w' := by
  have Hy := Lib.hid (show beginsN 60 t = bk60 t from rfl)
  generalize beginsN 60 t = R at *
  unfold yv at *
  go_enter Tryz.func206, Tryz.ntmps206
  go_wp2
  all_goals (go_ret; refine ⟨?_, rfl⟩; rw [Hy.out]; refine retb ?_; clear Hy; simp [bk60] at *; try omega)
set_option maxRecDepth 100000 in
theorem begins61 (w : World) (t : Nat) : Calls Tryz.prog 206 #[.int .u8 61, yv t] w fun e w' => e = .returned (.bool (beginsN 61 t)) ∧ w = w' := by
  have Hy := Lib.hid (show beginsN 61 t = bk61 t from rfl)
  generalize beginsN 61 t = R at *
  unfold yv at *
  go_enter Tryz.func206, Tryz.ntmps206
  go_wp2
  all_goals (go_ret; refine ⟨?_, rfl⟩; rw [Hy.out]; refine retb ?_; clear Hy; simp [bk61] at *; try omega)
set_option maxRecDepth 100000 in
theorem begins62 (w : World) (t : Nat) : Calls Tryz.prog 206 #[.int .u8 62, yv t] w fun e w' => e = .returned (.bool (beginsN 62 t)) ∧ w = w' := by
  have Hy := Lib.hid (show beginsN 62 t = bk62 t from rfl)
  generalize beginsN 62 t = R at *
  unfold yv at *
  go_enter Tryz.func206, Tryz.ntmps206
  go_wp2
  all_goals (go_ret; refine ⟨?_, rfl⟩; rw [Hy.out]; refine retb ?_; clear Hy; simp [bk62] at *; try omega)
set_option maxRecDepth 100000 in
theorem begins63 (w : World) (t : Nat) : Calls Tryz.prog 206 #[.int .u8 63, yv t] w fun e w' => e = .returned (.bool (beginsN 63 t)) ∧ w = w' := by
  have Hy := Lib.hid (show beginsN 63 t = bk63 t from rfl)
  generalize beginsN 63 t = R at *
  unfold yv at *
  go_enter Tryz.func206, Tryz.ntmps206
  go_wp2
  all_goals (go_ret; refine ⟨?_, rfl⟩; rw [Hy.out]; refine retb ?_; clear Hy; simp [bk63] at *; try omega)
set_option maxRecDepth 100000 in
theorem begins64 (w : World) (t : Nat) : Calls Tryz.prog 206 #[.int .u8 64, yv t] w fun e w' => e = .returned (.bool (beginsN 64 t)) ∧ w = w' := by
  have Hy := Lib.hid (show beginsN 64 t = bk64 t from rfl)
  generalize beginsN 64 t = R at *
  unfold yv at *
  go_enter Tryz.func206, Tryz.ntmps206
  go_wp2
  all_goals (go_ret; refine ⟨?_, rfl⟩; rw [Hy.out]; refine retb ?_; clear Hy; simp [bk64] at *; try omega)
set_option maxRecDepth 100000 in
theorem begins65 (w : World) (t : Nat) : Calls Tryz.prog 206 #[.int .u8 65, yv t] w fun e w' => e = .returned (.bool (beginsN 65 t)) ∧ w = w' := by
  have Hy := Lib.hid (show beginsN 65 t = bk65 t from rfl)
  generalize beginsN 65 t = R at *
  unfold yv at *
  go_enter Tryz.func206, Tryz.ntmps206
  go_wp2
  all_goals (go_ret; refine ⟨?_, rfl⟩; rw [Hy.out]; refine retb ?_; clear Hy; simp [bk65] at *; try omega)
set_option maxRecDepth 100000 in
theorem begins66 (w : World) (t : Nat) : Calls Tryz.prog 206 #[.int .u8 66, yv t] w fun e w' => e = .returned (.bool (beginsN 66 t)) ∧ w = w' := by
  have Hy := Lib.hid (show beginsN 66 t = bk66 t from rfl)
  generalize beginsN 66 t = R at *
  unfold yv at *
  go_enter Tryz.func206, Tryz.ntmps206
  go_wp2
  all_goals (go_ret; refine ⟨?_, rfl⟩; rw [Hy.out]; refine retb ?_; clear Hy; simp [bk66] at *; try omega)
set_option maxRecDepth 100000 in
theorem begins67 (w : World) (t : Nat) : Calls Tryz.prog 206 #[.int .u8 67, yv t] w fun e w' => e = .returned (.bool (beginsN 67 t)) ∧ w = w' := by
  have Hy := Lib.hid (show beginsN 67 t = bk67 t from rfl)
  generalize beginsN 67 t = R at *
  unfold yv at *
  go_enter Tryz.func206, Tryz.ntmps206
  go_wp2
  all_goals (go_ret; refine ⟨?_, rfl⟩; rw [Hy.out]; refine retb ?_; clear Hy; simp [bk67] at *; try omega)
set_option maxRecDepth 100000 in
theorem begins68 (w : World) (t : Nat) : Calls Tryz.prog 206 #[.int .u8 68, yv t] w fun e w' => e = .returned (.bool (beginsN 68 t)) ∧ w = w' := by
  have Hy := Lib.hid (show beginsN 68 t = bk68 t from rfl)
  generalize beginsN 68 t = R at *
  unfold yv at *
  go_enter Tryz.func206, Tryz.ntmps206
  go_wp2
  all_goals (go_ret; refine ⟨?_, rfl⟩; rw [Hy.out]; refine retb ?_; clear Hy; simp [bk68] at *; try omega)
set_option maxRecDepth 100000 in
theorem begins84 (w : World) (t : Nat) : Calls Tryz.prog 206 #[.int .u8 84, yv t] w fun e w' => e = .returned (.bool (beginsN 84 t)) ∧ w = w' := by
  have Hy := Lib.hid (show beginsN 84 t = bk84 t from rfl)
  generalize beginsN 84 t = R at *
  unfold yv at *
  go_enter Tryz.func206, Tryz.ntmps206
  go_wp2
  all_goals (go_ret; refine ⟨?_, rfl⟩; rw [Hy.out]; refine retb ?_; clear Hy; simp [bk84] at *; try omega)
theorem begins_no (n t : Nat) (h58 : n ≠ 58) (h59 : n ≠ 59) (h60 : n ≠ 60) (h61 : n ≠ 61) (h62 : n ≠ 62) (h63 : n ≠ 63) (h64 : n ≠ 64) (h65 : n ≠ 65) (h66 : n ≠ 66) (h67 : n ≠ 67) (h68 : n ≠ 68) (h84 : n ≠ 84) : beginsN n t = (decide (n = t) || (decide (69 ≤ n) && workedN n t)) := by
  unfold beginsN
  rw [if_neg (by omega), if_neg (by omega), if_neg (by omega), if_neg (by omega), if_neg (by omega), if_neg (by omega), if_neg (by omega), if_neg (by omega), if_neg (by omega), if_neg (by omega), if_neg (by omega)]
set_option maxRecDepth 100000 in
set_option maxHeartbeats 800000 in
theorem begins_any (w : World) (n t : Nat) : Calls Tryz.prog 206 #[yv n, yv t] w fun e w' => e = .returned (.bool (beginsN n t)) ∧ w = w' := by
  by_cases h58 : n = 58
  · subst h58; exact begins58 w t
  by_cases h59 : n = 59
  · subst h59; exact begins59 w t
  by_cases h60 : n = 60
  · subst h60; exact begins60 w t
  by_cases h61 : n = 61
  · subst h61; exact begins61 w t
  by_cases h62 : n = 62
  · subst h62; exact begins62 w t
  by_cases h63 : n = 63
  · subst h63; exact begins63 w t
  by_cases h64 : n = 64
  · subst h64; exact begins64 w t
  by_cases h65 : n = 65
  · subst h65; exact begins65 w t
  by_cases h66 : n = 66
  · subst h66; exact begins66 w t
  by_cases h67 : n = 67
  · subst h67; exact begins67 w t
  by_cases h68 : n = 68
  · subst h68; exact begins68 w t
  by_cases h84 : n = 84
  · subst h84; exact begins84 w t
  have Hy := Lib.hid (begins_no n t h58 h59 h60 h61 h62 h63 h64 h65 h66 h67 h68 h84)
  have H := Lib.hid (worked_any w n t)
  generalize beginsN n t = R at *
  generalize workedN n t = a at *
  have b58 : ((n : Int) == 58) = false := beq_eq_false_iff_ne.2 (by omega)
  have b59 : ((n : Int) == 59) = false := beq_eq_false_iff_ne.2 (by omega)
  have b60 : ((n : Int) == 60) = false := beq_eq_false_iff_ne.2 (by omega)
  have b61 : ((n : Int) == 61) = false := beq_eq_false_iff_ne.2 (by omega)
  have b62 : ((n : Int) == 62) = false := beq_eq_false_iff_ne.2 (by omega)
  have b63 : ((n : Int) == 63) = false := beq_eq_false_iff_ne.2 (by omega)
  have b64 : ((n : Int) == 64) = false := beq_eq_false_iff_ne.2 (by omega)
  have b65 : ((n : Int) == 65) = false := beq_eq_false_iff_ne.2 (by omega)
  have b66 : ((n : Int) == 66) = false := beq_eq_false_iff_ne.2 (by omega)
  have b67 : ((n : Int) == 67) = false := beq_eq_false_iff_ne.2 (by omega)
  have b68 : ((n : Int) == 68) = false := beq_eq_false_iff_ne.2 (by omega)
  have b84 : ((n : Int) == 84) = false := beq_eq_false_iff_ne.2 (by omega)
  clear h58 h59 h60 h61 h62 h63 h64 h65 h66 h67 h68 h84
  unfold yv at *
  by_cases e : n = t
  · have b1 : ((n : Int) == (t : Int)) = true := by rw [e]; simp
    have Hr := Lib.hid (show R = true by rw [Hy.out, decide_eq_true e]; rfl)
    clear Hy e
    go_enter Tryz.func206, Tryz.ntmps206
    go_wp2
    go_ret
    exact ⟨by rw [Hr.out]; rfl, rfl⟩
  · have b1 : ((n : Int) == (t : Int)) = false := beq_eq_false_iff_ne.2 (by omega)
    by_cases e9 : 69 ≤ n
    · have b2 : ¬ (n : Int) < 69 := by omega
      have Hr := Lib.hid (show R = a by rw [Hy.out, decide_eq_false e, decide_eq_true e9]; simp)
      clear Hy e e9
      go_enter Tryz.func206, Tryz.ntmps206
      go_wp2_with (go_at_call 229; refine H.out.mono ?_; rintro e w1 ⟨rfl, rfl⟩)
      go_ret
      exact ⟨by rw [Hr.out]; rfl, rfl⟩
    · have b2 : (n : Int) < 69 := by omega
      have Hr := Lib.hid (show R = false by rw [Hy.out, decide_eq_false e, decide_eq_false e9]; rfl)
      clear Hy e e9
      go_enter Tryz.func206, Tryz.ntmps206
      go_wp2
      go_ret
      exact ⟨by rw [Hr.out]; rfl, rfl⟩
set_option maxRecDepth 100000 in
theorem worded_any (w : World) (n : Nat) : Calls Tryz.prog 205 #[yv n] w fun e w' => e = .returned (.bool (decide (n ≤ 2 ∨ 23 ≤ n))) ∧ w = w' := by
  unfold yv
  go_enter Tryz.func205, Tryz.ntmps205
  go_wp2
  all_goals (go_ret; refine ⟨?_, rfl⟩; refine retb ?_; simp at *; try omega)
end Go.Proofs.YtmmjcbbogokmfaaGreatDoor

/- The grammar's words, plain: a terminal that may come next is taken. No program in sight. -/
namespace Go.Proofs.YtmmjcbbogokmfaaGreatDoor

theorem takeN_more (t : Nat) : ∀ (f : Nat) (l k m : List Nat), takeN t f l = some k → takeN t f (l ++ m) = some (k ++ m)
  | 0, l, k, m, h => by cases h
  | f + 1, [], k, m, h => by cases h
  | f + 1, n :: l, k, m, h => by
    rw [List.cons_append]
    rw [takeN] at h ⊢
    split at h
    · rename_i hn
      rw [if_pos hn]
      obtain rfl := Option.some.inj h
      rfl
    · rename_i hn
      rw [if_neg hn, ← List.append_assoc]
      exact takeN_more t f _ k m h
theorem takeN_fuel (t : Nat) : ∀ (f g : Nat) (l k : List Nat), f ≤ g → takeN t f l = some k → takeN t g l = some k
  | 0, g, l, k, hg, h => by cases h
  | f + 1, 0, l, k, hg, h => by omega
  | f + 1, g + 1, [], k, hg, h => by cases h
  | f + 1, g + 1, n :: l, k, hg, h => by
    rw [takeN] at h ⊢
    split at h
    · rename_i hn
      rw [if_pos hn]
      exact h
    · rename_i hn
      rw [if_neg hn]
      exact takeN_fuel t f g _ k (by omega) h
def grows (n t : Nat) : Bool := !beginsN n t || (takeN t 30 [n]).isSome
theorem grows_all : ∀ n : Fin 85, ∀ t : Fin 58, grows n.val t.val = true := by decide +kernel
theorem grows_eq (n t : Nat) (ht : t < 58) (h : beginsN n t = true) : ∃ k, takeN t 30 [n] = some k := by
  by_cases hn : n < 85
  · have h1 := grows_all ⟨n, hn⟩ ⟨t, ht⟩
    simp only [grows, h, Bool.not_true, Bool.false_or] at h1
    exact Option.isSome_iff_exists.1 h1
  · exfalso
    unfold beginsN workedN at h
    simp only [show ¬ n = 58 by omega, show ¬ n = 59 by omega, show ¬ n = 60 by omega, show ¬ n = 61 by omega, show ¬ n = 62 by omega, show ¬ n = 63 by omega, show ¬ n = 64 by omega, show ¬ n = 65 by omega, show ¬ n = 66 by omega, show ¬ (n = 67 ∨ n = 84) by omega, show ¬ n = 68 by omega,
      show ¬ (n = 83 ∨ n = 69) by omega, show ¬ (n = 70 ∨ n = 72 ∨ n = 74) by omega, show ¬ (n = 75 ∨ n = 77 ∨ n = 79 ∨ n = 81) by omega, show ¬ n = 82 by omega, show ¬ n = 71 by omega, show ¬ n = 73 by omega, show ¬ n = 76 by omega, show ¬ n = 78 by omega, show ¬ n = 80 by omega, show ¬ n = t by omega,
      if_false, decide_false, Bool.false_or, Bool.and_false] at h
    cases h
theorem skip_rule (n t : Nat) (h : beginsN n t = false) : ruleN n t = [] := by
  rw [ruleN, if_pos h]
theorem empty_ge (n : Nat) (h : emptyN n = true) : 58 ≤ n := by
  have := of_decide_eq_true h
  omega
/-- a terminal that may come next is taken -/
theorem takeN_may (t : Nat) (ht : t < 58) : ∀ (st : List Nat), mayN t st = true → ∃ k, takeN t (st.length + 30) st = some k
  | [], h => by cases h
  | n :: l, h => by
    rw [mayN] at h
    split at h
    · rename_i hb
      obtain ⟨k, hk⟩ := grows_eq n t ht hb
      have h1 := takeN_more t 30 [n] k l hk
      exact ⟨k ++ l, takeN_fuel t 30 _ _ _ (by simp) h1⟩
    · rename_i hb
      split at h
      · rename_i he
        obtain ⟨k, hk⟩ := takeN_may t ht l h
        refine ⟨k, ?_⟩
        rw [List.length_cons, show l.length + 1 + 30 = (l.length + 30) + 1 by omega, takeN]
        have hge := empty_ge n he
        rw [if_neg (by omega), skip_rule n t (by simpa using hb), List.nil_append]
        exact hk
      · cases h
theorem taken_may (t : Nat) (ht : t < 58) (m : Mc) (k : Nat) (h : mayN t m.stack = true) : ∃ s, takeN t (m.stack.length + 100) m.stack = some s ∧ taken t m k = .ok { m with at_ := k, stack := s } := by
  obtain ⟨s, hs⟩ := takeN_may t ht m.stack h
  have h1 := takeN_fuel t _ (m.stack.length + 100) _ _ (by omega) hs
  refine ⟨s, h1, ?_⟩
  unfold taken
  rw [h1]
end Go.Proofs.YtmmjcbbogokmfaaGreatDoor

/- The machine goes on at each step, plain. -/
namespace Go.Proofs.YtmmjcbbogokmfaaGreatDoor

theorem textGo_shut : ∀ (l : List UInt8) (k e j : Nat), textGo l k e = .shut j → k < j ∧ j ≤ k + l.length
  | [], k, e, j, h => by rw [textGo] at h; cases h
  | c :: l, k, e, j, h => by
    rw [textGo] at h
    rw [List.length_cons]
    have ih := fun e' => textGo_shut l (k + 1) e' j
    split at h
    · split at h
      · injection h with h
        omega
      · split at h
        · have := ih _ h; omega
        · split at h
          · cases h
          · have := ih _ h; omega
    · split at h
      · split at h
        · have := ih _ h; omega
        · split at h
          · have := ih _ h; omega
          · cases h
      · split at h
        · cases h
        · have := ih _ h; omega
theorem taken_at {t : Nat} {m m' : Mc} {k : Nat} (h : taken t m k = .ok m') : m'.at_ = k := by
  unfold taken at h
  split at h
  · injection h with h
    rw [← h]
  · cases h
theorem takeWhile_le (p : UInt8 → Bool) (l : List UInt8) : (l.takeWhile p).length ≤ l.length := (List.takeWhile_sublist p).length_le
theorem takeWhile_pos (p : UInt8 → Bool) (c : UInt8) (l : List UInt8) (h : p c = true) : 0 < ((c :: l).takeWhile p).length := by
  rw [List.takeWhile_cons, if_pos h]
  simp
/-- each step goes on, and not beyond the end -/
theorem stepN_on {m m' : Mc} {c : UInt8} {l : List UInt8} (h : stepN m (c :: l) = .ok m') : m.at_ < m'.at_ ∧ m'.at_ ≤ m.at_ + (c :: l).length := by
  have hl : (c :: l).length = l.length + 1 := List.length_cons
  rw [stepN] at h
  split at h
  · injection h with h
    rw [← h]
    simp only
    omega
  · split at h
    · rename_i hc
      unfold commentN at h
      simp only at h
      injection h with h
      have h1 := takeWhile_le (fun c => !lfC c) (c :: l)
      have h2 := takeWhile_pos (fun c => !lfC c) c l (by simp only [lfC]; rw [decide_eq_false (by omega)]; rfl)
      split at h
      · rw [← h]; simp only; omega
      · rw [← h]; simp only; omega
    · split at h
      · unfold textStep at h
        split at h
        · cases h
        · split at h
          · cases h
          · rename_i j hj
            have h1 := taken_at h
            have h2 := textGo_shut _ _ _ _ hj
            rw [List.drop_one, List.tail_cons] at h2
            omega
          · injection h with h
            rw [← h]
            simp only
            omega
      · split at h
        · rename_i hw
          have h1 := takeWhile_le wordC (c :: l)
          have h2 := takeWhile_pos wordC c l hw
          unfold wordStep at h
          simp only at h
          split at h
          · have h3 := taken_at h
            omega
          · unfold spellN at h
            split at h
            · cases h
            · injection h with h
              rw [← h]
              simp only
              omega
        · unfold signStep at h
          simp only at h
          split at h
          · split at h
            · rename_i hh
              have h3 := taken_at h
              have : l ≠ [] := fun e => by rw [e] at hh; exact absurd hh.2.2 (by decide)
              have := List.length_pos_iff.2 this
              omega
            · have h3 := taken_at h
              omega
          · split at h
            · cases h
            · split at h
              · injection h with h
                rw [← h]
                simp only
                omega
              · rename_i hne
                have := List.length_pos_iff.2 hne
                split at h
                · cases h
                · have h3 := taken_at h
                  omega
end Go.Proofs.YtmmjcbbogokmfaaGreatDoor
