import Derived.Test.YtmmjcbbogokmfaaGreatDoorMn01
import Derived.Test.YtmmjcbbogokmfaaGreatDoorMn03
/- Contracts of the grammar's tests: worked, begins. -/
namespace Go.Proofs.YtmmjcbbogokmfaaGreatDoor
open Go.RowKit

theorem worked_no (n t : Nat) (h69 : n ≠ 69) (h70 : n ≠ 70) (h71 : n ≠ 71) (h72 : n ≠ 72) (h73 : n ≠ 73) (h74 : n ≠ 74) (h75 : n ≠ 75) (h76 : n ≠ 76) (h77 : n ≠ 77) (h78 : n ≠ 78) (h79 : n ≠ 79) (h80 : n ≠ 80) (h81 : n ≠ 81) (h82 : n ≠ 82) (h83 : n ≠ 83) : workedN n t = false := by
  unfold workedN
  rw [if_neg (by omega), if_neg (by omega), if_neg (by omega), if_neg (by omega), if_neg (by omega), if_neg (by omega), if_neg (by omega), if_neg (by omega), if_neg (by omega)]
set_option maxRecDepth 100000 in
theorem worked_any (w : World) (n t : Nat) : Calls Tryz.prog 229 #[yv n, yv t] w fun e w' => e = .returned (.bool (workedN n t)) ∧ w = w' := by
  by_cases h69 : n = 69
  · subst h69; exact worked69 w t
  by_cases h70 : n = 70
  · subst h70; exact worked70 w t
  by_cases h71 : n = 71
  · subst h71; exact worked71 w t
  by_cases h72 : n = 72
  · subst h72; exact worked72 w t
  by_cases h73 : n = 73
  · subst h73; exact worked73 w t
  by_cases h74 : n = 74
  · subst h74; exact worked74 w t
  by_cases h75 : n = 75
  · subst h75; exact worked75 w t
  by_cases h76 : n = 76
  · subst h76; exact worked76 w t
  by_cases h77 : n = 77
  · subst h77; exact worked77 w t
  by_cases h78 : n = 78
  · subst h78; exact worked78 w t
  by_cases h79 : n = 79
  · subst h79; exact worked79 w t
  by_cases h80 : n = 80
  · subst h80; exact worked80 w t
  by_cases h81 : n = 81
  · subst h81; exact worked81 w t
  by_cases h82 : n = 82
  · subst h82; exact worked82 w t
  by_cases h83 : n = 83
  · subst h83; exact worked83 w t
  have Hy := Lib.hid (worked_no n t h69 h70 h71 h72 h73 h74 h75 h76 h77 h78 h79 h80 h81 h82 h83)
  generalize workedN n t = R at *
  have b69 : ((n : Int) == 69) = false := beq_eq_false_iff_ne.2 (by omega)
  have b70 : ((n : Int) == 70) = false := beq_eq_false_iff_ne.2 (by omega)
  have b71 : ((n : Int) == 71) = false := beq_eq_false_iff_ne.2 (by omega)
  have b72 : ((n : Int) == 72) = false := beq_eq_false_iff_ne.2 (by omega)
  have b73 : ((n : Int) == 73) = false := beq_eq_false_iff_ne.2 (by omega)
  have b74 : ((n : Int) == 74) = false := beq_eq_false_iff_ne.2 (by omega)
  have b75 : ((n : Int) == 75) = false := beq_eq_false_iff_ne.2 (by omega)
  have b76 : ((n : Int) == 76) = false := beq_eq_false_iff_ne.2 (by omega)
  have b77 : ((n : Int) == 77) = false := beq_eq_false_iff_ne.2 (by omega)
  have b78 : ((n : Int) == 78) = false := beq_eq_false_iff_ne.2 (by omega)
  have b79 : ((n : Int) == 79) = false := beq_eq_false_iff_ne.2 (by omega)
  have b80 : ((n : Int) == 80) = false := beq_eq_false_iff_ne.2 (by omega)
  have b81 : ((n : Int) == 81) = false := beq_eq_false_iff_ne.2 (by omega)
  have b82 : ((n : Int) == 82) = false := beq_eq_false_iff_ne.2 (by omega)
  have b83 : ((n : Int) == 83) = false := beq_eq_false_iff_ne.2 (by omega)
  clear h69 h70 h71 h72 h73 h74 h75 h76 h77 h78 h79 h80 h81 h82 h83
  unfold yv
  go_enter Tryz.func229, Tryz.ntmps229
  go_wp2
  go_ret
  exact ⟨by rw [Hy.out]; rfl, rfl⟩
/-- the tests of a symbol, by its number -/
def bk58 (t : Nat) : Bool := decide (24 ≤ t ∧ t ≤ 27)
def bk59 (t : Nat) : Bool := decide (t = 39)
def bk60 (t : Nat) : Bool := decide (34 ≤ t ∧ t ≤ 38)
def bk61 (t : Nat) : Bool := decide (t = 12)
def bk62 (t : Nat) : Bool := decide (t = 32)
def bk63 (t : Nat) : Bool := decide (t = 28)
def bk64 (t : Nat) : Bool := decide (t = 29)
def bk65 (t : Nat) : Bool := decide (t = 30)
def bk66 (t : Nat) : Bool := decide (t = 1)
def bk67 (t : Nat) : Bool := decide (t = 8)
def bk68 (t : Nat) : Bool := decide (t = 1 ∨ t = 33)
def bk84 (t : Nat) : Bool := decide (t = 8)
set_option maxRecDepth 100000 in
theorem begins58 (w : World) (t : Nat) : Calls Tryz.prog 206 #[.int .u8 58, yv t] w fun e w' => e = .returned (.bool (beginsN 58 t)) ∧ w = w' := by
  have Hy := Lib.hid (show beginsN 58 t = bk58 t from rfl)
  generalize beginsN 58 t = R at *
  unfold yv at *
  go_enter Tryz.func206, Tryz.ntmps206
  go_wp2
  all_goals (go_ret; refine ⟨?_, rfl⟩; rw [Hy.out]; refine retb ?_; clear Hy; simp [bk58] at *; try omega)
set_option maxRecDepth 100000 in
theorem begins59 (w : World) (t : Nat) : Calls Tryz.prog 206 #[.int .u8 59, yv t] w fun e w' => e = .returned (.bool (beginsN 59 t)) ∧ w = w' := by
  have Hy := Lib.hid (show beginsN 59 t = bk59 t from rfl)
  generalize beginsN 59 t = R at *
  unfold yv at *
  go_enter Tryz.func206, Tryz.ntmps206
  go_wp2
  all_goals (go_ret; refine ⟨?_, rfl⟩; rw [Hy.out]; refine retb ?_; clear Hy; simp [bk59] at *; try omega)
set_option maxRecDepth 100000 in
theorem begins60 (w : World) (t : Nat) : Calls Tryz.prog 206 #[.int .u8 60, yv t] w fun e w' => e = .returned (.bool (beginsN 60 t)) ∧ w = w' := by
  have Hy := Lib.hid (show beginsN 60 t = bk60 t from rfl)
  generalize beginsN 60 t = R at *
  unfold yv at *
  go_enter Tryz.func206, Tryz.ntmps206
  go_wp2
  all_goals (go_ret; refine ⟨?_, rfl⟩; rw [Hy.out]; refine retb ?_; clear Hy; simp [bk60] at *; try omega)
set_option maxRecDepth 100000 in
theorem begins61 (w : World) (t : Nat) : Calls Tryz.prog 206 #[.int .u8 61, yv t] w fun e w' => e = .returned (.bool (beginsN 61 t)) ∧ w = w' := by
  have Hy := Lib.hid (show beginsN 61 t = bk61 t from rfl)
  generalize beginsN 61 t = R at *
  unfold yv at *
  go_enter Tryz.func206, Tryz.ntmps206
  go_wp2
  all_goals (go_ret; refine ⟨?_, rfl⟩; rw [Hy.out]; refine retb ?_; clear Hy; simp [bk61] at *; try omega)
set_option maxRecDepth 100000 in
theorem begins62 (w : World) (t : Nat) : Calls Tryz.prog 206 #[.int .u8 62, yv t] w fun e w' => e = .returned (.bool (beginsN 62 t)) ∧ w = w' := by
  have Hy := Lib.hid (show beginsN 62 t = bk62 t from rfl)
  generalize beginsN 62 t = R at *
  unfold yv at *
  go_enter Tryz.func206, Tryz.ntmps206
  go_wp2
  all_goals (go_ret; refine ⟨?_, rfl⟩; rw [Hy.out]; refine retb ?_; clear Hy; simp [bk62] at *; try omega)
set_option maxRecDepth 100000 in
theorem begins63 (w : World) (t : Nat) : Calls Tryz.prog 206 #[.int .u8 63, yv t] w fun e w' => e = .returned (.bool (beginsN 63 t)) ∧ w = w' := by
  have Hy := Lib.hid (show beginsN 63 t = bk63 t from rfl)
  generalize beginsN 63 t = R at *
  unfold yv at *
  go_enter Tryz.func206, Tryz.ntmps206
  go_wp2
  all_goals (go_ret; refine ⟨?_, rfl⟩; rw [Hy.out]; refine retb ?_; clear Hy; simp [bk63] at *; try omega)
set_option maxRecDepth 100000 in
theorem begins64 (w : World) (t : Nat) : Calls Tryz.prog 206 #[.int .u8 64, yv t] w fun e w' => e = .returned (.bool (beginsN 64 t)) ∧ w = w' := by
  have Hy := Lib.hid (show beginsN 64 t = bk64 t from rfl)
  generalize beginsN 64 t = R at *
  unfold yv at *
  go_enter Tryz.func206, Tryz.ntmps206
  go_wp2
  all_goals (go_ret; refine ⟨?_, rfl⟩; rw [Hy.out]; refine retb ?_; clear Hy; simp [bk64] at *; try omega)
set_option maxRecDepth 100000 in
theorem begins65 (w : World) (t : Nat) : Calls Tryz.prog 206 #[.int .u8 65, yv t] w fun e w' => e = .returned (.bool (beginsN 65 t)) ∧ w = w' := by
  have Hy := Lib.hid (show beginsN 65 t = bk65 t from rfl)
  generalize beginsN 65 t = R at *
  unfold yv at *
  go_enter Tryz.func206, Tryz.ntmps206
  go_wp2
  all_goals (go_ret; refine ⟨?_, rfl⟩; rw [Hy.out]; refine retb ?_; clear Hy; simp [bk65] at *; try omega)
set_option maxRecDepth 100000 in
theorem begins66 (w : World) (t : Nat) : Calls Tryz.prog 206 #[.int .u8 66, yv t] w fun e w' => e = .returned (.bool (beginsN 66 t)) ∧ w = w' := by
  have Hy := Lib.hid (show beginsN 66 t = bk66 t from rfl)
  generalize beginsN 66 t = R at *
  unfold yv at *
  go_enter Tryz.func206, Tryz.ntmps206
  go_wp2
  all_goals (go_ret; refine ⟨?_, rfl⟩; rw [Hy.out]; refine retb ?_; clear Hy; simp [bk66] at *; try omega)
set_option maxRecDepth 100000 in
theorem begins67 (w : World) (t : Nat) : Calls Tryz.prog 206 #[.int .u8 67, yv t] w fun e w' => e = .returned (.bool (beginsN 67 t)) ∧ w = w' := by
  have Hy := Lib.hid (show beginsN 67 t = bk67 t from rfl)
  generalize beginsN 67 t = R at *
  unfold yv at *
  go_enter Tryz.func206, Tryz.ntmps206
  go_wp2
  all_goals (go_ret; refine ⟨?_, rfl⟩; rw [Hy.out]; refine retb ?_; clear Hy; simp [bk67] at *; try omega)
set_option maxRecDepth 100000 in
theorem begins68 (w : World) (t : Nat) : Calls Tryz.prog 206 #[.int .u8 68, yv t] w fun e w' => e = .returned (.bool (beginsN 68 t)) ∧ w = w' := by
  have Hy := Lib.hid (show beginsN 68 t = bk68 t from rfl)
  generalize beginsN 68 t = R at *
  unfold yv at *
  go_enter Tryz.func206, Tryz.ntmps206
  go_wp2
  all_goals (go_ret; refine ⟨?_, rfl⟩; rw [Hy.out]; refine retb ?_; clear Hy; simp [bk68] at *; try omega)
set_option maxRecDepth 100000 in
theorem begins84 (w : World) (t : Nat) : Calls Tryz.prog 206 #[.int .u8 84, yv t] w fun e w' => e = .returned (.bool (beginsN 84 t)) ∧ w = w' := by
  have Hy := Lib.hid (show beginsN 84 t = bk84 t from rfl)
  generalize beginsN 84 t = R at *
  unfold yv at *
  go_enter Tryz.func206, Tryz.ntmps206
  go_wp2
  all_goals (go_ret; refine ⟨?_, rfl⟩; rw [Hy.out]; refine retb ?_; clear Hy; simp [bk84] at *; try omega)
theorem begins_no (n t : Nat) (h58 : n ≠ 58) (h59 : n ≠ 59) (h60 : n ≠ 60) (h61 : n ≠ 61) (h62 : n ≠ 62) (h63 : n ≠ 63) (h64 : n ≠ 64) (h65 : n ≠ 65) (h66 : n ≠ 66) (h67 : n ≠ 67) (h68 : n ≠ 68) (h84 : n ≠ 84) : beginsN n t = (decide (n = t) || (decide (69 ≤ n) && workedN n t)) := by
  unfold beginsN
  rw [if_neg (by omega), if_neg (by omega), if_neg (by omega), if_neg (by omega), if_neg (by omega), if_neg (by omega), if_neg (by omega), if_neg (by omega), if_neg (by omega), if_neg (by omega), if_neg (by omega)]
set_option maxRecDepth 100000 in
set_option maxHeartbeats 800000 in
theorem begins_any (w : World) (n t : Nat) : Calls Tryz.prog 206 #[yv n, yv t] w fun e w' => e = .returned (.bool (beginsN n t)) ∧ w = w' := by
  by_cases h58 : n = 58
  · subst h58; exact begins58 w t
  by_cases h59 : n = 59
  · subst h59; exact begins59 w t
  by_cases h60 : n = 60
  · subst h60; exact begins60 w t
  by_cases h61 : n = 61
  · subst h61; exact begins61 w t
  by_cases h62 : n = 62
  · subst h62; exact begins62 w t
  by_cases h63 : n = 63
  · subst h63; exact begins63 w t
  by_cases h64 : n = 64
  · subst h64; exact begins64 w t
  by_cases h65 : n = 65
  · subst h65; exact begins65 w t
  by_cases h66 : n = 66
  · subst h66; exact begins66 w t
  by_cases h67 : n = 67
  · subst h67; exact begins67 w t
  by_cases h68 : n = 68
  · subst h68; exact begins68 w t
  by_cases h84 : n = 84
  · subst h84; exact begins84 w t
  have Hy := Lib.hid (begins_no n t h58 h59 h60 h61 h62 h63 h64 h65 h66 h67 h68 h84)
  have H := Lib.hid (worked_any w n t)
  generalize beginsN n t = R at *
  generalize workedN n t = a at *
  have b58 : ((n : Int) == 58) = false := beq_eq_false_iff_ne.2 (by omega)
  have b59 : ((n : Int) == 59) = false := beq_eq_false_iff_ne.2 (by omega)
  have b60 : ((n : Int) == 60) = false := beq_eq_false_iff_ne.2 (by omega)
  have b61 : ((n : Int) == 61) = false := beq_eq_false_iff_ne.2 (by omega)
  have b62 : ((n : Int) == 62) = false := beq_eq_false_iff_ne.2 (by omega)
  have b63 : ((n : Int) == 63) = false := beq_eq_false_iff_ne.2 (by omega)
  have b64 : ((n : Int) == 64) = false := beq_eq_false_iff_ne.2 (by omega)
  have b65 : ((n : Int) == 65) = false := beq_eq_false_iff_ne.2 (by omega)
  have b66 : ((n : Int) == 66) = false := beq_eq_false_iff_ne.2 (by omega)
  have b67 : ((n : Int) == 67) = false := beq_eq_false_iff_ne.2 (by omega)
  have b68 : ((n : Int) == 68) = false := beq_eq_false_iff_ne.2 (by omega)
  have b84 : ((n : Int) == 84) = false := beq_eq_false_iff_ne.2 (by omega)
  clear h58 h59 h60 h61 h62 h63 h64 h65 h66 h67 h68 h84
  unfold yv at *
  by_cases e : n = t
  · have b1 : ((n : Int) == (t : Int)) = true := by rw [e]; simp
    have Hr := Lib.hid (show R = true by rw [Hy.out, decide_eq_true e]; rfl)
    clear Hy e
    go_enter Tryz.func206, Tryz.ntmps206
    go_wp2
    go_ret
    exact ⟨by rw [Hr.out]; rfl, rfl⟩
  · have b1 : ((n : Int) == (t : Int)) = false := beq_eq_false_iff_ne.2 (by omega)
    by_cases e9 : 69 ≤ n
    · have b2 : ¬ (n : Int) < 69 := by omega
      have Hr := Lib.hid (show R = a by rw [Hy.out, decide_eq_false e, decide_eq_true e9]; simp)
      clear Hy e e9
      go_enter Tryz.func206, Tryz.ntmps206
      go_wp2_with (go_at_call 229; refine H.out.mono ?_; rintro e w1 ⟨rfl, rfl⟩)
      go_ret
      exact ⟨by rw [Hr.out]; rfl, rfl⟩
    · have b2 : (n : Int) < 69 := by omega
      have Hr := Lib.hid (show R = false by rw [Hy.out, decide_eq_false e, decide_eq_false e9]; rfl)
      clear Hy e e9
      go_enter Tryz.func206, Tryz.ntmps206
      go_wp2
      go_ret
      exact ⟨by rw [Hr.out]; rfl, rfl⟩
set_option maxRecDepth 100000 in
theorem worded_any (w : World) (n : Nat) : Calls Tryz.prog 205 #[yv n] w fun e w' => e = .returned (.bool (decide (n ≤ 2 ∨ 23 ≤ n))) ∧ w = w' := by
  unfold yv
  go_enter Tryz.func205, Tryz.ntmps205
  go_wp2
  all_goals (go_ret; refine ⟨?_, rfl⟩; refine retb ?_; simp at *; try omega)
end Go.Proofs.YtmmjcbbogokmfaaGreatDoor

/- The grammar's words, plain: a terminal that may come next is taken. No program in sight. -/
namespace Go.Proofs.YtmmjcbbogokmfaaGreatDoor

theorem takeN_more (t : Nat) : ∀ (f : Nat) (l k m : List Nat), takeN t f l = some k → takeN t f (l ++ m) = some (k ++ m)
  | 0, l, k, m, h => by cases h
  | f + 1, [], k, m, h => by cases h
  | f + 1, n :: l, k, m, h => by
    rw [List.cons_append]
    rw [takeN] at h ⊢
    split at h
    · rename_i hn
      rw [if_pos hn]
      obtain rfl := Option.some.inj h
      rfl
    · rename_i hn
      rw [if_neg hn, ← List.append_assoc]
      exact takeN_more t f _ k m h
theorem takeN_fuel (t : Nat) : ∀ (f g : Nat) (l k : List Nat), f ≤ g → takeN t f l = some k → takeN t g l = some k
  | 0, g, l, k, hg, h => by cases h
  | f + 1, 0, l, k, hg, h => by omega
  | f + 1, g + 1, [], k, hg, h => by cases h
  | f + 1, g + 1, n :: l, k, hg, h => by
    rw [takeN] at h ⊢
    split at h
    · rename_i hn
      rw [if_pos hn]
      exact h
    · rename_i hn
      rw [if_neg hn]
      exact takeN_fuel t f g _ k (by omega) h
def grows (n t : Nat) : Bool := !beginsN n t || (takeN t 30 [n]).isSome
theorem grows_all : ∀ n : Fin 85, ∀ t : Fin 58, grows n.val t.val = true := by decide +kernel
theorem grows_eq (n t : Nat) (ht : t < 58) (h : beginsN n t = true) : ∃ k, takeN t 30 [n] = some k := by
  by_cases hn : n < 85
  · have h1 := grows_all ⟨n, hn⟩ ⟨t, ht⟩
    simp only [grows, h, Bool.not_true, Bool.false_or] at h1
    exact Option.isSome_iff_exists.1 h1
  · exfalso
    unfold beginsN workedN at h
    simp only [show ¬ n = 58 by omega, show ¬ n = 59 by omega, show ¬ n = 60 by omega, show ¬ n = 61 by omega, show ¬ n = 62 by omega, show ¬ n = 63 by omega, show ¬ n = 64 by omega, show ¬ n = 65 by omega, show ¬ n = 66 by omega, show ¬ (n = 67 ∨ n = 84) by omega, show ¬ n = 68 by omega,
      show ¬ (n = 83 ∨ n = 69) by omega, show ¬ (n = 70 ∨ n = 72 ∨ n = 74) by omega, show ¬ (n = 75 ∨ n = 77 ∨ n = 79 ∨ n = 81) by omega, show ¬ n = 82 by omega, show ¬ n = 71 by omega, show ¬ n = 73 by omega, show ¬ n = 76 by omega, show ¬ n = 78 by omega, show ¬ n = 80 by omega, show ¬ n = t by omega,
      if_false, decide_false, Bool.false_or, Bool.and_false] at h
    cases h
theorem skip_rule (n t : Nat) (h : beginsN n t = false) : ruleN n t = [] := by
  rw [ruleN, if_pos h]
theorem empty_ge (n : Nat) (h : emptyN n = true) : 58 ≤ n := by
  have := of_decide_eq_true h
  omega
/-- a terminal that may come next is taken -/
theorem takeN_may (t : Nat) (ht : t < 58) : ∀ (st : List Nat), mayN t st = true → ∃ k, takeN t (st.length + 30) st = some k
  | [], h => by cases h
  | n :: l, h => by
    rw [mayN] at h
    split at h
    · rename_i hb
      obtain ⟨k, hk⟩ := grows_eq n t ht hb
      have h1 := takeN_more t 30 [n] k l hk
      exact ⟨k ++ l, takeN_fuel t 30 _ _ _ (by simp) h1⟩
    · rename_i hb
      split at h
      · rename_i he
        obtain ⟨k, hk⟩ := takeN_may t ht l h
        refine ⟨k, ?_⟩
        rw [List.length_cons, show l.length + 1 + 30 = (l.length + 30) + 1 by omega, takeN]
        have hge := empty_ge n he
        rw [if_neg (by omega), skip_rule n t (by simpa using hb), List.nil_append]
        exact hk
      · cases h
theorem taken_may (t : Nat) (ht : t < 58) (m : Mc) (k : Nat) (h : mayN t m.stack = true) : ∃ s, takeN t (m.stack.length + 100) m.stack = some s ∧ taken t m k = .ok { m with at_ := k, stack := s } := by
  obtain ⟨s, hs⟩ := takeN_may t ht m.stack h
  have h1 := takeN_fuel t _ (m.stack.length + 100) _ _ (by omega) hs
  refine ⟨s, h1, ?_⟩
  unfold taken
  rw [h1]
end Go.Proofs.YtmmjcbbogokmfaaGreatDoor

/- The machine goes on at each step, plain. -/
namespace Go.Proofs.YtmmjcbbogokmfaaGreatDoor

theorem textGo_shut : ∀ (l : List UInt8) (k e j : Nat), textGo l k e = .shut j → k < j ∧ j ≤ k + l.length
  | [], k, e, j, h => by rw [textGo] at h; cases h
  | c :: l, k, e, j, h => by
    rw [textGo] at h
    rw [List.length_cons]
    have ih := fun e' => textGo_shut l (k + 1) e' j
    split at h
    · split at h
      · injection h with h
        omega
      · split at h
        · have := ih _ h; omega
        · split at h
          · cases h
          · have := ih _ h; omega
    · split at h
      · split at h
        · have := ih _ h; omega
        · split at h
          · have := ih _ h; omega
          · cases h
      · split at h
        · cases h
        · have := ih _ h; omega
theorem taken_at {t : Nat} {m m' : Mc} {k : Nat} (h : taken t m k = .ok m') : m'.at_ = k := by
  unfold taken at h
  split at h
  · injection h with h
    rw [← h]
  · cases h
theorem takeWhile_le (p : UInt8 → Bool) (l : List UInt8) : (l.takeWhile p).length ≤ l.length := (List.takeWhile_sublist p).length_le
theorem takeWhile_pos (p : UInt8 → Bool) (c : UInt8) (l : List UInt8) (h : p c = true) : 0 < ((c :: l).takeWhile p).length := by
  rw [List.takeWhile_cons, if_pos h]
  simp
/-- each step goes on, and not beyond the end -/
theorem stepN_on {m m' : Mc} {c : UInt8} {l : List UInt8} (h : stepN m (c :: l) = .ok m') : m.at_ < m'.at_ ∧ m'.at_ ≤ m.at_ + (c :: l).length := by
  have hl : (c :: l).length = l.length + 1 := List.length_cons
  rw [stepN] at h
  split at h
  · injection h with h
    rw [← h]
    simp only
    omega
  · split at h
    · rename_i hc
      unfold commentN at h
      simp only at h
      injection h with h
      have h1 := takeWhile_le (fun c => !lfC c) (c :: l)
      have h2 := takeWhile_pos (fun c => !lfC c) c l (by simp only [lfC]; rw [decide_eq_false (by omega)]; rfl)
      split at h
      · rw [← h]; simp only; omega
      · rw [← h]; simp only; omega
    · split at h
      · unfold textStep at h
        split at h
        · cases h
        · split at h
          · cases h
          · rename_i j hj
            have h1 := taken_at h
            have h2 := textGo_shut _ _ _ _ hj
            rw [List.drop_one, List.tail_cons] at h2
            omega
          · injection h with h
            rw [← h]
            simp only
            omega
      · split at h
        · rename_i hw
          have h1 := takeWhile_le wordC (c :: l)
          have h2 := takeWhile_pos wordC c l hw
          unfold wordStep at h
          simp only at h
          split at h
          · have h3 := taken_at h
            omega
          · unfold spellN at h
            split at h
            · cases h
            · injection h with h
              rw [← h]
              simp only
              omega
        · unfold signStep at h
          simp only at h
          split at h
          · split at h
            · rename_i hh
              have h3 := taken_at h
              have : l ≠ [] := fun e => by rw [e] at hh; exact absurd hh.2.2 (by decide)
              have := List.length_pos_iff.2 this
              omega
            · have h3 := taken_at h
              omega
          · split at h
            · cases h
            · split at h
              · injection h with h
                rw [← h]
                simp only
                omega
              · rename_i hne
                have := List.length_pos_iff.2 hne
                split at h
                · cases h
                · have h3 := taken_at h
                  omega
end Go.Proofs.YtmmjcbbogokmfaaGreatDoor

/- The machine over bytes in memory. -/
namespace Go.Proofs.YtmmjcbbogokmfaaGreatDoor
open Go.RowKit

theorem Tryz.infoSym : (Tryz.prog.info? 163).map (fun i => (i.zero, i.size, i.bytes)) = some (some (.int .u8 0), 1, 1) := by kernel_rfl

/-- what must still come, in a row of its own -/
def Stk (w : World) (st : List Nat) (A : Option Addr) (c : Nat) : Prop := w.ownsRow 8 163 1 (.slice A st.length c) st.length (st.reverse.map yv)
/-- The machine lies at block g: the text, the plain machine; r: the block of what must still come. -/
structure Mac (w : World) (g : Nat) (r : Option Nat) (src : ByteArray) (m : Mc) (A : Option Addr) (c : Nat) : Prop where
  low : 8 ≤ g
  blk : Blk w g 162 #[.string src, .int .i64 (m.at_ : Int), .slice A m.stack.length c, .int .u8 (m.fin : Int), .int .i64 (m.from_ : Int)]
  own : Stk w m.stack A c
  row : A.map (·.block) = r
  sym : ∀ n ∈ m.stack, n < 85
def MX (g : Nat) (r : Option Nat) : Nat → Prop := fun k => k = g ∨ some k = r
/-- the row is the old one, or new -/
def MFr (w : World) (r r' : Option Nat) : Prop := r' = r ∨ ∃ k, r' = some k ∧ w.heap.size ≤ k
/-- behind a step -/
def MStep (w : World) (g : Nat) (r : Option Nat) (w' : World) (src : ByteArray) (m : Mc) : Prop := ∃ r' A c, Mac w' g r' src m A c ∧ Kp (MX g r) w w' ∧ MFr w r r'

theorem yv_inj {a b : Nat} (h : yv a = yv b) : a = b := by
  unfold yv at h
  injection h with _ h
  omega
theorem map_yv_inj : ∀ {a b : List Nat}, a.map yv = b.map yv → a = b
  | [], [], _ => rfl
  | [], _ :: _, h => by cases h
  | _ :: _, [], h => by cases h
  | x :: a, y :: b, h => by
    rw [List.map_cons, List.map_cons] at h
    injection h with h1 h2
    rw [yv_inj h1, map_yv_inj h2]
theorem one_yv (l : List Nat) : ∀ u ∈ l.map yv, u.oneCell' = true := by
  intro u hu
  obtain ⟨b, _, rfl⟩ := List.mem_map.1 hu
  rfl
section
variable {w w1 w2 : World} {g : Nat} {r r1 : Option Nat} {src : ByteArray} {m m' : Mc} {st : List Nat} {A : Option Addr} {c n : Nat}
theorem Stk.pop (h : Stk w (n :: st) A c) : Stk w st A c := by
  obtain ⟨h1, h2⟩ := h
  refine ⟨by simp, ?_⟩
  rcases h2 with ⟨_, h0⟩ | ⟨g, cap, cur, hv, hb, hg, hn, hm, hs, htk⟩
  · simp at h0
  · injection hv with hA _ hc
    subst hA hc
    refine .inr ⟨g, c, cur, rfl, hb, hg, by simp at hn; omega, hm, hs, ?_⟩
    have e : cur.toList.take (st.length * 1) = (cur.toList.take ((n :: st).length * 1)).take (st.length * 1) := by
      rw [List.take_take, List.length_cons, Nat.min_eq_left (by omega)]
    rw [e, htk, List.reverse_cons, List.map_append]
    exact List.take_left' (by simp)
theorem Stk.cap (h : Stk w (n :: st) A c) : st.length ≤ c := by
  rcases h.2 with ⟨h1, h0⟩ | ⟨g', cap, cur, hv, _, _, h1, _⟩
  · cases h0
  · injection hv with _ _ hv
    subst hv
    simp only [List.length_cons] at h1
    omega
theorem Stk.rd (h : Stk w st A c) : Rd w 1 A st.length (st.reverse.map yv) := Rd.of_own h
theorem Stk.kp {X : Nat → Prop} (h : Stk w st A c) (hk : Kp X w w1) (hx : ∀ k, A.map (·.block) = some k → ¬ X k) : Stk w1 st A c :=
  own_kp h hk (fun k e => hx k (by rw [← ownBlock_slice A st.length c]; exact e))
/-- place i from the bottom -/
theorem Stk.at_ (h : Stk w st A c) (j : Nat) (hj : j < st.length) : ∃ b o, A = some ⟨b, o, none⟩ ∧ w.cell? ⟨b, o + (st.length - 1 - j), none⟩ = some (yv (st.getD j 0)) := by
  obtain ⟨b, o, u, hA, hu, hc⟩ := h.rd.at_ (k := st.length - 1 - j) (by omega)
  refine ⟨b, o, hA, ?_⟩
  rw [List.getElem?_map, List.getElem?_reverse (by omega), show st.length - 1 - (st.length - 1 - j) = j by omega, List.getElem?_eq_getElem hj] at hu
  simp only [Option.map_some, Option.some.injEq] at hu
  rw [hc, ← hu]
  simp [List.getD, List.getElem?_eq_getElem hj]
theorem Mac.c0 (h : Mac w g r src m A c) : w.cell? ⟨g, 0, none⟩ = some (.string src) := h.blk.at_ 0 rfl
theorem Mac.c1 (h : Mac w g r src m A c) : w.cell? ⟨g, 1, none⟩ = some (.int .i64 (m.at_ : Int)) := h.blk.at_ 1 rfl
theorem Mac.c2 (h : Mac w g r src m A c) : w.cell? ⟨g, 2, none⟩ = some (.slice A m.stack.length c) := h.blk.at_ 2 rfl
theorem Mac.c3 (h : Mac w g r src m A c) : w.cell? ⟨g, 3, none⟩ = some (.int .u8 (m.fin : Int)) := h.blk.at_ 3 rfl
theorem Mac.c4 (h : Mac w g r src m A c) : w.cell? ⟨g, 4, none⟩ = some (.int .i64 (m.from_ : Int)) := h.blk.at_ 4 rfl
theorem Mac.z (h : Mac w g r src m A c) (i : Nat) : w.frozen? ⟨g, i, none⟩ = false := h.blk.frozen i
theorem Mac.ne (h : Mac w g r src m A c) : r ≠ some g := by
  have := own_blk_ne h.own h.blk (by decide)
  rw [ownBlock_slice, h.row] at this
  exact this
theorem Mac.lt (h : Mac w g r src m A c) : ∀ k, r = some k → 8 ≤ k ∧ k < w.heap.size := fun k hk => h.own.lt k (by rw [ownBlock_slice, h.row]; exact hk)
theorem Mac.kp {X : Nat → Prop} (h : Mac w g r src m A c) (hk : Kp X w w1) (hg : ¬ X g) (hr : ∀ k, r = some k → ¬ X k) : Mac w1 g r src m A c :=
  ⟨h.low, h.blk.kp hk hg, h.own.kp hk (fun k e => hr k (by rw [← h.row]; exact e)), h.row, h.sym⟩
theorem Mac.old (h : Mac w g r src m A c) (hk : Old w w1) : Mac w1 g r src m A c := h.kp hk (fun f => f) (fun _ _ f => f)
theorem Mac.step (h : Mac w g r src m A c) : MStep w g r w src m := ⟨r, A, c, h, Kp.refl _ _, .inl rfl⟩
theorem MX.trans (hf : MFr w r r1) : ∀ b, b < w.heap.size → MX g r1 b → MX g r b := by
  intro b hb hx
  rcases hx with rfl | hx
  · exact .inl rfl
  · rcases hf with rfl | ⟨k, rfl, hle⟩
    · exact .inr hx
    · injection hx with hx; omega
theorem MFr.trans {r2 : Option Nat} (hf : MFr w r r1) (hs : w.heap.size ≤ w1.heap.size) (hf2 : MFr w1 r1 r2) : MFr w r r2 := by
  rcases hf2 with rfl | ⟨k, rfl, hle⟩
  · exact hf
  · exact .inr ⟨k, rfl, Nat.le_trans hs hle⟩
theorem MStep.trans (hk : Kp (MX g r) w w1) (hf : MFr w r r1) (h : MStep w1 g r1 w2 src m) : MStep w g r w2 src m := by
  obtain ⟨r2, A, c, hw, hk2, hf2⟩ := h
  exact ⟨r2, A, c, hw, hk.trans hk2 (MX.trans hf), hf.trans hk.size hf2⟩
theorem Sg.mx (h : Sg w) (hM : Mac w g r src m A c) (hk : Kp (MX g r) w w1) : Sg w1 := by
  have := hM.low
  refine h.kp hk ?_ ?_
  · rintro (e | e)
    · omega
    · have := hM.lt 0 e.symm; omega
  · rintro (e | e)
    · omega
    · have := hM.lt 2 e.symm; omega
/-- a number of the machine is written -/
theorem Mac.setAt (h : Mac w g r src m A c) (k : Nat) : Mac (w.setCell ⟨g, 1, none⟩ (.int .i64 (k : Int))) g r src { m with at_ := k } A c ∧ Kp (MX g r) w (w.setCell ⟨g, 1, none⟩ (.int .i64 (k : Int))) := by
  have hk := (Kp.refl (fun b => b = g) w).setCell (p := ⟨g, 1, none⟩) (fun _ => rfl) (.int .i64 (k : Int))
  exact ⟨⟨h.low, by simpa using h.blk.set_ 1 (.int .i64 (k : Int)), h.own.kp hk (fun b e e' => h.ne (by rw [← h.row, e, e'])), h.row, h.sym⟩, hk.mono (fun _ _ e => .inl e)⟩
theorem Mac.setFin (h : Mac w g r src m A c) (k : Nat) : Mac (w.setCell ⟨g, 3, none⟩ (.int .u8 (k : Int))) g r src { m with fin := k } A c ∧ Kp (MX g r) w (w.setCell ⟨g, 3, none⟩ (.int .u8 (k : Int))) := by
  have hk := (Kp.refl (fun b => b = g) w).setCell (p := ⟨g, 3, none⟩) (fun _ => rfl) (.int .u8 (k : Int))
  exact ⟨⟨h.low, by simpa using h.blk.set_ 3 (.int .u8 (k : Int)), h.own.kp hk (fun b e e' => h.ne (by rw [← h.row, e, e'])), h.row, h.sym⟩, hk.mono (fun _ _ e => .inl e)⟩
theorem Mac.setFrom (h : Mac w g r src m A c) (k : Nat) : Mac (w.setCell ⟨g, 4, none⟩ (.int .i64 (k : Int))) g r src { m with from_ := k } A c ∧ Kp (MX g r) w (w.setCell ⟨g, 4, none⟩ (.int .i64 (k : Int))) := by
  have hk := (Kp.refl (fun b => b = g) w).setCell (p := ⟨g, 4, none⟩) (fun _ => rfl) (.int .i64 (k : Int))
  exact ⟨⟨h.low, by simpa using h.blk.set_ 4 (.int .i64 (k : Int)), h.own.kp hk (fun b e e' => h.ne (by rw [← h.row, e, e'])), h.row, h.sym⟩, hk.mono (fun _ _ e => .inl e)⟩
/-- the top is gone -/
theorem Mac.setPop (h : Mac w g r src m A c) (hm : m.stack = n :: st) : Mac (w.setCell ⟨g, 2, none⟩ (.slice A st.length c)) g r src { m with stack := st } A c ∧ Kp (MX g r) w (w.setCell ⟨g, 2, none⟩ (.slice A st.length c)) := by
  have hk := (Kp.refl (fun b => b = g) w).setCell (p := ⟨g, 2, none⟩) (fun _ => rfl) (.slice A st.length c)
  have ho : Stk w st A c := (hm ▸ h.own : Stk w (n :: st) A c).pop
  exact ⟨⟨h.low, by simpa using h.blk.set_ 2 (.slice A st.length c), ho.kp hk (fun b e e' => h.ne (by rw [← h.row, e, e'])), h.row, fun x hx => h.sym x (by rw [hm]; exact List.mem_cons_of_mem _ hx)⟩, hk.mono (fun _ _ e => .inl e)⟩
/-- one symbol more lies on top -/
theorem Mac.put {wr wx : World} {A' : Option Addr} {c' k x : Nat} (h : Mac wr g r src m A c) (hk : m.stack.length = k) (hx : Old wr wx) (hx5 : x < 85)
    (hown : w1.ownsRow 8 163 1 (.slice A' (k + 1) c') (k + 1) (m.stack.reverse.map yv ++ [yv x])) (hg : wx.grownBy w1 (Value.slice A k c).ownBlock)
    (hat : A'.map (·.block) = (Value.slice A k c).ownBlock ∨ A'.map (·.block) = some wx.heap.size) :
    MStep wr g r (w1.setCell ⟨g, 2, none⟩ (.slice A' (k + 1) c')) src { m with stack := x :: m.stack } := by
  subst hk
  rw [ownBlock_slice] at hat hg
  have hne := h.ne
  rw [← h.row] at hne
  have hb1 := (h.blk.old hx).grown hg (fun e => hne e.symm)
  have hb2 := hb1.set_ 2 (.slice A' (m.stack.length + 1) c')
  have hgl := h.blk.lt
  refine ⟨A'.map (·.block), A', c', ⟨h.low, by simpa using hb2, ?_, rfl, ?_⟩, ?_, ?_⟩
  · show World.ownsRow _ 8 _ 1 (.slice A' (m.stack.length + 1) c') (m.stack.length + 1) _
    rw [List.reverse_cons, List.map_append]
    refine own_kp hown ((Kp.refl (fun k => k = g) _).setCell (p := ⟨g, 2, none⟩) (fun _ => rfl) _) ?_
    rw [ownBlock_slice]
    rintro k e rfl
    rcases hat with h1 | h1
    · rw [h1] at e; exact hne e
    · rw [h1] at e; injection e with e; have := hx.size; omega
  · intro n hn
    rcases List.mem_cons.1 hn with rfl | hn
    · exact hx5
    · exact h.sym n hn
  · rw [← h.row]
    exact Kp.setCell (Kp.grown (hx.mono (Y := MX g (A.map (·.block))) (fun _ _ f => f.elim)) hg (fun k e _ => .inr e.symm)) (p := ⟨g, 2, none⟩) (fun _ => .inl rfl) _
  · rcases hat with h1 | h1
    · exact .inl (by rw [h1, h.row])
    · exact .inr ⟨_, h1, hx.size⟩
theorem Stk.uniq {st' : List Nat} (h : Stk w st A c) (h' : Stk w st' A c) (hl : st.length = st'.length) : st = st' := by
  have e : st.reverse.map yv = st'.reverse.map yv := by
    apply List.ext_getElem?
    intro j
    by_cases hj : j < st.length
    · obtain ⟨b, o, u, hA, hu, hc⟩ := h.rd.at_ (k := j) hj
      obtain ⟨b', o', u', hA', hu', hc'⟩ := h'.rd.at_ (k := j) (by omega)
      rw [hA] at hA'
      injection hA' with hA'
      injection hA' with h1 h2
      subst h1 h2
      rw [hc] at hc'
      rw [hu, hu', hc']
    · rw [List.getElem?_eq_none (by simpa using hj), List.getElem?_eq_none (by simp; omega)]
  have := map_yv_inj e
  exact List.reverse_inj.1 this
theorem Mac.uniq {src' : ByteArray} {A' : Option Addr} {c' : Nat} (h : Mac w g r src m A c) (h' : Mac w g r1 src' m' A' c') : m.stack = m'.stack := by
  have hb := h.blk
  have hb' := h'.blk
  unfold Blk at hb hb'
  rw [hb] at hb'
  injection hb' with e
  injection e with e _ _
  have e2 : (#[Value.string src, .int .i64 (m.at_ : Int), .slice A m.stack.length c, .int .u8 (m.fin : Int), .int .i64 (m.from_ : Int)])[2]? = (#[Value.string src', .int .i64 (m'.at_ : Int), .slice A' m'.stack.length c', .int .u8 (m'.fin : Int), .int .i64 (m'.from_ : Int)])[2]? := by rw [e]
  simp only [List.getElem?_toArray, List.getElem?_cons_succ, List.getElem?_cons_zero, Option.some.injEq, Value.slice.injEq] at e2
  obtain ⟨rfl, hl, rfl⟩ := e2
  exact h.own.uniq h'.own hl
end
end Go.Proofs.YtmmjcbbogokmfaaGreatDoor
