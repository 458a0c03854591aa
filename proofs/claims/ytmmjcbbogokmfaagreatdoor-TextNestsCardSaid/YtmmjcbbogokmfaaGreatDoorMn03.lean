import Derived.Test.YtmmjcbbogokmfaaGreatDoorMn01
import Derived.Test.YtmmjcbbogokmfaaGreatDoorMn02
import Derived.Test.YtmmjcbbogokmfaaGreatDoorRows
/- Contracts of the language's words: letter, digit, ofWord. -/
namespace Go.Proofs.YtmmjcbbogokmfaaGreatDoor
open Go.RowKit

theorem retb {a b : Bool} (h : a = true ↔ b = true) : Ending.returned (.bool a) = Ending.returned (.bool b) := by rw [Bool.eq_iff_iff.2 h]
theorem letter_any (w : World) (c : UInt8) : Calls Tryz.prog 128 #[bv c] w fun e w' => e = .returned (.bool (letC c)) ∧ w = w' := by
  have Hy := Lib.hid (show letC c = decide (97 ≤ c.toNat ∧ c.toNat ≤ 122) from rfl)
  have h8 := c.toNat_lt
  generalize letC c = R at *
  unfold bv
  generalize c.toNat = k at *
  go_enter Tryz.func128, Tryz.ntmps128
  go_wp2
  all_goals (go_ret; refine ⟨?_, rfl⟩; rw [Hy.out]; refine retb ?_; simp <;> omega)
theorem digit_any (w : World) (c : UInt8) : Calls Tryz.prog 158 #[bv c] w fun e w' => e = .returned (.bool (digC c)) ∧ w = w' := by
  have Hy := Lib.hid (show digC c = decide (48 ≤ c.toNat ∧ c.toNat ≤ 57) from rfl)
  have h8 := c.toNat_lt
  generalize digC c = R at *
  unfold bv
  generalize c.toNat = k at *
  go_enter Tryz.func158, Tryz.ntmps158
  go_wp2
  all_goals (go_ret; refine ⟨?_, rfl⟩; rw [Hy.out]; refine retb ?_; simp <;> omega)
theorem ofWord_any (w : World) (c : UInt8) : Calls Tryz.prog 129 #[bv c] w fun e w' => e = .returned (.bool (wordC c)) ∧ w = w' := by
  have Hy := Lib.hid (show wordC c = (letC c || digC c || decide (c.toNat = 95)) from rfl)
  have H1 := Lib.hid (letter_any w c)
  have H2 := Lib.hid (digit_any w c)
  have h8 := c.toNat_lt
  generalize letC c = L at *
  generalize digC c = D at *
  generalize wordC c = R at *
  unfold bv at *
  generalize c.toNat = k at *
  go_enter Tryz.func129, Tryz.ntmps129
  go_wp2_with fail
  refine H1.out.mono ?_
  rintro e w1 ⟨rfl, rfl⟩
  cases L
  · go_wp2_with fail
    refine H2.out.mono ?_
    rintro e w1 ⟨rfl, rfl⟩
    cases D
    · go_wp2
      all_goals (go_ret; refine ⟨?_, rfl⟩; rw [Hy.out]; refine retb ?_; simp <;> omega)
    · go_wp2
      all_goals (go_ret; refine ⟨?_, rfl⟩; rw [Hy.out]; rfl)
  · go_wp2
    all_goals (go_ret; refine ⟨?_, rfl⟩; rw [Hy.out]; rfl)
/-- a row of words, as cells -/
def wvs (l : List (List UInt8)) : List Value := l.map fun s => sv ⟨s.toArray⟩
/-- the language's words and signs lie in their variables -/
structure Sg (w : World) : Prop where
  res : w.rangeAt 0 0 (wvs resL)
  sig : w.rangeAt 2 0 (wvs signL)
theorem rangeAt_kp {X : Nat → Prop} {w w' : World} {b o : Nat} {cs : List Value} (h : w.rangeAt b o cs) (hk : Kp X w w') (hx : ¬ X b) : w'.rangeAt b o cs := fun j v hv => by
  have h1 := h j v hv
  rw [World.cell?_of_block (hk.block b (cell_lt h1) hx)]
  exact h1
theorem Sg.kp {X : Nat → Prop} {w w' : World} (h : Sg w) (hk : Kp X w w') (h0 : ¬ X 0) (h2 : ¬ X 2) : Sg w' := ⟨rangeAt_kp h.res hk h0, rangeAt_kp h.sig hk h2⟩
theorem Sg.old {w w' : World} (h : Sg w) (hk : Old w w') : Sg w' := h.kp hk (fun f => f) (fun f => f)
theorem idxFrom_skip (k : Nat) (w : List UInt8) (l : List (List UInt8)) (j : Nat) (hj : j < l.length) : idxFrom (k + j) w (l.drop j) = if l[j] = w then k + j else idxFrom (k + (j + 1)) w (l.drop (j + 1)) := by
  rw [List.drop_eq_getElem_cons hj, idxFrom]
  rfl
theorem wvs_at (l : List (List UInt8)) (j : Nat) (hj : j < l.length) : (wvs l)[j]? = some (.string ⟨l[j].toArray⟩) := by
  unfold wvs
  rw [List.getElem?_map, List.getElem?_eq_getElem hj]
  rfl
theorem wvs_len (l : List (List UInt8)) : (wvs l).length = l.length := List.length_map _
theorem mk_eq {a : List UInt8} {s : ByteArray} : (⟨a.toArray⟩ : ByteArray) = s ↔ a = sb s := ⟨fun h => by rw [← h]; rfl, fun h => by rw [h, mk_sb]⟩
theorem bytes_same {a b : ByteArray} (h : a.toList = b.toList) : a = b := by
  rw [ByteArray.toList_eq, ByteArray.toList_eq] at h
  exact sb_inj h
theorem at_loadE {P : Program} {ops : Array Oper} {rest : List Oper} {d : Option Tmp} {ty : TypeId} {pos : String} {after : Array Edge} {gd : Option (Nat × Bool)} {a : Act} {w : World} {Q : Exit → Act → World → Prop} (t : TypeId) (x : Operand)
    (h : wpList P ops Q (⟨d, .load t x, ty, pos, after, gd⟩ :: rest) a w) : wpList P ops Q (⟨d, .load t x, ty, pos, after, gd⟩ :: rest) a w := h
theorem at_store {P : Program} {ops : Array Oper} {rest : List Oper} {d : Option Tmp} {ty : TypeId} {pos : String} {after : Array Edge} {gd : Option (Nat × Bool)} {a : Act} {w : World} {Q : Exit → Act → World → Prop} (t : TypeId) (x y : Operand)
    (h : wpList P ops Q (⟨d, .store t x y, ty, pos, after, gd⟩ :: rest) a w) : wpList P ops Q (⟨d, .store t x y, ty, pos, after, gd⟩ :: rest) a w := h
theorem Tryz.load_w {ops : Array Oper} {rest : List Oper} {op : Oper} {a : Act} {w : World} {Q : Exit → Act → World → Prop} (hw : Region.wanted op (yielded ops a.tmps) = true) (ty : TypeId) (x : Operand) (ho : op.op = .load ty x)
    (b o : Nat) (hx : a.eval x = .pointer (some ⟨b, o, none⟩)) (cs : List Value) (d : TypeDesc) (hc : w.rangeAt b o cs)
    (hu : Tryz.prog.underlying ty = some d) (hd : d.isRow = true) (hi : (Tryz.prog.info? ty).map (·.size) = some cs.length)
    (h : wpList Tryz.prog ops Q rest (a.put op.dst (.agg cs.toArray)) w) : wpList Tryz.prog ops Q (op :: rest) a w :=
  wpList_step fun K hK => by simp only [hw, if_true]; exact wp_load_mid ty x ho b o hx cs d hc hu hd hi (hK _ _ h)
theorem Tryz.size35 : (Tryz.prog.info? 205).map (·.size) = some 35 := by kernel_rfl
theorem Tryz.index35 (w : World) (cs : List Value) (j : Nat) (x : ByteArray) (hx : cs[j]? = some (.string x)) (hlt : j < 35) : (Instr.index 205 (.agg cs.toArray) (.int .i64 (j : Int))).run Tryz.prog w = .ok (.string x) w := by
  have h3 : (sizeOf 9).run Tryz.prog w = .ok 1 w := by kernel_rfl
  simp [Instr.index, asIntOf, run_underlying Tryz.underlying205, part, h3, hx, hlt]
set_option maxRecDepth 100000 in
set_option maxHeartbeats 800000 in
theorem word_any9 (w : World) (hg : Sg w) (s : ByteArray) : Calls Tryz.prog 130 #[.string s] w fun e w' => e = .returned (.int .u8 (wordN (sb s) : Nat)) ∧ w = w' := by
  have Hy := Lib.hid (show wordN (sb s) = idxFrom (23 + 0) (sb s) (resL.drop 0) from rfl)
  have Hres := Lib.hid hg.res
  have Hx := Lib.hid (fun j (hj : j < 35) => wvs_at resL j hj)
  have Hsk := Lib.hid (fun j (hj : j < 35) => idxFrom_skip 23 (sb s) resL j hj)
  have Hsz := Lib.hid (show (Tryz.prog.info? 205).map (·.size) = some (wvs resL).length from Tryz.size35)
  have Hend := Lib.hid (show idxFrom (23 + 35) (sb s) (resL.drop 35) = 0 from rfl)
  generalize wordN (sb s) = R at *
  generalize hcs : wvs resL = cs at *
  clear hcs hg
  go_enter Tryz.func130, Tryz.ntmps130
  go_wp2_with (first | ((with_reducible refine at_loadE 205 (.global 0) ?_); refine Tryz.load_w rfl 205 (.global 0) rfl 0 0 rfl cs _ Hres.out Tryz.underlying205 rfl Hsz.out ?_) | fail)
  go_loop [6] (fun i => ∃ j : Nat, j ≤ 35 ∧ i = .int .i64 j ∧ R = idxFrom (23 + j) (sb s) (resL.drop j)) (fun i => 35 - (intOf i).toNat)
  case atStart => exact ⟨0, by omega, rfl, Hy.out⟩
  case round =>
    obtain ⟨j, hj, rfl, hR⟩ := hrel
    by_cases hlt : j < 35
    · have hx := Hx.out j hlt
      have hsk := Hsk.out j hlt
      rw [hsk] at hR
      clear hsk
      generalize resL[j]'hlt = rw at *
      have b1 : (j : Int) < 35 := by omega
      have b2 : (0 : Int) ≤ (j : Int) := by omega
      have b3 : (j : Int).toNat = j := by omega
      have hix := fun w' => Tryz.index35 w' cs j _ hx hlt
      clear hx
      by_cases he : rw = sb s
      · rw [if_pos he] at hR
        rw [mk_eq.2 he] at hix
        clear he
        have HR := Lib.hid hR
        clear hR
        have b4 : IntKind.u8.wrap (j : Int) = (j : Int) := IntWalk.u8_in _ (by omega)
        have b5 : IntKind.u8.wrap (23 + (j : Int)) = 23 + (j : Int) := IntWalk.u8_in _ (by omega)
        go_wp2
        go_ret
        exact ⟨by rw [HR.out]; simp, rfl⟩
      · rw [if_neg he] at hR
        have hne : ¬ (⟨rw.toArray⟩ : ByteArray) = s := fun h => he (mk_eq.1 h)
        clear he
        generalize (⟨rw.toArray⟩ : ByteArray) = x at *
        have HR := Lib.hid hR
        clear hR
        have hne2 : (x.toList == s.toList) = false := beq_eq_false_iff_ne.2 (fun h => hne (bytes_same h))
        clear hne
        go_wp2
        exact ⟨⟨j + 1, by omega, by go_num, HR.out⟩, by simp [intOf]; omega⟩
    · obtain rfl : j = 35 := by omega
      rw [Hend.out] at hR
      have HR := Lib.hid hR
      clear hR
      go_wp2
      go_ret
      exact ⟨by rw [HR.out]; rfl, rfl⟩
theorem Tryz.size19 : (Tryz.prog.info? 252).map (·.size) = some 19 := by kernel_rfl
theorem Tryz.index19 (w : World) (cs : List Value) (j : Nat) (x : ByteArray) (hx : cs[j]? = some (.string x)) (hlt : j < 19) : (Instr.index 252 (.agg cs.toArray) (.int .i64 (j : Int))).run Tryz.prog w = .ok (.string x) w := by
  have h3 : (sizeOf 9).run Tryz.prog w = .ok 1 w := by kernel_rfl
  simp [Instr.index, asIntOf, run_underlying Tryz.underlying252, part, h3, hx, hlt]
set_option maxRecDepth 100000 in
set_option maxHeartbeats 800000 in
theorem sign_any9 (w : World) (hg : Sg w) (s : ByteArray) : Calls Tryz.prog 145 #[.string s] w fun e w' => e = .returned (.int .u8 (signN (sb s) : Nat)) ∧ w = w' := by
  have Hy := Lib.hid (show signN (sb s) = idxFrom (4 + 0) (sb s) (signL.drop 0) from rfl)
  have Hres := Lib.hid hg.sig
  have Hx := Lib.hid (fun j (hj : j < 19) => wvs_at signL j hj)
  have Hsk := Lib.hid (fun j (hj : j < 19) => idxFrom_skip 4 (sb s) signL j hj)
  have Hsz := Lib.hid (show (Tryz.prog.info? 252).map (·.size) = some (wvs signL).length from Tryz.size19)
  have Hend := Lib.hid (show idxFrom (4 + 19) (sb s) (signL.drop 19) = 0 from rfl)
  generalize signN (sb s) = R at *
  generalize hcs : wvs signL = cs at *
  clear hcs hg
  go_enter Tryz.func145, Tryz.ntmps145
  go_wp2_with (first | ((with_reducible refine at_loadE 252 (.global 2) ?_); refine Tryz.load_w rfl 252 (.global 2) rfl 2 0 rfl cs _ Hres.out Tryz.underlying252 rfl Hsz.out ?_) | fail)
  go_loop [6] (fun i => ∃ j : Nat, j ≤ 19 ∧ i = .int .i64 j ∧ R = idxFrom (4 + j) (sb s) (signL.drop j)) (fun i => 19 - (intOf i).toNat)
  case atStart => exact ⟨0, by omega, rfl, Hy.out⟩
  case round =>
    obtain ⟨j, hj, rfl, hR⟩ := hrel
    by_cases hlt : j < 19
    · have hx := Hx.out j hlt
      have hsk := Hsk.out j hlt
      rw [hsk] at hR
      clear hsk
      generalize signL[j]'hlt = rw at *
      have b1 : (j : Int) < 19 := by omega
      have b2 : (0 : Int) ≤ (j : Int) := by omega
      have b3 : (j : Int).toNat = j := by omega
      have hix := fun w' => Tryz.index19 w' cs j _ hx hlt
      clear hx
      by_cases he : rw = sb s
      · rw [if_pos he] at hR
        rw [mk_eq.2 he] at hix
        clear he
        have HR := Lib.hid hR
        clear hR
        have b4 : IntKind.u8.wrap (j : Int) = (j : Int) := IntWalk.u8_in _ (by omega)
        have b5 : IntKind.u8.wrap (4 + (j : Int)) = 4 + (j : Int) := IntWalk.u8_in _ (by omega)
        go_wp2
        go_ret
        exact ⟨by rw [HR.out]; simp, rfl⟩
      · rw [if_neg he] at hR
        have hne : ¬ (⟨rw.toArray⟩ : ByteArray) = s := fun h => he (mk_eq.1 h)
        clear he
        generalize (⟨rw.toArray⟩ : ByteArray) = x at *
        have HR := Lib.hid hR
        clear hR
        have hne2 : (x.toList == s.toList) = false := beq_eq_false_iff_ne.2 (fun h => hne (bytes_same h))
        clear hne
        go_wp2
        exact ⟨⟨j + 1, by omega, by go_num, HR.out⟩, by simp [intOf]; omega⟩
    · obtain rfl : j = 19 := by omega
      rw [Hend.out] at hR
      have HR := Lib.hid hR
      clear hR
      go_wp2
      go_ret
      exact ⟨by rw [HR.out]; rfl, rfl⟩
end Go.Proofs.YtmmjcbbogokmfaaGreatDoor

/- Contracts of the grammar's tests: atomic, worked, begins, empty, worded. -/
namespace Go.Proofs.YtmmjcbbogokmfaaGreatDoor
open Go.RowKit

/-- a symbol as a value -/
def yv (n : Nat) : Value := .int .u8 (n : Int)

set_option maxRecDepth 100000 in
set_option maxHeartbeats 1600000 in
theorem atomic_any (w : World) (t : Nat) : Calls Tryz.prog 239 #[yv t] w fun e w' => e = .returned (.bool (atomicN t)) ∧ w = w' := by
  have Hy := Lib.hid (show atomicN t = decide (t = 2 ∨ t = 46 ∨ t = 47 ∨ t = 3 ∨ t = 48 ∨ t = 1 ∨ t = 6 ∨ t = 4 ∨ t = 31 ∨ (49 ≤ t ∧ t ≤ 57)) from rfl)
  generalize atomicN t = R at *
  unfold yv
  go_enter Tryz.func239, Tryz.ntmps239
  go_wp2
  all_goals (go_ret; refine ⟨?_, rfl⟩; rw [Hy.out]; refine retb ?_; simp only [beq_iff_eq, beq_eq_false_iff_ne, ne_eq, decide_eq_true_eq, Bool.false_eq_true, true_iff, false_iff] at *; omega)
set_option maxRecDepth 100000 in
set_option maxHeartbeats 1600000 in
theorem empty_any (w : World) (n : Nat) : Calls Tryz.prog 202 #[yv n] w fun e w' => e = .returned (.bool (emptyN n)) ∧ w = w' := by
  have Hy := Lib.hid (show emptyN n = decide (n = 58 ∨ n = 59 ∨ n = 61 ∨ n = 62 ∨ n = 63 ∨ n = 64 ∨ n = 65 ∨ n = 66 ∨ n = 67 ∨ n = 68 ∨ n = 71 ∨ n = 73 ∨ n = 76 ∨ n = 78 ∨ n = 80 ∨ n = 83 ∨ n = 84) from rfl)
  generalize emptyN n = R at *
  unfold yv
  go_enter Tryz.func202, Tryz.ntmps202
  go_wp2
  all_goals (go_ret; refine ⟨?_, rfl⟩; rw [Hy.out]; refine retb ?_; simp only [beq_iff_eq, beq_eq_false_iff_ne, ne_eq, decide_eq_true_eq, Bool.false_eq_true, true_iff, false_iff] at *; omega)
/-- the tests of a symbol, by its kind -/
def wk1 (a : Bool) (t : Nat) : Bool := decide (t = 40 ∨ t = 45 ∨ t = 19) || a
def wk2 (a : Bool) (t : Nat) : Bool := decide (t = 45 ∨ t = 19) || a
def wk3 (a : Bool) (t : Nat) : Bool := decide (t = 19) || a
def wk4 (a : Bool) (_ : Nat) : Bool := a
def wk5 (_ : Bool) (t : Nat) : Bool := decide (t = 43)
def wk6 (_ : Bool) (t : Nat) : Bool := decide (t = 44)
def wk7 (_ : Bool) (t : Nat) : Bool := decide ((12 ≤ t ∧ t ≤ 17) ∨ t = 28)
def wk8 (_ : Bool) (t : Nat) : Bool := decide (t = 18 ∨ t = 19)
def wk9 (_ : Bool) (t : Nat) : Bool := decide (20 ≤ t ∧ t ≤ 22)
theorem iff_dec {p : Prop} [Decidable p] {b : Bool} (h : b = true ↔ p) : b = decide p := by
  rw [Bool.eq_iff_iff, decide_eq_true_iff]; exact h
set_option maxRecDepth 100000 in
theorem worked83 (w : World) (t : Nat) : Calls Tryz.prog 229 #[.int .u8 83, yv t] w fun e w' => e = .returned (.bool (workedN 83 t)) ∧ w = w' := by
  have Hy := Lib.hid (show workedN 83 t = wk1 (atomicN t) t from rfl)
  have H := Lib.hid (atomic_any w t)
  generalize workedN 83 t = R at *
  generalize atomicN t = a at *
  unfold yv at *
  go_enter Tryz.func229, Tryz.ntmps229
  go_wp2_with (go_at_call 239; refine H.out.mono ?_; rintro e w1 ⟨rfl, rfl⟩)
  all_goals (go_ret; refine ⟨?_, rfl⟩; rw [Hy.out]; refine retb ?_; clear Hy H; cases a <;> (simp [wk1] at *; try omega))
set_option maxRecDepth 100000 in
theorem worked69 (w : World) (t : Nat) : Calls Tryz.prog 229 #[.int .u8 69, yv t] w fun e w' => e = .returned (.bool (workedN 69 t)) ∧ w = w' := by
  have Hy := Lib.hid (show workedN 69 t = wk1 (atomicN t) t from rfl)
  have H := Lib.hid (atomic_any w t)
  generalize workedN 69 t = R at *
  generalize atomicN t = a at *
  unfold yv at *
  go_enter Tryz.func229, Tryz.ntmps229
  go_wp2_with (go_at_call 239; refine H.out.mono ?_; rintro e w1 ⟨rfl, rfl⟩)
  all_goals (go_ret; refine ⟨?_, rfl⟩; rw [Hy.out]; refine retb ?_; clear Hy H; cases a <;> (simp [wk1] at *; try omega))
set_option maxRecDepth 100000 in
theorem worked70 (w : World) (t : Nat) : Calls Tryz.prog 229 #[.int .u8 70, yv t] w fun e w' => e = .returned (.bool (workedN 70 t)) ∧ w = w' := by
  have Hy := Lib.hid (show workedN 70 t = wk2 (atomicN t) t from rfl)
  have H := Lib.hid (atomic_any w t)
  generalize workedN 70 t = R at *
  generalize atomicN t = a at *
  unfold yv at *
  go_enter Tryz.func229, Tryz.ntmps229
  go_wp2_with (go_at_call 239; refine H.out.mono ?_; rintro e w1 ⟨rfl, rfl⟩)
  all_goals (go_ret; refine ⟨?_, rfl⟩; rw [Hy.out]; refine retb ?_; clear Hy H; cases a <;> (simp [wk2] at *; try omega))
set_option maxRecDepth 100000 in
theorem worked72 (w : World) (t : Nat) : Calls Tryz.prog 229 #[.int .u8 72, yv t] w fun e w' => e = .returned (.bool (workedN 72 t)) ∧ w = w' := by
  have Hy := Lib.hid (show workedN 72 t = wk2 (atomicN t) t from rfl)
  have H := Lib.hid (atomic_any w t)
  generalize workedN 72 t = R at *
  generalize atomicN t = a at *
  unfold yv at *
  go_enter Tryz.func229, Tryz.ntmps229
  go_wp2_with (go_at_call 239; refine H.out.mono ?_; rintro e w1 ⟨rfl, rfl⟩)
  all_goals (go_ret; refine ⟨?_, rfl⟩; rw [Hy.out]; refine retb ?_; clear Hy H; cases a <;> (simp [wk2] at *; try omega))
set_option maxRecDepth 100000 in
theorem worked74 (w : World) (t : Nat) : Calls Tryz.prog 229 #[.int .u8 74, yv t] w fun e w' => e = .returned (.bool (workedN 74 t)) ∧ w = w' := by
  have Hy := Lib.hid (show workedN 74 t = wk2 (atomicN t) t from rfl)
  have H := Lib.hid (atomic_any w t)
  generalize workedN 74 t = R at *
  generalize atomicN t = a at *
  unfold yv at *
  go_enter Tryz.func229, Tryz.ntmps229
  go_wp2_with (go_at_call 239; refine H.out.mono ?_; rintro e w1 ⟨rfl, rfl⟩)
  all_goals (go_ret; refine ⟨?_, rfl⟩; rw [Hy.out]; refine retb ?_; clear Hy H; cases a <;> (simp [wk2] at *; try omega))
set_option maxRecDepth 100000 in
theorem worked75 (w : World) (t : Nat) : Calls Tryz.prog 229 #[.int .u8 75, yv t] w fun e w' => e = .returned (.bool (workedN 75 t)) ∧ w = w' := by
  have Hy := Lib.hid (show workedN 75 t = wk3 (atomicN t) t from rfl)
  have H := Lib.hid (atomic_any w t)
  generalize workedN 75 t = R at *
  generalize atomicN t = a at *
  unfold yv at *
  go_enter Tryz.func229, Tryz.ntmps229
  go_wp2_with (go_at_call 239; refine H.out.mono ?_; rintro e w1 ⟨rfl, rfl⟩)
  all_goals (go_ret; refine ⟨?_, rfl⟩; rw [Hy.out]; refine retb ?_; clear Hy H; cases a <;> (simp [wk3] at *; try omega))
set_option maxRecDepth 100000 in
theorem worked77 (w : World) (t : Nat) : Calls Tryz.prog 229 #[.int .u8 77, yv t] w fun e w' => e = .returned (.bool (workedN 77 t)) ∧ w = w' := by
  have Hy := Lib.hid (show workedN 77 t = wk3 (atomicN t) t from rfl)
  have H := Lib.hid (atomic_any w t)
  generalize workedN 77 t = R at *
  generalize atomicN t = a at *
  unfold yv at *
  go_enter Tryz.func229, Tryz.ntmps229
  go_wp2_with (go_at_call 239; refine H.out.mono ?_; rintro e w1 ⟨rfl, rfl⟩)
  all_goals (go_ret; refine ⟨?_, rfl⟩; rw [Hy.out]; refine retb ?_; clear Hy H; cases a <;> (simp [wk3] at *; try omega))
set_option maxRecDepth 100000 in
theorem worked79 (w : World) (t : Nat) : Calls Tryz.prog 229 #[.int .u8 79, yv t] w fun e w' => e = .returned (.bool (workedN 79 t)) ∧ w = w' := by
  have Hy := Lib.hid (show workedN 79 t = wk3 (atomicN t) t from rfl)
  have H := Lib.hid (atomic_any w t)
  generalize workedN 79 t = R at *
  generalize atomicN t = a at *
  unfold yv at *
  go_enter Tryz.func229, Tryz.ntmps229
  go_wp2_with (go_at_call 239; refine H.out.mono ?_; rintro e w1 ⟨rfl, rfl⟩)
  all_goals (go_ret; refine ⟨?_, rfl⟩; rw [Hy.out]; refine retb ?_; clear Hy H; cases a <;> (simp [wk3] at *; try omega))
set_option maxRecDepth 100000 in
theorem worked81 (w : World) (t : Nat) : Calls Tryz.prog 229 #[.int .u8 81, yv t] w fun e w' => e = .returned (.bool (workedN 81 t)) ∧ w = w' := by
  have Hy := Lib.hid (show workedN 81 t = wk3 (atomicN t) t from rfl)
  have H := Lib.hid (atomic_any w t)
  generalize workedN 81 t = R at *
  generalize atomicN t = a at *
  unfold yv at *
  go_enter Tryz.func229, Tryz.ntmps229
  go_wp2_with (go_at_call 239; refine H.out.mono ?_; rintro e w1 ⟨rfl, rfl⟩)
  all_goals (go_ret; refine ⟨?_, rfl⟩; rw [Hy.out]; refine retb ?_; clear Hy H; cases a <;> (simp [wk3] at *; try omega))
set_option maxRecDepth 100000 in
theorem worked82 (w : World) (t : Nat) : Calls Tryz.prog 229 #[.int .u8 82, yv t] w fun e w' => e = .returned (.bool (workedN 82 t)) ∧ w = w' := by
  have Hy := Lib.hid (show workedN 82 t = wk4 (atomicN t) t from rfl)
  have H := Lib.hid (atomic_any w t)
  generalize workedN 82 t = R at *
  generalize atomicN t = a at *
  unfold yv at *
  go_enter Tryz.func229, Tryz.ntmps229
  go_wp2_with (go_at_call 239; refine H.out.mono ?_; rintro e w1 ⟨rfl, rfl⟩)
  all_goals (go_ret; refine ⟨?_, rfl⟩; rw [Hy.out]; refine retb ?_; clear Hy H; cases a <;> (simp [wk4] at *; try omega))
set_option maxRecDepth 100000 in
theorem worked71 (w : World) (t : Nat) : Calls Tryz.prog 229 #[.int .u8 71, yv t] w fun e w' => e = .returned (.bool (workedN 71 t)) ∧ w = w' := by
  have Hy := Lib.hid (show workedN 71 t = wk5 (atomicN t) t from rfl)
  have H := Lib.hid (atomic_any w t)
  generalize workedN 71 t = R at *
  generalize atomicN t = a at *
  unfold yv at *
  go_enter Tryz.func229, Tryz.ntmps229
  go_wp2_with (go_at_call 239; refine H.out.mono ?_; rintro e w1 ⟨rfl, rfl⟩)
  all_goals (go_ret; refine ⟨?_, rfl⟩; rw [Hy.out]; refine retb ?_; clear Hy H; cases a <;> (simp [wk5] at *; try omega))
set_option maxRecDepth 100000 in
theorem worked73 (w : World) (t : Nat) : Calls Tryz.prog 229 #[.int .u8 73, yv t] w fun e w' => e = .returned (.bool (workedN 73 t)) ∧ w = w' := by
  have Hy := Lib.hid (show workedN 73 t = wk6 (atomicN t) t from rfl)
  have H := Lib.hid (atomic_any w t)
  generalize workedN 73 t = R at *
  generalize atomicN t = a at *
  unfold yv at *
  go_enter Tryz.func229, Tryz.ntmps229
  go_wp2_with (go_at_call 239; refine H.out.mono ?_; rintro e w1 ⟨rfl, rfl⟩)
  all_goals (go_ret; refine ⟨?_, rfl⟩; rw [Hy.out]; refine retb ?_; clear Hy H; cases a <;> (simp [wk6] at *; try omega))
set_option maxRecDepth 100000 in
theorem worked76 (w : World) (t : Nat) : Calls Tryz.prog 229 #[.int .u8 76, yv t] w fun e w' => e = .returned (.bool (workedN 76 t)) ∧ w = w' := by
  have Hy := Lib.hid (show workedN 76 t = wk7 (atomicN t) t from rfl)
  have H := Lib.hid (atomic_any w t)
  generalize workedN 76 t = R at *
  generalize atomicN t = a at *
  unfold yv at *
  go_enter Tryz.func229, Tryz.ntmps229
  go_wp2_with (go_at_call 239; refine H.out.mono ?_; rintro e w1 ⟨rfl, rfl⟩)
  all_goals (go_ret; refine ⟨?_, rfl⟩; rw [Hy.out]; refine retb ?_; clear Hy H; cases a <;> (simp [wk7] at *; try omega))
set_option maxRecDepth 100000 in
theorem worked78 (w : World) (t : Nat) : Calls Tryz.prog 229 #[.int .u8 78, yv t] w fun e w' => e = .returned (.bool (workedN 78 t)) ∧ w = w' := by
  have Hy := Lib.hid (show workedN 78 t = wk8 (atomicN t) t from rfl)
  have H := Lib.hid (atomic_any w t)
  generalize workedN 78 t = R at *
  generalize atomicN t = a at *
  unfold yv at *
  go_enter Tryz.func229, Tryz.ntmps229
  go_wp2_with (go_at_call 239; refine H.out.mono ?_; rintro e w1 ⟨rfl, rfl⟩)
  all_goals (go_ret; refine ⟨?_, rfl⟩; rw [Hy.out]; refine retb ?_; clear Hy H; cases a <;> (simp [wk8] at *; try omega))
set_option maxRecDepth 100000 in
theorem worked80 (w : World) (t : Nat) : Calls Tryz.prog 229 #[.int .u8 80, yv t] w fun e w' => e = .returned (.bool (workedN 80 t)) ∧ w = w' := by
  have Hy := Lib.hid (show workedN 80 t = wk9 (atomicN t) t from rfl)
  have H := Lib.hid (atomic_any w t)
  generalize workedN 80 t = R at *
  generalize atomicN t = a at *
  unfold yv at *
  go_enter Tryz.func229, Tryz.ntmps229
  go_wp2_with (go_at_call 239; refine H.out.mono ?_; rintro e w1 ⟨rfl, rfl⟩)
  all_goals (go_ret; refine ⟨?_, rfl⟩; rw [Hy.out]; refine retb ?_; clear Hy H; cases a <;> (simp [wk9] at *; try omega))
end Go.Proofs.YtmmjcbbogokmfaaGreatDoor
