import Derived.Test.YtmmjcbbogokmfaaGreatDoorMf01
import Derived.Test.YtmmjcbbogokmfaaGreatDoorMf09
import Derived.Test.YtmmjcbbogokmfaaGreatDoorRows
set_option maxRecDepth 100000
set_option maxHeartbeats 25600000
namespace Go.Proofs.YtmmjcbbogokmfaaGreatDoor
open Go.RowKit
theorem retb {a b : Bool} (h : a = true ↔ b = true) : Ending.returned (.bool a) = Ending.returned (.bool b) := by rw [Bool.eq_iff_iff.2 h]
theorem letter_any (w : World) (c : UInt8) : Calls Tryz.prog 128 #[bv c] w fun e w' => e = .returned (.bool (letC c)) /\ w = w' := by
  have Hy := jJ0 (show letC c = decide (97 <= c.toNat /\ c.toNat <= 122) from rfl)
  have h8 := c.toNat_lt
  generalize letC c = R at *
  unfold bv
  generalize c.toNat = k at *
  go_enter Tryz.func128, Tryz.ntmps128
  go_wp2
  all_goals (go_ret; refine ⟨?_, rfl⟩; rw [Hy.out]; refine retb ?_; simp <;> omega)
theorem digit_any (w : World) (c : UInt8) : Calls Tryz.prog 158 #[bv c] w fun e w' => e = .returned (.bool (digC c)) /\ w = w' := by
  have Hy := jJ0 (show digC c = decide (48 <= c.toNat /\ c.toNat <= 57) from rfl)
  have h8 := c.toNat_lt
  generalize digC c = R at *
  unfold bv
  generalize c.toNat = k at *
  go_enter Tryz.func158, Tryz.ntmps158
  go_wp2
  all_goals (go_ret; refine ⟨?_, rfl⟩; rw [Hy.out]; refine retb ?_; simp <;> omega)
theorem kw (w : World) (c : UInt8) : Calls Tryz.prog 129 #[bv c] w fun e w' => e = .returned (.bool (jH c)) /\ w = w' := by
  have Hy := jJ0 (show jH c = (letC c || digC c || decide (c.toNat = 95)) from rfl)
  have H1 := jJ0 (letter_any w c)
  have H2 := jJ0 (digit_any w c)
  have h8 := c.toNat_lt
  generalize letC c = L at *
  generalize digC c = D at *
  generalize jH c = R at *
  unfold bv at *
  generalize c.toNat = k at *
  go_enter Tryz.func129, Tryz.ntmps129
  go_wp2_with fail
  refine H1.out.mono ?_
  rintro e w1 ⟨rfl, rfl⟩
  cases L
  · go_wp2_with fail
    refine H2.out.mono ?_
    rintro e w1 ⟨rfl, rfl⟩
    cases D
    · go_wp2
      all_goals (go_ret; refine ⟨?_, rfl⟩; rw [Hy.out]; refine retb ?_; simp <;> omega)
    · go_wp2
      all_goals (go_ret; refine ⟨?_, rfl⟩; rw [Hy.out]; rfl)
  · go_wp2
    all_goals (go_ret; refine ⟨?_, rfl⟩; rw [Hy.out]; rfl)
def wvs (l : List (List UInt8)) : List Value := l.map fun s => sv ⟨s.toArray⟩
structure Sg (w : World) : Prop where
  res : w.rangeAt 0 0 (wvs resL)
  sig : w.rangeAt 2 0 (wvs signL)
theorem rangeAt_kp {X : Nat -> Prop} {w w' : World} {b o : Nat} {cs : List Value} (h : w.rangeAt b o cs) (hk : Kp X w w') (hx : ¬ X b) : w'.rangeAt b o cs := fun j v hv => by
  have h1 := h j v hv
  rw [World.cell?_of_block (hk.block b (jj h1) hx)]
  exact h1
theorem Sg.kp {X : Nat -> Prop} {w w' : World} (h : Sg w) (hk : Kp X w w') (h0 : ¬ X 0) (h2 : ¬ X 2) : Sg w' := ⟨rangeAt_kp h.res hk h0, rangeAt_kp h.sig hk h2⟩
theorem Sg.old {w w' : World} (h : Sg w) (hk : Old w w') : Sg w' := h.kp hk (fun f => f) (fun f => f)
theorem idxFrom_skip (k : Nat) (w : List UInt8) (l : List (List UInt8)) (j : Nat) (hj : j < l.length) : jm (k + j) w (l.drop j) = if l[j] = w then k + j else jm (k + (j + 1)) w (l.drop (j + 1)) := by
  rw [List.drop_eq_getElem_cons hj, jm]
  rfl
theorem wvs_at (l : List (List UInt8)) (j : Nat) (hj : j < l.length) : (wvs l)[j]? = some (.string ⟨l[j].toArray⟩) := by
  unfold wvs
  rw [List.getElem?_map, List.getElem?_eq_getElem hj]
  rfl
theorem wvs_len (l : List (List UInt8)) : (wvs l).length = l.length := List.length_map _
theorem mk_eq {a : List UInt8} {s : ByteArray} : (⟨a.toArray⟩ : ByteArray) = s ↔ a = sb s := ⟨fun h => by rw [<- h]; rfl, fun h => by rw [h, mk_sb]⟩
theorem bytes_same {a b : ByteArray} (h : a.toList = b.toList) : a = b := by
  rw [ByteArray.toList_eq, ByteArray.toList_eq] at h
  exact sb_inj h
theorem at_loadE {P : Program} {ops : Array Oper} {rest : List Oper} {d : Option Tmp} {ty : TypeId} {pos : String} {after : Array Edge} {gd : Option (Nat × Bool)} {a : Act} {w : World} {Q : Exit -> Act -> World -> Prop} (t : TypeId) (x : Operand)
    (h : wpList P ops Q (⟨d, .load t x, ty, pos, after, gd⟩ :: rest) a w) : wpList P ops Q (⟨d, .load t x, ty, pos, after, gd⟩ :: rest) a w := h
theorem at_store {P : Program} {ops : Array Oper} {rest : List Oper} {d : Option Tmp} {ty : TypeId} {pos : String} {after : Array Edge} {gd : Option (Nat × Bool)} {a : Act} {w : World} {Q : Exit -> Act -> World -> Prop} (t : TypeId) (x y : Operand)
    (h : wpList P ops Q (⟨d, .store t x y, ty, pos, after, gd⟩ :: rest) a w) : wpList P ops Q (⟨d, .store t x y, ty, pos, after, gd⟩ :: rest) a w := h
theorem Tryz.load_w {ops : Array Oper} {rest : List Oper} {op : Oper} {a : Act} {w : World} {Q : Exit -> Act -> World -> Prop} (hw : Region.wanted op (yielded ops a.tmps) = true) (ty : TypeId) (x : Operand) (ho : op.op = .load ty x)
    (b o : Nat) (hx : a.eval x = .pointer (some ⟨b, o, none⟩)) (cs : List Value) (d : TypeDesc) (hc : w.rangeAt b o cs)
    (hu : Tryz.prog.underlying ty = some d) (hd : d.isRow = true) (hi : (Tryz.prog.info? ty).map (·.size) = some cs.length)
    (h : wpList Tryz.prog ops Q rest (a.put op.dst (.agg cs.toArray)) w) : wpList Tryz.prog ops Q (op :: rest) a w :=
  wpList_step fun K hK => by simp only [hw, if_true]; exact wp_load_mid ty x ho b o hx cs d hc hu hd hi (hK _ _ h)
theorem Tryz.size35 : (Tryz.prog.info? 205).map (·.size) = some 35 := by kernel_rfl
theorem Tryz.index35 (w : World) (cs : List Value) (j : Nat) (x : ByteArray) (hx : cs[j]? = some (.string x)) (hlt : j < 35) : (Instr.index 205 (.agg cs.toArray) (.int .i64 (j : Int))).run Tryz.prog w = .ok (.string x) w := by
  have h3 : (sizeOf 9).run Tryz.prog w = .ok 1 w := by kernel_rfl
  simp [Instr.index, asIntOf, run_underlying Tryz.underlying205, part, h3, hx, hlt]
theorem word_any9 (w : World) (hg : Sg w) (s : ByteArray) : Calls Tryz.prog 130 #[.string s] w fun e w' => e = .returned (.int .u8 (kc (sb s) : Nat)) /\ w = w' := by
  have Hy := jJ0 (show kc (sb s) = jm (23 + 0) (sb s) (resL.drop 0) from rfl)
  have Hres := jJ0 hg.res
  have Hx := jJ0 (fun j (hj : j < 35) => wvs_at resL j hj)
  have Hsk := jJ0 (fun j (hj : j < 35) => idxFrom_skip 23 (sb s) resL j hj)
  have Hsz := jJ0 (show (Tryz.prog.info? 205).map (·.size) = some (wvs resL).length from Tryz.size35)
  have Hend := jJ0 (show jm (23 + 35) (sb s) (resL.drop 35) = 0 from rfl)
  generalize kc (sb s) = R at *
  generalize hcs : wvs resL = cs at *
  clear hcs hg
  go_enter Tryz.func130, Tryz.ntmps130
  go_wp2_with (first | ((with_reducible refine at_loadE 205 (.global 0) ?_); refine Tryz.load_w rfl 205 (.global 0) rfl 0 0 rfl cs _ Hres.out Tryz.underlying205 rfl Hsz.out ?_) | fail)
  go_loop [6] (fun i => ∃ j : Nat, j <= 35 /\ i = .int .i64 j /\ R = jm (23 + j) (sb s) (resL.drop j)) (fun i => 35 - (intOf i).toNat)
  case atStart => exact ⟨0, by omega, rfl, Hy.out⟩
  case round =>
    obtain ⟨j, hj, rfl, hR⟩ := hrel
    by_cases hlt : j < 35
    · have hx := Hx.out j hlt
      have hsk := Hsk.out j hlt
      rw [hsk] at hR
      clear hsk
      generalize resL[j]'hlt = rw at *
      have b1 : (j : Int) < 35 := by omega
      have b2 : (0 : Int) <= (j : Int) := by omega
      have b3 : (j : Int).toNat = j := by omega
      have hix := fun w' => Tryz.index35 w' cs j _ hx hlt
      clear hx
      by_cases he : rw = sb s
      · rw [if_pos he] at hR
        rw [mk_eq.2 he] at hix
        clear he
        have HR := jJ0 hR
        clear hR
        have b4 : IntKind.u8.wrap (j : Int) = (j : Int) := IntWalk.u8_in _ (by omega)
        have b5 : IntKind.u8.wrap (23 + (j : Int)) = 23 + (j : Int) := IntWalk.u8_in _ (by omega)
        go_wp2
        go_ret
        exact ⟨by rw [HR.out]; simp, rfl⟩
      · rw [if_neg he] at hR
        have hne : ¬ (⟨rw.toArray⟩ : ByteArray) = s := fun h => he (mk_eq.1 h)
        clear he
        generalize (⟨rw.toArray⟩ : ByteArray) = x at *
        have HR := jJ0 hR
        clear hR
        have hne2 : (x.toList == s.toList) = false := beq_eq_false_iff_ne.2 (fun h => hne (bytes_same h))
        clear hne
        go_wp2
        exact ⟨⟨j + 1, by omega, by go_num, HR.out⟩, by simp [intOf]; omega⟩
    · obtain rfl : j = 35 := by omega
      rw [Hend.out] at hR
      have HR := jJ0 hR
      clear hR
      go_wp2
      go_ret
      exact ⟨by rw [HR.out]; rfl, rfl⟩
theorem Tryz.size19 : (Tryz.prog.info? 252).map (·.size) = some 19 := by kernel_rfl
theorem Tryz.index19 (w : World) (cs : List Value) (j : Nat) (x : ByteArray) (hx : cs[j]? = some (.string x)) (hlt : j < 19) : (Instr.index 252 (.agg cs.toArray) (.int .i64 (j : Int))).run Tryz.prog w = .ok (.string x) w := by
  have h3 : (sizeOf 9).run Tryz.prog w = .ok 1 w := by kernel_rfl
  simp [Instr.index, asIntOf, run_underlying Tryz.underlying252, part, h3, hx, hlt]
theorem sign_any9 (w : World) (hg : Sg w) (s : ByteArray) : Calls Tryz.prog 145 #[.string s] w fun e w' => e = .returned (.int .u8 (jV (sb s) : Nat)) /\ w = w' := by
  have Hy := jJ0 (show jV (sb s) = jm (4 + 0) (sb s) (signL.drop 0) from rfl)
  have Hres := jJ0 hg.sig
  have Hx := jJ0 (fun j (hj : j < 19) => wvs_at signL j hj)
  have Hsk := jJ0 (fun j (hj : j < 19) => idxFrom_skip 4 (sb s) signL j hj)
  have Hsz := jJ0 (show (Tryz.prog.info? 252).map (·.size) = some (wvs signL).length from Tryz.size19)
  have Hend := jJ0 (show jm (4 + 19) (sb s) (signL.drop 19) = 0 from rfl)
  generalize jV (sb s) = R at *
  generalize hcs : wvs signL = cs at *
  clear hcs hg
  go_enter Tryz.func145, Tryz.ntmps145
  go_wp2_with (first | ((with_reducible refine at_loadE 252 (.global 2) ?_); refine Tryz.load_w rfl 252 (.global 2) rfl 2 0 rfl cs _ Hres.out Tryz.underlying252 rfl Hsz.out ?_) | fail)
  go_loop [6] (fun i => ∃ j : Nat, j <= 19 /\ i = .int .i64 j /\ R = jm (4 + j) (sb s) (signL.drop j)) (fun i => 19 - (intOf i).toNat)
  case atStart => exact ⟨0, by omega, rfl, Hy.out⟩
  case round =>
    obtain ⟨j, hj, rfl, hR⟩ := hrel
    by_cases hlt : j < 19
    · have hx := Hx.out j hlt
      have hsk := Hsk.out j hlt
      rw [hsk] at hR
      clear hsk
      generalize signL[j]'hlt = rw at *
      have b1 : (j : Int) < 19 := by omega
      have b2 : (0 : Int) <= (j : Int) := by omega
      have b3 : (j : Int).toNat = j := by omega
      have hix := fun w' => Tryz.index19 w' cs j _ hx hlt
      clear hx
      by_cases he : rw = sb s
      · rw [if_pos he] at hR
        rw [mk_eq.2 he] at hix
        clear he
        have HR := jJ0 hR
        clear hR
        have b4 : IntKind.u8.wrap (j : Int) = (j : Int) := IntWalk.u8_in _ (by omega)
        have b5 : IntKind.u8.wrap (4 + (j : Int)) = 4 + (j : Int) := IntWalk.u8_in _ (by omega)
        go_wp2
        go_ret
        exact ⟨by rw [HR.out]; simp, rfl⟩
      · rw [if_neg he] at hR
        have hne : ¬ (⟨rw.toArray⟩ : ByteArray) = s := fun h => he (mk_eq.1 h)
        clear he
        generalize (⟨rw.toArray⟩ : ByteArray) = x at *
        have HR := jJ0 hR
        clear hR
        have hne2 : (x.toList == s.toList) = false := beq_eq_false_iff_ne.2 (fun h => hne (bytes_same h))
        clear hne
        go_wp2
        exact ⟨⟨j + 1, by omega, by go_num, HR.out⟩, by simp [intOf]; omega⟩
    · obtain rfl : j = 19 := by omega
      rw [Hend.out] at hR
      have HR := jJ0 hR
      clear hR
      go_wp2
      go_ret
      exact ⟨by rw [HR.out]; rfl, rfl⟩
def yv (n : Nat) : Value := .int .u8 (n : Int)
theorem ju (w : World) (t : Nat) : Calls Tryz.prog 239 #[yv t] w fun e w' => e = .returned (.bool (jZ t)) /\ w = w' := by
  have Hy := jJ0 (show jZ t = decide (t = 2 \/ t = 46 \/ t = 47 \/ t = 3 \/ t = 48 \/ t = 1 \/ t = 6 \/ t = 4 \/ t = 31 \/ (49 <= t /\ t <= 57)) from rfl)
  generalize jZ t = R at *
  unfold yv
  go_enter Tryz.func239, Tryz.ntmps239
  go_wp2
  all_goals (go_ret; refine ⟨?_, rfl⟩; rw [Hy.out]; refine retb ?_; simp only [beq_iff_eq, beq_eq_false_iff_ne, ne_eq, decide_eq_true_eq, Bool.false_eq_true, true_iff, false_iff] at *; omega)
theorem empty_any (w : World) (n : Nat) : Calls Tryz.prog 202 #[yv n] w fun e w' => e = .returned (.bool (jf n)) /\ w = w' := by
  have Hy := jJ0 (show jf n = decide (n = 58 \/ n = 59 \/ n = 61 \/ n = 62 \/ n = 63 \/ n = 64 \/ n = 65 \/ n = 66 \/ n = 67 \/ n = 68 \/ n = 71 \/ n = 73 \/ n = 76 \/ n = 78 \/ n = 80 \/ n = 83 \/ n = 84) from rfl)
  generalize jf n = R at *
  unfold yv
  go_enter Tryz.func202, Tryz.ntmps202
  go_wp2
  all_goals (go_ret; refine ⟨?_, rfl⟩; rw [Hy.out]; refine retb ?_; simp only [beq_iff_eq, beq_eq_false_iff_ne, ne_eq, decide_eq_true_eq, Bool.false_eq_true, true_iff, false_iff] at *; omega)
def wk1 (a : Bool) (t : Nat) : Bool := decide (t = 40 \/ t = 45 \/ t = 19) || a
def wk2 (a : Bool) (t : Nat) : Bool := decide (t = 45 \/ t = 19) || a
def wk3 (a : Bool) (t : Nat) : Bool := decide (t = 19) || a
def wk4 (a : Bool) (_ : Nat) : Bool := a
def wk5 (_ : Bool) (t : Nat) : Bool := decide (t = 43)
def wk6 (_ : Bool) (t : Nat) : Bool := decide (t = 44)
def wk7 (_ : Bool) (t : Nat) : Bool := decide ((12 <= t /\ t <= 17) \/ t = 28)
def wk8 (_ : Bool) (t : Nat) : Bool := decide (t = 18 \/ t = 19)
def wk9 (_ : Bool) (t : Nat) : Bool := decide (20 <= t /\ t <= 22)
theorem iff_dec {p : Prop} [Decidable p] {b : Bool} (h : b = true ↔ p) : b = decide p := by
  rw [Bool.eq_iff_iff, decide_eq_true_iff]; exact h
theorem worked83 (w : World) (t : Nat) : Calls Tryz.prog 229 #[.int .u8 83, yv t] w fun e w' => e = .returned (.bool (jL 83 t)) /\ w = w' := by
  have Hy := jJ0 (show jL 83 t = wk1 (jZ t) t from rfl)
  have H := jJ0 (ju w t)
  generalize jL 83 t = R at *
  generalize jZ t = a at *
  unfold yv at *
  go_enter Tryz.func229, Tryz.ntmps229
  go_wp2_with (go_at_call 239; refine H.out.mono ?_; rintro e w1 ⟨rfl, rfl⟩)
  all_goals (go_ret; refine ⟨?_, rfl⟩; rw [Hy.out]; refine retb ?_; clear Hy H; cases a <;> (simp [wk1] at *; try omega))
theorem worked69 (w : World) (t : Nat) : Calls Tryz.prog 229 #[.int .u8 69, yv t] w fun e w' => e = .returned (.bool (jL 69 t)) /\ w = w' := by
  have Hy := jJ0 (show jL 69 t = wk1 (jZ t) t from rfl)
  have H := jJ0 (ju w t)
  generalize jL 69 t = R at *
  generalize jZ t = a at *
  unfold yv at *
  go_enter Tryz.func229, Tryz.ntmps229
  go_wp2_with (go_at_call 239; refine H.out.mono ?_; rintro e w1 ⟨rfl, rfl⟩)
  all_goals (go_ret; refine ⟨?_, rfl⟩; rw [Hy.out]; refine retb ?_; clear Hy H; cases a <;> (simp [wk1] at *; try omega))
theorem worked70 (w : World) (t : Nat) : Calls Tryz.prog 229 #[.int .u8 70, yv t] w fun e w' => e = .returned (.bool (jL 70 t)) /\ w = w' := by
  have Hy := jJ0 (show jL 70 t = wk2 (jZ t) t from rfl)
  have H := jJ0 (ju w t)
  generalize jL 70 t = R at *
  generalize jZ t = a at *
  unfold yv at *
  go_enter Tryz.func229, Tryz.ntmps229
  go_wp2_with (go_at_call 239; refine H.out.mono ?_; rintro e w1 ⟨rfl, rfl⟩)
  all_goals (go_ret; refine ⟨?_, rfl⟩; rw [Hy.out]; refine retb ?_; clear Hy H; cases a <;> (simp [wk2] at *; try omega))
theorem worked72 (w : World) (t : Nat) : Calls Tryz.prog 229 #[.int .u8 72, yv t] w fun e w' => e = .returned (.bool (jL 72 t)) /\ w = w' := by
  have Hy := jJ0 (show jL 72 t = wk2 (jZ t) t from rfl)
  have H := jJ0 (ju w t)
  generalize jL 72 t = R at *
  generalize jZ t = a at *
  unfold yv at *
  go_enter Tryz.func229, Tryz.ntmps229
  go_wp2_with (go_at_call 239; refine H.out.mono ?_; rintro e w1 ⟨rfl, rfl⟩)
  all_goals (go_ret; refine ⟨?_, rfl⟩; rw [Hy.out]; refine retb ?_; clear Hy H; cases a <;> (simp [wk2] at *; try omega))
theorem worked74 (w : World) (t : Nat) : Calls Tryz.prog 229 #[.int .u8 74, yv t] w fun e w' => e = .returned (.bool (jL 74 t)) /\ w = w' := by
  have Hy := jJ0 (show jL 74 t = wk2 (jZ t) t from rfl)
  have H := jJ0 (ju w t)
  generalize jL 74 t = R at *
  generalize jZ t = a at *
  unfold yv at *
  go_enter Tryz.func229, Tryz.ntmps229
  go_wp2_with (go_at_call 239; refine H.out.mono ?_; rintro e w1 ⟨rfl, rfl⟩)
  all_goals (go_ret; refine ⟨?_, rfl⟩; rw [Hy.out]; refine retb ?_; clear Hy H; cases a <;> (simp [wk2] at *; try omega))
theorem worked75 (w : World) (t : Nat) : Calls Tryz.prog 229 #[.int .u8 75, yv t] w fun e w' => e = .returned (.bool (jL 75 t)) /\ w = w' := by
  have Hy := jJ0 (show jL 75 t = wk3 (jZ t) t from rfl)
  have H := jJ0 (ju w t)
  generalize jL 75 t = R at *
  generalize jZ t = a at *
  unfold yv at *
  go_enter Tryz.func229, Tryz.ntmps229
  go_wp2_with (go_at_call 239; refine H.out.mono ?_; rintro e w1 ⟨rfl, rfl⟩)
  all_goals (go_ret; refine ⟨?_, rfl⟩; rw [Hy.out]; refine retb ?_; clear Hy H; cases a <;> (simp [wk3] at *; try omega))
theorem worked77 (w : World) (t : Nat) : Calls Tryz.prog 229 #[.int .u8 77, yv t] w fun e w' => e = .returned (.bool (jL 77 t)) /\ w = w' := by
  have Hy := jJ0 (show jL 77 t = wk3 (jZ t) t from rfl)
  have H := jJ0 (ju w t)
  generalize jL 77 t = R at *
  generalize jZ t = a at *
  unfold yv at *
  go_enter Tryz.func229, Tryz.ntmps229
  go_wp2_with (go_at_call 239; refine H.out.mono ?_; rintro e w1 ⟨rfl, rfl⟩)
  all_goals (go_ret; refine ⟨?_, rfl⟩; rw [Hy.out]; refine retb ?_; clear Hy H; cases a <;> (simp [wk3] at *; try omega))
theorem worked79 (w : World) (t : Nat) : Calls Tryz.prog 229 #[.int .u8 79, yv t] w fun e w' => e = .returned (.bool (jL 79 t)) /\ w = w' := by
  have Hy := jJ0 (show jL 79 t = wk3 (jZ t) t from rfl)
  have H := jJ0 (ju w t)
  generalize jL 79 t = R at *
  generalize jZ t = a at *
  unfold yv at *
  go_enter Tryz.func229, Tryz.ntmps229
  go_wp2_with (go_at_call 239; refine H.out.mono ?_; rintro e w1 ⟨rfl, rfl⟩)
  all_goals (go_ret; refine ⟨?_, rfl⟩; rw [Hy.out]; refine retb ?_; clear Hy H; cases a <;> (simp [wk3] at *; try omega))
theorem worked81 (w : World) (t : Nat) : Calls Tryz.prog 229 #[.int .u8 81, yv t] w fun e w' => e = .returned (.bool (jL 81 t)) /\ w = w' := by
  have Hy := jJ0 (show jL 81 t = wk3 (jZ t) t from rfl)
  have H := jJ0 (ju w t)
  generalize jL 81 t = R at *
  generalize jZ t = a at *
  unfold yv at *
  go_enter Tryz.func229, Tryz.ntmps229
  go_wp2_with (go_at_call 239; refine H.out.mono ?_; rintro e w1 ⟨rfl, rfl⟩)
  all_goals (go_ret; refine ⟨?_, rfl⟩; rw [Hy.out]; refine retb ?_; clear Hy H; cases a <;> (simp [wk3] at *; try omega))
theorem worked82 (w : World) (t : Nat) : Calls Tryz.prog 229 #[.int .u8 82, yv t] w fun e w' => e = .returned (.bool (jL 82 t)) /\ w = w' := by
  have Hy := jJ0 (show jL 82 t = wk4 (jZ t) t from rfl)
  have H := jJ0 (ju w t)
  generalize jL 82 t = R at *
  generalize jZ t = a at *
  unfold yv at *
  go_enter Tryz.func229, Tryz.ntmps229
  go_wp2_with (go_at_call 239; refine H.out.mono ?_; rintro e w1 ⟨rfl, rfl⟩)
  all_goals (go_ret; refine ⟨?_, rfl⟩; rw [Hy.out]; refine retb ?_; clear Hy H; cases a <;> (simp [wk4] at *; try omega))
theorem worked71 (w : World) (t : Nat) : Calls Tryz.prog 229 #[.int .u8 71, yv t] w fun e w' => e = .returned (.bool (jL 71 t)) /\ w = w' := by
  have Hy := jJ0 (show jL 71 t = wk5 (jZ t) t from rfl)
  have H := jJ0 (ju w t)
  generalize jL 71 t = R at *
  generalize jZ t = a at *
  unfold yv at *
  go_enter Tryz.func229, Tryz.ntmps229
  go_wp2_with (go_at_call 239; refine H.out.mono ?_; rintro e w1 ⟨rfl, rfl⟩)
  all_goals (go_ret; refine ⟨?_, rfl⟩; rw [Hy.out]; refine retb ?_; clear Hy H; cases a <;> (simp [wk5] at *; try omega))
theorem worked73 (w : World) (t : Nat) : Calls Tryz.prog 229 #[.int .u8 73, yv t] w fun e w' => e = .returned (.bool (jL 73 t)) /\ w = w' := by
  have Hy := jJ0 (show jL 73 t = wk6 (jZ t) t from rfl)
  have H := jJ0 (ju w t)
  generalize jL 73 t = R at *
  generalize jZ t = a at *
  unfold yv at *
  go_enter Tryz.func229, Tryz.ntmps229
  go_wp2_with (go_at_call 239; refine H.out.mono ?_; rintro e w1 ⟨rfl, rfl⟩)
  all_goals (go_ret; refine ⟨?_, rfl⟩; rw [Hy.out]; refine retb ?_; clear Hy H; cases a <;> (simp [wk6] at *; try omega))
theorem worked76 (w : World) (t : Nat) : Calls Tryz.prog 229 #[.int .u8 76, yv t] w fun e w' => e = .returned (.bool (jL 76 t)) /\ w = w' := by
  have Hy := jJ0 (show jL 76 t = wk7 (jZ t) t from rfl)
  have H := jJ0 (ju w t)
  generalize jL 76 t = R at *
  generalize jZ t = a at *
  unfold yv at *
  go_enter Tryz.func229, Tryz.ntmps229
  go_wp2_with (go_at_call 239; refine H.out.mono ?_; rintro e w1 ⟨rfl, rfl⟩)
  all_goals (go_ret; refine ⟨?_, rfl⟩; rw [Hy.out]; refine retb ?_; clear Hy H; cases a <;> (simp [wk7] at *; try omega))
theorem worked78 (w : World) (t : Nat) : Calls Tryz.prog 229 #[.int .u8 78, yv t] w fun e w' => e = .returned (.bool (jL 78 t)) /\ w = w' := by
  have Hy := jJ0 (show jL 78 t = wk8 (jZ t) t from rfl)
  have H := jJ0 (ju w t)
  generalize jL 78 t = R at *
  generalize jZ t = a at *
  unfold yv at *
  go_enter Tryz.func229, Tryz.ntmps229
  go_wp2_with (go_at_call 239; refine H.out.mono ?_; rintro e w1 ⟨rfl, rfl⟩)
  all_goals (go_ret; refine ⟨?_, rfl⟩; rw [Hy.out]; refine retb ?_; clear Hy H; cases a <;> (simp [wk8] at *; try omega))
theorem worked80 (w : World) (t : Nat) : Calls Tryz.prog 229 #[.int .u8 80, yv t] w fun e w' => e = .returned (.bool (jL 80 t)) /\ w = w' := by
  have Hy := jJ0 (show jL 80 t = wk9 (jZ t) t from rfl)
  have H := jJ0 (ju w t)
  generalize jL 80 t = R at *
  generalize jZ t = a at *
  unfold yv at *
  go_enter Tryz.func229, Tryz.ntmps229
  go_wp2_with (go_at_call 239; refine H.out.mono ?_; rintro e w1 ⟨rfl, rfl⟩)
  all_goals (go_ret; refine ⟨?_, rfl⟩; rw [Hy.out]; refine retb ?_; clear Hy H; cases a <;> (simp [wk9] at *; try omega))
theorem worked_no (n t : Nat) (h69 : n ≠ 69) (h70 : n ≠ 70) (h71 : n ≠ 71) (h72 : n ≠ 72) (h73 : n ≠ 73) (h74 : n ≠ 74) (h75 : n ≠ 75) (h76 : n ≠ 76) (h77 : n ≠ 77) (h78 : n ≠ 78) (h79 : n ≠ 79) (h80 : n ≠ 80) (h81 : n ≠ 81) (h82 : n ≠ 82) (h83 : n ≠ 83) : jL n t = false := by
  unfold jL
  rw [if_neg (by omega), if_neg (by omega), if_neg (by omega), if_neg (by omega), if_neg (by omega), if_neg (by omega), if_neg (by omega), if_neg (by omega), if_neg (by omega)]
theorem worked_any (w : World) (n t : Nat) : Calls Tryz.prog 229 #[yv n, yv t] w fun e w' => e = .returned (.bool (jL n t)) /\ w = w' := by
  by_cases h69 : n = 69
  · subst h69; exact worked69 w t
  by_cases h70 : n = 70
  · subst h70; exact worked70 w t
  by_cases h71 : n = 71
  · subst h71; exact worked71 w t
  by_cases h72 : n = 72
  · subst h72; exact worked72 w t
  by_cases h73 : n = 73
  · subst h73; exact worked73 w t
  by_cases h74 : n = 74
  · subst h74; exact worked74 w t
  by_cases h75 : n = 75
  · subst h75; exact worked75 w t
  by_cases h76 : n = 76
  · subst h76; exact worked76 w t
  by_cases h77 : n = 77
  · subst h77; exact worked77 w t
  by_cases h78 : n = 78
  · subst h78; exact worked78 w t
  by_cases h79 : n = 79
  · subst h79; exact worked79 w t
  by_cases h80 : n = 80
  · subst h80; exact worked80 w t
  by_cases h81 : n = 81
  · subst h81; exact worked81 w t
  by_cases h82 : n = 82
  · subst h82; exact worked82 w t
  by_cases h83 : n = 83
  · subst h83; exact worked83 w t
  have Hy := jJ0 (worked_no n t h69 h70 h71 h72 h73 h74 h75 h76 h77 h78 h79 h80 h81 h82 h83)
  generalize jL n t = R at *
  have b69 : ((n : Int) == 69) = false := beq_eq_false_iff_ne.2 (by omega)
  have b70 : ((n : Int) == 70) = false := beq_eq_false_iff_ne.2 (by omega)
  have b71 : ((n : Int) == 71) = false := beq_eq_false_iff_ne.2 (by omega)
  have b72 : ((n : Int) == 72) = false := beq_eq_false_iff_ne.2 (by omega)
  have b73 : ((n : Int) == 73) = false := beq_eq_false_iff_ne.2 (by omega)
  have b74 : ((n : Int) == 74) = false := beq_eq_false_iff_ne.2 (by omega)
  have b75 : ((n : Int) == 75) = false := beq_eq_false_iff_ne.2 (by omega)
  have b76 : ((n : Int) == 76) = false := beq_eq_false_iff_ne.2 (by omega)
  have b77 : ((n : Int) == 77) = false := beq_eq_false_iff_ne.2 (by omega)
  have b78 : ((n : Int) == 78) = false := beq_eq_false_iff_ne.2 (by omega)
  have b79 : ((n : Int) == 79) = false := beq_eq_false_iff_ne.2 (by omega)
  have b80 : ((n : Int) == 80) = false := beq_eq_false_iff_ne.2 (by omega)
  have b81 : ((n : Int) == 81) = false := beq_eq_false_iff_ne.2 (by omega)
  have b82 : ((n : Int) == 82) = false := beq_eq_false_iff_ne.2 (by omega)
  have b83 : ((n : Int) == 83) = false := beq_eq_false_iff_ne.2 (by omega)
  clear h69 h70 h71 h72 h73 h74 h75 h76 h77 h78 h79 h80 h81 h82 h83
  unfold yv
  go_enter Tryz.func229, Tryz.ntmps229
  go_wp2
  go_ret
  exact ⟨by rw [Hy.out]; rfl, rfl⟩
def bk58 (t : Nat) : Bool := decide (24 <= t /\ t <= 27)
def bk59 (t : Nat) : Bool := decide (t = 39)
def bk60 (t : Nat) : Bool := decide (34 <= t /\ t <= 38)
def bk61 (t : Nat) : Bool := decide (t = 12)
def bk62 (t : Nat) : Bool := decide (t = 32)
def bk63 (t : Nat) : Bool := decide (t = 28)
def bk64 (t : Nat) : Bool := decide (t = 29)
def bk65 (t : Nat) : Bool := decide (t = 30)
def bk66 (t : Nat) : Bool := decide (t = 1)
def bk67 (t : Nat) : Bool := decide (t = 8)
def bk68 (t : Nat) : Bool := decide (t = 1 \/ t = 33)
def bk84 (t : Nat) : Bool := decide (t = 8)
theorem begins58 (w : World) (t : Nat) : Calls Tryz.prog 206 #[.int .u8 58, yv t] w fun e w' => e = .returned (.bool (jD 58 t)) /\ w = w' := by
  have Hy := jJ0 (show jD 58 t = bk58 t from rfl)
  generalize jD 58 t = R at *
  unfold yv at *
  go_enter Tryz.func206, Tryz.ntmps206
  go_wp2
  all_goals (go_ret; refine ⟨?_, rfl⟩; rw [Hy.out]; refine retb ?_; clear Hy; simp [bk58] at *; try omega)
theorem begins59 (w : World) (t : Nat) : Calls Tryz.prog 206 #[.int .u8 59, yv t] w fun e w' => e = .returned (.bool (jD 59 t)) /\ w = w' := by
  have Hy := jJ0 (show jD 59 t = bk59 t from rfl)
  generalize jD 59 t = R at *
  unfold yv at *
  go_enter Tryz.func206, Tryz.ntmps206
  go_wp2
  all_goals (go_ret; refine ⟨?_, rfl⟩; rw [Hy.out]; refine retb ?_; clear Hy; simp [bk59] at *; try omega)
theorem begins60 (w : World) (t : Nat) : Calls Tryz.prog 206 #[.int .u8 60, yv t] w fun e w' => e = .returned (.bool (jD 60 t)) /\ w = w' := by
  have Hy := jJ0 (show jD 60 t = bk60 t from rfl)
  generalize jD 60 t = R at *
  unfold yv at *
  go_enter Tryz.func206, Tryz.ntmps206
  go_wp2
  all_goals (go_ret; refine ⟨?_, rfl⟩; rw [Hy.out]; refine retb ?_; clear Hy; simp [bk60] at *; try omega)
theorem begins61 (w : World) (t : Nat) : Calls Tryz.prog 206 #[.int .u8 61, yv t] w fun e w' => e = .returned (.bool (jD 61 t)) /\ w = w' := by
  have Hy := jJ0 (show jD 61 t = bk61 t from rfl)
  generalize jD 61 t = R at *
  unfold yv at *
  go_enter Tryz.func206, Tryz.ntmps206
  go_wp2
  all_goals (go_ret; refine ⟨?_, rfl⟩; rw [Hy.out]; refine retb ?_; clear Hy; simp [bk61] at *; try omega)
theorem begins62 (w : World) (t : Nat) : Calls Tryz.prog 206 #[.int .u8 62, yv t] w fun e w' => e = .returned (.bool (jD 62 t)) /\ w = w' := by
  have Hy := jJ0 (show jD 62 t = bk62 t from rfl)
  generalize jD 62 t = R at *
  unfold yv at *
  go_enter Tryz.func206, Tryz.ntmps206
  go_wp2
  all_goals (go_ret; refine ⟨?_, rfl⟩; rw [Hy.out]; refine retb ?_; clear Hy; simp [bk62] at *; try omega)
theorem begins63 (w : World) (t : Nat) : Calls Tryz.prog 206 #[.int .u8 63, yv t] w fun e w' => e = .returned (.bool (jD 63 t)) /\ w = w' := by
  have Hy := jJ0 (show jD 63 t = bk63 t from rfl)
  generalize jD 63 t = R at *
  unfold yv at *
  go_enter Tryz.func206, Tryz.ntmps206
  go_wp2
  all_goals (go_ret; refine ⟨?_, rfl⟩; rw [Hy.out]; refine retb ?_; clear Hy; simp [bk63] at *; try omega)
theorem begins64 (w : World) (t : Nat) : Calls Tryz.prog 206 #[.int .u8 64, yv t] w fun e w' => e = .returned (.bool (jD 64 t)) /\ w = w' := by
  have Hy := jJ0 (show jD 64 t = bk64 t from rfl)
  generalize jD 64 t = R at *
  unfold yv at *
  go_enter Tryz.func206, Tryz.ntmps206
  go_wp2
  all_goals (go_ret; refine ⟨?_, rfl⟩; rw [Hy.out]; refine retb ?_; clear Hy; simp [bk64] at *; try omega)
theorem begins65 (w : World) (t : Nat) : Calls Tryz.prog 206 #[.int .u8 65, yv t] w fun e w' => e = .returned (.bool (jD 65 t)) /\ w = w' := by
  have Hy := jJ0 (show jD 65 t = bk65 t from rfl)
  generalize jD 65 t = R at *
  unfold yv at *
  go_enter Tryz.func206, Tryz.ntmps206
  go_wp2
  all_goals (go_ret; refine ⟨?_, rfl⟩; rw [Hy.out]; refine retb ?_; clear Hy; simp [bk65] at *; try omega)
theorem begins66 (w : World) (t : Nat) : Calls Tryz.prog 206 #[.int .u8 66, yv t] w fun e w' => e = .returned (.bool (jD 66 t)) /\ w = w' := by
  have Hy := jJ0 (show jD 66 t = bk66 t from rfl)
  generalize jD 66 t = R at *
  unfold yv at *
  go_enter Tryz.func206, Tryz.ntmps206
  go_wp2
  all_goals (go_ret; refine ⟨?_, rfl⟩; rw [Hy.out]; refine retb ?_; clear Hy; simp [bk66] at *; try omega)
theorem begins67 (w : World) (t : Nat) : Calls Tryz.prog 206 #[.int .u8 67, yv t] w fun e w' => e = .returned (.bool (jD 67 t)) /\ w = w' := by
  have Hy := jJ0 (show jD 67 t = bk67 t from rfl)
  generalize jD 67 t = R at *
  unfold yv at *
  go_enter Tryz.func206, Tryz.ntmps206
  go_wp2
  all_goals (go_ret; refine ⟨?_, rfl⟩; rw [Hy.out]; refine retb ?_; clear Hy; simp [bk67] at *; try omega)
theorem begins68 (w : World) (t : Nat) : Calls Tryz.prog 206 #[.int .u8 68, yv t] w fun e w' => e = .returned (.bool (jD 68 t)) /\ w = w' := by
  have Hy := jJ0 (show jD 68 t = bk68 t from rfl)
  generalize jD 68 t = R at *
  unfold yv at *
  go_enter Tryz.func206, Tryz.ntmps206
  go_wp2
  all_goals (go_ret; refine ⟨?_, rfl⟩; rw [Hy.out]; refine retb ?_; clear Hy; simp [bk68] at *; try omega)
theorem begins84 (w : World) (t : Nat) : Calls Tryz.prog 206 #[.int .u8 84, yv t] w fun e w' => e = .returned (.bool (jD 84 t)) /\ w = w' := by
  have Hy := jJ0 (show jD 84 t = bk84 t from rfl)
  generalize jD 84 t = R at *
  unfold yv at *
  go_enter Tryz.func206, Tryz.ntmps206
  go_wp2
  all_goals (go_ret; refine ⟨?_, rfl⟩; rw [Hy.out]; refine retb ?_; clear Hy; simp [bk84] at *; try omega)
theorem begins_no (n t : Nat) (h58 : n ≠ 58) (h59 : n ≠ 59) (h60 : n ≠ 60) (h61 : n ≠ 61) (h62 : n ≠ 62) (h63 : n ≠ 63) (h64 : n ≠ 64) (h65 : n ≠ 65) (h66 : n ≠ 66) (h67 : n ≠ 67) (h68 : n ≠ 68) (h84 : n ≠ 84) : jD n t = (decide (n = t) || (decide (69 <= n) && jL n t)) := by
  unfold jD
  rw [if_neg (by omega), if_neg (by omega), if_neg (by omega), if_neg (by omega), if_neg (by omega), if_neg (by omega), if_neg (by omega), if_neg (by omega), if_neg (by omega), if_neg (by omega), if_neg (by omega)]
theorem jk (w : World) (n t : Nat) : Calls Tryz.prog 206 #[yv n, yv t] w fun e w' => e = .returned (.bool (jD n t)) /\ w = w' := by
  by_cases h58 : n = 58
  · subst h58; exact begins58 w t
  by_cases h59 : n = 59
  · subst h59; exact begins59 w t
  by_cases h60 : n = 60
  · subst h60; exact begins60 w t
  by_cases h61 : n = 61
  · subst h61; exact begins61 w t
  by_cases h62 : n = 62
  · subst h62; exact begins62 w t
  by_cases h63 : n = 63
  · subst h63; exact begins63 w t
  by_cases h64 : n = 64
  · subst h64; exact begins64 w t
  by_cases h65 : n = 65
  · subst h65; exact begins65 w t
  by_cases h66 : n = 66
  · subst h66; exact begins66 w t
  by_cases h67 : n = 67
  · subst h67; exact begins67 w t
  by_cases h68 : n = 68
  · subst h68; exact begins68 w t
  by_cases h84 : n = 84
  · subst h84; exact begins84 w t
  have Hy := jJ0 (begins_no n t h58 h59 h60 h61 h62 h63 h64 h65 h66 h67 h68 h84)
  have H := jJ0 (worked_any w n t)
  generalize jD n t = R at *
  generalize jL n t = a at *
  have b58 : ((n : Int) == 58) = false := beq_eq_false_iff_ne.2 (by omega)
  have b59 : ((n : Int) == 59) = false := beq_eq_false_iff_ne.2 (by omega)
  have b60 : ((n : Int) == 60) = false := beq_eq_false_iff_ne.2 (by omega)
  have b61 : ((n : Int) == 61) = false := beq_eq_false_iff_ne.2 (by omega)
  have b62 : ((n : Int) == 62) = false := beq_eq_false_iff_ne.2 (by omega)
  have b63 : ((n : Int) == 63) = false := beq_eq_false_iff_ne.2 (by omega)
  have b64 : ((n : Int) == 64) = false := beq_eq_false_iff_ne.2 (by omega)
  have b65 : ((n : Int) == 65) = false := beq_eq_false_iff_ne.2 (by omega)
  have b66 : ((n : Int) == 66) = false := beq_eq_false_iff_ne.2 (by omega)
  have b67 : ((n : Int) == 67) = false := beq_eq_false_iff_ne.2 (by omega)
  have b68 : ((n : Int) == 68) = false := beq_eq_false_iff_ne.2 (by omega)
  have b84 : ((n : Int) == 84) = false := beq_eq_false_iff_ne.2 (by omega)
  clear h58 h59 h60 h61 h62 h63 h64 h65 h66 h67 h68 h84
  unfold yv at *
  by_cases e : n = t
  · have b1 : ((n : Int) == (t : Int)) = true := by rw [e]; simp
    have Hr := jJ0 (show R = true by rw [Hy.out, decide_eq_true e]; rfl)
    clear Hy e
    go_enter Tryz.func206, Tryz.ntmps206
    go_wp2
    go_ret
    exact ⟨by rw [Hr.out]; rfl, rfl⟩
  · have b1 : ((n : Int) == (t : Int)) = false := beq_eq_false_iff_ne.2 (by omega)
    by_cases e9 : 69 <= n
    · have b2 : ¬ (n : Int) < 69 := by omega
      have Hr := jJ0 (show R = a by rw [Hy.out, decide_eq_false e, decide_eq_true e9]; simp)
      clear Hy e e9
      go_enter Tryz.func206, Tryz.ntmps206
      go_wp2_with (go_at_call 229; refine H.out.mono ?_; rintro e w1 ⟨rfl, rfl⟩)
      go_ret
      exact ⟨by rw [Hr.out]; rfl, rfl⟩
    · have b2 : (n : Int) < 69 := by omega
      have Hr := jJ0 (show R = false by rw [Hy.out, decide_eq_false e, decide_eq_false e9]; rfl)
      clear Hy e e9
      go_enter Tryz.func206, Tryz.ntmps206
      go_wp2
      go_ret
      exact ⟨by rw [Hr.out]; rfl, rfl⟩
theorem worded_any (w : World) (n : Nat) : Calls Tryz.prog 205 #[yv n] w fun e w' => e = .returned (.bool (decide (n <= 2 \/ 23 <= n))) /\ w = w' := by
  unfold yv
  go_enter Tryz.func205, Tryz.ntmps205
  go_wp2
  all_goals (go_ret; refine ⟨?_, rfl⟩; refine retb ?_; simp at *; try omega)
end Go.Proofs.YtmmjcbbogokmfaaGreatDoor
