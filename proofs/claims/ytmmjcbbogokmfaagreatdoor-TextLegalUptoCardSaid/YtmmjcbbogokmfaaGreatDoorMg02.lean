import Derived.Test.YtmmjcbbogokmfaaGreatDoorMg01
import Derived.Test.YtmmjcbbogokmfaaGreatDoorRows
/- The language's words and grammar, plain: what the program's machine over bytes does. No program in sight. -/
namespace Go.Proofs.YtmmjcbbogokmfaaGreatDoor

/-- a byte that is a letter, a digit, of a word -/
def letC (c : UInt8) : Bool := decide (97 ≤ c.toNat ∧ c.toNat ≤ 122)
def digC (c : UInt8) : Bool := decide (48 ≤ c.toNat ∧ c.toNat ≤ 57)
def wordC (c : UInt8) : Bool := letC c || digC c || decide (c.toNat = 95)
/-- the reserved words, the signs -/
def resL : List (List UInt8) := [
  [116, 121, 112, 101], [97, 116, 116, 114, 105, 98, 117, 116, 101], [115, 116, 97, 103, 101], [109, 105, 108, 101, 115, 116, 111, 110, 101], [115, 116, 101, 112], [105, 110], [111, 112, 101, 110, 115], [99, 108, 111, 115, 101, 115], [114, 101, 97, 99, 104, 101, 100], [119, 104, 101, 110], [114, 101, 111, 112, 101, 110],
  [105, 110, 116], [98, 111, 111, 108], [116, 101, 120, 116], [116, 105, 109, 101], [115, 101, 116], [111, 112, 116, 105, 111, 110, 97, 108], [105, 102], [116, 104, 101, 110], [101, 108, 115, 101], [111, 114], [97, 110, 100], [110, 111, 116], [116, 114, 117, 101], [102, 97, 108, 115, 101], [110, 111, 116, 104, 105, 110, 103],
  [104, 97, 115], [115, 105, 122, 101], [106, 111, 105, 110], [111, 112, 101, 110], [99, 108, 111, 99, 107], [115, 116, 101, 112, 115], [109, 105, 110], [109, 97, 120], [100, 101, 102, 97, 117, 108, 116]]
def signL : List (List UInt8) := [[123], [125], [40], [41], [44], [59], [58], [58, 61], [61], [33, 61], [60], [60, 61], [62], [62, 61], [43], [45], [42], [47], [37]]
/-- the place of a word in a row of words, counted from k; 0: it is not there -/
def idxFrom (k : Nat) (w : List UInt8) : List (List UInt8) → Nat
  | [] => 0
  | r :: l => if r = w then k else idxFrom (k + 1) w l
def wordN (w : List UInt8) : Nat := idxFrom 23 w resL
def signN (w : List UInt8) : Nat := idxFrom 4 w signL
def startsNameB (w : List UInt8) : Bool := decide (0 < w.length ∧ w.length ≤ 64) && letC (w.headD 0) && w.all wordC
def legalB (w : List UInt8) : Bool := startsNameB w && decide (wordN w = 0)
def dropZ : List UInt8 → List UInt8
  | a :: b :: l => if a = 48 then dropZ (b :: l) else a :: b :: l
  | l => l
/-- is x not behind y, of rows as long? -/
def leB : List UInt8 → List UInt8 → Bool
  | [], _ => true
  | _ :: _, [] => false
  | a :: x, b :: y => if a.toNat < b.toNat then true else if b.toNat < a.toNat then false else leB x y
def greatest : List UInt8 := [57, 50, 50, 51, 51, 55, 50, 48, 51, 54, 56, 53, 52, 55, 55, 53, 56, 48, 55]
def startsIntB (w : List UInt8) : Bool :=
  w.all digC && (let v := dropZ w; decide (v.length < 19) || (decide (v.length = 19) && leB v greatest))

def atomicN (t : Nat) : Bool := decide (t = 2 ∨ t = 46 ∨ t = 47 ∨ t = 3 ∨ t = 48 ∨ t = 1 ∨ t = 6 ∨ t = 4 ∨ t = 31 ∨ (49 ≤ t ∧ t ≤ 57))
def workedN (n t : Nat) : Bool :=
  if n = 83 ∨ n = 69 then decide (t = 40 ∨ t = 45 ∨ t = 19) || atomicN t
  else if n = 70 ∨ n = 72 ∨ n = 74 then decide (t = 45 ∨ t = 19) || atomicN t
  else if n = 75 ∨ n = 77 ∨ n = 79 ∨ n = 81 then decide (t = 19) || atomicN t
  else if n = 82 then atomicN t
  else if n = 71 then decide (t = 43)
  else if n = 73 then decide (t = 44)
  else if n = 76 then decide ((12 ≤ t ∧ t ≤ 17) ∨ t = 28)
  else if n = 78 then decide (t = 18 ∨ t = 19)
  else if n = 80 then decide (20 ≤ t ∧ t ≤ 22)
  else false
def beginsN (n t : Nat) : Bool :=
  if n = 58 then decide (24 ≤ t ∧ t ≤ 27)
  else if n = 59 then decide (t = 39)
  else if n = 60 then decide (34 ≤ t ∧ t ≤ 38)
  else if n = 61 then decide (t = 12)
  else if n = 62 then decide (t = 32)
  else if n = 63 then decide (t = 28)
  else if n = 64 then decide (t = 29)
  else if n = 65 then decide (t = 30)
  else if n = 66 then decide (t = 1)
  else if n = 67 ∨ n = 84 then decide (t = 8)
  else if n = 68 then decide (t = 1 ∨ t = 33)
  else decide (n = t) || (decide (69 ≤ n) && workedN n t)
def emptyN (n : Nat) : Bool := decide (n = 58 ∨ n = 59 ∨ n = 61 ∨ n = 62 ∨ n = 63 ∨ n = 64 ∨ n = 65 ∨ n = 66 ∨ n = 67 ∨ n = 68 ∨ n = 71 ∨ n = 73 ∨ n = 76 ∨ n = 78 ∨ n = 80 ∨ n = 83 ∨ n = 84)
def declaredN (t : Nat) : List Nat :=
  if t = 24 then [t, 1, 10, 59, 60, 61, 62, 9, 58]
  else if t = 25 then [t, 1, 63, 4, 64, 65, 5, 58]
  else if t = 26 then [t, 1, 63, 31, 32, 69, 9, 58]
  else if t = 27 then [t, 1, 6, 66, 7, 63, 62, 4, 68, 5, 58]
  else []
def atomN (t : Nat) : List Nat :=
  if t = 2 ∨ t = 46 ∨ t = 47 ∨ t = 3 ∨ t = 48 ∨ t = 1 then [t]
  else if t = 6 then [t, 69, 7]
  else if t = 4 then [t, 83, 5]
  else if t = 49 ∨ t = 52 ∨ t = 31 then [t, 6, 1, 7]
  else if t = 53 ∨ t = 54 then [t, 6, 7]
  else if t = 50 then [t, 6, 69, 7]
  else if t = 51 ∨ t = 55 ∨ t = 56 ∨ t = 57 then [t, 6, 69, 8, 69, 7]
  else []
def operatorsN (n t : Nat) : List Nat :=
  if n = 69 then (if t = 40 then [t, 69, 41, 69, 42, 69] else [70])
  else if n = 70 then [72, 71]
  else if n = 71 then [t, 72, 71]
  else if n = 72 then [74, 73]
  else if n = 73 then [t, 74, 73]
  else if n = 74 then (if t = 45 then [t, 74] else [75])
  else if n = 75 then [77, 76]
  else if n = 76 then [t, 77]
  else if n = 77 then [79, 78]
  else if n = 78 then [t, 79, 78]
  else if n = 79 then [81, 80]
  else if n = 80 then [t, 81, 80]
  else if n = 81 then (if t = 19 then [t, 81] else [82])
  else []
/-- what a symbol becomes if t comes next -/
def ruleN (n t : Nat) : List Nat :=
  if beginsN n t = false then []
  else if n = 58 then declaredN t
  else if n = 59 ∨ n = 60 then [t]
  else if n = 61 ∨ n = 62 then [t, 69]
  else if n = 63 then [t, 1]
  else if n = 64 ∨ n = 65 then [t, 32, 69, 9]
  else if n = 66 then [t, 10, 60, 67]
  else if n = 67 then [t, 1, 10, 60, 67]
  else if n = 68 then (if t = 33 then [t, 1, 9, 68] else [t, 11, 69, 9, 68])
  else if n = 83 then [69, 84]
  else if n = 84 then [t, 69, 84]
  else if n = 82 then atomN t
  else operatorsN n t
/-- may a terminal come next? (the stack's top is its head) -/
def mayN (t : Nat) : List Nat → Bool
  | [] => false
  | n :: l => if beginsN n t = true then true else if emptyN n = true then mayN t l else false
/-- a terminal is taken: the stack behind it; none: it is not there, or the steps do not do -/
def takeN (t : Nat) : Nat → List Nat → Option (List Nat)
  | 0, _ => none
  | _ + 1, [] => none
  | f + 1, n :: l => if n = t then some l else takeN t f (ruleN n t ++ l)
/-- the machine: the place, the stack, what the bytes end in, where the lexeme that they end in begins -/
structure Mc where
  at_ : Nat
  stack : List Nat
  fin : Nat
  from_ : Nat
end Go.Proofs.YtmmjcbbogokmfaaGreatDoor

/- Contracts of the language's words: letter, digit, ofWord. -/
namespace Go.Proofs.YtmmjcbbogokmfaaGreatDoor
open Go.RowKit

theorem retb {a b : Bool} (h : a = true ↔ b = true) : Ending.returned (.bool a) = Ending.returned (.bool b) := by rw [Bool.eq_iff_iff.2 h]
theorem letter_any (w : World) (c : UInt8) : Calls Tryz.prog 128 #[bv c] w fun e w' => e = .returned (.bool (letC c)) ∧ w = w' := by
  have Hy := Lib.hid (show letC c = decide (97 ≤ c.toNat ∧ c.toNat ≤ 122) from rfl)
  have h8 := c.toNat_lt
  generalize letC c = R at *
  unfold bv
  generalize c.toNat = k at *
  go_enter Tryz.func128, Tryz.ntmps128
  go_wp2
  all_goals (go_ret; refine ⟨?_, rfl⟩; rw [Hy.out]; refine retb ?_; simp <;> omega)
theorem digit_any (w : World) (c : UInt8) : Calls Tryz.prog 158 #[bv c] w fun e w' => e = .returned (.bool (digC c)) ∧ w = w' := by
  have Hy := Lib.hid (show digC c = decide (48 ≤ c.toNat ∧ c.toNat ≤ 57) from rfl)
  have h8 := c.toNat_lt
  generalize digC c = R at *
  unfold bv
  generalize c.toNat = k at *
  go_enter Tryz.func158, Tryz.ntmps158
  go_wp2
  all_goals (go_ret; refine ⟨?_, rfl⟩; rw [Hy.out]; refine retb ?_; simp <;> omega)
theorem ofWord_any (w : World) (c : UInt8) : Calls Tryz.prog 129 #[bv c] w fun e w' => e = .returned (.bool (wordC c)) ∧ w = w' := by
  have Hy := Lib.hid (show wordC c = (letC c || digC c || decide (c.toNat = 95)) from rfl)
  have H1 := Lib.hid (letter_any w c)
  have H2 := Lib.hid (digit_any w c)
  have h8 := c.toNat_lt
  generalize letC c = L at *
  generalize digC c = D at *
  generalize wordC c = R at *
  unfold bv at *
  generalize c.toNat = k at *
  go_enter Tryz.func129, Tryz.ntmps129
  go_wp2_with fail
  refine H1.out.mono ?_
  rintro e w1 ⟨rfl, rfl⟩
  cases L
  · go_wp2_with fail
    refine H2.out.mono ?_
    rintro e w1 ⟨rfl, rfl⟩
    cases D
    · go_wp2
      all_goals (go_ret; refine ⟨?_, rfl⟩; rw [Hy.out]; refine retb ?_; simp <;> omega)
    · go_wp2
      all_goals (go_ret; refine ⟨?_, rfl⟩; rw [Hy.out]; rfl)
  · go_wp2
    all_goals (go_ret; refine ⟨?_, rfl⟩; rw [Hy.out]; rfl)
/-- a row of words, as cells -/
def wvs (l : List (List UInt8)) : List Value := l.map fun s => sv ⟨s.toArray⟩
/-- the language's words and signs lie in their variables -/
structure Sg (w : World) : Prop where
  res : w.rangeAt 0 0 (wvs resL)
  sig : w.rangeAt 2 0 (wvs signL)
theorem rangeAt_kp {X : Nat → Prop} {w w' : World} {b o : Nat} {cs : List Value} (h : w.rangeAt b o cs) (hk : Kp X w w') (hx : ¬ X b) : w'.rangeAt b o cs := fun j v hv => by
  have h1 := h j v hv
  rw [World.cell?_of_block (hk.block b (cell_lt h1) hx)]
  exact h1
theorem Sg.kp {X : Nat → Prop} {w w' : World} (h : Sg w) (hk : Kp X w w') (h0 : ¬ X 0) (h2 : ¬ X 2) : Sg w' := ⟨rangeAt_kp h.res hk h0, rangeAt_kp h.sig hk h2⟩
theorem Sg.old {w w' : World} (h : Sg w) (hk : Old w w') : Sg w' := h.kp hk (fun f => f) (fun f => f)
theorem idxFrom_skip (k : Nat) (w : List UInt8) (l : List (List UInt8)) (j : Nat) (hj : j < l.length) : idxFrom (k + j) w (l.drop j) = if l[j] = w then k + j else idxFrom (k + (j + 1)) w (l.drop (j + 1)) := by
  rw [List.drop_eq_getElem_cons hj, idxFrom]
  rfl
theorem wvs_at (l : List (List UInt8)) (j : Nat) (hj : j < l.length) : (wvs l)[j]? = some (.string ⟨l[j].toArray⟩) := by
  unfold wvs
  rw [List.getElem?_map, List.getElem?_eq_getElem hj]
  rfl
theorem wvs_len (l : List (List UInt8)) : (wvs l).length = l.length := List.length_map _
theorem mk_eq {a : List UInt8} {s : ByteArray} : (⟨a.toArray⟩ : ByteArray) = s ↔ a = sb s := ⟨fun h => by rw [← h]; rfl, fun h => by rw [h, mk_sb]⟩
theorem bytes_same {a b : ByteArray} (h : a.toList = b.toList) : a = b := by
  rw [ByteArray.toList_eq, ByteArray.toList_eq] at h
  exact sb_inj h
theorem at_loadE {P : Program} {ops : Array Oper} {rest : List Oper} {d : Option Tmp} {ty : TypeId} {pos : String} {after : Array Edge} {gd : Option (Nat × Bool)} {a : Act} {w : World} {Q : Exit → Act → World → Prop} (t : TypeId) (x : Operand)
    (h : wpList P ops Q (⟨d, .load t x, ty, pos, after, gd⟩ :: rest) a w) : wpList P ops Q (⟨d, .load t x, ty, pos, after, gd⟩ :: rest) a w := h
theorem at_store {P : Program} {ops : Array Oper} {rest : List Oper} {d : Option Tmp} {ty : TypeId} {pos : String} {after : Array Edge} {gd : Option (Nat × Bool)} {a : Act} {w : World} {Q : Exit → Act → World → Prop} (t : TypeId) (x y : Operand)
    (h : wpList P ops Q (⟨d, .store t x y, ty, pos, after, gd⟩ :: rest) a w) : wpList P ops Q (⟨d, .store t x y, ty, pos, after, gd⟩ :: rest) a w := h
theorem Tryz.load_w {ops : Array Oper} {rest : List Oper} {op : Oper} {a : Act} {w : World} {Q : Exit → Act → World → Prop} (hw : Region.wanted op (yielded ops a.tmps) = true) (ty : TypeId) (x : Operand) (ho : op.op = .load ty x)
    (b o : Nat) (hx : a.eval x = .pointer (some ⟨b, o, none⟩)) (cs : List Value) (d : TypeDesc) (hc : w.rangeAt b o cs)
    (hu : Tryz.prog.underlying ty = some d) (hd : d.isRow = true) (hi : (Tryz.prog.info? ty).map (·.size) = some cs.length)
    (h : wpList Tryz.prog ops Q rest (a.put op.dst (.agg cs.toArray)) w) : wpList Tryz.prog ops Q (op :: rest) a w :=
  wpList_step fun K hK => by simp only [hw, if_true]; exact wp_load_mid ty x ho b o hx cs d hc hu hd hi (hK _ _ h)
theorem Tryz.size35 : (Tryz.prog.info? 205).map (·.size) = some 35 := by kernel_rfl
theorem Tryz.index35 (w : World) (cs : List Value) (j : Nat) (x : ByteArray) (hx : cs[j]? = some (.string x)) (hlt : j < 35) : (Instr.index 205 (.agg cs.toArray) (.int .i64 (j : Int))).run Tryz.prog w = .ok (.string x) w := by
  have h3 : (sizeOf 9).run Tryz.prog w = .ok 1 w := by kernel_rfl
  simp [Instr.index, asIntOf, run_underlying Tryz.underlying205, part, h3, hx, hlt]
set_option maxRecDepth 100000 in
set_option maxHeartbeats 800000 in
theorem word_any9 (w : World) (hg : Sg w) (s : ByteArray) : Calls Tryz.prog 130 #[.string s] w fun e w' => e = .returned (.int .u8 (wordN (sb s) : Nat)) ∧ w = w' := by
  have Hy := Lib.hid (show wordN (sb s) = idxFrom (23 + 0) (sb s) (resL.drop 0) from rfl)
  have Hres := Lib.hid hg.res
  have Hx := Lib.hid (fun j (hj : j < 35) => wvs_at resL j hj)
  have Hsk := Lib.hid (fun j (hj : j < 35) => idxFrom_skip 23 (sb s) resL j hj)
  have Hsz := Lib.hid (show (Tryz.prog.info? 205).map (·.size) = some (wvs resL).length from Tryz.size35)
  have Hend := Lib.hid (show idxFrom (23 + 35) (sb s) (resL.drop 35) = 0 from rfl)
  generalize wordN (sb s) = R at *
  generalize hcs : wvs resL = cs at *
  clear hcs hg
  go_enter Tryz.func130, Tryz.ntmps130
  go_wp2_with (first | ((with_reducible refine at_loadE 205 (.global 0) ?_); refine Tryz.load_w rfl 205 (.global 0) rfl 0 0 rfl cs _ Hres.out Tryz.underlying205 rfl Hsz.out ?_) | fail)
  go_loop [6] (fun i => ∃ j : Nat, j ≤ 35 ∧ i = .int .i64 j ∧ R = idxFrom (23 + j) (sb s) (resL.drop j)) (fun i => 35 - (intOf i).toNat)
  case atStart => exact ⟨0, by omega, rfl, Hy.out⟩
  case round =>
    obtain ⟨j, hj, rfl, hR⟩ := hrel
    by_cases hlt : j < 35
    · have hx := Hx.out j hlt
      have hsk := Hsk.out j hlt
      rw [hsk] at hR
      clear hsk
      generalize resL[j]'hlt = rw at *
      have b1 : (j : Int) < 35 := by omega
      have b2 : (0 : Int) ≤ (j : Int) := by omega
      have b3 : (j : Int).toNat = j := by omega
      have hix := fun w' => Tryz.index35 w' cs j _ hx hlt
      clear hx
      by_cases he : rw = sb s
      · rw [if_pos he] at hR
        rw [mk_eq.2 he] at hix
        clear he
        have HR := Lib.hid hR
        clear hR
        have b4 : IntKind.u8.wrap (j : Int) = (j : Int) := IntWalk.u8_in _ (by omega)
        have b5 : IntKind.u8.wrap (23 + (j : Int)) = 23 + (j : Int) := IntWalk.u8_in _ (by omega)
        go_wp2
        go_ret
        exact ⟨by rw [HR.out]; simp, rfl⟩
      · rw [if_neg he] at hR
        have hne : ¬ (⟨rw.toArray⟩ : ByteArray) = s := fun h => he (mk_eq.1 h)
        clear he
        generalize (⟨rw.toArray⟩ : ByteArray) = x at *
        have HR := Lib.hid hR
        clear hR
        have hne2 : (x.toList == s.toList) = false := beq_eq_false_iff_ne.2 (fun h => hne (bytes_same h))
        clear hne
        go_wp2
        exact ⟨⟨j + 1, by omega, by go_num, HR.out⟩, by simp [intOf]; omega⟩
    · obtain rfl : j = 35 := by omega
      rw [Hend.out] at hR
      have HR := Lib.hid hR
      clear hR
      go_wp2
      go_ret
      exact ⟨by rw [HR.out]; rfl, rfl⟩
theorem Tryz.size19 : (Tryz.prog.info? 252).map (·.size) = some 19 := by kernel_rfl
theorem Tryz.index19 (w : World) (cs : List Value) (j : Nat) (x : ByteArray) (hx : cs[j]? = some (.string x)) (hlt : j < 19) : (Instr.index 252 (.agg cs.toArray) (.int .i64 (j : Int))).run Tryz.prog w = .ok (.string x) w := by
  have h3 : (sizeOf 9).run Tryz.prog w = .ok 1 w := by kernel_rfl
  simp [Instr.index, asIntOf, run_underlying Tryz.underlying252, part, h3, hx, hlt]
set_option maxRecDepth 100000 in
set_option maxHeartbeats 800000 in
theorem sign_any9 (w : World) (hg : Sg w) (s : ByteArray) : Calls Tryz.prog 145 #[.string s] w fun e w' => e = .returned (.int .u8 (signN (sb s) : Nat)) ∧ w = w' := by
  have Hy := Lib.hid (show signN (sb s) = idxFrom (4 + 0) (sb s) (signL.drop 0) from rfl)
  have Hres := Lib.hid hg.sig
  have Hx := Lib.hid (fun j (hj : j < 19) => wvs_at signL j hj)
  have Hsk := Lib.hid (fun j (hj : j < 19) => idxFrom_skip 4 (sb s) signL j hj)
  have Hsz := Lib.hid (show (Tryz.prog.info? 252).map (·.size) = some (wvs signL).length from Tryz.size19)
  have Hend := Lib.hid (show idxFrom (4 + 19) (sb s) (signL.drop 19) = 0 from rfl)
  generalize signN (sb s) = R at *
  generalize hcs : wvs signL = cs at *
  clear hcs hg
  go_enter Tryz.func145, Tryz.ntmps145
  go_wp2_with (first | ((with_reducible refine at_loadE 252 (.global 2) ?_); refine Tryz.load_w rfl 252 (.global 2) rfl 2 0 rfl cs _ Hres.out Tryz.underlying252 rfl Hsz.out ?_) | fail)
  go_loop [6] (fun i => ∃ j : Nat, j ≤ 19 ∧ i = .int .i64 j ∧ R = idxFrom (4 + j) (sb s) (signL.drop j)) (fun i => 19 - (intOf i).toNat)
  case atStart => exact ⟨0, by omega, rfl, Hy.out⟩
  case round =>
    obtain ⟨j, hj, rfl, hR⟩ := hrel
    by_cases hlt : j < 19
    · have hx := Hx.out j hlt
      have hsk := Hsk.out j hlt
      rw [hsk] at hR
      clear hsk
      generalize signL[j]'hlt = rw at *
      have b1 : (j : Int) < 19 := by omega
      have b2 : (0 : Int) ≤ (j : Int) := by omega
      have b3 : (j : Int).toNat = j := by omega
      have hix := fun w' => Tryz.index19 w' cs j _ hx hlt
      clear hx
      by_cases he : rw = sb s
      · rw [if_pos he] at hR
        rw [mk_eq.2 he] at hix
        clear he
        have HR := Lib.hid hR
        clear hR
        have b4 : IntKind.u8.wrap (j : Int) = (j : Int) := IntWalk.u8_in _ (by omega)
        have b5 : IntKind.u8.wrap (4 + (j : Int)) = 4 + (j : Int) := IntWalk.u8_in _ (by omega)
        go_wp2
        go_ret
        exact ⟨by rw [HR.out]; simp, rfl⟩
      · rw [if_neg he] at hR
        have hne : ¬ (⟨rw.toArray⟩ : ByteArray) = s := fun h => he (mk_eq.1 h)
        clear he
        generalize (⟨rw.toArray⟩ : ByteArray) = x at *
        have HR := Lib.hid hR
        clear hR
        have hne2 : (x.toList == s.toList) = false := beq_eq_false_iff_ne.2 (fun h => hne (bytes_same h))
        clear hne
        go_wp2
        exact ⟨⟨j + 1, by omega, by go_num, HR.out⟩, by simp [intOf]; omega⟩
    · obtain rfl : j = 19 := by omega
      rw [Hend.out] at hR
      have HR := Lib.hid hR
      clear hR
      go_wp2
      go_ret
      exact ⟨by rw [HR.out]; rfl, rfl⟩
end Go.Proofs.YtmmjcbbogokmfaaGreatDoor

/- Contracts of the language's words: startsName, isReserved, Legal. -/
namespace Go.Proofs.YtmmjcbbogokmfaaGreatDoor
open Go.RowKit

theorem sb_take_succ (s : ByteArray) (k : Nat) (h : k < s.size) : (sb s).take (k + 1) = (sb s).take k ++ [s[k]] := by
  have h' : k < (sb s).length := by rw [sb_length]; exact h
  rw [List.take_succ_eq_append_getElem h']
  rfl
theorem sb_head (s : ByteArray) (h : 0 < s.size) : (sb s).headD 0 = s[0] := by
  have h' : 0 < (sb s).length := by rw [sb_length]; exact h
  have : (sb s)[0]'h' = s[0] := rfl
  refine Eq.trans ?_ this
  rw [List.headD_eq_head?_getD, List.head?_eq_getElem?, List.getElem?_eq_getElem h']
  rfl
theorem sb_mem (s : ByteArray) (k : Nat) (h : k < s.size) : s[k] ∈ sb s := by
  have : s[k] = (sb s)[k]'(by rw [sb_length]; exact h) := rfl
  rw [this]
  exact List.getElem_mem _
set_option maxRecDepth 100000 in
set_option maxHeartbeats 800000 in
theorem startsName_any (w : World) (s : ByteArray) : Calls Tryz.prog 69 #[.string s] w fun e w' => e = .returned (.bool (startsNameB (sb s))) ∧ w = w' := by
  have HL := Lib.hid (show startsNameB (sb s) = (decide (0 < s.size ∧ s.size ≤ 64) && letC ((sb s).headD 0) && (sb s).all wordC) by unfold startsNameB; rw [sb_length])
  generalize startsNameB (sb s) = R at *
  by_cases h0 : s.size = 0
  · have Hno := Lib.hid (show R = false by rw [HL.out, decide_eq_false (by omega)]; rfl)
    have b0 : ((s.size : Int) == 0) = true := by rw [h0]; rfl
    have Hz := Lib.hid h0
    clear h0
    go_enter Tryz.func69, Tryz.ntmps69
    go_wp2
    go_ret
    exact ⟨by rw [Hno.out]; rfl, rfl⟩
  · have b0 : ((s.size : Int) == 0) = false := beq_eq_false_iff_ne.2 (by omega)
    by_cases h1 : s.size ≤ 64
    · have b1 : ¬ (64 : Int) < (s.size : Int) := by omega
      have hp : 0 < s.size := by omega
      have hpI : (0 : Int) < (s.size : Int) := by omega
      have Hc := Lib.hid (show R = (letC s[0] && (sb s).all wordC) by rw [HL.out, decide_eq_true (by omega), sb_head s hp]; rfl)
      have H0 := Lib.hid (letter_any w s[0])
      unfold bv at H0
      clear HL
      generalize hl : letC s[0] = L at *
      clear hl
      cases L
      · have Hno := Lib.hid (show R = false by rw [Hc.out]; rfl)
        go_enter Tryz.func69, Tryz.ntmps69
        go_wp2_with (go_at_call 128; refine H0.out.mono ?_; rintro e w1 ⟨rfl, rfl⟩)
        go_ret
        exact ⟨by rw [Hno.out]; rfl, rfl⟩
      · have Hc := Lib.hid (show R = (sb s).all wordC by rw [Hc.out]; rfl)
        have h1i : (s.size : Int) ≤ 64 := by omega
        go_enter Tryz.func69, Tryz.ntmps69
        go_wp2_with (go_at_call 128; refine H0.out.mono ?_; rintro e w1 ⟨rfl, rfl⟩)
        clear H0
        go_loop [20] (fun i => ∃ k : Nat, k ≤ s.size ∧ i = .int .i64 k ∧ ((sb s).take k).all wordC = true) (fun i => s.size - (intOf i).toNat)
        case atStart => exact ⟨0, Nat.zero_le _, rfl, rfl⟩
        case round =>
          obtain ⟨k, hk, rfl, hgood⟩ := hrel
          by_cases hlt : k < s.size
          · have Hgood := Lib.hid (show ((sb s).take (k + 1)).all wordC = wordC s[k] by rw [sb_take_succ s k hlt, List.all_append, hgood]; simp)
            have Hno := Lib.hid (show wordC s[k] = false → R = false from fun h => by
              rw [Hc.out, ← Bool.not_eq_true, List.all_eq_true]
              intro h'
              have := h' s[k] (sb_mem s k hlt)
              rw [h] at this
              cases this)
            have b2 : (0 : Int) ≤ (k : Int) := by omega
            have b3 : (k : Int) < (s.size : Int) := by omega
            have b4 : (k : Int).toNat = k := by omega
            have Hw := Lib.hid (ofWord_any w s[k])
            unfold bv at Hw
            clear hgood
            generalize hw : wordC s[k] = W at *
            clear hw
            cases W
            · have Hn := Lib.hid (Hno.out rfl)
              go_wp2_with (go_at_call 129; refine Hw.out.mono ?_; rintro e w1 ⟨rfl, rfl⟩)
              go_ret
              exact ⟨by rw [Hn.out]; rfl, rfl⟩
            · go_wp2_with (go_at_call 129; refine Hw.out.mono ?_; rintro e w1 ⟨rfl, rfl⟩)
              exact ⟨⟨k + 1, by omega, by go_num, Hgood.out⟩, by simp [intOf]; omega⟩
          · obtain rfl : k = s.size := by omega
            have Hy := Lib.hid (show R = true by rw [Hc.out, ← hgood, ← sb_length, List.take_length])
            clear hgood
            go_wp2
            go_ret
            exact ⟨by rw [Hy.out]; rfl, rfl⟩
    · have b1 : (64 : Int) < (s.size : Int) := by omega
      have Hno := Lib.hid (show R = false by rw [HL.out, decide_eq_false (by omega)]; rfl)
      clear HL h0 h1
      go_enter Tryz.func69, Tryz.ntmps69
      go_wp2
      go_ret
      exact ⟨by rw [Hno.out]; rfl, rfl⟩
set_option maxRecDepth 100000 in
theorem isReserved_any (w : World) (hg : Sg w) (s : ByteArray) : Calls Tryz.prog 70 #[.string s] w fun e w' => e = .returned (.bool (decide (wordN (sb s) ≠ 0))) ∧ w = w' := by
  have H := Lib.hid (word_any9 w hg s)
  generalize wordN (sb s) = n at *
  clear hg
  go_enter Tryz.func70, Tryz.ntmps70
  go_wp2_with (go_at_call 130; refine H.out.mono ?_; rintro e w1 ⟨rfl, rfl⟩)
  all_goals (go_ret; refine ⟨?_, rfl⟩; refine retb ?_; clear H; simp at *; try omega)
set_option maxRecDepth 100000 in
theorem legal_any9 (w : World) (hg : Sg w) (s : ByteArray) : Calls Tryz.prog 20 #[.string s] w fun e w' => e = .returned (.bool (legalB (sb s))) ∧ w = w' := by
  have Hy := Lib.hid (show legalB (sb s) = (startsNameB (sb s) && decide (wordN (sb s) = 0)) from rfl)
  have H := Lib.hid (startsName_any w s)
  have H2 := Lib.hid (isReserved_any w hg s)
  generalize wordN (sb s) = n at *
  generalize startsNameB (sb s) = a at *
  generalize legalB (sb s) = R at *
  clear hg
  cases a
  · have Hn := Lib.hid (show R = false by rw [Hy.out]; rfl)
    go_enter Tryz.func20, Tryz.ntmps20
    go_wp2_with (go_at_call 69; refine H.out.mono ?_; rintro e w1 ⟨rfl, rfl⟩)
    go_ret
    exact ⟨by rw [Hn.out]; rfl, rfl⟩
  · have Hn := Lib.hid (show R = !(decide (n ≠ 0)) by rw [Hy.out]; simp)
    generalize decide (n ≠ 0) = b at *
    go_enter Tryz.func20, Tryz.ntmps20
    go_wp2_with (first | (go_at_call 69; refine H.out.mono ?_; rintro e w1 ⟨rfl, rfl⟩) | (go_at_call 70; refine H2.out.mono ?_; rintro e w1 ⟨rfl, rfl⟩))
    all_goals (go_ret; exact ⟨by rw [Hn.out]; rfl, rfl⟩)
end Go.Proofs.YtmmjcbbogokmfaaGreatDoor
