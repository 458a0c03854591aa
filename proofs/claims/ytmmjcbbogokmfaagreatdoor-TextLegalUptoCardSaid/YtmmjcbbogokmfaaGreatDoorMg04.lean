import Derived.Test.YtmmjcbbogokmfaaGreatDoorMg02
import Derived.Test.YtmmjcbbogokmfaaGreatDoorMg03
/- The reader of a type's text, plain: lexemes, expressions, declarations. -/
namespace Go.Proofs.YtmmjcbbogokmfaaGreatDoor

/-- a node -/
structure Nd where
  op : Int
  name : ByteArray
  vk : Int
  vn : Int
  vt : ByteArray
  vs : List ByteArray
  kids : List Int
structure Atr where
  name : ByteArray
  at_ : Int
  order : Int
  opt : Bool
  kind : Int
  dflt : Int
  when_ : Int
structure Stg where
  name : ByteArray
  at_ : Int
  order : Int
  in_ : ByteArray
  inAt : Int
  opens : Int
  closes : Int
structure Mil where
  name : ByteArray
  at_ : Int
  order : Int
  in_ : ByteArray
  inAt : Int
  when_ : Int
structure Prm where
  name : ByteArray
  at_ : Int
  kind : Int
structure Eff where
  name : ByteArray
  at_ : Int
  worth : Int
structure Stp where
  name : ByteArray
  at_ : Int
  order : Int
  params : List Prm
  in_ : ByteArray
  inAt : Int
  when_ : Int
  effects : List Eff
structure Tre where
  name : ByteArray
  at_ : Int
  ats : List Int
  nodes : List Nd
  steps : List Stp
  attrs : List Atr
  stages : List Stg
  miles : List Mil
def Tre.none_ : Tre := ⟨⟨#[]⟩, 0, [], [], [], [], [], []⟩
structure Rdr where
  at_ : Nat
  from_ : Nat
  t : Nat
  order : Nat
  tree : Tre

/-- how many bytes of blanks and comments stand ahead (com: within a comment) -/
def skipLen : Bool → List UInt8 → Nat
  | _, [] => 0
  | true, c :: l => if lfC c = true then skipLen false l + 1 else skipLen true l + 1
  | false, c :: l => if blankC c = true then skipLen false l + 1 else if c.toNat = 35 then skipLen true l + 1 else 0
/-- how many bytes a text has behind its first mark, with its last -/
def strLen : List UInt8 → Option Nat
  | [] => none
  | c :: l => if c.toNat = 34 then some 1 else if c.toNat = 92 then (match l with
    | [] => none
    | _ :: l' => (strLen l').map (· + 2)) else (strLen l).map (· + 1)
/-- the lexeme at the head of these bytes (not empty): its length and symbol -/
def lexN : List UInt8 → Option (Nat × Nat)
  | [] => none
  | c :: l =>
    if wordC c = true then (let w := (c :: l).takeWhile wordC; some (w.length, namedN w))
    else if c.toNat = 34 then (strLen l).map fun k => (k + 1, 3)
    else if l.headD 0 = 61 ∧ signN [c, 61] ≠ 0 then some (2, signN [c, 61])
    else some (1, signN [c])
def nextN (src : List UInt8) (r : Rdr) : Option Rdr :=
  let k := r.at_ + skipLen false (src.drop r.at_)
  if src.length ≤ k then some { r with at_ := k, from_ := k }
  else (lexN (src.drop k)).map fun x => { r with at_ := k + x.1, from_ := k, t := x.2 }
def lexeme (src : List UInt8) (r : Rdr) : List UInt8 := (src.take r.at_).drop r.from_
def skipN (src : List UInt8) (t : Nat) (r : Rdr) : Option (Bool × Rdr) := if r.t = t then (nextN src r).map fun r => (true, r) else some (false, r)
def nameN (src : List UInt8) (r : Rdr) : Option (ByteArray × Int × Rdr) := (nextN src r).map fun r' => (⟨(lexeme src r).toArray⟩, (r.from_ : Int), r')
/-- a node is laid down -/
def nodeN (n : Nd) (at_ : Nat) (r : Rdr) : Option (Int × Rdr) := if r.tree.nodes.length < 1000000 ∧ r.tree.ats.length < 1000000 then some ((r.tree.nodes.length : Int), { r with tree := { r.tree with nodes := r.tree.nodes ++ [n], ats := r.tree.ats ++ [(at_ : Int)] } }) else none
def bareNd (op : Int) (kids : List Int) : Nd := ⟨op, ⟨#[]⟩, 0, 0, ⟨#[]⟩, [], kids⟩
def callN (t : Nat) : Int := if t = 49 then 24 else if t = 52 then 25 else if t = 31 then 26 else if t = 50 then 27 else if t = 51 then 28 else 29 + ((t : Int) - 53)
def hexV (c : UInt8) : Nat := if digC c = true then c.toNat - 48 else c.toNat - 87
/-- what the inside of a text means -/
def meantN : Nat → List UInt8 → Option (List UInt8)
  | 0, _ => none
  | _ + 1, [] => some []
  | f + 1, c :: l =>
    if c.toNat = 92 then (match l with
      | [] => none
      | d :: l' => if d.toNat = 110 then (meantN f l').map (10 :: ·) else if d.toNat = 116 then (meantN f l').map (9 :: ·)
        else if d.toNat = 120 then (match l' with
          | a :: b :: l2 => if hexC a = true ∧ hexC b = true then (meantN f l2).map (UInt8.ofNat (16 * hexV a + hexV b) :: ·) else none
          | _ => none)
        else (meantN f l').map (d :: ·))
    else (meantN f l).map (c :: ·)
def decN : List UInt8 → Nat → Nat
  | [], n => n
  | c :: l, n => decN l (10 * n + (c.toNat - 48))
/-- the node of a literal or a name -/
def literalNd (t : Nat) (w : List UInt8) : Option Nd :=
  if t = 2 then (if startsIntB w = true ∧ w ≠ [] ∧ w.length ≤ 18 then some ⟨1, ⟨#[]⟩, 1, (decN w 0 : Int), ⟨#[]⟩, [], []⟩ else none)
  else if t = 46 ∨ t = 47 then some ⟨2, ⟨#[]⟩, 2, 47 - (t : Int), ⟨#[]⟩, [], []⟩
  else if t = 3 then none
  else if t = 1 then some ⟨5, ⟨w.toArray⟩, 0, 0, ⟨#[]⟩, [], []⟩
  else some (bareNd 4 [])
inductive Job where
  | expr
  | row (level : Nat)
  | more (level : Nat) (root : Int)
  | two (op : Int) (root : Int) (level : Nat)
  | unary
  | list (last : Nat) (kids : List Int)
def litT (t : Nat) : Bool := decide (t = 2 ∨ t = 46 ∨ t = 47 ∨ t = 3 ∨ t = 48 ∨ t = 1)
/-- the operator of a row's level that stands here (0: none), and the level beneath -/
def rowOp (level t : Nat) : Int :=
  if level = 43 then (if t = 43 then 10 else 0)
  else if level = 44 then (if t = 44 then 9 else 0)
  else if level = 18 then (if t = 18 ∨ t = 19 then 18 + ((t : Int) - 18) else 0)
  else (if 20 ≤ t ∧ t ≤ 22 then 20 + ((t : Int) - 20) else 0)
def beneath (level : Nat) : Nat := if level = 43 then 44 else if level = 44 then 45 else if level = 18 then 20 else 19
def exN (src : List UInt8) : Nat → Job → Rdr → Option (Int × List Int × Rdr)
  | 0, _, _ => none
  | f + 1, .expr, r =>
    if r.t ≠ 40 then exN src f (.row 43) r
    else (nextN src r).bind fun r1 => (exN src f .expr r1).bind fun c => (nextN src c.2.2).bind fun r2 => (exN src f .expr r2).bind fun a => (nextN src a.2.2).bind fun r3 =>
      (exN src f .expr r3).bind fun b => (nodeN (bareNd 23 [c.1, a.1, b.1]) r.from_ b.2.2).map fun x => (x.1, [], x.2)
  | f + 1, .row level, r =>
    if level = 45 then
      (if r.t = 45 then (nextN src r).bind fun r1 => (exN src f (.row 45) r1).bind fun k => (nodeN (bareNd 8 [k.1]) r.from_ k.2.2).map fun x => (x.1, [], x.2)
       else (exN src f (.row 18) r).bind fun k =>
        if 12 ≤ k.2.2.t ∧ k.2.2.t ≤ 17 then exN src f (.two (11 + ((k.2.2.t : Int) - 12)) k.1 18) k.2.2
        else if k.2.2.t = 28 then exN src f (.two 17 k.1 18) k.2.2 else some k)
    else if level = 43 ∨ level = 44 ∨ level = 18 ∨ level = 20 then (exN src f (.row (beneath level)) r).bind fun k => exN src f (.more level k.1) k.2.2
    else exN src f .unary r
  | f + 1, .more level root, r =>
    if rowOp level r.t = 0 then some (root, [], r)
    else (exN src f (.two (rowOp level r.t) root (beneath level)) r).bind fun k => exN src f (.more level k.1) k.2.2
  | f + 1, .two op root level, r => (nextN src r).bind fun r1 => (exN src f (.row level) r1).bind fun q => (nodeN (bareNd op [root, q.1]) r.from_ q.2.2).map fun x => (x.1, [], x.2)
  | f + 1, .unary, r =>
    if r.t = 19 then (nextN src r).bind fun r1 => (exN src f .unary r1).bind fun k => (nodeN (bareNd 7 [k.1]) r.from_ k.2.2).map fun x => (x.1, [], x.2)
    else if litT r.t = true then (literalNd r.t (lexeme src r)).bind fun n => (nextN src r).bind fun r1 => (nodeN n r.from_ r1).map fun x => (x.1, [], x.2)
    else if r.t = 6 then (nextN src r).bind fun r1 => (exN src f .expr r1).bind fun k => (nextN src k.2.2).bind fun r2 => some (k.1, [], r2)
    else if r.t = 4 then (nextN src r).bind fun r1 => (exN src f (.list 5 []) r1).bind fun k => (nodeN (bareNd 6 k.2.1) r.from_ k.2.2).map fun x => (x.1, [], x.2)
    else if ¬ (r.t = 31 ∨ (49 ≤ r.t ∧ r.t ≤ 57)) then none
    else (nextN src r).bind fun r1 => (nextN src r1).bind fun r2 =>
      if r.t = 49 ∨ r.t = 52 ∨ r.t = 31 then (nameN src r2).bind fun w => (nextN src w.2.2).bind fun r3 => (nodeN ⟨callN r.t, w.1, 0, 0, ⟨#[]⟩, [], []⟩ r.from_ r3).map fun x => (x.1, [], x.2)
      else (exN src f (.list 7 []) r2).bind fun k => (nodeN (bareNd (callN r.t) k.2.1) r.from_ k.2.2).map fun x => (x.1, [], x.2)
  | f + 1, .list last kids, r =>
    if r.t = last then (nextN src r).bind fun r1 => some (0, kids, r1)
    else if kids.length < 1000000 then (skipN src 8 r).bind fun s => (exN src f .expr s.2).bind fun k => exN src f (.list last (kids ++ [k.1])) k.2.2 else none
def exprN (src : List UInt8) (f : Nat) (r : Rdr) : Option (Int × Rdr) := (exN src f .expr r).map fun k => (k.1, k.2.2)
def guardN (src : List UInt8) (f : Nat) (first : Nat) (r : Rdr) : Option (Int × Rdr) :=
  if r.t ≠ first then some (-1, r)
  else (nextN src r).bind fun r1 => if first = 32 ∨ first = 12 then exprN src f r1 else (nextN src r1).bind fun r2 => exprN src f r2
def ruledN (src : List UInt8) (f : Nat) (first : Nat) (r : Rdr) : Option (Int × Rdr) :=
  (guardN src f first r).bind fun k => if 0 ≤ k.1 then (nextN src k.2).bind fun r1 => some (k.1, r1) else some k
def declN (src : List UInt8) (r : Rdr) : Option (ByteArray × Int × Int × Rdr) :=
  (nextN src r).bind fun r1 => (nameN src r1).bind fun w => if w.2.2.order < 1000000 then some (w.1, w.2.1, (w.2.2.order : Int), { w.2.2 with order := w.2.2.order + 1 }) else none
def inN (src : List UInt8) (r : Rdr) : Option (ByteArray × Int × Rdr) := if r.t = 28 then (nextN src r).bind fun r1 => nameN src r1 else some (⟨#[]⟩, 0, r)
def kindN (src : List UInt8) (r : Rdr) : Option (Int × Rdr) := if 34 ≤ r.t ∧ r.t ≤ 38 then (nextN src r).bind fun r1 => some ((r.t : Int) - 33, r1) else none
def attrN (src : List UInt8) (f : Nat) (r : Rdr) : Option Rdr :=
  (declN src r).bind fun d => (nextN src d.2.2.2).bind fun r1 => (skipN src 39 r1).bind fun o => (kindN src o.2).bind fun k => (guardN src f 12 k.2).bind fun a => (guardN src f 32 a.2).bind fun b => (nextN src b.2).bind fun r2 =>
    if r2.tree.attrs.length < 1000000 then some { r2 with tree := { r2.tree with attrs := r2.tree.attrs ++ [⟨d.1, d.2.1, d.2.2.1, o.1, k.1, a.1, b.1⟩] } } else none
def stageN (src : List UInt8) (f : Nat) (r : Rdr) : Option Rdr :=
  (declN src r).bind fun d => (inN src d.2.2.2).bind fun i => (nextN src i.2.2).bind fun r1 => (ruledN src f 29 r1).bind fun a => (ruledN src f 30 a.2).bind fun b => (nextN src b.2).bind fun r2 =>
    if r2.tree.stages.length < 1000000 then some { r2 with tree := { r2.tree with stages := r2.tree.stages ++ [⟨d.1, d.2.1, d.2.2.1, i.1, i.2.1, a.1, b.1⟩] } } else none
def mileN (src : List UInt8) (f : Nat) (r : Rdr) : Option Rdr :=
  (declN src r).bind fun d => (inN src d.2.2.2).bind fun i => (ruledN src f 31 i.2.2).bind fun a =>
    if a.2.tree.miles.length < 1000000 then some { a.2 with tree := { a.2.tree with miles := a.2.tree.miles ++ [⟨d.1, d.2.1, d.2.2.1, i.1, i.2.1, a.1⟩] } } else none
def paramsN (src : List UInt8) : Nat → List Prm → Rdr → Option (List Prm × Rdr)
  | 0, _, _ => none
  | f + 1, ps, r => if r.t = 7 then some (ps, r)
    else if ps.length < 1000000 then (skipN src 8 r).bind fun s => (nameN src s.2).bind fun w => (nextN src w.2.2).bind fun r1 => (kindN src r1).bind fun k => paramsN src f (ps ++ [⟨w.1, w.2.1, k.1⟩]) k.2 else none
def effectsN (src : List UInt8) : Nat → List Eff → Rdr → Option (List Eff × Rdr)
  | 0, _, _ => none
  | f + 1, es, r => if r.t = 5 then some (es, r)
    else if es.length < 1000000 then (skipN src 33 r).bind fun s => (nameN src s.2).bind fun w =>
      (if s.1 = true then some (-1, w.2.2) else (nextN src w.2.2).bind fun r1 => exprN src f r1).bind fun x => (nextN src x.2).bind fun r2 => effectsN src f (es ++ [⟨w.1, w.2.1, x.1⟩]) r2 else none
def stepD (src : List UInt8) (f : Nat) (r : Rdr) : Option Rdr :=
  (declN src r).bind fun d => (nextN src d.2.2.2).bind fun r1 => (paramsN src f [] r1).bind fun p => (nextN src p.2).bind fun r2 => (inN src r2).bind fun i => (guardN src f 32 i.2.2).bind fun g => (nextN src g.2).bind fun r3 =>
    (effectsN src f [] r3).bind fun e => (nextN src e.2).bind fun r4 =>
      if r4.tree.steps.length < 1000000 then some { r4 with tree := { r4.tree with steps := r4.tree.steps ++ [⟨d.1, d.2.1, d.2.2.1, p.1, i.1, i.2.1, g.1, e.1⟩] } } else none
def declsN (src : List UInt8) : Nat → Rdr → Option Rdr
  | 0, _ => none
  | f + 1, r =>
    if r.t = 24 then (attrN src f r).bind (declsN src f)
    else if r.t = 25 then (stageN src f r).bind (declsN src f)
    else if r.t = 26 then (mileN src f r).bind (declsN src f)
    else if r.t = 27 then (stepD src f r).bind (declsN src f)
    else some r
def readN (src : List UInt8) (f : Nat) : Option Rdr :=
  (nextN src ⟨0, 0, 0, 0, Tre.none_⟩).bind fun r1 => (nextN src r1).bind fun r2 => (nameN src r2).bind fun w => (nextN src w.2.2).bind fun r3 =>
    declsN src f { r3 with tree := { r3.tree with name := w.1, at_ := w.2.1 } }
end Go.Proofs.YtmmjcbbogokmfaaGreatDoor

/- Contracts of the grammar's tests: atomic, worked, begins, empty, worded. -/
namespace Go.Proofs.YtmmjcbbogokmfaaGreatDoor
open Go.RowKit

/-- a symbol as a value -/
def yv (n : Nat) : Value := .int .u8 (n : Int)

set_option maxRecDepth 100000 in
set_option maxHeartbeats 1600000 in
theorem atomic_any (w : World) (t : Nat) : Calls Tryz.prog 239 #[yv t] w fun e w' => e = .returned (.bool (atomicN t)) ∧ w = w' := by
  have Hy := Lib.hid (show atomicN t = decide (t = 2 ∨ t = 46 ∨ t = 47 ∨ t = 3 ∨ t = 48 ∨ t = 1 ∨ t = 6 ∨ t = 4 ∨ t = 31 ∨ (49 ≤ t ∧ t ≤ 57)) from rfl)
  generalize atomicN t = R at *
  unfold yv
  go_enter Tryz.func239, Tryz.ntmps239
  go_wp2
  all_goals (go_ret; refine ⟨?_, rfl⟩; rw [Hy.out]; refine retb ?_; simp only [beq_iff_eq, beq_eq_false_iff_ne, ne_eq, decide_eq_true_eq, Bool.false_eq_true, true_iff, false_iff] at *; omega)
set_option maxRecDepth 100000 in
set_option maxHeartbeats 1600000 in
theorem empty_any (w : World) (n : Nat) : Calls Tryz.prog 202 #[yv n] w fun e w' => e = .returned (.bool (emptyN n)) ∧ w = w' := by
  have Hy := Lib.hid (show emptyN n = decide (n = 58 ∨ n = 59 ∨ n = 61 ∨ n = 62 ∨ n = 63 ∨ n = 64 ∨ n = 65 ∨ n = 66 ∨ n = 67 ∨ n = 68 ∨ n = 71 ∨ n = 73 ∨ n = 76 ∨ n = 78 ∨ n = 80 ∨ n = 83 ∨ n = 84) from rfl)
  generalize emptyN n = R at *
  unfold yv
  go_enter Tryz.func202, Tryz.ntmps202
  go_wp2
  all_goals (go_ret; refine ⟨?_, rfl⟩; rw [Hy.out]; refine retb ?_; simp only [beq_iff_eq, beq_eq_false_iff_ne, ne_eq, decide_eq_true_eq, Bool.false_eq_true, true_iff, false_iff] at *; omega)
/-- the tests of a symbol, by its kind -/
def wk1 (a : Bool) (t : Nat) : Bool := decide (t = 40 ∨ t = 45 ∨ t = 19) || a
def wk2 (a : Bool) (t : Nat) : Bool := decide (t = 45 ∨ t = 19) || a
def wk3 (a : Bool) (t : Nat) : Bool := decide (t = 19) || a
def wk4 (a : Bool) (_ : Nat) : Bool := a
def wk5 (_ : Bool) (t : Nat) : Bool := decide (t = 43)
def wk6 (_ : Bool) (t : Nat) : Bool := decide (t = 44)
def wk7 (_ : Bool) (t : Nat) : Bool := decide ((12 ≤ t ∧ t ≤ 17) ∨ t = 28)
def wk8 (_ : Bool) (t : Nat) : Bool := decide (t = 18 ∨ t = 19)
def wk9 (_ : Bool) (t : Nat) : Bool := decide (20 ≤ t ∧ t ≤ 22)
theorem iff_dec {p : Prop} [Decidable p] {b : Bool} (h : b = true ↔ p) : b = decide p := by
  rw [Bool.eq_iff_iff, decide_eq_true_iff]; exact h
set_option maxRecDepth 100000 in
theorem worked83 (w : World) (t : Nat) : Calls Tryz.prog 229 #[.int .u8 83, yv t] w fun e w' => e = .returned (.bool (workedN 83 t)) ∧ w = w' := by
  have Hy := Lib.hid (show workedN 83 t = wk1 (atomicN t) t from rfl)
  have H := Lib.hid (atomic_any w t)
  generalize workedN 83 t = R at *
  generalize atomicN t = a at *
  unfold yv at *
  go_enter Tryz.func229, Tryz.ntmps229
  go_wp2_with (go_at_call 239; refine H.out.mono ?_; rintro e w1 ⟨rfl, rfl⟩)
  all_goals (go_ret; refine ⟨?_, rfl⟩; rw [Hy.out]; refine retb ?_; clear Hy H; cases a <;> (simp [wk1] at *; try omega))
set_option maxRecDepth 100000 in
theorem worked69 (w : World) (t : Nat) : Calls Tryz.prog 229 #[.int .u8 69, yv t] w fun e w' => e = .returned (.bool (workedN 69 t)) ∧ w = w' := by
  have Hy := Lib.hid (show workedN 69 t = wk1 (atomicN t) t from rfl)
  have H := Lib.hid (atomic_any w t)
  generalize workedN 69 t = R at *
  generalize atomicN t = a at *
  unfold yv at *
  go_enter Tryz.func229, Tryz.ntmps229
  go_wp2_with (go_at_call 239; refine H.out.mono ?_; rintro e w1 ⟨rfl, rfl⟩)
  all_goals (go_ret; refine ⟨?_, rfl⟩; rw [Hy.out]; refine retb ?_; clear Hy H; cases a <;> (simp [wk1] at *; try omega))
set_option maxRecDepth 100000 in
theorem worked70 (w : World) (t : Nat) : Calls Tryz.prog 229 #[.int .u8 70, yv t] w fun e w' => e = .returned (.bool (workedN 70 t)) ∧ w = w' := by
  have Hy := Lib.hid (show workedN 70 t = wk2 (atomicN t) t from rfl)
  have H := Lib.hid (atomic_any w t)
  generalize workedN 70 t = R at *
  generalize atomicN t = a at *
  unfold yv at *
  go_enter Tryz.func229, Tryz.ntmps229
  go_wp2_with (go_at_call 239; refine H.out.mono ?_; rintro e w1 ⟨rfl, rfl⟩)
  all_goals (go_ret; refine ⟨?_, rfl⟩; rw [Hy.out]; refine retb ?_; clear Hy H; cases a <;> (simp [wk2] at *; try omega))
set_option maxRecDepth 100000 in
theorem worked72 (w : World) (t : Nat) : Calls Tryz.prog 229 #[.int .u8 72, yv t] w fun e w' => e = .returned (.bool (workedN 72 t)) ∧ w = w' := by
  have Hy := Lib.hid (show workedN 72 t = wk2 (atomicN t) t from rfl)
  have H := Lib.hid (atomic_any w t)
  generalize workedN 72 t = R at *
  generalize atomicN t = a at *
  unfold yv at *
  go_enter Tryz.func229, Tryz.ntmps229
  go_wp2_with (go_at_call 239; refine H.out.mono ?_; rintro e w1 ⟨rfl, rfl⟩)
  all_goals (go_ret; refine ⟨?_, rfl⟩; rw [Hy.out]; refine retb ?_; clear Hy H; cases a <;> (simp [wk2] at *; try omega))
set_option maxRecDepth 100000 in
theorem worked74 (w : World) (t : Nat) : Calls Tryz.prog 229 #[.int .u8 74, yv t] w fun e w' => e = .returned (.bool (workedN 74 t)) ∧ w = w' := by
  have Hy := Lib.hid (show workedN 74 t = wk2 (atomicN t) t from rfl)
  have H := Lib.hid (atomic_any w t)
  generalize workedN 74 t = R at *
  generalize atomicN t = a at *
  unfold yv at *
  go_enter Tryz.func229, Tryz.ntmps229
  go_wp2_with (go_at_call 239; refine H.out.mono ?_; rintro e w1 ⟨rfl, rfl⟩)
  all_goals (go_ret; refine ⟨?_, rfl⟩; rw [Hy.out]; refine retb ?_; clear Hy H; cases a <;> (simp [wk2] at *; try omega))
set_option maxRecDepth 100000 in
theorem worked75 (w : World) (t : Nat) : Calls Tryz.prog 229 #[.int .u8 75, yv t] w fun e w' => e = .returned (.bool (workedN 75 t)) ∧ w = w' := by
  have Hy := Lib.hid (show workedN 75 t = wk3 (atomicN t) t from rfl)
  have H := Lib.hid (atomic_any w t)
  generalize workedN 75 t = R at *
  generalize atomicN t = a at *
  unfold yv at *
  go_enter Tryz.func229, Tryz.ntmps229
  go_wp2_with (go_at_call 239; refine H.out.mono ?_; rintro e w1 ⟨rfl, rfl⟩)
  all_goals (go_ret; refine ⟨?_, rfl⟩; rw [Hy.out]; refine retb ?_; clear Hy H; cases a <;> (simp [wk3] at *; try omega))
set_option maxRecDepth 100000 in
theorem worked77 (w : World) (t : Nat) : Calls Tryz.prog 229 #[.int .u8 77, yv t] w fun e w' => e = .returned (.bool (workedN 77 t)) ∧ w = w' := by
  have Hy := Lib.hid (show workedN 77 t = wk3 (atomicN t) t from rfl)
  have H := Lib.hid (atomic_any w t)
  generalize workedN 77 t = R at *
  generalize atomicN t = a at *
  unfold yv at *
  go_enter Tryz.func229, Tryz.ntmps229
  go_wp2_with (go_at_call 239; refine H.out.mono ?_; rintro e w1 ⟨rfl, rfl⟩)
  all_goals (go_ret; refine ⟨?_, rfl⟩; rw [Hy.out]; refine retb ?_; clear Hy H; cases a <;> (simp [wk3] at *; try omega))
set_option maxRecDepth 100000 in
theorem worked79 (w : World) (t : Nat) : Calls Tryz.prog 229 #[.int .u8 79, yv t] w fun e w' => e = .returned (.bool (workedN 79 t)) ∧ w = w' := by
  have Hy := Lib.hid (show workedN 79 t = wk3 (atomicN t) t from rfl)
  have H := Lib.hid (atomic_any w t)
  generalize workedN 79 t = R at *
  generalize atomicN t = a at *
  unfold yv at *
  go_enter Tryz.func229, Tryz.ntmps229
  go_wp2_with (go_at_call 239; refine H.out.mono ?_; rintro e w1 ⟨rfl, rfl⟩)
  all_goals (go_ret; refine ⟨?_, rfl⟩; rw [Hy.out]; refine retb ?_; clear Hy H; cases a <;> (simp [wk3] at *; try omega))
set_option maxRecDepth 100000 in
theorem worked81 (w : World) (t : Nat) : Calls Tryz.prog 229 #[.int .u8 81, yv t] w fun e w' => e = .returned (.bool (workedN 81 t)) ∧ w = w' := by
  have Hy := Lib.hid (show workedN 81 t = wk3 (atomicN t) t from rfl)
  have H := Lib.hid (atomic_any w t)
  generalize workedN 81 t = R at *
  generalize atomicN t = a at *
  unfold yv at *
  go_enter Tryz.func229, Tryz.ntmps229
  go_wp2_with (go_at_call 239; refine H.out.mono ?_; rintro e w1 ⟨rfl, rfl⟩)
  all_goals (go_ret; refine ⟨?_, rfl⟩; rw [Hy.out]; refine retb ?_; clear Hy H; cases a <;> (simp [wk3] at *; try omega))
set_option maxRecDepth 100000 in
theorem worked82 (w : World) (t : Nat) : Calls Tryz.prog 229 #[.int .u8 82, yv t] w fun e w' => e = .returned (.bool (workedN 82 t)) ∧ w = w' := by
  have Hy := Lib.hid (show workedN 82 t = wk4 (atomicN t) t from rfl)
  have H := Lib.hid (atomic_any w t)
  generalize workedN 82 t = R at *
  generalize atomicN t = a at *
  unfold yv at *
  go_enter Tryz.func229, Tryz.ntmps229
  go_wp2_with (go_at_call 239; refine H.out.mono ?_; rintro e w1 ⟨rfl, rfl⟩)
  all_goals (go_ret; refine ⟨?_, rfl⟩; rw [Hy.out]; refine retb ?_; clear Hy H; cases a <;> (simp [wk4] at *; try omega))
set_option maxRecDepth 100000 in
theorem worked71 (w : World) (t : Nat) : Calls Tryz.prog 229 #[.int .u8 71, yv t] w fun e w' => e = .returned (.bool (workedN 71 t)) ∧ w = w' := by
  have Hy := Lib.hid (show workedN 71 t = wk5 (atomicN t) t from rfl)
  have H := Lib.hid (atomic_any w t)
  generalize workedN 71 t = R at *
  generalize atomicN t = a at *
  unfold yv at *
  go_enter Tryz.func229, Tryz.ntmps229
  go_wp2_with (go_at_call 239; refine H.out.mono ?_; rintro e w1 ⟨rfl, rfl⟩)
  all_goals (go_ret; refine ⟨?_, rfl⟩; rw [Hy.out]; refine retb ?_; clear Hy H; cases a <;> (simp [wk5] at *; try omega))
set_option maxRecDepth 100000 in
theorem worked73 (w : World) (t : Nat) : Calls Tryz.prog 229 #[.int .u8 73, yv t] w fun e w' => e = .returned (.bool (workedN 73 t)) ∧ w = w' := by
  have Hy := Lib.hid (show workedN 73 t = wk6 (atomicN t) t from rfl)
  have H := Lib.hid (atomic_any w t)
  generalize workedN 73 t = R at *
  generalize atomicN t = a at *
  unfold yv at *
  go_enter Tryz.func229, Tryz.ntmps229
  go_wp2_with (go_at_call 239; refine H.out.mono ?_; rintro e w1 ⟨rfl, rfl⟩)
  all_goals (go_ret; refine ⟨?_, rfl⟩; rw [Hy.out]; refine retb ?_; clear Hy H; cases a <;> (simp [wk6] at *; try omega))
set_option maxRecDepth 100000 in
theorem worked76 (w : World) (t : Nat) : Calls Tryz.prog 229 #[.int .u8 76, yv t] w fun e w' => e = .returned (.bool (workedN 76 t)) ∧ w = w' := by
  have Hy := Lib.hid (show workedN 76 t = wk7 (atomicN t) t from rfl)
  have H := Lib.hid (atomic_any w t)
  generalize workedN 76 t = R at *
  generalize atomicN t = a at *
  unfold yv at *
  go_enter Tryz.func229, Tryz.ntmps229
  go_wp2_with (go_at_call 239; refine H.out.mono ?_; rintro e w1 ⟨rfl, rfl⟩)
  all_goals (go_ret; refine ⟨?_, rfl⟩; rw [Hy.out]; refine retb ?_; clear Hy H; cases a <;> (simp [wk7] at *; try omega))
set_option maxRecDepth 100000 in
theorem worked78 (w : World) (t : Nat) : Calls Tryz.prog 229 #[.int .u8 78, yv t] w fun e w' => e = .returned (.bool (workedN 78 t)) ∧ w = w' := by
  have Hy := Lib.hid (show workedN 78 t = wk8 (atomicN t) t from rfl)
  have H := Lib.hid (atomic_any w t)
  generalize workedN 78 t = R at *
  generalize atomicN t = a at *
  unfold yv at *
  go_enter Tryz.func229, Tryz.ntmps229
  go_wp2_with (go_at_call 239; refine H.out.mono ?_; rintro e w1 ⟨rfl, rfl⟩)
  all_goals (go_ret; refine ⟨?_, rfl⟩; rw [Hy.out]; refine retb ?_; clear Hy H; cases a <;> (simp [wk8] at *; try omega))
set_option maxRecDepth 100000 in
theorem worked80 (w : World) (t : Nat) : Calls Tryz.prog 229 #[.int .u8 80, yv t] w fun e w' => e = .returned (.bool (workedN 80 t)) ∧ w = w' := by
  have Hy := Lib.hid (show workedN 80 t = wk9 (atomicN t) t from rfl)
  have H := Lib.hid (atomic_any w t)
  generalize workedN 80 t = R at *
  generalize atomicN t = a at *
  unfold yv at *
  go_enter Tryz.func229, Tryz.ntmps229
  go_wp2_with (go_at_call 239; refine H.out.mono ?_; rintro e w1 ⟨rfl, rfl⟩)
  all_goals (go_ret; refine ⟨?_, rfl⟩; rw [Hy.out]; refine retb ?_; clear Hy H; cases a <;> (simp [wk9] at *; try omega))
end Go.Proofs.YtmmjcbbogokmfaaGreatDoor
