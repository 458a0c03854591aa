import Derived.Test.YtmmjcbbogokmfaaGreatDoorMf01
set_option maxRecDepth 100000
set_option maxHeartbeats 25600000
namespace Go.Proofs.YtmmjcbbogokmfaaGreatDoor
structure Nd where
  op : Int
  name : ByteArray
  vk : Int
  vn : Int
  vt : ByteArray
  vs : List ByteArray
  kids : List Int
structure Atr where
  name : ByteArray
  at_ : Int
  order : Int
  opt : Bool
  kind : Int
  dflt : Int
  when_ : Int
structure Stg where
  name : ByteArray
  at_ : Int
  order : Int
  in_ : ByteArray
  inAt : Int
  opens : Int
  closes : Int
structure Mil where
  name : ByteArray
  at_ : Int
  order : Int
  in_ : ByteArray
  inAt : Int
  when_ : Int
structure Prm where
  name : ByteArray
  at_ : Int
  kind : Int
structure Eff where
  name : ByteArray
  at_ : Int
  worth : Int
structure Stp where
  name : ByteArray
  at_ : Int
  order : Int
  params : List Prm
  in_ : ByteArray
  inAt : Int
  when_ : Int
  effects : List Eff
structure Tre where
  name : ByteArray
  at_ : Int
  ats : List Int
  nodes : List Nd
  steps : List Stp
  attrs : List Atr
  stages : List Stg
  miles : List Mil
def Tre.none_ : Tre := ⟨⟨#[]⟩, 0, [], [], [], [], [], []⟩
structure Rdr where
  at_ : Nat
  from_ : Nat
  t : Nat
  order : Nat
  tree : Tre
def je : Bool -> List UInt8 -> Nat
  | _, [] => 0
  | true, c :: l => if lfC c = true then je false l + 1 else je true l + 1
  | false, c :: l => if kO c = true then je false l + 1 else if c.toNat = 35 then je true l + 1 else 0
def strLen : List UInt8 -> Option Nat
  | [] => none
  | c :: l => if c.toNat = 34 then some 1 else if c.toNat = 92 then (match l with
    | [] => none
    | _ :: l' => (strLen l').map (· + 2)) else (strLen l).map (· + 1)
def lexN : List UInt8 -> Option (Nat × Nat)
  | [] => none
  | c :: l =>
    if jH c = true then (let w := (c :: l).takeWhile jH; some (w.length, jT w))
    else if c.toNat = 34 then (strLen l).map fun k => (k + 1, 3)
    else if l.headD 0 = 61 /\ jV [c, 61] ≠ 0 then some (2, jV [c, 61])
    else some (1, jV [c])
def jt (src : List UInt8) (r : Rdr) : Option Rdr :=
  let k := r.at_ + je false (src.drop r.at_)
  if src.length <= k then some { r with at_ := k, from_ := k }
  else (lexN (src.drop k)).map fun x => { r with at_ := k + x.1, from_ := k, t := x.2 }
def jy (src : List UInt8) (r : Rdr) : List UInt8 := (src.take r.at_).drop r.from_
def jR (src : List UInt8) (t : Nat) (r : Rdr) : Option (Bool × Rdr) := if r.t = t then (jt src r).map fun r => (true, r) else some (false, r)
def nameN (src : List UInt8) (r : Rdr) : Option (ByteArray × Int × Rdr) := (jt src r).map fun r' => (⟨(jy src r).toArray⟩, (r.from_ : Int), r')
def vS (n : Nd) (at_ : Nat) (r : Rdr) : Option (Int × Rdr) := if r.tree.nodes.length < 1000000 /\ r.tree.ats.length < 1000000 then some ((r.tree.nodes.length : Int), { r with tree := { r.tree with nodes := r.tree.nodes ++ [n], ats := r.tree.ats ++ [(at_ : Int)] } }) else none
def km (op : Int) (kids : List Int) : Nd := ⟨op, ⟨#[]⟩, 0, 0, ⟨#[]⟩, [], kids⟩
def vM (t : Nat) : Int := if t = 49 then 24 else if t = 52 then 25 else if t = 31 then 26 else if t = 50 then 27 else if t = 51 then 28 else 29 + ((t : Int) - 53)
def hexV (c : UInt8) : Nat := if digC c = true then c.toNat - 48 else c.toNat - 87
def meantN : Nat -> List UInt8 -> Option (List UInt8)
  | 0, _ => none
  | _ + 1, [] => some []
  | f + 1, c :: l =>
    if c.toNat = 92 then (match l with
      | [] => none
      | d :: l' => if d.toNat = 110 then (meantN f l').map (10 :: ·) else if d.toNat = 116 then (meantN f l').map (9 :: ·)
        else if d.toNat = 120 then (match l' with
          | a :: b :: l2 => if hexC a = true /\ hexC b = true then (meantN f l2).map (UInt8.ofNat (16 * hexV a + hexV b) :: ·) else none
          | _ => none)
        else (meantN f l').map (d :: ·))
    else (meantN f l).map (c :: ·)
def decN : List UInt8 -> Nat -> Nat
  | [], n => n
  | c :: l, n => decN l (10 * n + (c.toNat - 48))
def vT (t : Nat) (w : List UInt8) : Option Nd :=
  if t = 2 then (if jX w = true /\ w ≠ [] then some ⟨1, ⟨#[]⟩, 1, (decN w 0 : Int), ⟨#[]⟩, [], []⟩ else none)
  else if t = 46 \/ t = 47 then some ⟨2, ⟨#[]⟩, 2, 47 - (t : Int), ⟨#[]⟩, [], []⟩
  else if t = 3 then (if 2 <= w.length then (meantN (w.length + 1) ((w.drop 1).take (w.length - 2))).map fun v => ⟨3, ⟨#[]⟩, 3, 0, ⟨v.toArray⟩, [], []⟩ else none)
  else if t = 1 then some ⟨5, ⟨w.toArray⟩, 0, 0, ⟨#[]⟩, [], []⟩
  else some (km 4 [])
inductive Job where
  | expr
  | row (level : Nat)
  | more (level : Nat) (root : Int)
  | two (op : Int) (root : Int) (level : Nat)
  | unary
  | list (last : Nat) (kids : List Int)
def litT (t : Nat) : Bool := decide (t = 2 \/ t = 46 \/ t = 47 \/ t = 3 \/ t = 48 \/ t = 1)
def vW (level t : Nat) : Int :=
  if level = 43 then (if t = 43 then 10 else 0)
  else if level = 44 then (if t = 44 then 9 else 0)
  else if level = 18 then (if t = 18 \/ t = 19 then 18 + ((t : Int) - 18) else 0)
  else (if 20 <= t /\ t <= 22 then 20 + ((t : Int) - 20) else 0)
def beneath (level : Nat) : Nat := if level = 43 then 44 else if level = 44 then 45 else if level = 18 then 20 else 19
def exN (src : List UInt8) : Nat -> Job -> Rdr -> Option (Int × List Int × Rdr)
  | 0, _, _ => none
  | f + 1, .expr, r =>
    if r.t ≠ 40 then exN src f (.row 43) r
    else (jt src r).bind fun r1 => (exN src f .expr r1).bind fun c => (jt src c.2.2).bind fun r2 => (exN src f .expr r2).bind fun a => (jt src a.2.2).bind fun r3 =>
      (exN src f .expr r3).bind fun b => (vS (km 23 [c.1, a.1, b.1]) r.from_ b.2.2).map fun x => (x.1, [], x.2)
  | f + 1, .row level, r =>
    if level = 45 then
      (if r.t = 45 then (jt src r).bind fun r1 => (exN src f (.row 45) r1).bind fun k => (vS (km 8 [k.1]) r.from_ k.2.2).map fun x => (x.1, [], x.2)
       else (exN src f (.row 18) r).bind fun k =>
        if 12 <= k.2.2.t /\ k.2.2.t <= 17 then exN src f (.two (11 + ((k.2.2.t : Int) - 12)) k.1 18) k.2.2
        else if k.2.2.t = 28 then exN src f (.two 17 k.1 18) k.2.2 else some k)
    else if level = 43 \/ level = 44 \/ level = 18 \/ level = 20 then (exN src f (.row (beneath level)) r).bind fun k => exN src f (.more level k.1) k.2.2
    else exN src f .unary r
  | f + 1, .more level root, r =>
    if vW level r.t = 0 then some (root, [], r)
    else (exN src f (.two (vW level r.t) root (beneath level)) r).bind fun k => exN src f (.more level k.1) k.2.2
  | f + 1, .two op root level, r => (jt src r).bind fun r1 => (exN src f (.row level) r1).bind fun q => (vS (km op [root, q.1]) r.from_ q.2.2).map fun x => (x.1, [], x.2)
  | f + 1, .unary, r =>
    if r.t = 19 then (jt src r).bind fun r1 => (exN src f .unary r1).bind fun k => (vS (km 7 [k.1]) r.from_ k.2.2).map fun x => (x.1, [], x.2)
    else if litT r.t = true then (vT r.t (jy src r)).bind fun n => (jt src r).bind fun r1 => (vS n r.from_ r1).map fun x => (x.1, [], x.2)
    else if r.t = 6 then (jt src r).bind fun r1 => (exN src f .expr r1).bind fun k => (jt src k.2.2).bind fun r2 => some (k.1, [], r2)
    else if r.t = 4 then (jt src r).bind fun r1 => (exN src f (.list 5 []) r1).bind fun k => (vS (km 6 k.2.1) r.from_ k.2.2).map fun x => (x.1, [], x.2)
    else if ¬ (r.t = 31 \/ (49 <= r.t /\ r.t <= 57)) then none
    else (jt src r).bind fun r1 => (jt src r1).bind fun r2 =>
      if r.t = 49 \/ r.t = 52 \/ r.t = 31 then (nameN src r2).bind fun w => (jt src w.2.2).bind fun r3 => (vS ⟨vM r.t, w.1, 0, 0, ⟨#[]⟩, [], []⟩ r.from_ r3).map fun x => (x.1, [], x.2)
      else (exN src f (.list 7 []) r2).bind fun k => (vS (km (vM r.t) k.2.1) r.from_ k.2.2).map fun x => (x.1, [], x.2)
  | f + 1, .list last kids, r =>
    if r.t = last then (jt src r).bind fun r1 => some (0, kids, r1)
    else if kids.length < 1000000 then (jR src 8 r).bind fun s => (exN src f .expr s.2).bind fun k => exN src f (.list last (kids ++ [k.1])) k.2.2 else none
def exprN (src : List UInt8) (f : Nat) (r : Rdr) : Option (Int × Rdr) := (exN src f .expr r).map fun k => (k.1, k.2.2)
def vD (src : List UInt8) (f : Nat) (first : Nat) (r : Rdr) : Option (Int × Rdr) :=
  if r.t ≠ first then some (-1, r)
  else (jt src r).bind fun r1 => if first = 32 \/ first = 12 then exprN src f r1 else (jt src r1).bind fun r2 => exprN src f r2
def yK (src : List UInt8) (f : Nat) (first : Nat) (r : Rdr) : Option (Int × Rdr) :=
  (vD src f first r).bind fun k => if 0 <= k.1 then (jt src k.2).bind fun r1 => some (k.1, r1) else some k
def declN (src : List UInt8) (r : Rdr) : Option (ByteArray × Int × Int × Rdr) :=
  (jt src r).bind fun r1 => (nameN src r1).bind fun w => if w.2.2.order < 1000000 then some (w.1, w.2.1, (w.2.2.order : Int), { w.2.2 with order := w.2.2.order + 1 }) else none
def inN (src : List UInt8) (r : Rdr) : Option (ByteArray × Int × Rdr) := if r.t = 28 then (jt src r).bind fun r1 => nameN src r1 else some (⟨#[]⟩, 0, r)
def kindN (src : List UInt8) (r : Rdr) : Option (Int × Rdr) := if 34 <= r.t /\ r.t <= 38 then (jt src r).bind fun r1 => some ((r.t : Int) - 33, r1) else none
def attrN (src : List UInt8) (f : Nat) (r : Rdr) : Option Rdr :=
  (declN src r).bind fun d => (jt src d.2.2.2).bind fun r1 => (jR src 39 r1).bind fun o => (kindN src o.2).bind fun k => (vD src f 12 k.2).bind fun a => (vD src f 32 a.2).bind fun b => (jt src b.2).bind fun r2 =>
    if r2.tree.attrs.length < 1000000 then some { r2 with tree := { r2.tree with attrs := r2.tree.attrs ++ [⟨d.1, d.2.1, d.2.2.1, o.1, k.1, a.1, b.1⟩] } } else none
def stageN (src : List UInt8) (f : Nat) (r : Rdr) : Option Rdr :=
  (declN src r).bind fun d => (inN src d.2.2.2).bind fun i => (jt src i.2.2).bind fun r1 => (yK src f 29 r1).bind fun a => (yK src f 30 a.2).bind fun b => (jt src b.2).bind fun r2 =>
    if r2.tree.stages.length < 1000000 then some { r2 with tree := { r2.tree with stages := r2.tree.stages ++ [⟨d.1, d.2.1, d.2.2.1, i.1, i.2.1, a.1, b.1⟩] } } else none
def mileN (src : List UInt8) (f : Nat) (r : Rdr) : Option Rdr :=
  (declN src r).bind fun d => (inN src d.2.2.2).bind fun i => (yK src f 31 i.2.2).bind fun a =>
    if a.2.tree.miles.length < 1000000 then some { a.2 with tree := { a.2.tree with miles := a.2.tree.miles ++ [⟨d.1, d.2.1, d.2.2.1, i.1, i.2.1, a.1⟩] } } else none
def paramsN (src : List UInt8) : Nat -> List Prm -> Rdr -> Option (List Prm × Rdr)
  | 0, _, _ => none
  | f + 1, ps, r => if r.t = 7 then some (ps, r)
    else if ps.length < 1000000 then (jR src 8 r).bind fun s => (nameN src s.2).bind fun w => (jt src w.2.2).bind fun r1 => (kindN src r1).bind fun k => paramsN src f (ps ++ [⟨w.1, w.2.1, k.1⟩]) k.2 else none
def vd (src : List UInt8) : Nat -> List Eff -> Rdr -> Option (List Eff × Rdr)
  | 0, _, _ => none
  | f + 1, es, r => if r.t = 5 then some (es, r)
    else if es.length < 1000000 then (jR src 33 r).bind fun s => (nameN src s.2).bind fun w =>
      (if s.1 = true then some (-1, w.2.2) else (jt src w.2.2).bind fun r1 => exprN src f r1).bind fun x => (jt src x.2).bind fun r2 => vd src f (es ++ [⟨w.1, w.2.1, x.1⟩]) r2 else none
def stepD (src : List UInt8) (f : Nat) (r : Rdr) : Option Rdr :=
  (declN src r).bind fun d => (jt src d.2.2.2).bind fun r1 => (paramsN src f [] r1).bind fun p => (jt src p.2).bind fun r2 => (inN src r2).bind fun i => (vD src f 32 i.2.2).bind fun g => (jt src g.2).bind fun r3 =>
    (vd src f [] r3).bind fun e => (jt src e.2).bind fun r4 =>
      if r4.tree.steps.length < 1000000 then some { r4 with tree := { r4.tree with steps := r4.tree.steps ++ [⟨d.1, d.2.1, d.2.2.1, p.1, i.1, i.2.1, g.1, e.1⟩] } } else none
def declsN (src : List UInt8) : Nat -> Rdr -> Option Rdr
  | 0, _ => none
  | f + 1, r =>
    if r.t = 24 then (attrN src f r).bind (declsN src f)
    else if r.t = 25 then (stageN src f r).bind (declsN src f)
    else if r.t = 26 then (mileN src f r).bind (declsN src f)
    else if r.t = 27 then (stepD src f r).bind (declsN src f)
    else some r
def readN (src : List UInt8) (f : Nat) : Option Rdr :=
  (jt src ⟨0, 0, 0, 0, Tre.none_⟩).bind fun r1 => (jt src r1).bind fun r2 => (nameN src r2).bind fun w => (jt src w.2.2).bind fun r3 =>
    declsN src f { r3 with tree := { r3.tree with name := w.1, at_ := w.2.1 } }
structure Tk where
  t : Nat
  a : Nat
  b : Nat
inductive Acc : List Nat -> List Tk -> Prop
  | done : Acc [] []
  | tak {k : Tk} {f : Nat} {st st' : List Nat} {ts : List Tk} : k.t < 58 -> mayN k.t st = true -> jl k.t f st = some st' -> Acc st' ts -> Acc st (k :: ts)
theorem begins_lt {n t : Nat} (ht : t < 58) (h : jD n t = true) : n < 85 := by
  rcases Nat.lt_or_ge n 85 with hn | hn
  · exact hn
  exfalso
  unfold jD jL at h
  simp only [show ¬ n = 58 by omega, show ¬ n = 59 by omega, show ¬ n = 60 by omega, show ¬ n = 61 by omega, show ¬ n = 62 by omega, show ¬ n = 63 by omega, show ¬ n = 64 by omega, show ¬ n = 65 by omega, show ¬ n = 66 by omega, show ¬ (n = 67 \/ n = 84) by omega, show ¬ n = 68 by omega,
    show ¬ (n = 83 \/ n = 69) by omega, show ¬ (n = 70 \/ n = 72 \/ n = 74) by omega, show ¬ (n = 75 \/ n = 77 \/ n = 79 \/ n = 81) by omega, show ¬ n = 82 by omega, show ¬ n = 71 by omega, show ¬ n = 73 by omega, show ¬ n = 76 by omega, show ¬ n = 78 by omega, show ¬ n = 80 by omega, show ¬ n = t by omega,
    if_false, decide_false, Bool.false_or, Bool.and_false] at h
  cases h
theorem begins_term {n t : Nat} (hn : n < 58) (h : jD n t = true) : n = t := by
  unfold jD at h
  simp only [show ¬ n = 58 by omega, show ¬ n = 59 by omega, show ¬ n = 60 by omega, show ¬ n = 61 by omega, show ¬ n = 62 by omega, show ¬ n = 63 by omega, show ¬ n = 64 by omega, show ¬ n = 65 by omega, show ¬ n = 66 by omega, show ¬ (n = 67 \/ n = 84) by omega, show ¬ n = 68 by omega, show ¬ 69 <= n by omega,
    if_false, decide_false, Bool.false_and, Bool.or_false] at h
  exact of_decide_eq_true h
theorem begins_rule : ∀ n : Fin 85, ∀ t : Fin 58, (!jD n.val t.val || (decide (n.val = t.val) || mayN t.val (jW n.val t.val))) = true := by decide +kernel
theorem acc_cons {n : Nat} {st : List Nat} {ts : List Tk} (h : Acc (n :: st) ts) : ∃ k ts', ts = k :: ts' /\ k.t < 58 /\ ((n = k.t /\ Acc st ts') \/ (n ≠ k.t /\ jD n k.t = true /\ Acc (jW n k.t ++ st) (k :: ts')) \/ (jD n k.t = false /\ jf n = true /\ Acc st (k :: ts'))) := by
  cases h with
  | @tak k f _ st' ts' h58 hm ht ha =>
    refine ⟨k, ts', rfl, h58, ?_⟩
    cases f with
    | zero => cases ht
    | succ f =>
      rw [jl] at ht
      by_cases hn : n = k.t
      · rw [if_pos hn] at ht
        obtain rfl := Option.some.inj ht
        exact .inl ⟨hn, ha⟩
      rw [if_neg hn] at ht
      rw [mayN] at hm
      by_cases hb : jD n k.t = true
      · refine .inr (.inl ⟨hn, hb, .tak h58 ?_ ht ha⟩)
        have h1 := begins_rule ⟨n, begins_lt h58 hb⟩ ⟨k.t, h58⟩
        simp only [hb, Bool.not_true, Bool.false_or, decide_eq_false hn] at h1
        exact yN k.t _ st h1
      · have hb' : jD n k.t = false := by simpa using hb
        rw [if_neg hb] at hm
        split at hm
        · rename_i he
          rw [skip_rule n k.t hb', List.nil_append] at ht
          exact .inr (.inr ⟨hb', he, .tak h58 hm ht ha⟩)
        · cases hm
theorem jY {n : Nat} {st : List Nat} {ts : List Tk} (hn : n < 58) (h : Acc (n :: st) ts) : ∃ k ts', ts = k :: ts' /\ k.t = n /\ Acc st ts' := by
  obtain ⟨k, ts', e, h58, ⟨e2, ha⟩ | ⟨hne, hb, _⟩ | ⟨_, he, _⟩⟩ := acc_cons h
  · exact ⟨k, ts', e, e2.symm, ha⟩
  · exact absurd (begins_term hn hb) hne
  · have := empty_ge n he
    omega
theorem jb {n : Nat} {st : List Nat} {k : Tk} {ts : List Tk} (hn : n < 58) (h : Acc (n :: st) (k :: ts)) : k.t = n /\ Acc st ts := by
  obtain ⟨k2, ts', e, h2, ha⟩ := jY hn h
  injection e with e1 e2
  subst e1 e2
  exact ⟨h2, ha⟩
theorem yD {n : Nat} {st : List Nat} {ts : List Tk} (hn : 58 <= n) (he : jf n = false) (h : Acc (n :: st) ts) : ∃ k ts', ts = k :: ts' /\ k.t < 58 /\ jD n k.t = true /\ Acc (jW n k.t ++ st) (k :: ts') := by
  obtain ⟨k, ts', e, h58, ⟨e2, ha⟩ | ⟨hne, hb, ha⟩ | ⟨_, he2, _⟩⟩ := acc_cons h
  · omega
  · exact ⟨k, ts', e, h58, hb, ha⟩
  · rw [he] at he2; cases he2
theorem kX {n : Nat} {st : List Nat} {ts : List Tk} (hn : 58 <= n) (h : Acc (n :: st) ts) : ∃ k ts', ts = k :: ts' /\ k.t < 58 /\ ((jD n k.t = true /\ Acc (jW n k.t ++ st) (k :: ts')) \/ (jD n k.t = false /\ Acc st (k :: ts'))) := by
  obtain ⟨k, ts', e, h58, ⟨e2, ha⟩ | ⟨hne, hb, ha⟩ | ⟨hb, he2, ha⟩⟩ := acc_cons h
  · omega
  · exact ⟨k, ts', e, h58, .inl ⟨hb, ha⟩⟩
  · exact ⟨k, ts', e, h58, .inr ⟨hb, ha⟩⟩
def lexOf (src : List UInt8) (k : Tk) : List UInt8 := (src.take k.b).drop k.a
def LitOk (src : List UInt8) (k : Tk) : Prop := litT k.t = true -> ∃ n, vT k.t (lexOf src k) = some n
inductive Toks (src : List UInt8) : Nat -> List Tk -> Prop
  | done {p : Nat} : src.length <= p + je false (src.drop p) -> Toks src p []
  | more {p k : Nat} {x : Nat × Nat} {ts : List Tk} : k = p + je false (src.drop p) -> k < src.length -> lexN (src.drop k) = some x -> LitOk src ⟨x.2, k, k + x.1⟩ -> Toks src (k + x.1) ts -> Toks src p (⟨x.2, k, k + x.1⟩ :: ts)
def Look (src : List UInt8) (r : Rdr) : List Tk -> Prop
  | [] => True
  | k :: ts => r.t = k.t /\ r.from_ = k.a /\ r.at_ = k.b /\ LitOk src k /\ Toks src k.b ts
def big (r : Rdr) : Nat := r.tree.nodes.length + r.tree.ats.length + r.tree.attrs.length + r.tree.stages.length + r.tree.miles.length + r.tree.steps.length + r.order
theorem next_toks {src : List UInt8} {r : Rdr} {ts : List Tk} (h : Toks src r.at_ ts) : ∃ r', jt src r = some r' /\ big r' = big r /\ r'.tree = r.tree /\ r'.order = r.order /\ Look src r' ts := by
  unfold jt
  cases h with
  | done h1 => exact ⟨_, if_pos h1, rfl, rfl, rfl, trivial⟩
  | @more _ k x ts hk hlt hx hl ht =>
    subst hk
    simp only
    rw [if_neg (by omega), hx]
    exact ⟨_, rfl, rfl, rfl, rfl, rfl, rfl, rfl, hl, ht⟩
theorem jG {src : List UInt8} {r : Rdr} {k : Tk} {ts : List Tk} (h : Look src r (k :: ts)) : ∃ r', jt src r = some r' /\ big r' = big r /\ r'.tree = r.tree /\ r'.order = r.order /\ Look src r' ts :=
  next_toks (by rw [h.2.2.1]; exact h.2.2.2.2)
theorem Look.lit {src : List UInt8} {r : Rdr} {k : Tk} {ts : List Tk} (h : Look src r (k :: ts)) (hl : litT k.t = true) : ∃ n, vT r.t (jy src r) = some n := by
  obtain ⟨n, hn⟩ := h.2.2.2.1 hl
  refine ⟨n, ?_⟩
  unfold jy
  rw [h.1, h.2.1, h.2.2.1]
  exact hn
theorem vR {src : List UInt8} {r : Rdr} {ts : List Tk} (n : Nd) (at_ : Nat) (h : Look src r ts) (hb : big r <= 900000) : ∃ x r', vS n at_ r = some (x, r') /\ 0 <= x /\ big r' = big r + 2 /\ Look src r' ts := by
  unfold big at hb
  refine ⟨_, _, by unfold vS; exact if_pos ⟨by omega, by omega⟩, by omega, ?_, ?_⟩
  · unfold big
    simp only [List.length_append, List.length_cons, List.length_nil]
    omega
  · cases ts with
    | nil => trivial
    | cons k ts => exact h
end Go.Proofs.YtmmjcbbogokmfaaGreatDoor
