import Derived.Test.YtmmjcbbogokmfaaGreatDoorMt01
set_option maxRecDepth 100000
set_option maxHeartbeats 25600000
namespace Go.Proofs.YtmmjcbbogokmfaaGreatDoor
structure Nd where
  op : Int
  name : ByteArray
  vk : Int
  vn : Int
  vt : ByteArray
  vs : List ByteArray
  kids : List Int
structure Atr where
  name : ByteArray
  at_ : Int
  order : Int
  opt : Bool
  kind : Int
  dflt : Int
  when_ : Int
structure Stg where
  name : ByteArray
  at_ : Int
  order : Int
  in_ : ByteArray
  inAt : Int
  opens : Int
  closes : Int
structure Mil where
  name : ByteArray
  at_ : Int
  order : Int
  in_ : ByteArray
  inAt : Int
  when_ : Int
structure Prm where
  name : ByteArray
  at_ : Int
  kind : Int
structure Eff where
  name : ByteArray
  at_ : Int
  worth : Int
structure Stp where
  name : ByteArray
  at_ : Int
  order : Int
  params : List Prm
  in_ : ByteArray
  inAt : Int
  when_ : Int
  effects : List Eff
structure Tre where
  name : ByteArray
  at_ : Int
  ats : List Int
  nodes : List Nd
  steps : List Stp
  attrs : List Atr
  stages : List Stg
  miles : List Mil
def Tre.none_ : Tre := ⟨⟨#[]⟩, 0, [], [], [], [], [], []⟩
structure Rdr where
  at_ : Nat
  from_ : Nat
  t : Nat
  order : Nat
  tree : Tre
def ji : Bool -> List UInt8 -> Nat
  | _, [] => 0
  | true, c :: l => if lfC c = true then ji false l + 1 else ji true l + 1
  | false, c :: l => if ki c = true then ji false l + 1 else if c.toNat = 35 then ji true l + 1 else 0
def strLen : List UInt8 -> Option Nat
  | [] => none
  | c :: l => if c.toNat = 34 then some 1 else if c.toNat = 92 then (match l with
    | [] => none
    | _ :: l' => (strLen l').map (· + 2)) else (strLen l).map (· + 1)
def lexN : List UInt8 -> Option (Nat × Nat)
  | [] => none
  | c :: l =>
    if jK c = true then (let w := (c :: l).takeWhile jK; some (w.length, jU w))
    else if c.toNat = 34 then (strLen l).map fun k => (k + 1, 3)
    else if l.headD 0 = 61 /\ jS [c, 61] ≠ 0 then some (2, jS [c, 61])
    else some (1, jS [c])
def jy (src : List UInt8) (r : Rdr) : Option Rdr :=
  let k := r.at_ + ji false (src.drop r.at_)
  if src.length <= k then some { r with at_ := k, from_ := k }
  else (lexN (src.drop k)).map fun x => { r with at_ := k + x.1, from_ := k, t := x.2 }
def kD (src : List UInt8) (r : Rdr) : List UInt8 := (src.take r.at_).drop r.from_
def jW (src : List UInt8) (t : Nat) (r : Rdr) : Option (Bool × Rdr) := if r.t = t then (jy src r).map fun r => (true, r) else some (false, r)
def nameN (src : List UInt8) (r : Rdr) : Option (ByteArray × Int × Rdr) := (jy src r).map fun r' => (⟨(kD src r).toArray⟩, (r.from_ : Int), r')
def vX (n : Nd) (at_ : Nat) (r : Rdr) : Option (Int × Rdr) := if r.tree.nodes.length < 1000000 /\ r.tree.ats.length < 1000000 then some ((r.tree.nodes.length : Int), { r with tree := { r.tree with nodes := r.tree.nodes ++ [n], ats := r.tree.ats ++ [(at_ : Int)] } }) else none
def kt (op : Int) (kids : List Int) : Nd := ⟨op, ⟨#[]⟩, 0, 0, ⟨#[]⟩, [], kids⟩
def vQ (t : Nat) : Int := if t = 49 then 24 else if t = 52 then 25 else if t = 31 then 26 else if t = 50 then 27 else if t = 51 then 28 else 29 + ((t : Int) - 53)
def hexV (c : UInt8) : Nat := if digC c = true then c.toNat - 48 else c.toNat - 87
def meantN : Nat -> List UInt8 -> Option (List UInt8)
  | 0, _ => none
  | _ + 1, [] => some []
  | f + 1, c :: l =>
    if c.toNat = 92 then (match l with
      | [] => none
      | d :: l' => if d.toNat = 110 then (meantN f l').map (10 :: ·) else if d.toNat = 116 then (meantN f l').map (9 :: ·)
        else if d.toNat = 120 then (match l' with
          | a :: b :: l2 => if hexC a = true /\ hexC b = true then (meantN f l2).map (UInt8.ofNat (16 * hexV a + hexV b) :: ·) else none
          | _ => none)
        else (meantN f l').map (d :: ·))
    else (meantN f l).map (c :: ·)
def decN : List UInt8 -> Nat -> Nat
  | [], n => n
  | c :: l, n => decN l (10 * n + (c.toNat - 48))
def vY (t : Nat) (w : List UInt8) : Option Nd :=
  if t = 2 then (if jc w = true /\ w ≠ [] then some ⟨1, ⟨#[]⟩, 1, (decN w 0 : Int), ⟨#[]⟩, [], []⟩ else none)
  else if t = 46 \/ t = 47 then some ⟨2, ⟨#[]⟩, 2, 47 - (t : Int), ⟨#[]⟩, [], []⟩
  else if t = 3 then (if 2 <= w.length then (meantN (w.length + 1) ((w.drop 1).take (w.length - 2))).map fun v => ⟨3, ⟨#[]⟩, 3, 0, ⟨v.toArray⟩, [], []⟩ else none)
  else if t = 1 then some ⟨5, ⟨w.toArray⟩, 0, 0, ⟨#[]⟩, [], []⟩
  else some (kt 4 [])
inductive Job where
  | expr
  | row (level : Nat)
  | more (level : Nat) (root : Int)
  | two (op : Int) (root : Int) (level : Nat)
  | unary
  | list (last : Nat) (kids : List Int)
def litT (t : Nat) : Bool := decide (t = 2 \/ t = 46 \/ t = 47 \/ t = 3 \/ t = 48 \/ t = 1)
def vd (level t : Nat) : Int :=
  if level = 43 then (if t = 43 then 10 else 0)
  else if level = 44 then (if t = 44 then 9 else 0)
  else if level = 18 then (if t = 18 \/ t = 19 then 18 + ((t : Int) - 18) else 0)
  else (if 20 <= t /\ t <= 22 then 20 + ((t : Int) - 20) else 0)
def beneath (level : Nat) : Nat := if level = 43 then 44 else if level = 44 then 45 else if level = 18 then 20 else 19
def exN (src : List UInt8) : Nat -> Job -> Rdr -> Option (Int × List Int × Rdr)
  | 0, _, _ => none
  | f + 1, .expr, r =>
    if r.t ≠ 40 then exN src f (.row 43) r
    else (jy src r).bind fun r1 => (exN src f .expr r1).bind fun c => (jy src c.2.2).bind fun r2 => (exN src f .expr r2).bind fun a => (jy src a.2.2).bind fun r3 =>
      (exN src f .expr r3).bind fun b => (vX (kt 23 [c.1, a.1, b.1]) r.from_ b.2.2).map fun x => (x.1, [], x.2)
  | f + 1, .row level, r =>
    if level = 45 then
      (if r.t = 45 then (jy src r).bind fun r1 => (exN src f (.row 45) r1).bind fun k => (vX (kt 8 [k.1]) r.from_ k.2.2).map fun x => (x.1, [], x.2)
       else (exN src f (.row 18) r).bind fun k =>
        if 12 <= k.2.2.t /\ k.2.2.t <= 17 then exN src f (.two (11 + ((k.2.2.t : Int) - 12)) k.1 18) k.2.2
        else if k.2.2.t = 28 then exN src f (.two 17 k.1 18) k.2.2 else some k)
    else if level = 43 \/ level = 44 \/ level = 18 \/ level = 20 then (exN src f (.row (beneath level)) r).bind fun k => exN src f (.more level k.1) k.2.2
    else exN src f .unary r
  | f + 1, .more level root, r =>
    if vd level r.t = 0 then some (root, [], r)
    else (exN src f (.two (vd level r.t) root (beneath level)) r).bind fun k => exN src f (.more level k.1) k.2.2
  | f + 1, .two op root level, r => (jy src r).bind fun r1 => (exN src f (.row level) r1).bind fun q => (vX (kt op [root, q.1]) r.from_ q.2.2).map fun x => (x.1, [], x.2)
  | f + 1, .unary, r =>
    if r.t = 19 then (jy src r).bind fun r1 => (exN src f .unary r1).bind fun k => (vX (kt 7 [k.1]) r.from_ k.2.2).map fun x => (x.1, [], x.2)
    else if litT r.t = true then (vY r.t (kD src r)).bind fun n => (jy src r).bind fun r1 => (vX n r.from_ r1).map fun x => (x.1, [], x.2)
    else if r.t = 6 then (jy src r).bind fun r1 => (exN src f .expr r1).bind fun k => (jy src k.2.2).bind fun r2 => some (k.1, [], r2)
    else if r.t = 4 then (jy src r).bind fun r1 => (exN src f (.list 5 []) r1).bind fun k => (vX (kt 6 k.2.1) r.from_ k.2.2).map fun x => (x.1, [], x.2)
    else if ¬ (r.t = 31 \/ (49 <= r.t /\ r.t <= 57)) then none
    else (jy src r).bind fun r1 => (jy src r1).bind fun r2 =>
      if r.t = 49 \/ r.t = 52 \/ r.t = 31 then (nameN src r2).bind fun w => (jy src w.2.2).bind fun r3 => (vX ⟨vQ r.t, w.1, 0, 0, ⟨#[]⟩, [], []⟩ r.from_ r3).map fun x => (x.1, [], x.2)
      else (exN src f (.list 7 []) r2).bind fun k => (vX (kt (vQ r.t) k.2.1) r.from_ k.2.2).map fun x => (x.1, [], x.2)
  | f + 1, .list last kids, r =>
    if r.t = last then (jy src r).bind fun r1 => some (0, kids, r1)
    else if kids.length < 1000000 then (jW src 8 r).bind fun s => (exN src f .expr s.2).bind fun k => exN src f (.list last (kids ++ [k.1])) k.2.2 else none
def exprN (src : List UInt8) (f : Nat) (r : Rdr) : Option (Int × Rdr) := (exN src f .expr r).map fun k => (k.1, k.2.2)
def vE (src : List UInt8) (f : Nat) (first : Nat) (r : Rdr) : Option (Int × Rdr) :=
  if r.t ≠ first then some (-1, r)
  else (jy src r).bind fun r1 => if first = 32 \/ first = 12 then exprN src f r1 else (jy src r1).bind fun r2 => exprN src f r2
def yL (src : List UInt8) (f : Nat) (first : Nat) (r : Rdr) : Option (Int × Rdr) :=
  (vE src f first r).bind fun k => if 0 <= k.1 then (jy src k.2).bind fun r1 => some (k.1, r1) else some k
def declN (src : List UInt8) (r : Rdr) : Option (ByteArray × Int × Int × Rdr) :=
  (jy src r).bind fun r1 => (nameN src r1).bind fun w => if w.2.2.order < 1000000 then some (w.1, w.2.1, (w.2.2.order : Int), { w.2.2 with order := w.2.2.order + 1 }) else none
def inN (src : List UInt8) (r : Rdr) : Option (ByteArray × Int × Rdr) := if r.t = 28 then (jy src r).bind fun r1 => nameN src r1 else some (⟨#[]⟩, 0, r)
def kindN (src : List UInt8) (r : Rdr) : Option (Int × Rdr) := if 34 <= r.t /\ r.t <= 38 then (jy src r).bind fun r1 => some ((r.t : Int) - 33, r1) else none
def attrN (src : List UInt8) (f : Nat) (r : Rdr) : Option Rdr :=
  (declN src r).bind fun d => (jy src d.2.2.2).bind fun r1 => (jW src 39 r1).bind fun o => (kindN src o.2).bind fun k => (vE src f 12 k.2).bind fun a => (vE src f 32 a.2).bind fun b => (jy src b.2).bind fun r2 =>
    if r2.tree.attrs.length < 1000000 then some { r2 with tree := { r2.tree with attrs := r2.tree.attrs ++ [⟨d.1, d.2.1, d.2.2.1, o.1, k.1, a.1, b.1⟩] } } else none
def stageN (src : List UInt8) (f : Nat) (r : Rdr) : Option Rdr :=
  (declN src r).bind fun d => (inN src d.2.2.2).bind fun i => (jy src i.2.2).bind fun r1 => (yL src f 29 r1).bind fun a => (yL src f 30 a.2).bind fun b => (jy src b.2).bind fun r2 =>
    if r2.tree.stages.length < 1000000 then some { r2 with tree := { r2.tree with stages := r2.tree.stages ++ [⟨d.1, d.2.1, d.2.2.1, i.1, i.2.1, a.1, b.1⟩] } } else none
def mileN (src : List UInt8) (f : Nat) (r : Rdr) : Option Rdr :=
  (declN src r).bind fun d => (inN src d.2.2.2).bind fun i => (yL src f 31 i.2.2).bind fun a =>
    if a.2.tree.miles.length < 1000000 then some { a.2 with tree := { a.2.tree with miles := a.2.tree.miles ++ [⟨d.1, d.2.1, d.2.2.1, i.1, i.2.1, a.1⟩] } } else none
def paramsN (src : List UInt8) : Nat -> List Prm -> Rdr -> Option (List Prm × Rdr)
  | 0, _, _ => none
  | f + 1, ps, r => if r.t = 7 then some (ps, r)
    else if ps.length < 1000000 then (jW src 8 r).bind fun s => (nameN src s.2).bind fun w => (jy src w.2.2).bind fun r1 => (kindN src r1).bind fun k => paramsN src f (ps ++ [⟨w.1, w.2.1, k.1⟩]) k.2 else none
def vh (src : List UInt8) : Nat -> List Eff -> Rdr -> Option (List Eff × Rdr)
  | 0, _, _ => none
  | f + 1, es, r => if r.t = 5 then some (es, r)
    else if es.length < 1000000 then (jW src 33 r).bind fun s => (nameN src s.2).bind fun w =>
      (if s.1 = true then some (-1, w.2.2) else (jy src w.2.2).bind fun r1 => exprN src f r1).bind fun x => (jy src x.2).bind fun r2 => vh src f (es ++ [⟨w.1, w.2.1, x.1⟩]) r2 else none
def stepD (src : List UInt8) (f : Nat) (r : Rdr) : Option Rdr :=
  (declN src r).bind fun d => (jy src d.2.2.2).bind fun r1 => (paramsN src f [] r1).bind fun p => (jy src p.2).bind fun r2 => (inN src r2).bind fun i => (vE src f 32 i.2.2).bind fun g => (jy src g.2).bind fun r3 =>
    (vh src f [] r3).bind fun e => (jy src e.2).bind fun r4 =>
      if r4.tree.steps.length < 1000000 then some { r4 with tree := { r4.tree with steps := r4.tree.steps ++ [⟨d.1, d.2.1, d.2.2.1, p.1, i.1, i.2.1, g.1, e.1⟩] } } else none
def declsN (src : List UInt8) : Nat -> Rdr -> Option Rdr
  | 0, _ => none
  | f + 1, r =>
    if r.t = 24 then (attrN src f r).bind (declsN src f)
    else if r.t = 25 then (stageN src f r).bind (declsN src f)
    else if r.t = 26 then (mileN src f r).bind (declsN src f)
    else if r.t = 27 then (stepD src f r).bind (declsN src f)
    else some r
def readN (src : List UInt8) (f : Nat) : Option Rdr :=
  (jy src ⟨0, 0, 0, 0, Tre.none_⟩).bind fun r1 => (jy src r1).bind fun r2 => (nameN src r2).bind fun w => (jy src w.2.2).bind fun r3 =>
    declsN src f { r3 with tree := { r3.tree with name := w.1, at_ := w.2.1 } }
structure Tk where
  t : Nat
  a : Nat
  b : Nat
inductive Acc : List Nat -> List Tk -> Prop
  | done : Acc [] []
  | tak {k : Tk} {f : Nat} {st st' : List Nat} {ts : List Tk} : k.t < 58 -> mayN k.t st = true -> jt k.t f st = some st' -> Acc st' ts -> Acc st (k :: ts)
theorem begins_lt {n t : Nat} (ht : t < 58) (h : jD n t = true) : n < 85 := by
  rcases Nat.lt_or_ge n 85 with hn | hn
  · exact hn
  exfalso
  unfold jD jO at h
  simp only [show ¬ n = 58 by omega, show ¬ n = 59 by omega, show ¬ n = 60 by omega, show ¬ n = 61 by omega, show ¬ n = 62 by omega, show ¬ n = 63 by omega, show ¬ n = 64 by omega, show ¬ n = 65 by omega, show ¬ n = 66 by omega, show ¬ (n = 67 \/ n = 84) by omega, show ¬ n = 68 by omega,
    show ¬ (n = 83 \/ n = 69) by omega, show ¬ (n = 70 \/ n = 72 \/ n = 74) by omega, show ¬ (n = 75 \/ n = 77 \/ n = 79 \/ n = 81) by omega, show ¬ n = 82 by omega, show ¬ n = 71 by omega, show ¬ n = 73 by omega, show ¬ n = 76 by omega, show ¬ n = 78 by omega, show ¬ n = 80 by omega, show ¬ n = t by omega,
    if_false, decide_false, Bool.false_or, Bool.and_false] at h
  cases h
theorem vR {n t : Nat} (hn : n < 58) (h : jD n t = true) : n = t := by
  unfold jD at h
  simp only [show ¬ n = 58 by omega, show ¬ n = 59 by omega, show ¬ n = 60 by omega, show ¬ n = 61 by omega, show ¬ n = 62 by omega, show ¬ n = 63 by omega, show ¬ n = 64 by omega, show ¬ n = 65 by omega, show ¬ n = 66 by omega, show ¬ (n = 67 \/ n = 84) by omega, show ¬ n = 68 by omega, show ¬ 69 <= n by omega,
    if_false, decide_false, Bool.false_and, Bool.or_false] at h
  exact of_decide_eq_true h
theorem begins_rule : ∀ n : Fin 85, ∀ t : Fin 58, (!jD n.val t.val || (decide (n.val = t.val) || mayN t.val (jZ n.val t.val))) = true := by decide +kernel
theorem acc_cons {n : Nat} {st : List Nat} {ts : List Tk} (h : Acc (n :: st) ts) : ∃ k ts', ts = k :: ts' /\ k.t < 58 /\ ((n = k.t /\ Acc st ts') \/ (n ≠ k.t /\ jD n k.t = true /\ Acc (jZ n k.t ++ st) (k :: ts')) \/ (jD n k.t = false /\ jY n = true /\ Acc st (k :: ts'))) := by
  cases h with
  | @tak k f _ st' ts' h58 hm ht ha =>
    refine ⟨k, ts', rfl, h58, ?_⟩
    cases f with
    | zero => cases ht
    | succ f =>
      rw [jt] at ht
      by_cases hn : n = k.t
      · rw [if_pos hn] at ht
        obtain rfl := Option.some.inj ht
        exact .inl ⟨hn, ha⟩
      rw [if_neg hn] at ht
      rw [mayN] at hm
      by_cases hb : jD n k.t = true
      · refine .inr (.inl ⟨hn, hb, .tak h58 ?_ ht ha⟩)
        have h1 := begins_rule ⟨n, begins_lt h58 hb⟩ ⟨k.t, h58⟩
        simp only [hb, Bool.not_true, Bool.false_or, decide_eq_false hn] at h1
        exact mayN_more k.t _ st h1
      · have hb' : jD n k.t = false := by simpa using hb
        rw [if_neg hb] at hm
        split at hm
        · rename_i he
          rw [skip_rule n k.t hb', List.nil_append] at ht
          exact .inr (.inr ⟨hb', he, .tak h58 hm ht ha⟩)
        · cases hm
theorem jb {n : Nat} {st : List Nat} {ts : List Tk} (hn : n < 58) (h : Acc (n :: st) ts) : ∃ k ts', ts = k :: ts' /\ k.t = n /\ Acc st ts' := by
  obtain ⟨k, ts', e, h58, ⟨e2, ha⟩ | ⟨hne, hb, _⟩ | ⟨_, he, _⟩⟩ := acc_cons h
  · exact ⟨k, ts', e, e2.symm, ha⟩
  · exact absurd (vR hn hb) hne
  · have := empty_ge n he
    omega
theorem jf {n : Nat} {st : List Nat} {k : Tk} {ts : List Tk} (hn : n < 58) (h : Acc (n :: st) (k :: ts)) : k.t = n /\ Acc st ts := by
  obtain ⟨k2, ts', e, h2, ha⟩ := jb hn h
  injection e with e1 e2
  subst e1 e2
  exact ⟨h2, ha⟩
theorem yE {n : Nat} {st : List Nat} {ts : List Tk} (hn : 58 <= n) (he : jY n = false) (h : Acc (n :: st) ts) : ∃ k ts', ts = k :: ts' /\ k.t < 58 /\ jD n k.t = true /\ Acc (jZ n k.t ++ st) (k :: ts') := by
  obtain ⟨k, ts', e, h58, ⟨e2, ha⟩ | ⟨hne, hb, ha⟩ | ⟨_, he2, _⟩⟩ := acc_cons h
  · omega
  · exact ⟨k, ts', e, h58, hb, ha⟩
  · rw [he] at he2; cases he2
theorem kY {n : Nat} {st : List Nat} {ts : List Tk} (hn : 58 <= n) (h : Acc (n :: st) ts) : ∃ k ts', ts = k :: ts' /\ k.t < 58 /\ ((jD n k.t = true /\ Acc (jZ n k.t ++ st) (k :: ts')) \/ (jD n k.t = false /\ Acc st (k :: ts'))) := by
  obtain ⟨k, ts', e, h58, ⟨e2, ha⟩ | ⟨hne, hb, ha⟩ | ⟨hb, he2, ha⟩⟩ := acc_cons h
  · omega
  · exact ⟨k, ts', e, h58, .inl ⟨hb, ha⟩⟩
  · exact ⟨k, ts', e, h58, .inr ⟨hb, ha⟩⟩
def lexOf (src : List UInt8) (k : Tk) : List UInt8 := (src.take k.b).drop k.a
def LitOk (src : List UInt8) (k : Tk) : Prop := litT k.t = true -> ∃ n, vY k.t (lexOf src k) = some n
inductive Toks (src : List UInt8) : Nat -> List Tk -> Prop
  | done {p : Nat} : src.length <= p + ji false (src.drop p) -> Toks src p []
  | more {p k : Nat} {x : Nat × Nat} {ts : List Tk} : k = p + ji false (src.drop p) -> k < src.length -> lexN (src.drop k) = some x -> LitOk src ⟨x.2, k, k + x.1⟩ -> Toks src (k + x.1) ts -> Toks src p (⟨x.2, k, k + x.1⟩ :: ts)
def Look (src : List UInt8) (r : Rdr) : List Tk -> Prop
  | [] => True
  | k :: ts => r.t = k.t /\ r.from_ = k.a /\ r.at_ = k.b /\ LitOk src k /\ Toks src k.b ts
def big (r : Rdr) : Nat := r.tree.nodes.length + r.tree.ats.length + r.tree.attrs.length + r.tree.stages.length + r.tree.miles.length + r.tree.steps.length + r.order
theorem next_toks {src : List UInt8} {r : Rdr} {ts : List Tk} (h : Toks src r.at_ ts) : ∃ r', jy src r = some r' /\ big r' = big r /\ r'.tree = r.tree /\ r'.order = r.order /\ Look src r' ts := by
  unfold jy
  cases h with
  | done h1 => exact ⟨_, if_pos h1, rfl, rfl, rfl, trivial⟩
  | @more _ k x ts hk hlt hx hl ht =>
    subst hk
    simp only
    rw [if_neg (by omega), hx]
    exact ⟨_, rfl, rfl, rfl, rfl, rfl, rfl, rfl, hl, ht⟩
theorem jI {src : List UInt8} {r : Rdr} {k : Tk} {ts : List Tk} (h : Look src r (k :: ts)) : ∃ r', jy src r = some r' /\ big r' = big r /\ r'.tree = r.tree /\ r'.order = r.order /\ Look src r' ts :=
  next_toks (by rw [h.2.2.1]; exact h.2.2.2.2)
theorem Look.lit {src : List UInt8} {r : Rdr} {k : Tk} {ts : List Tk} (h : Look src r (k :: ts)) (hl : litT k.t = true) : ∃ n, vY r.t (kD src r) = some n := by
  obtain ⟨n, hn⟩ := h.2.2.2.1 hl
  refine ⟨n, ?_⟩
  unfold kD
  rw [h.1, h.2.1, h.2.2.1]
  exact hn
theorem vW {src : List UInt8} {r : Rdr} {ts : List Tk} (n : Nd) (at_ : Nat) (h : Look src r ts) (hb : big r <= 900000) : ∃ x r', vX n at_ r = some (x, r') /\ 0 <= x /\ big r' = big r + 2 /\ Look src r' ts := by
  unfold big at hb
  refine ⟨_, _, by unfold vX; exact if_pos ⟨by omega, by omega⟩, by omega, ?_, ?_⟩
  · unfold big
    simp only [List.length_append, List.length_cons, List.length_nil]
    omega
  · cases ts with
    | nil => trivial
    | cons k ts => exact h
def rowsL : List (Nat × Nat × Nat) := [(43, 70, 7), (44, 72, 6), (45, 74, 5), (18, 77, 4), (20, 79, 3), (19, 81, 2)]
def moresL : List (Nat × Nat × Nat × Nat) := [(43, 71, 44, 72), (44, 73, 45, 74), (18, 78, 20, 79), (20, 80, 19, 81)]
inductive LstSt : Nat -> List Nat -> Prop
  | shut (n : Nat) : LstSt n [n]
  | ex {n : Nat} {M : List Nat} : LstSt n M -> LstSt n (69 :: M)
  | comma {n : Nat} {M : List Nat} : LstSt n M -> LstSt n (8 :: 69 :: M)
  | set : LstSt 5 [83, 5]
  | more : LstSt 5 [84, 5]
structure Got (src : List UInt8) (st : List Nat) (r : Rdr) (ts : List Tk) (r' : Rdr) (ts' : List Tk) : Prop where
  look : Look src r' ts'
  acc : Acc st ts'
  len : ts'.length < ts.length
  big : big r' + 2 * ts'.length <= big r + 2 * ts.length
structure Got0 (src : List UInt8) (st : List Nat) (r : Rdr) (ts : List Tk) (r' : Rdr) (ts' : List Tk) : Prop where
  look : Look src r' ts'
  acc : Acc st ts'
  len : ts'.length <= ts.length
  big : Go.Proofs.YtmmjcbbogokmfaaGreatDoor.big r' + 2 * ts'.length <= Go.Proofs.YtmmjcbbogokmfaaGreatDoor.big r + 2 * ts.length
def LIMR : Nat := 900000
structure AllOk (src : List UInt8) (f : Nat) : Prop where
  ex : ∀ (r : Rdr) (ts : List Tk) (st : List Nat), Look src r ts -> big r + 2 * ts.length <= LIMR -> 10 * ts.length + 8 <= f -> Acc (69 :: st) ts -> ∃ x r' ts', exN src f .expr r = some (x, [], r') /\ 0 <= x /\ Got src st r ts r' ts'
  row : ∀ (l s k : Nat), (l, s, k) ∈ rowsL -> ∀ (r : Rdr) (ts : List Tk) (st : List Nat), Look src r ts -> big r + 2 * ts.length <= LIMR -> 10 * ts.length + k <= f -> Acc (s :: st) ts -> ∃ x r' ts', exN src f (.row l) r = some (x, [], r') /\ 0 <= x /\ Got src st r ts r' ts'
  more : ∀ (l s b u : Nat), (l, s, b, u) ∈ moresL -> ∀ (root : Int) (r : Rdr) (ts : List Tk) (st : List Nat), 0 <= root -> Look src r ts -> big r + 2 * ts.length <= LIMR -> 10 * ts.length + 9 <= f -> Acc (s :: st) ts -> ∃ x r' ts', exN src f (.more l root) r = some (x, [], r') /\ 0 <= x /\ Got0 src st r ts r' ts'
  two : ∀ (l s k : Nat), (l, s, k) ∈ rowsL -> ∀ (op root : Int) (r : Rdr) (c : Tk) (ts : List Tk) (st : List Nat), Look src r (c :: ts) -> big r + 2 * (c :: ts).length <= LIMR -> 10 * (c :: ts).length <= f -> Acc (s :: st) ts -> ∃ x r' ts', exN src f (.two op root l) r = some (x, [], r') /\ 0 <= x /\ Got src st r (c :: ts) r' ts'
  un : ∀ (r : Rdr) (ts : List Tk) (st : List Nat), Look src r ts -> big r + 2 * ts.length <= LIMR -> 10 * ts.length + 1 <= f -> Acc (81 :: st) ts -> ∃ x r' ts', exN src f .unary r = some (x, [], r') /\ 0 <= x /\ Got src st r ts r' ts'
  ls : ∀ (last : Nat) (L : List Nat) (kids : List Int) (r : Rdr) (ts : List Tk) (st : List Nat), (last = 5 \/ last = 7) -> LstSt last L -> kids.length + ts.length <= 900000 -> Look src r ts -> big r + 2 * ts.length <= LIMR -> 10 * ts.length + 9 <= f -> Acc (L ++ st) ts -> ∃ ks r' ts', exN src f (.list last kids) r = some (0, ks, r') /\ Got src st r ts r' ts'
theorem gru69 (t : Nat) (hb : jD 69 t = true) (h : t ≠ 40) : jZ 69 t = [70] := by
  unfold jZ
  rw [if_neg (by rw [hb]; decide), if_neg (by decide), if_neg (by decide), if_neg (by decide), if_neg (by decide), if_neg (by decide), if_neg (by decide), if_neg (by decide), if_neg (by decide), if_neg (by decide), if_neg (by decide), if_neg (by decide)]
  unfold jJ
  rw [if_pos rfl, if_neg h]
section
variable {src : List UInt8} {f : Nat}
theorem ok_ex (IH : AllOk src f) (r : Rdr) (ts : List Tk) (st : List Nat) (hl : Look src r ts) (hb : big r + 2 * ts.length <= LIMR) (hf : 10 * ts.length + 8 <= f + 1) (ha : Acc (69 :: st) ts) : ∃ x r' ts', exN src (f + 1) .expr r = some (x, [], r') /\ 0 <= x /\ Got src st r ts r' ts' := by
  obtain ⟨k, ts2, rfl, h58, hbg, ha⟩ := yE (by decide) (by decide) ha
  unfold LIMR at hb
  rw [List.length_cons] at hb hf
  by_cases h40 : k.t = 40
  · rw [show jZ 69 k.t = [40, 69, 41, 69, 42, 69] by rw [h40]; rfl] at ha
    obtain ⟨-, a1⟩ := jf (by decide) ha
    obtain ⟨r1, e1, b1, -, -, l1⟩ := jI hl
    obtain ⟨x2, r2, t2, e2, p2, l2, a2, n2, b2⟩ := IH.ex r1 ts2 _ l1 (by unfold LIMR; omega) (by omega) a1
    obtain ⟨k3, t3, rfl, -, a3⟩ := jb (by decide) a2
    rw [List.length_cons] at n2 b2
    obtain ⟨r3, e3, b3, -, -, l3⟩ := jI l2
    obtain ⟨x4, r4, t4, e4, p4, l4, a4, n4, b4⟩ := IH.ex r3 t3 _ l3 (by unfold LIMR; omega) (by omega) a3
    obtain ⟨k5, t5, rfl, -, a5⟩ := jb (by decide) a4
    rw [List.length_cons] at n4 b4
    obtain ⟨r5, e5, b5, -, -, l5⟩ := jI l4
    obtain ⟨x6, r6, t6, e6, p6, l6, a6, n6, b6⟩ := IH.ex r5 t5 _ l5 (by unfold LIMR; omega) (by omega) a5
    obtain ⟨x, r', en, px, bn, ln⟩ := vW (kt 23 [x2, x4, x6]) r.from_ l6 (by omega)
    refine ⟨x, r', t6, ?_, px, ln, a6, by rw [List.length_cons]; omega, by rw [List.length_cons]; omega⟩
    rw [exN, if_neg (by rw [hl.1, h40]; decide)]
    simp only [e1, e2, e3, e4, e5, e6, en, Option.bind_some, Option.map_some]
  · rw [gru69 k.t hbg h40] at ha
    obtain ⟨x, r', ts', e, p, g⟩ := IH.row 43 70 7 (by decide) r (k :: ts2) st hl (by unfold LIMR; rw [List.length_cons]; omega) (by rw [List.length_cons]; omega) ha
    refine ⟨x, r', ts', ?_, p, g⟩
    rw [exN, if_pos (by rw [hl.1]; exact h40)]
    exact e
theorem ok_two (IH : AllOk src f) (l s k : Nat) (hm : (l, s, k) ∈ rowsL) (op root : Int) (r : Rdr) (c : Tk) (ts : List Tk) (st : List Nat) (hl : Look src r (c :: ts)) (hb : big r + 2 * (c :: ts).length <= LIMR) (hf : 10 * (c :: ts).length <= f + 1) (ha : Acc (s :: st) ts) : ∃ x r' ts', exN src (f + 1) (.two op root l) r = some (x, [], r') /\ 0 <= x /\ Got src st r (c :: ts) r' ts' := by
  unfold LIMR at hb
  rw [List.length_cons] at hb hf
  have hk : k <= 7 := by
    simp only [rowsL, List.mem_cons, Prod.mk.injEq, List.not_mem_nil, or_false] at hm
    omega
  obtain ⟨r1, e1, b1, -, -, l1⟩ := jI hl
  obtain ⟨x2, r2, t2, e2, p2, l2, a2, n2, b2⟩ := IH.row l s k hm r1 ts _ l1 (by unfold LIMR; omega) (by omega) ha
  obtain ⟨x, r', en, px, bn, ln⟩ := vW (kt op [root, x2]) r.from_ l2 (by omega)
  refine ⟨x, r', t2, ?_, px, ln, a2, by rw [List.length_cons]; omega, by rw [List.length_cons]; omega⟩
  rw [exN]
  simp only [e1, e2, en, Option.bind_some, Option.map_some]
theorem more_rule (l s b u : Nat) (h : (l, s, b, u) ∈ moresL) : 58 <= s /\ beneath l = b /\ (b, u, if b = 44 then 6 else if b = 45 then 5 else if b = 20 then 3 else 2) ∈ rowsL /\ ∀ t, t < 58 -> (jD s t = true -> vd l t ≠ 0 /\ jZ s t = [t, u, s]) /\ (jD s t = false -> vd l t = 0) := by
  simp only [moresL, List.mem_cons, Prod.mk.injEq, List.not_mem_nil, or_false] at h
  rcases h with ⟨rfl, rfl, rfl, rfl⟩ | ⟨rfl, rfl, rfl, rfl⟩ | ⟨rfl, rfl, rfl, rfl⟩ | ⟨rfl, rfl, rfl, rfl⟩
  · refine ⟨by decide, by decide, by decide, fun t h58 => ⟨fun hb => ?_, fun hb => ?_⟩⟩
    · have ht : t = 43 := by
        have h2 : 71 = t \/ t = 43 := by simpa [jD, jO] using hb
        omega
      subst ht
      exact ⟨by decide, rfl⟩
    · have ht : t ≠ 43 := fun e => by subst e; cases hb
      simp [vd, ht]
  · refine ⟨by decide, by decide, by decide, fun t h58 => ⟨fun hb => ?_, fun hb => ?_⟩⟩
    · have ht : t = 44 := by
        have h2 : 73 = t \/ t = 44 := by simpa [jD, jO] using hb
        omega
      subst ht
      exact ⟨by decide, rfl⟩
    · have ht : t ≠ 44 := fun e => by subst e; cases hb
      simp [vd, ht]
  · refine ⟨by decide, by decide, by decide, fun t h58 => ⟨fun hb => ?_, fun hb => ?_⟩⟩
    · have ht : t = 18 \/ t = 19 := by
        have h2 : 78 = t \/ t = 18 \/ t = 19 := by simpa [jD, jO] using hb
        omega
      rcases ht with rfl | rfl <;> exact ⟨by decide, rfl⟩
    · have ht : ¬ (t = 18 \/ t = 19) := fun e => by rcases e with rfl | rfl <;> cases hb
      simp [vd, ht]
  · refine ⟨by decide, by decide, by decide, fun t h58 => ⟨fun hb => ?_, fun hb => ?_⟩⟩
    · have ht : t = 20 \/ t = 21 \/ t = 22 := by
        have h2 : 80 = t \/ (20 <= t /\ t <= 22) := by simpa [jD, jO] using hb
        omega
      rcases ht with rfl | rfl | rfl <;> exact ⟨by decide, rfl⟩
    · have ht : ¬ (20 <= t /\ t <= 22) := fun e => by
        have : t = 20 \/ t = 21 \/ t = 22 := by omega
        rcases this with rfl | rfl | rfl <;> cases hb
      simp [vd, ht]
theorem ok_more (IH : AllOk src f) (l s b u : Nat) (hm : (l, s, b, u) ∈ moresL) (root : Int) (r : Rdr) (ts : List Tk) (st : List Nat) (h0 : 0 <= root) (hl : Look src r ts) (hb : big r + 2 * ts.length <= LIMR) (hf : 10 * ts.length + 9 <= f + 1) (ha : Acc (s :: st) ts) : ∃ x r' ts', exN src (f + 1) (.more l root) r = some (x, [], r') /\ 0 <= x /\ Got0 src st r ts r' ts' := by
  obtain ⟨h58, hbe, hro, hru⟩ := more_rule l s b u hm
  obtain ⟨k, ts2, rfl, hk58, ⟨hbg, ha⟩ | ⟨hbg, ha⟩⟩ := kY h58 ha
  · obtain ⟨h1, h2⟩ := (hru k.t hk58).1 hbg
    rw [h2] at ha
    obtain ⟨-, a1⟩ := jf (n := k.t) hk58 ha
    obtain ⟨x2, r2, t2, e2, p2, l2, a2, n2, b2⟩ := IH.two b u _ hro (vd l r.t) root r k ts2 (s :: st) hl hb (by rw [List.length_cons] at hf ⊢; omega) a1
    unfold LIMR at hb
    rw [List.length_cons] at n2 b2 hf hb
    obtain ⟨x3, r3, t3, e3, p3, l3, a3, n3, b3⟩ := IH.more l s b u hm x2 r2 t2 st p2 l2 (by unfold LIMR; omega) (by omega) a2
    refine ⟨x3, r3, t3, ?_, p3, l3, a3, by rw [List.length_cons]; omega, by rw [List.length_cons]; omega⟩
    rw [exN, if_neg (by rw [hl.1]; exact h1), hbe]
    simp only [e2, e3, Option.bind_some]
  · refine ⟨root, r, k :: ts2, ?_, h0, hl, ha, Nat.le_refl _, Nat.le_refl _⟩
    rw [exN, if_pos (by rw [hl.1]; exact (hru k.t hk58).2 hbg)]
theorem ok_rowm (IH : AllOk src f) (l s k m b u j : Nat) (hl4 : l = 43 \/ l = 44 \/ l = 18 \/ l = 20) (hm : (l, m, b, u) ∈ moresL) (hr : (b, u, j) ∈ rowsL) (hj : j + 1 <= k) (hru : ∀ t, jD s t = true -> jZ s t = [u, m]) (hs : 58 <= s) (hse : jY s = false)
    (r : Rdr) (ts : List Tk) (st : List Nat) (hl : Look src r ts) (hb : big r + 2 * ts.length <= LIMR) (hf : 10 * ts.length + k <= f + 1) (ha : Acc (s :: st) ts) : ∃ x r' ts', exN src (f + 1) (.row l) r = some (x, [], r') /\ 0 <= x /\ Got src st r ts r' ts' := by
  obtain ⟨k0, ts2, rfl, -, hbg, ha⟩ := yE hs hse ha
  rw [hru _ hbg] at ha
  obtain ⟨x2, r2, t2, e2, p2, l2, a2, n2, b2⟩ := IH.row b u j hr r _ (m :: st) hl hb (by omega) ha
  unfold LIMR at hb
  obtain ⟨x3, r3, t3, e3, p3, l3, a3, n3, b3⟩ := IH.more l m b u hm x2 r2 t2 st p2 l2 (by unfold LIMR; omega) (by
    have : j <= 7 := by
      simp only [rowsL, List.mem_cons, Prod.mk.injEq, List.not_mem_nil, or_false] at hr
      omega
    omega) a2
  refine ⟨x3, r3, t3, ?_, p3, l3, a3, by omega, by omega⟩
  have hbe := (more_rule l m b u hm).2.1
  rw [exN, if_neg (by omega), if_pos hl4, hbe]
  simp only [e2, e3, Option.bind_some]
theorem gru_two (s u m t : Nat) (h : (s, u, m) ∈ [(70, 72, 71), (72, 74, 73), (77, 79, 78), (79, 81, 80)]) (hb : jD s t = true) : jZ s t = [u, m] := by
  simp only [List.mem_cons, Prod.mk.injEq, List.not_mem_nil, or_false] at h
  unfold jZ
  rw [if_neg (by rw [hb]; decide)]
  rcases h with ⟨rfl, rfl, rfl⟩ | ⟨rfl, rfl, rfl⟩ | ⟨rfl, rfl, rfl⟩ | ⟨rfl, rfl, rfl⟩ <;> rfl
theorem gru74 (t : Nat) (hb : jD 74 t = true) : jZ 74 t = if t = 45 then [t, 74] else [75] := by
  unfold jZ
  rw [if_neg (by rw [hb]; decide)]
  rfl
theorem gru75 (t : Nat) (hb : jD 75 t = true) : jZ 75 t = [77, 76] := by
  unfold jZ
  rw [if_neg (by rw [hb]; decide)]
  rfl
theorem gru76 (t : Nat) (hb : jD 76 t = true) : jZ 76 t = [t, 77] := by
  unfold jZ
  rw [if_neg (by rw [hb]; decide)]
  rfl
theorem gru81 (t : Nat) (hb : jD 81 t = true) : jZ 81 t = if t = 19 then [t, 81] else [82] := by
  unfold jZ
  rw [if_neg (by rw [hb]; decide)]
  rfl
theorem gru82 (t : Nat) (hb : jD 82 t = true) : jZ 82 t = kH t := by
  unfold jZ
  rw [if_neg (by rw [hb]; decide)]
  rfl
theorem ok_row45 (IH : AllOk src f) (r : Rdr) (ts : List Tk) (st : List Nat) (hl : Look src r ts) (hb : big r + 2 * ts.length <= LIMR) (hf : 10 * ts.length + 5 <= f + 1) (ha : Acc (74 :: st) ts) : ∃ x r' ts', exN src (f + 1) (.row 45) r = some (x, [], r') /\ 0 <= x /\ Got src st r ts r' ts' := by
  obtain ⟨k, ts2, rfl, h58, hbg, ha⟩ := yE (by decide) (by decide) ha
  rw [gru74 _ hbg] at ha
  by_cases h45 : k.t = 45
  · rw [if_pos h45, h45] at ha
    obtain ⟨-, a1⟩ := jf (by decide) ha
    unfold LIMR at hb
    rw [List.length_cons] at hb hf
    obtain ⟨r1, e1, b1, -, -, l1⟩ := jI hl
    obtain ⟨x2, r2, t2, e2, p2, l2, a2, n2, b2⟩ := IH.row 45 74 5 (by decide) r1 ts2 _ l1 (by unfold LIMR; omega) (by omega) a1
    obtain ⟨x, r', en, px, bn, ln⟩ := vW (kt 8 [x2]) r.from_ l2 (by omega)
    refine ⟨x, r', t2, ?_, px, ln, a2, by rw [List.length_cons]; omega, by rw [List.length_cons]; omega⟩
    rw [exN, if_pos rfl, if_pos (by rw [hl.1]; exact h45)]
    simp only [e1, e2, en, Option.bind_some, Option.map_some]
  · rw [if_neg h45] at ha
    obtain ⟨k', ts2', e', -, hbg2, ha⟩ := yE (by decide) (by decide) ha
    injection e' with e1 e2
    subst e1 e2
    rw [gru75 _ hbg2] at ha
    obtain ⟨x2, r2, t2, e2, p2, l2, a2, n2, b2⟩ := IH.row 18 77 4 (by decide) r _ (76 :: st) hl hb (by omega) ha
    obtain ⟨k3, t3, rfl, h583, ⟨hbg3, a3⟩ | ⟨hbg3, a3⟩⟩ := kY (by decide) a2
    · rw [gru76 _ hbg3] at a3
      have h3 : (12 <= k3.t /\ k3.t <= 17) \/ k3.t = 28 := by
        have h2 : 76 = k3.t \/ (12 <= k3.t /\ k3.t <= 17) \/ k3.t = 28 := by simpa [jD, jO] using hbg3
        omega
      obtain ⟨-, a4⟩ := jf (n := k3.t) (by omega) a3
      unfold LIMR at hb
      have HT := fun op => IH.two 18 77 4 (by decide) op x2 r2 k3 t3 st l2 (by unfold LIMR; omega) (by omega) a4
      by_cases hc : 12 <= k3.t /\ k3.t <= 17
      · obtain ⟨x, r', ts', e, p, l, a, n, b⟩ := HT (11 + ((r2.t : Int) - 12))
        refine ⟨x, r', ts', ?_, p, l, a, by omega, by omega⟩
        rw [exN, if_pos rfl, if_neg (by rw [hl.1]; exact h45)]
        simp only [e2, Option.bind_some]
        rw [if_pos (by rw [l2.1]; exact hc)]
        exact e
      · obtain ⟨x, r', ts', e, p, l, a, n, b⟩ := HT 17
        refine ⟨x, r', ts', ?_, p, l, a, by omega, by omega⟩
        rw [exN, if_pos rfl, if_neg (by rw [hl.1]; exact h45)]
        simp only [e2, Option.bind_some]
        rw [if_neg (by rw [l2.1]; exact hc), if_pos (by rw [l2.1]; omega)]
        exact e
    · refine ⟨x2, r2, _, ?_, p2, l2, a3, n2, b2⟩
      have h3 : ¬ (12 <= k3.t /\ k3.t <= 17) /\ k3.t ≠ 28 := by
        have h2 : ¬ (76 = k3.t \/ (12 <= k3.t /\ k3.t <= 17) \/ k3.t = 28) := fun e => by
          have : jD 76 k3.t = true := by
            rcases e with e | e
            · simp [jD, <- e]
            · simp [jD, jO, e]
          rw [this] at hbg3; cases hbg3
        omega
      rw [exN, if_pos rfl, if_neg (by rw [hl.1]; exact h45)]
      simp only [e2, Option.bind_some]
      rw [if_neg (by rw [l2.1]; exact h3.1), if_neg (by rw [l2.1]; exact h3.2)]
theorem ok_row (IH : AllOk src f) (l s k : Nat) (hm : (l, s, k) ∈ rowsL) (r : Rdr) (ts : List Tk) (st : List Nat) (hl : Look src r ts) (hb : big r + 2 * ts.length <= LIMR) (hf : 10 * ts.length + k <= f + 1) (ha : Acc (s :: st) ts) : ∃ x r' ts', exN src (f + 1) (.row l) r = some (x, [], r') /\ 0 <= x /\ Got src st r ts r' ts' := by
  simp only [rowsL, List.mem_cons, Prod.mk.injEq, List.not_mem_nil, or_false] at hm
  rcases hm with ⟨rfl, rfl, rfl⟩ | ⟨rfl, rfl, rfl⟩ | ⟨rfl, rfl, rfl⟩ | ⟨rfl, rfl, rfl⟩ | ⟨rfl, rfl, rfl⟩ | ⟨rfl, rfl, rfl⟩
  · exact ok_rowm IH 43 70 7 71 44 72 6 (by decide) (by decide) (by decide) (by decide) (fun t h => gru_two 70 72 71 t (by decide) h) (by decide) (by decide) r ts st hl hb hf ha
  · exact ok_rowm IH 44 72 6 73 45 74 5 (by decide) (by decide) (by decide) (by decide) (fun t h => gru_two 72 74 73 t (by decide) h) (by decide) (by decide) r ts st hl hb hf ha
  · exact ok_row45 IH r ts st hl hb hf ha
  · exact ok_rowm IH 18 77 4 78 20 79 3 (by decide) (by decide) (by decide) (by decide) (fun t h => gru_two 77 79 78 t (by decide) h) (by decide) (by decide) r ts st hl hb hf ha
  · exact ok_rowm IH 20 79 3 80 19 81 2 (by decide) (by decide) (by decide) (by decide) (fun t h => gru_two 79 81 80 t (by decide) h) (by decide) (by decide) r ts st hl hb hf ha
  · obtain ⟨x, r', ts', e, p, g⟩ := IH.un r ts st hl hb (by omega) ha
    refine ⟨x, r', ts', ?_, p, g⟩
    rw [exN, if_neg (by decide), if_neg (by decide)]
    exact e
end
end Go.Proofs.YtmmjcbbogokmfaaGreatDoor
