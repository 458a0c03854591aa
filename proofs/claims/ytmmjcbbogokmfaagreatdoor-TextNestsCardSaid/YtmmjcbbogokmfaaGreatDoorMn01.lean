/- The language's words and grammar, plain: what the program's machine over bytes does. No program in sight. -/
namespace Go.Proofs.YtmmjcbbogokmfaaGreatDoor

/-- a byte that is a letter, a digit, of a word -/
def letC (c : UInt8) : Bool := decide (97 ≤ c.toNat ∧ c.toNat ≤ 122)
def digC (c : UInt8) : Bool := decide (48 ≤ c.toNat ∧ c.toNat ≤ 57)
def wordC (c : UInt8) : Bool := letC c || digC c || decide (c.toNat = 95)
/-- the reserved words, the signs -/
def resL : List (List UInt8) := [
  [116, 121, 112, 101], [97, 116, 116, 114, 105, 98, 117, 116, 101], [115, 116, 97, 103, 101], [109, 105, 108, 101, 115, 116, 111, 110, 101], [115, 116, 101, 112], [105, 110], [111, 112, 101, 110, 115], [99, 108, 111, 115, 101, 115], [114, 101, 97, 99, 104, 101, 100], [119, 104, 101, 110], [114, 101, 111, 112, 101, 110],
  [105, 110, 116], [98, 111, 111, 108], [116, 101, 120, 116], [116, 105, 109, 101], [115, 101, 116], [111, 112, 116, 105, 111, 110, 97, 108], [105, 102], [116, 104, 101, 110], [101, 108, 115, 101], [111, 114], [97, 110, 100], [110, 111, 116], [116, 114, 117, 101], [102, 97, 108, 115, 101], [110, 111, 116, 104, 105, 110, 103],
  [104, 97, 115], [115, 105, 122, 101], [106, 111, 105, 110], [111, 112, 101, 110], [99, 108, 111, 99, 107], [115, 116, 101, 112, 115], [109, 105, 110], [109, 97, 120], [100, 101, 102, 97, 117, 108, 116]]
def signL : List (List UInt8) := [[123], [125], [40], [41], [44], [59], [58], [58, 61], [61], [33, 61], [60], [60, 61], [62], [62, 61], [43], [45], [42], [47], [37]]
/-- the place of a word in a row of words, counted from k; 0: it is not there -/
def idxFrom (k : Nat) (w : List UInt8) : List (List UInt8) → Nat
  | [] => 0
  | r :: l => if r = w then k else idxFrom (k + 1) w l
def wordN (w : List UInt8) : Nat := idxFrom 23 w resL
def signN (w : List UInt8) : Nat := idxFrom 4 w signL
def startsNameB (w : List UInt8) : Bool := decide (0 < w.length ∧ w.length ≤ 64) && letC (w.headD 0) && w.all wordC
def legalB (w : List UInt8) : Bool := startsNameB w && decide (wordN w = 0)
def dropZ : List UInt8 → List UInt8
  | a :: b :: l => if a = 48 then dropZ (b :: l) else a :: b :: l
  | l => l
/-- is x not behind y, of rows as long? -/
def leB : List UInt8 → List UInt8 → Bool
  | [], _ => true
  | _ :: _, [] => false
  | a :: x, b :: y => if a.toNat < b.toNat then true else if b.toNat < a.toNat then false else leB x y
def greatest : List UInt8 := [57, 50, 50, 51, 51, 55, 50, 48, 51, 54, 56, 53, 52, 55, 55, 53, 56, 48, 55]
def startsIntB (w : List UInt8) : Bool :=
  w.all digC && (let v := dropZ w; decide (v.length < 19) || (decide (v.length = 19) && leB v greatest))

def atomicN (t : Nat) : Bool := decide (t = 2 ∨ t = 46 ∨ t = 47 ∨ t = 3 ∨ t = 48 ∨ t = 1 ∨ t = 6 ∨ t = 4 ∨ t = 31 ∨ (49 ≤ t ∧ t ≤ 57))
def workedN (n t : Nat) : Bool :=
  if n = 83 ∨ n = 69 then decide (t = 40 ∨ t = 45 ∨ t = 19) || atomicN t
  else if n = 70 ∨ n = 72 ∨ n = 74 then decide (t = 45 ∨ t = 19) || atomicN t
  else if n = 75 ∨ n = 77 ∨ n = 79 ∨ n = 81 then decide (t = 19) || atomicN t
  else if n = 82 then atomicN t
  else if n = 71 then decide (t = 43)
  else if n = 73 then decide (t = 44)
  else if n = 76 then decide ((12 ≤ t ∧ t ≤ 17) ∨ t = 28)
  else if n = 78 then decide (t = 18 ∨ t = 19)
  else if n = 80 then decide (20 ≤ t ∧ t ≤ 22)
  else false
def beginsN (n t : Nat) : Bool :=
  if n = 58 then decide (24 ≤ t ∧ t ≤ 27)
  else if n = 59 then decide (t = 39)
  else if n = 60 then decide (34 ≤ t ∧ t ≤ 38)
  else if n = 61 then decide (t = 12)
  else if n = 62 then decide (t = 32)
  else if n = 63 then decide (t = 28)
  else if n = 64 then decide (t = 29)
  else if n = 65 then decide (t = 30)
  else if n = 66 then decide (t = 1)
  else if n = 67 ∨ n = 84 then decide (t = 8)
  else if n = 68 then decide (t = 1 ∨ t = 33)
  else decide (n = t) || (decide (69 ≤ n) && workedN n t)
def emptyN (n : Nat) : Bool := decide (n = 58 ∨ n = 59 ∨ n = 61 ∨ n = 62 ∨ n = 63 ∨ n = 64 ∨ n = 65 ∨ n = 66 ∨ n = 67 ∨ n = 68 ∨ n = 71 ∨ n = 73 ∨ n = 76 ∨ n = 78 ∨ n = 80 ∨ n = 83 ∨ n = 84)
def declaredN (t : Nat) : List Nat :=
  if t = 24 then [t, 1, 10, 59, 60, 61, 62, 9, 58]
  else if t = 25 then [t, 1, 63, 4, 64, 65, 5, 58]
  else if t = 26 then [t, 1, 63, 31, 32, 69, 9, 58]
  else if t = 27 then [t, 1, 6, 66, 7, 63, 62, 4, 68, 5, 58]
  else []
def atomN (t : Nat) : List Nat :=
  if t = 2 ∨ t = 46 ∨ t = 47 ∨ t = 3 ∨ t = 48 ∨ t = 1 then [t]
  else if t = 6 then [t, 69, 7]
  else if t = 4 then [t, 83, 5]
  else if t = 49 ∨ t = 52 ∨ t = 31 then [t, 6, 1, 7]
  else if t = 53 ∨ t = 54 then [t, 6, 7]
  else if t = 50 then [t, 6, 69, 7]
  else if t = 51 ∨ t = 55 ∨ t = 56 ∨ t = 57 then [t, 6, 69, 8, 69, 7]
  else []
def operatorsN (n t : Nat) : List Nat :=
  if n = 69 then (if t = 40 then [t, 69, 41, 69, 42, 69] else [70])
  else if n = 70 then [72, 71]
  else if n = 71 then [t, 72, 71]
  else if n = 72 then [74, 73]
  else if n = 73 then [t, 74, 73]
  else if n = 74 then (if t = 45 then [t, 74] else [75])
  else if n = 75 then [77, 76]
  else if n = 76 then [t, 77]
  else if n = 77 then [79, 78]
  else if n = 78 then [t, 79, 78]
  else if n = 79 then [81, 80]
  else if n = 80 then [t, 81, 80]
  else if n = 81 then (if t = 19 then [t, 81] else [82])
  else []
/-- what a symbol becomes if t comes next -/
def ruleN (n t : Nat) : List Nat :=
  if beginsN n t = false then []
  else if n = 58 then declaredN t
  else if n = 59 ∨ n = 60 then [t]
  else if n = 61 ∨ n = 62 then [t, 69]
  else if n = 63 then [t, 1]
  else if n = 64 ∨ n = 65 then [t, 32, 69, 9]
  else if n = 66 then [t, 10, 60, 67]
  else if n = 67 then [t, 1, 10, 60, 67]
  else if n = 68 then (if t = 33 then [t, 1, 9, 68] else [t, 11, 69, 9, 68])
  else if n = 83 then [69, 84]
  else if n = 84 then [t, 69, 84]
  else if n = 82 then atomN t
  else operatorsN n t
/-- may a terminal come next? (the stack's top is its head) -/
def mayN (t : Nat) : List Nat → Bool
  | [] => false
  | n :: l => if beginsN n t = true then true else if emptyN n = true then mayN t l else false
/-- a terminal is taken: the stack behind it; none: it is not there, or the steps do not do -/
def takeN (t : Nat) : Nat → List Nat → Option (List Nat)
  | 0, _ => none
  | _ + 1, [] => none
  | f + 1, n :: l => if n = t then some l else takeN t f (ruleN n t ++ l)
/-- the machine: the place, the stack, what the bytes end in, where the lexeme that they end in begins -/
structure Mc where
  at_ : Nat
  stack : List Nat
  fin : Nat
  from_ : Nat
end Go.Proofs.YtmmjcbbogokmfaaGreatDoor

/- The machine over bytes, plain: texts, words, signs; run. -/
namespace Go.Proofs.YtmmjcbbogokmfaaGreatDoor

/-- where a text stands behind its bytes -/
inductive TxR where
  | wrong (k : Nat)
  | shut (k : Nat)
  | ends (e : Nat)
def hexC (c : UInt8) : Bool := digC c || decide (97 ≤ c.toNat ∧ c.toNat ≤ 102)
def textGo : List UInt8 → Nat → Nat → TxR
  | [], _, e => .ends e
  | c :: l, k, e =>
    if e = 4 then
      (if c.toNat = 34 then .shut (k + 1) else if c.toNat = 92 then textGo l (k + 1) 5 else if c.toNat < 32 ∨ 126 < c.toNat then .wrong k else textGo l (k + 1) 4)
    else if e = 5 then
      (if c.toNat = 120 then textGo l (k + 1) 6 else if c.toNat = 34 ∨ c.toNat = 92 ∨ c.toNat = 110 ∨ c.toNat = 116 then textGo l (k + 1) 4 else .wrong k)
    else (if hexC c = false then .wrong k else textGo l (k + 1) (if e = 7 then 4 else e + 1))
/-- the words that may come next -/
def wordsN (st : List Nat) : List (List UInt8) → Nat → List (List UInt8)
  | [], _ => []
  | r :: l, i => if mayN (23 + i) st = true then r :: wordsN st l (i + 1) else wordsN st l (i + 1)
/-- may what is asked for begin with this run? -/
def fitsB (name int : Bool) (ws : List (List UInt8)) (w : List UInt8) : Bool := (name && startsNameB w) || (int && startsIntB w) || ws.any (fun r => w.isPrefixOf r)
/-- through a word's bytes: the first wrong place; none: all of it fits, to the end of all bytes -/
def spellGo (name int : Bool) (ws : List (List UInt8)) : List UInt8 → List UInt8 → Nat → Option Nat
  | _, [], _ => none
  | w, c :: l, k => if wordC c = false then some k else if fitsB name int ws (w ++ [c]) = true then spellGo name int ws (w ++ [c]) l (k + 1) else some k
def namedN (w : List UInt8) : Nat := if digC (w.headD 0) = true then 2 else if wordN w = 0 then 1 else wordN w
def properB (w : List UInt8) : Bool := (digC (w.headD 0) && startsIntB w) || decide (wordN w ≠ 0) || legalB w
def lfC (c : UInt8) : Bool := decide (c.toNat = 10)
def blankC (c : UInt8) : Bool := decide (c.toNat = 32 ∨ c.toNat = 9 ∨ c.toNat = 10 ∨ c.toNat = 13)
/-- one step: what the machine becomes, or the first wrong byte -/
abbrev Out := Except Nat Mc
def taken (t : Nat) (m : Mc) (k : Nat) : Out := match takeN t (m.stack.length + 100) m.stack with
  | some s => .ok { m with at_ := k, stack := s }
  | none => .error 1000000
def commentN (m : Mc) (l : List UInt8) : Out :=
  let r := l.takeWhile (fun c => !lfC c)
  .ok (if r.length = l.length then { m with at_ := m.at_ + l.length, fin := 1 } else { m with at_ := m.at_ + r.length })
def spellN (m : Mc) (l : List UInt8) : Out :=
  match spellGo (mayN 1 m.stack) (mayN 2 m.stack) (wordsN m.stack resL 0) [] l m.at_ with
  | some k => .error k
  | none => .ok { m with at_ := m.at_ + l.length, fin := 2 }
def wordStep (m : Mc) (l : List UInt8) : Out :=
  let w := l.takeWhile wordC
  let m1 := { m with from_ := m.at_ }
  if w.length < l.length ∧ properB w = true ∧ mayN (namedN w) m.stack = true then taken (namedN w) m1 (m.at_ + w.length) else spellN m1 l
def textStep (m : Mc) (l : List UInt8) : Out :=
  if mayN 3 m.stack = false then .error m.at_
  else match textGo (l.drop 1) (m.at_ + 1) 4 with
    | .wrong k => .error k
    | .shut k => taken 3 { m with from_ := m.at_, fin := 0 } k
    | .ends e => .ok { m with from_ := m.at_, at_ := m.at_ + l.length, fin := e }
def signStep (m : Mc) (c : UInt8) (l : List UInt8) : Out :=
  let one := signN [c]
  let two := signN [c, 61]
  let m1 := { m with from_ := m.at_ }
  if one ≠ 0 ∧ mayN one m.stack = true then
    (if two ≠ 0 ∧ mayN two m.stack = true ∧ l.headD 0 = 61 then taken two m1 (m.at_ + 2) else taken one m1 (m.at_ + 1))
  else if two = 0 ∨ mayN two m.stack = false then .error m.at_
  else if l = [] then .ok { m1 with at_ := m.at_ + 1, fin := 3 }
  else if l.headD 0 ≠ 61 then .error (m.at_ + 1)
  else taken two m1 (m.at_ + 2)
/-- one step at the bytes l (not empty) that stand from the machine's place on -/
def stepN (m : Mc) : List UInt8 → Out
  | [] => .ok m
  | c :: l =>
    if blankC c = true then .ok { m with at_ := m.at_ + 1 }
    else if c.toNat = 35 then commentN m (c :: l)
    else if c.toNat = 34 then textStep m (c :: l)
    else if wordC c = true then wordStep m (c :: l)
    else signStep m c l
/-- all bytes gone through -/
def runN (src : List UInt8) : Nat → Mc → Out
  | 0, m => .ok m
  | f + 1, m => if src.length ≤ m.at_ then .ok m else match stepN m (src.drop m.at_) with
    | .error k => .error k
    | .ok m' => runN src f m'
def startM : Mc := ⟨0, [23, 1, 4, 58, 5], 0, 0⟩
def begunN (src : List UInt8) : Out := runN src (src.length + 1) startM
/-- are these bytes a type's text? if not: the first wrong byte -/
def parsesN (src : List UInt8) : Option Nat := match begunN src with
  | .error k => some k
  | .ok m => if m.stack = [] then none else some src.length
end Go.Proofs.YtmmjcbbogokmfaaGreatDoor

/- What is wanting, plain: the shortest ends, Finish. -/
namespace Go.Proofs.YtmmjcbbogokmfaaGreatDoor

/-- is x ahead of y, of rows as long? -/
def ltB : List UInt8 → List UInt8 → Bool
  | a :: x, b :: y => if a = b then ltB x y else decide (a.toNat < b.toNat)
  | _, _ => false
def aheadB (x y : List UInt8) : Bool := if x.length = y.length then ltB x y else decide (x.length < y.length)
def lessB (x y : List UInt8) : List UInt8 := if aheadB y x = true then y else x
def spelledN (s : Nat) : List UInt8 :=
  if s = 1 then [97] else if s = 2 then [48] else if s = 3 then [34, 34] else if s < 23 then signL.getD (s - 4) [] else resL.getD (s - 23) []
def wordedB (s : Nat) : Bool := decide (s ≤ 2 ∨ 23 ≤ s)
/-- the ends with a symbol ahead of them (behind a word's byte, behind another) -/
def beforeN (n : Nat) (e : List UInt8 × List UInt8) : List UInt8 × List UInt8 :=
  if emptyN n = true then e
  else if n = 60 then (9 :: (spelledN 34 ++ e.1), spelledN 34 ++ e.1)
  else if 58 ≤ n then (lessB (9 :: 48 :: e.1) (34 :: 34 :: e.2), lessB (48 :: e.1) (34 :: 34 :: e.2))
  else if wordedB n = true then (9 :: (spelledN n ++ e.1), spelledN n ++ e.1)
  else (spelledN n ++ e.2, spelledN n ++ e.2)
/-- the stack's top is its head -/
def restN (st : List Nat) : List UInt8 × List UInt8 := st.foldr beforeN ([], [])
def withN (t : Nat) (st : List Nat) : List Nat := (takeN t (st.length + 100) st).getD []
def tryN (st : List Nat) (best : List UInt8) (t : Nat) (more : List UInt8) : List UInt8 :=
  if mayN t st = true then
    (let r := more ++ (restN (withN t st)).1
     if best = [] ∨ aheadB r best = true then r else best)
  else best
def triesN (st : List Nat) (w : List UInt8) : List (List UInt8) → Nat → List UInt8 → List UInt8
  | [], _, best => best
  | r :: l, i, best => triesN st w l (i + 1) (if w.isPrefixOf r = true then tryN st best (23 + i) (r.drop w.length) else best)
def wordEnd (st : List Nat) (w : List UInt8) : List UInt8 :=
  let best := triesN st w resL 0 []
  if digC (w.headD 0) = true then tryN st best 2 []
  else if legalB w = true then tryN st best 1 []
  else if w.length < 64 ∧ startsNameB w = true then tryN st best 1 [48]
  else best
def finishedN (src : List UInt8) (m : Mc) : List UInt8 :=
  if m.fin = 1 then (let e := (restN m.stack).2; if e = [] then [] else 10 :: e)
  else if m.fin = 2 then wordEnd m.stack (src.drop m.from_)
  else if m.fin = 3 then 61 :: (restN (withN (signN (src.drop m.from_ ++ [61])) m.stack)).2
  else if m.fin = 4 then 34 :: (restN (withN 3 m.stack)).2
  else if m.fin = 5 then 34 :: 34 :: (restN (withN 3 m.stack)).2
  else if m.fin = 6 then 48 :: 48 :: 34 :: (restN (withN 3 m.stack)).2
  else if m.fin = 7 then 48 :: 34 :: (restN (withN 3 m.stack)).2
  else (restN m.stack).2
def finishN (src : List UInt8) : Option (List UInt8) := if src.length ≤ 60000 then (match begunN src with
  | .error _ => none
  | .ok m => some (finishedN src m)) else none
end Go.Proofs.YtmmjcbbogokmfaaGreatDoor

/- The reader of a type's text, plain: lexemes, expressions, declarations. -/
namespace Go.Proofs.YtmmjcbbogokmfaaGreatDoor

/-- a node -/
structure Nd where
  op : Int
  name : ByteArray
  vk : Int
  vn : Int
  vt : ByteArray
  vs : List ByteArray
  kids : List Int
structure Atr where
  name : ByteArray
  at_ : Int
  order : Int
  opt : Bool
  kind : Int
  dflt : Int
  when_ : Int
structure Stg where
  name : ByteArray
  at_ : Int
  order : Int
  in_ : ByteArray
  inAt : Int
  opens : Int
  closes : Int
structure Mil where
  name : ByteArray
  at_ : Int
  order : Int
  in_ : ByteArray
  inAt : Int
  when_ : Int
structure Prm where
  name : ByteArray
  at_ : Int
  kind : Int
structure Eff where
  name : ByteArray
  at_ : Int
  worth : Int
structure Stp where
  name : ByteArray
  at_ : Int
  order : Int
  params : List Prm
  in_ : ByteArray
  inAt : Int
  when_ : Int
  effects : List Eff
structure Tre where
  name : ByteArray
  at_ : Int
  ats : List Int
  nodes : List Nd
  steps : List Stp
  attrs : List Atr
  stages : List Stg
  miles : List Mil
def Tre.none_ : Tre := ⟨⟨#[]⟩, 0, [], [], [], [], [], []⟩
structure Rdr where
  at_ : Nat
  from_ : Nat
  t : Nat
  order : Nat
  tree : Tre

/-- how many bytes of blanks and comments stand ahead (com: within a comment) -/
def skipLen : Bool → List UInt8 → Nat
  | _, [] => 0
  | true, c :: l => if lfC c = true then skipLen false l + 1 else skipLen true l + 1
  | false, c :: l => if blankC c = true then skipLen false l + 1 else if c.toNat = 35 then skipLen true l + 1 else 0
/-- how many bytes a text has behind its first mark, with its last -/
def strLen : List UInt8 → Option Nat
  | [] => none
  | c :: l => if c.toNat = 34 then some 1 else if c.toNat = 92 then (match l with
    | [] => none
    | _ :: l' => (strLen l').map (· + 2)) else (strLen l).map (· + 1)
/-- the lexeme at the head of these bytes (not empty): its length and symbol -/
def lexN : List UInt8 → Option (Nat × Nat)
  | [] => none
  | c :: l =>
    if wordC c = true then (let w := (c :: l).takeWhile wordC; some (w.length, namedN w))
    else if c.toNat = 34 then (strLen l).map fun k => (k + 1, 3)
    else if l.headD 0 = 61 ∧ signN [c, 61] ≠ 0 then some (2, signN [c, 61])
    else some (1, signN [c])
def nextN (src : List UInt8) (r : Rdr) : Option Rdr :=
  let k := r.at_ + skipLen false (src.drop r.at_)
  if src.length ≤ k then some { r with at_ := k, from_ := k }
  else (lexN (src.drop k)).map fun x => { r with at_ := k + x.1, from_ := k, t := x.2 }
def lexeme (src : List UInt8) (r : Rdr) : List UInt8 := (src.take r.at_).drop r.from_
def skipN (src : List UInt8) (t : Nat) (r : Rdr) : Option (Bool × Rdr) := if r.t = t then (nextN src r).map fun r => (true, r) else some (false, r)
def nameN (src : List UInt8) (r : Rdr) : Option (ByteArray × Int × Rdr) := (nextN src r).map fun r' => (⟨(lexeme src r).toArray⟩, (r.from_ : Int), r')
/-- a node is laid down -/
def nodeN (n : Nd) (at_ : Nat) (r : Rdr) : Option (Int × Rdr) := if r.tree.nodes.length < 1000000 ∧ r.tree.ats.length < 1000000 then some ((r.tree.nodes.length : Int), { r with tree := { r.tree with nodes := r.tree.nodes ++ [n], ats := r.tree.ats ++ [(at_ : Int)] } }) else none
def bareNd (op : Int) (kids : List Int) : Nd := ⟨op, ⟨#[]⟩, 0, 0, ⟨#[]⟩, [], kids⟩
def callN (t : Nat) : Int := if t = 49 then 24 else if t = 52 then 25 else if t = 31 then 26 else if t = 50 then 27 else if t = 51 then 28 else 29 + ((t : Int) - 53)
def hexV (c : UInt8) : Nat := if digC c = true then c.toNat - 48 else c.toNat - 87
/-- what the inside of a text means -/
def meantN : Nat → List UInt8 → Option (List UInt8)
  | 0, _ => none
  | _ + 1, [] => some []
  | f + 1, c :: l =>
    if c.toNat = 92 then (match l with
      | [] => none
      | d :: l' => if d.toNat = 110 then (meantN f l').map (10 :: ·) else if d.toNat = 116 then (meantN f l').map (9 :: ·)
        else if d.toNat = 120 then (match l' with
          | a :: b :: l2 => if hexC a = true ∧ hexC b = true then (meantN f l2).map (UInt8.ofNat (16 * hexV a + hexV b) :: ·) else none
          | _ => none)
        else (meantN f l').map (d :: ·))
    else (meantN f l).map (c :: ·)
def decN : List UInt8 → Nat → Nat
  | [], n => n
  | c :: l, n => decN l (10 * n + (c.toNat - 48))
/-- the node of a literal or a name -/
def literalNd (t : Nat) (w : List UInt8) : Option Nd :=
  if t = 2 then (if startsIntB w = true ∧ w ≠ [] ∧ w.length ≤ 18 then some ⟨1, ⟨#[]⟩, 1, (decN w 0 : Int), ⟨#[]⟩, [], []⟩ else none)
  else if t = 46 ∨ t = 47 then some ⟨2, ⟨#[]⟩, 2, 47 - (t : Int), ⟨#[]⟩, [], []⟩
  else if t = 3 then none
  else if t = 1 then some ⟨5, ⟨w.toArray⟩, 0, 0, ⟨#[]⟩, [], []⟩
  else some (bareNd 4 [])
inductive Job where
  | expr
  | row (level : Nat)
  | more (level : Nat) (root : Int)
  | two (op : Int) (root : Int) (level : Nat)
  | unary
  | list (last : Nat) (kids : List Int)
def litT (t : Nat) : Bool := decide (t = 2 ∨ t = 46 ∨ t = 47 ∨ t = 3 ∨ t = 48 ∨ t = 1)
/-- the operator of a row's level that stands here (0: none), and the level beneath -/
def rowOp (level t : Nat) : Int :=
  if level = 43 then (if t = 43 then 10 else 0)
  else if level = 44 then (if t = 44 then 9 else 0)
  else if level = 18 then (if t = 18 ∨ t = 19 then 18 + ((t : Int) - 18) else 0)
  else (if 20 ≤ t ∧ t ≤ 22 then 20 + ((t : Int) - 20) else 0)
def beneath (level : Nat) : Nat := if level = 43 then 44 else if level = 44 then 45 else if level = 18 then 20 else 19
def exN (src : List UInt8) : Nat → Job → Rdr → Option (Int × List Int × Rdr)
  | 0, _, _ => none
  | f + 1, .expr, r =>
    if r.t ≠ 40 then exN src f (.row 43) r
    else (nextN src r).bind fun r1 => (exN src f .expr r1).bind fun c => (nextN src c.2.2).bind fun r2 => (exN src f .expr r2).bind fun a => (nextN src a.2.2).bind fun r3 =>
      (exN src f .expr r3).bind fun b => (nodeN (bareNd 23 [c.1, a.1, b.1]) r.from_ b.2.2).map fun x => (x.1, [], x.2)
  | f + 1, .row level, r =>
    if level = 45 then
      (if r.t = 45 then (nextN src r).bind fun r1 => (exN src f (.row 45) r1).bind fun k => (nodeN (bareNd 8 [k.1]) r.from_ k.2.2).map fun x => (x.1, [], x.2)
       else (exN src f (.row 18) r).bind fun k =>
        if 12 ≤ k.2.2.t ∧ k.2.2.t ≤ 17 then exN src f (.two (11 + ((k.2.2.t : Int) - 12)) k.1 18) k.2.2
        else if k.2.2.t = 28 then exN src f (.two 17 k.1 18) k.2.2 else some k)
    else if level = 43 ∨ level = 44 ∨ level = 18 ∨ level = 20 then (exN src f (.row (beneath level)) r).bind fun k => exN src f (.more level k.1) k.2.2
    else exN src f .unary r
  | f + 1, .more level root, r =>
    if rowOp level r.t = 0 then some (root, [], r)
    else (exN src f (.two (rowOp level r.t) root (beneath level)) r).bind fun k => exN src f (.more level k.1) k.2.2
  | f + 1, .two op root level, r => (nextN src r).bind fun r1 => (exN src f (.row level) r1).bind fun q => (nodeN (bareNd op [root, q.1]) r.from_ q.2.2).map fun x => (x.1, [], x.2)
  | f + 1, .unary, r =>
    if r.t = 19 then (nextN src r).bind fun r1 => (exN src f .unary r1).bind fun k => (nodeN (bareNd 7 [k.1]) r.from_ k.2.2).map fun x => (x.1, [], x.2)
    else if litT r.t = true then (literalNd r.t (lexeme src r)).bind fun n => (nextN src r).bind fun r1 => (nodeN n r.from_ r1).map fun x => (x.1, [], x.2)
    else if r.t = 6 then (nextN src r).bind fun r1 => (exN src f .expr r1).bind fun k => (nextN src k.2.2).bind fun r2 => some (k.1, [], r2)
    else if r.t = 4 then (nextN src r).bind fun r1 => (exN src f (.list 5 []) r1).bind fun k => (nodeN (bareNd 6 k.2.1) r.from_ k.2.2).map fun x => (x.1, [], x.2)
    else if ¬ (r.t = 31 ∨ (49 ≤ r.t ∧ r.t ≤ 57)) then none
    else (nextN src r).bind fun r1 => (nextN src r1).bind fun r2 =>
      if r.t = 49 ∨ r.t = 52 ∨ r.t = 31 then (nameN src r2).bind fun w => (nextN src w.2.2).bind fun r3 => (nodeN ⟨callN r.t, w.1, 0, 0, ⟨#[]⟩, [], []⟩ r.from_ r3).map fun x => (x.1, [], x.2)
      else (exN src f (.list 7 []) r2).bind fun k => (nodeN (bareNd (callN r.t) k.2.1) r.from_ k.2.2).map fun x => (x.1, [], x.2)
  | f + 1, .list last kids, r =>
    if r.t = last then (nextN src r).bind fun r1 => some (0, kids, r1)
    else if kids.length < 1000000 then (skipN src 8 r).bind fun s => (exN src f .expr s.2).bind fun k => exN src f (.list last (kids ++ [k.1])) k.2.2 else none
def exprN (src : List UInt8) (f : Nat) (r : Rdr) : Option (Int × Rdr) := (exN src f .expr r).map fun k => (k.1, k.2.2)
def guardN (src : List UInt8) (f : Nat) (first : Nat) (r : Rdr) : Option (Int × Rdr) :=
  if r.t ≠ first then some (-1, r)
  else (nextN src r).bind fun r1 => if first = 32 ∨ first = 12 then exprN src f r1 else (nextN src r1).bind fun r2 => exprN src f r2
def ruledN (src : List UInt8) (f : Nat) (first : Nat) (r : Rdr) : Option (Int × Rdr) :=
  (guardN src f first r).bind fun k => if 0 ≤ k.1 then (nextN src k.2).bind fun r1 => some (k.1, r1) else some k
def declN (src : List UInt8) (r : Rdr) : Option (ByteArray × Int × Int × Rdr) :=
  (nextN src r).bind fun r1 => (nameN src r1).bind fun w => if w.2.2.order < 1000000 then some (w.1, w.2.1, (w.2.2.order : Int), { w.2.2 with order := w.2.2.order + 1 }) else none
def inN (src : List UInt8) (r : Rdr) : Option (ByteArray × Int × Rdr) := if r.t = 28 then (nextN src r).bind fun r1 => nameN src r1 else some (⟨#[]⟩, 0, r)
def kindN (src : List UInt8) (r : Rdr) : Option (Int × Rdr) := if 34 ≤ r.t ∧ r.t ≤ 38 then (nextN src r).bind fun r1 => some ((r.t : Int) - 33, r1) else none
def attrN (src : List UInt8) (f : Nat) (r : Rdr) : Option Rdr :=
  (declN src r).bind fun d => (nextN src d.2.2.2).bind fun r1 => (skipN src 39 r1).bind fun o => (kindN src o.2).bind fun k => (guardN src f 12 k.2).bind fun a => (guardN src f 32 a.2).bind fun b => (nextN src b.2).bind fun r2 =>
    if r2.tree.attrs.length < 1000000 then some { r2 with tree := { r2.tree with attrs := r2.tree.attrs ++ [⟨d.1, d.2.1, d.2.2.1, o.1, k.1, a.1, b.1⟩] } } else none
def stageN (src : List UInt8) (f : Nat) (r : Rdr) : Option Rdr :=
  (declN src r).bind fun d => (inN src d.2.2.2).bind fun i => (nextN src i.2.2).bind fun r1 => (ruledN src f 29 r1).bind fun a => (ruledN src f 30 a.2).bind fun b => (nextN src b.2).bind fun r2 =>
    if r2.tree.stages.length < 1000000 then some { r2 with tree := { r2.tree with stages := r2.tree.stages ++ [⟨d.1, d.2.1, d.2.2.1, i.1, i.2.1, a.1, b.1⟩] } } else none
def mileN (src : List UInt8) (f : Nat) (r : Rdr) : Option Rdr :=
  (declN src r).bind fun d => (inN src d.2.2.2).bind fun i => (ruledN src f 31 i.2.2).bind fun a =>
    if a.2.tree.miles.length < 1000000 then some { a.2 with tree := { a.2.tree with miles := a.2.tree.miles ++ [⟨d.1, d.2.1, d.2.2.1, i.1, i.2.1, a.1⟩] } } else none
def paramsN (src : List UInt8) : Nat → List Prm → Rdr → Option (List Prm × Rdr)
  | 0, _, _ => none
  | f + 1, ps, r => if r.t = 7 then some (ps, r)
    else if ps.length < 1000000 then (skipN src 8 r).bind fun s => (nameN src s.2).bind fun w => (nextN src w.2.2).bind fun r1 => (kindN src r1).bind fun k => paramsN src f (ps ++ [⟨w.1, w.2.1, k.1⟩]) k.2 else none
def effectsN (src : List UInt8) : Nat → List Eff → Rdr → Option (List Eff × Rdr)
  | 0, _, _ => none
  | f + 1, es, r => if r.t = 5 then some (es, r)
    else if es.length < 1000000 then (skipN src 33 r).bind fun s => (nameN src s.2).bind fun w =>
      (if s.1 = true then some (-1, w.2.2) else (nextN src w.2.2).bind fun r1 => exprN src f r1).bind fun x => (nextN src x.2).bind fun r2 => effectsN src f (es ++ [⟨w.1, w.2.1, x.1⟩]) r2 else none
def stepD (src : List UInt8) (f : Nat) (r : Rdr) : Option Rdr :=
  (declN src r).bind fun d => (nextN src d.2.2.2).bind fun r1 => (paramsN src f [] r1).bind fun p => (nextN src p.2).bind fun r2 => (inN src r2).bind fun i => (guardN src f 32 i.2.2).bind fun g => (nextN src g.2).bind fun r3 =>
    (effectsN src f [] r3).bind fun e => (nextN src e.2).bind fun r4 =>
      if r4.tree.steps.length < 1000000 then some { r4 with tree := { r4.tree with steps := r4.tree.steps ++ [⟨d.1, d.2.1, d.2.2.1, p.1, i.1, i.2.1, g.1, e.1⟩] } } else none
def declsN (src : List UInt8) : Nat → Rdr → Option Rdr
  | 0, _ => none
  | f + 1, r =>
    if r.t = 24 then (attrN src f r).bind (declsN src f)
    else if r.t = 25 then (stageN src f r).bind (declsN src f)
    else if r.t = 26 then (mileN src f r).bind (declsN src f)
    else if r.t = 27 then (stepD src f r).bind (declsN src f)
    else some r
def readN (src : List UInt8) (f : Nat) : Option Rdr :=
  (nextN src ⟨0, 0, 0, 0, Tre.none_⟩).bind fun r1 => (nextN src r1).bind fun r2 => (nameN src r2).bind fun w => (nextN src w.2.2).bind fun r3 =>
    declsN src f { r3 with tree := { r3.tree with name := w.1, at_ := w.2.1 } }
end Go.Proofs.YtmmjcbbogokmfaaGreatDoor
