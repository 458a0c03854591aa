import Derived.Lib.Hide
set_option maxRecDepth 100000
set_option maxHeartbeats 25600000
namespace Go.Proofs.YtmmjcbbogokmfaaGreatDoor
theorem jJ0 {p : Prop} (h : p) : RowKit.Hid p := Lib.hid h
def letC (c : UInt8) : Bool := decide (97 <= c.toNat /\ c.toNat <= 122)
def digC (c : UInt8) : Bool := decide (48 <= c.toNat /\ c.toNat <= 57)
def jK (c : UInt8) : Bool := letC c || digC c || decide (c.toNat = 95)
def resL : List (List UInt8) := [
  [116, 121, 112, 101], [97, 116, 116, 114, 105, 98, 117, 116, 101], [115, 116, 97, 103, 101], [109, 105, 108, 101, 115, 116, 111, 110, 101], [115, 116, 101, 112], [105, 110], [111, 112, 101, 110, 115], [99, 108, 111, 115, 101, 115], [114, 101, 97, 99, 104, 101, 100], [119, 104, 101, 110], [114, 101, 111, 112, 101, 110],
  [105, 110, 116], [98, 111, 111, 108], [116, 101, 120, 116], [116, 105, 109, 101], [115, 101, 116], [111, 112, 116, 105, 111, 110, 97, 108], [105, 102], [116, 104, 101, 110], [101, 108, 115, 101], [111, 114], [97, 110, 100], [110, 111, 116], [116, 114, 117, 101], [102, 97, 108, 115, 101], [110, 111, 116, 104, 105, 110, 103],
  [104, 97, 115], [115, 105, 122, 101], [106, 111, 105, 110], [111, 112, 101, 110], [99, 108, 111, 99, 107], [115, 116, 101, 112, 115], [109, 105, 110], [109, 97, 120], [100, 101, 102, 97, 117, 108, 116]]
def signL : List (List UInt8) := [[123], [125], [40], [41], [44], [59], [58], [58, 61], [61], [33, 61], [60], [60, 61], [62], [62, 61], [43], [45], [42], [47], [37]]
def jn (k : Nat) (w : List UInt8) : List (List UInt8) -> Nat
  | [] => 0
  | r :: l => if r = w then k else jn (k + 1) w l
def kj (w : List UInt8) : Nat := jn 23 w resL
def jS (w : List UInt8) : Nat := jn 4 w signL
def jQ (w : List UInt8) : Bool := decide (0 < w.length /\ w.length <= 64) && letC (w.headD 0) && w.all jK
def jq (w : List UInt8) : Bool := jQ w && decide (kj w = 0)
def vP : List UInt8 -> List UInt8
  | a :: b :: l => if a = 48 then vP (b :: l) else a :: b :: l
  | l => l
def leB : List UInt8 -> List UInt8 -> Bool
  | [], _ => true
  | _ :: _, [] => false
  | a :: x, b :: y => if a.toNat < b.toNat then true else if b.toNat < a.toNat then false else leB x y
def yB : List UInt8 := [57, 50, 50, 51, 51, 55, 50, 48, 51, 54, 56, 53, 52, 55, 55, 53, 56, 48, 55]
def jc (w : List UInt8) : Bool :=
  w.all digC && (let v := vP w; decide (v.length < 19) || (decide (v.length = 19) && leB v yB))
def jd (t : Nat) : Bool := decide (t = 2 \/ t = 46 \/ t = 47 \/ t = 3 \/ t = 48 \/ t = 1 \/ t = 6 \/ t = 4 \/ t = 31 \/ (49 <= t /\ t <= 57))
def jO (n t : Nat) : Bool :=
  if n = 83 \/ n = 69 then decide (t = 40 \/ t = 45 \/ t = 19) || jd t
  else if n = 70 \/ n = 72 \/ n = 74 then decide (t = 45 \/ t = 19) || jd t
  else if n = 75 \/ n = 77 \/ n = 79 \/ n = 81 then decide (t = 19) || jd t
  else if n = 82 then jd t
  else if n = 71 then decide (t = 43)
  else if n = 73 then decide (t = 44)
  else if n = 76 then decide ((12 <= t /\ t <= 17) \/ t = 28)
  else if n = 78 then decide (t = 18 \/ t = 19)
  else if n = 80 then decide (20 <= t /\ t <= 22)
  else false
def jD (n t : Nat) : Bool :=
  if n = 58 then decide (24 <= t /\ t <= 27)
  else if n = 59 then decide (t = 39)
  else if n = 60 then decide (34 <= t /\ t <= 38)
  else if n = 61 then decide (t = 12)
  else if n = 62 then decide (t = 32)
  else if n = 63 then decide (t = 28)
  else if n = 64 then decide (t = 29)
  else if n = 65 then decide (t = 30)
  else if n = 66 then decide (t = 1)
  else if n = 67 \/ n = 84 then decide (t = 8)
  else if n = 68 then decide (t = 1 \/ t = 33)
  else decide (n = t) || (decide (69 <= n) && jO n t)
def jY (n : Nat) : Bool := decide (n = 58 \/ n = 59 \/ n = 61 \/ n = 62 \/ n = 63 \/ n = 64 \/ n = 65 \/ n = 66 \/ n = 67 \/ n = 68 \/ n = 71 \/ n = 73 \/ n = 76 \/ n = 78 \/ n = 80 \/ n = 83 \/ n = 84)
def kC (t : Nat) : List Nat :=
  if t = 24 then [t, 1, 10, 59, 60, 61, 62, 9, 58]
  else if t = 25 then [t, 1, 63, 4, 64, 65, 5, 58]
  else if t = 26 then [t, 1, 63, 31, 32, 69, 9, 58]
  else if t = 27 then [t, 1, 6, 66, 7, 63, 62, 4, 68, 5, 58]
  else []
def kH (t : Nat) : List Nat :=
  if t = 2 \/ t = 46 \/ t = 47 \/ t = 3 \/ t = 48 \/ t = 1 then [t]
  else if t = 6 then [t, 69, 7]
  else if t = 4 then [t, 83, 5]
  else if t = 49 \/ t = 52 \/ t = 31 then [t, 6, 1, 7]
  else if t = 53 \/ t = 54 then [t, 6, 7]
  else if t = 50 then [t, 6, 69, 7]
  else if t = 51 \/ t = 55 \/ t = 56 \/ t = 57 then [t, 6, 69, 8, 69, 7]
  else []
def jJ (n t : Nat) : List Nat :=
  if n = 69 then (if t = 40 then [t, 69, 41, 69, 42, 69] else [70])
  else if n = 70 then [72, 71]
  else if n = 71 then [t, 72, 71]
  else if n = 72 then [74, 73]
  else if n = 73 then [t, 74, 73]
  else if n = 74 then (if t = 45 then [t, 74] else [75])
  else if n = 75 then [77, 76]
  else if n = 76 then [t, 77]
  else if n = 77 then [79, 78]
  else if n = 78 then [t, 79, 78]
  else if n = 79 then [81, 80]
  else if n = 80 then [t, 81, 80]
  else if n = 81 then (if t = 19 then [t, 81] else [82])
  else []
def jZ (n t : Nat) : List Nat :=
  if jD n t = false then []
  else if n = 58 then kC t
  else if n = 59 \/ n = 60 then [t]
  else if n = 61 \/ n = 62 then [t, 69]
  else if n = 63 then [t, 1]
  else if n = 64 \/ n = 65 then [t, 32, 69, 9]
  else if n = 66 then [t, 10, 60, 67]
  else if n = 67 then [t, 1, 10, 60, 67]
  else if n = 68 then (if t = 33 then [t, 1, 9, 68] else [t, 11, 69, 9, 68])
  else if n = 83 then [69, 84]
  else if n = 84 then [t, 69, 84]
  else if n = 82 then kH t
  else jJ n t
def mayN (t : Nat) : List Nat -> Bool
  | [] => false
  | n :: l => if jD n t = true then true else if jY n = true then mayN t l else false
def jt (t : Nat) : Nat -> List Nat -> Option (List Nat)
  | 0, _ => none
  | _ + 1, [] => none
  | f + 1, n :: l => if n = t then some l else jt t f (jZ n t ++ l)
structure Mc where
  at_ : Nat
  stack : List Nat
  fin : Nat
  from_ : Nat
inductive TxR where
  | wrong (k : Nat)
  | shut (k : Nat)
  | ends (e : Nat)
def hexC (c : UInt8) : Bool := digC c || decide (97 <= c.toNat /\ c.toNat <= 102)
def jx : List UInt8 -> Nat -> Nat -> TxR
  | [], _, e => .ends e
  | c :: l, k, e =>
    if e = 4 then
      (if c.toNat = 34 then .shut (k + 1) else if c.toNat = 92 then jx l (k + 1) 5 else if c.toNat < 32 \/ 126 < c.toNat then .wrong k else jx l (k + 1) 4)
    else if e = 5 then
      (if c.toNat = 120 then jx l (k + 1) 6 else if c.toNat = 34 \/ c.toNat = 92 \/ c.toNat = 110 \/ c.toNat = 116 then jx l (k + 1) 4 else .wrong k)
    else (if hexC c = false then .wrong k else jx l (k + 1) (if e = 7 then 4 else e + 1))
def kQ (st : List Nat) : List (List UInt8) -> Nat -> List (List UInt8)
  | [], _ => []
  | r :: l, i => if mayN (23 + i) st = true then r :: kQ st l (i + 1) else kQ st l (i + 1)
def fitsB (name int : Bool) (ws : List (List UInt8)) (w : List UInt8) : Bool := (name && jQ w) || (int && jc w) || ws.any (fun r => w.isPrefixOf r)
def kU (name int : Bool) (ws : List (List UInt8)) : List UInt8 -> List UInt8 -> Nat -> Option Nat
  | _, [], _ => none
  | w, c :: l, k => if jK c = false then some k else if fitsB name int ws (w ++ [c]) = true then kU name int ws (w ++ [c]) l (k + 1) else some k
def jU (w : List UInt8) : Nat := if digC (w.headD 0) = true then 2 else if kj w = 0 then 1 else kj w
def jj (w : List UInt8) : Bool := (digC (w.headD 0) && jc w) || decide (kj w ≠ 0) || jq w
def lfC (c : UInt8) : Bool := decide (c.toNat = 10)
def ki (c : UInt8) : Bool := decide (c.toNat = 32 \/ c.toNat = 9 \/ c.toNat = 10 \/ c.toNat = 13)
abbrev Out := Except Nat Mc
def kw (t : Nat) (m : Mc) (k : Nat) : Out := match jt t (m.stack.length + 100) m.stack with
  | some s => .ok { m with at_ := k, stack := s }
  | none => .error 1000000
def kg (m : Mc) (l : List UInt8) : Out :=
  let r := l.takeWhile (fun c => !lfC c)
  .ok (if r.length = l.length then { m with at_ := m.at_ + l.length, fin := 1 } else { m with at_ := m.at_ + r.length })
def vI (m : Mc) (l : List UInt8) : Out :=
  match kU (mayN 1 m.stack) (mayN 2 m.stack) (kQ m.stack resL 0) [] l m.at_ with
  | some k => .error k
  | none => .ok { m with at_ := m.at_ + l.length, fin := 2 }
def ka (m : Mc) (l : List UInt8) : Out :=
  let w := l.takeWhile jK
  let m1 := { m with from_ := m.at_ }
  if w.length < l.length /\ jj w = true /\ mayN (jU w) m.stack = true then kw (jU w) m1 (m.at_ + w.length) else vI m1 l
def kW (m : Mc) (l : List UInt8) : Out :=
  if mayN 3 m.stack = false then .error m.at_
  else match jx (l.drop 1) (m.at_ + 1) 4 with
    | .wrong k => .error k
    | .shut k => kw 3 { m with from_ := m.at_, fin := 0 } k
    | .ends e => .ok { m with from_ := m.at_, at_ := m.at_ + l.length, fin := e }
def kc (m : Mc) (c : UInt8) (l : List UInt8) : Out :=
  let one := jS [c]
  let two := jS [c, 61]
  let m1 := { m with from_ := m.at_ }
  if one ≠ 0 /\ mayN one m.stack = true then
    (if two ≠ 0 /\ mayN two m.stack = true /\ l.headD 0 = 61 then kw two m1 (m.at_ + 2) else kw one m1 (m.at_ + 1))
  else if two = 0 \/ mayN two m.stack = false then .error m.at_
  else if l = [] then .ok { m1 with at_ := m.at_ + 1, fin := 3 }
  else if l.headD 0 ≠ 61 then .error (m.at_ + 1)
  else kw two m1 (m.at_ + 2)
def vC (m : Mc) : List UInt8 -> Out
  | [] => .ok m
  | c :: l =>
    if ki c = true then .ok { m with at_ := m.at_ + 1 }
    else if c.toNat = 35 then kg m (c :: l)
    else if c.toNat = 34 then kW m (c :: l)
    else if jK c = true then ka m (c :: l)
    else kc m c l
def runN (src : List UInt8) : Nat -> Mc -> Out
  | 0, m => .ok m
  | f + 1, m => if src.length <= m.at_ then .ok m else match vC m (src.drop m.at_) with
    | .error k => .error k
    | .ok m' => runN src f m'
def startM : Mc := ⟨0, [23, 1, 4, 58, 5], 0, 0⟩
def kG (src : List UInt8) : Out := runN src (src.length + 1) startM
def parsesN (src : List UInt8) : Option Nat := match kG src with
  | .error k => some k
  | .ok m => if m.stack = [] then none else some src.length
theorem idxFrom_lt (w : List UInt8) : ∀ (l : List (List UInt8)) (k : Nat), jn k w l < k + l.length + 1
  | [], k => by rw [jn]; omega
  | r :: l, k => by
    rw [jn, List.length_cons]
    split
    · omega
    · have := idxFrom_lt w l (k + 1)
      omega
theorem ja (w : List UInt8) : jS w < 58 := by
  have := idxFrom_lt w signL 4
  have e : signL.length = 19 := rfl
  unfold jS
  omega
theorem wordN_lt (w : List UInt8) : kj w < 59 := by
  have := idxFrom_lt w resL 23
  have e : resL.length = 35 := rfl
  unfold kj
  omega
theorem kr (w : List UInt8) : jU w < 58 := by
  have := wordN_lt w
  unfold jU
  have h58 : kj w < 58 := by
    have h := idxFrom_lt w resL 23
    unfold kj
    have e : resL.length = 35 := rfl
    rcases Nat.lt_or_ge (jn 23 w resL) 58 with h1 | h1
    · exact h1
    · exfalso
      have : ∀ (l : List (List UInt8)) (k : Nat), jn k w l ≠ 0 -> jn k w l < k + l.length := by
        intro l
        induction l with
        | nil => intro k h; rw [jn] at h; exact absurd rfl h
        | cons a l ih =>
          intro k h
          rw [jn] at h ⊢
          rw [List.length_cons]
          split
          · omega
          · rename_i hne
            rw [if_neg hne] at h
            have := ih (k + 1) h
            omega
      have := this resL 23 (by omega)
      omega
  split
  · omega
  · split <;> omega
theorem yJ (t : Nat) : ∀ (f : Nat) (l k m : List Nat), jt t f l = some k -> jt t f (l ++ m) = some (k ++ m)
  | 0, l, k, m, h => by cases h
  | f + 1, [], k, m, h => by cases h
  | f + 1, n :: l, k, m, h => by
    rw [List.cons_append]
    rw [jt] at h ⊢
    split at h
    · rename_i hn
      rw [if_pos hn]
      obtain rfl := Option.some.inj h
      rfl
    · rename_i hn
      rw [if_neg hn, <- List.append_assoc]
      exact yJ t f _ k m h
theorem vj (t : Nat) : ∀ (f g : Nat) (l k : List Nat), f <= g -> jt t f l = some k -> jt t g l = some k
  | 0, g, l, k, hg, h => by cases h
  | f + 1, 0, l, k, hg, h => by omega
  | f + 1, g + 1, [], k, hg, h => by cases h
  | f + 1, g + 1, n :: l, k, hg, h => by
    rw [jt] at h ⊢
    split at h
    · rename_i hn
      rw [if_pos hn]
      exact h
    · rename_i hn
      rw [if_neg hn]
      exact vj t f g _ k (by omega) h
def grows (n t : Nat) : Bool := !jD n t || (jt t 30 [n]).isSome
theorem grows_all : ∀ n : Fin 85, ∀ t : Fin 58, grows n.val t.val = true := by decide +kernel
theorem grows_eq (n t : Nat) (ht : t < 58) (h : jD n t = true) : ∃ k, jt t 30 [n] = some k := by
  by_cases hn : n < 85
  · have h1 := grows_all ⟨n, hn⟩ ⟨t, ht⟩
    simp only [grows, h, Bool.not_true, Bool.false_or] at h1
    exact Option.isSome_iff_exists.1 h1
  · exfalso
    unfold jD jO at h
    simp only [show ¬ n = 58 by omega, show ¬ n = 59 by omega, show ¬ n = 60 by omega, show ¬ n = 61 by omega, show ¬ n = 62 by omega, show ¬ n = 63 by omega, show ¬ n = 64 by omega, show ¬ n = 65 by omega, show ¬ n = 66 by omega, show ¬ (n = 67 \/ n = 84) by omega, show ¬ n = 68 by omega,
      show ¬ (n = 83 \/ n = 69) by omega, show ¬ (n = 70 \/ n = 72 \/ n = 74) by omega, show ¬ (n = 75 \/ n = 77 \/ n = 79 \/ n = 81) by omega, show ¬ n = 82 by omega, show ¬ n = 71 by omega, show ¬ n = 73 by omega, show ¬ n = 76 by omega, show ¬ n = 78 by omega, show ¬ n = 80 by omega, show ¬ n = t by omega,
      if_false, decide_false, Bool.false_or, Bool.and_false] at h
    cases h
theorem skip_rule (n t : Nat) (h : jD n t = false) : jZ n t = [] := by
  rw [jZ, if_pos h]
theorem empty_ge (n : Nat) (h : jY n = true) : 58 <= n := by
  have := of_decide_eq_true h
  omega
theorem takeN_may (t : Nat) (ht : t < 58) : ∀ (st : List Nat), mayN t st = true -> ∃ k, jt t (st.length + 30) st = some k
  | [], h => by cases h
  | n :: l, h => by
    rw [mayN] at h
    split at h
    · rename_i hb
      obtain ⟨k, hk⟩ := grows_eq n t ht hb
      have h1 := yJ t 30 [n] k l hk
      exact ⟨k ++ l, vj t 30 _ _ _ (by simp) h1⟩
    · rename_i hb
      split at h
      · rename_i he
        obtain ⟨k, hk⟩ := takeN_may t ht l h
        refine ⟨k, ?_⟩
        rw [List.length_cons, show l.length + 1 + 30 = (l.length + 30) + 1 by omega, jt]
        have hge := empty_ge n he
        rw [if_neg (by omega), skip_rule n t (by simpa using hb), List.nil_append]
        exact hk
      · cases h
theorem taken_may (t : Nat) (ht : t < 58) (m : Mc) (k : Nat) (h : mayN t m.stack = true) : ∃ s, jt t (m.stack.length + 100) m.stack = some s /\ kw t m k = .ok { m with at_ := k, stack := s } := by
  obtain ⟨s, hs⟩ := takeN_may t ht m.stack h
  have h1 := vj t _ (m.stack.length + 100) _ _ (by omega) hs
  refine ⟨s, h1, ?_⟩
  unfold kw
  rw [h1]
theorem textGo_shut : ∀ (l : List UInt8) (k e j : Nat), jx l k e = .shut j -> k < j /\ j <= k + l.length
  | [], k, e, j, h => by rw [jx] at h; cases h
  | c :: l, k, e, j, h => by
    rw [jx] at h
    rw [List.length_cons]
    have ih := fun e' => textGo_shut l (k + 1) e' j
    split at h
    · split at h
      · injection h with h
        omega
      · split at h
        · have := ih _ h; omega
        · split at h
          · cases h
          · have := ih _ h; omega
    · split at h
      · split at h
        · have := ih _ h; omega
        · split at h
          · have := ih _ h; omega
          · cases h
      · split at h
        · cases h
        · have := ih _ h; omega
theorem taken_at {t : Nat} {m m' : Mc} {k : Nat} (h : kw t m k = .ok m') : m'.at_ = k := by
  unfold kw at h
  split at h
  · injection h with h
    rw [<- h]
  · cases h
theorem ky (p : UInt8 -> Bool) (l : List UInt8) : (l.takeWhile p).length <= l.length := (List.takeWhile_sublist p).length_le
theorem km (p : UInt8 -> Bool) (c : UInt8) (l : List UInt8) (h : p c = true) : 0 < ((c :: l).takeWhile p).length := by
  rw [List.takeWhile_cons, if_pos h]
  simp
theorem stepN_on {m m' : Mc} {c : UInt8} {l : List UInt8} (h : vC m (c :: l) = .ok m') : m.at_ < m'.at_ /\ m'.at_ <= m.at_ + (c :: l).length := by
  have hl : (c :: l).length = l.length + 1 := List.length_cons
  rw [vC] at h
  split at h
  · injection h with h
    rw [<- h]
    simp only
    omega
  · split at h
    · rename_i hc
      unfold kg at h
      simp only at h
      injection h with h
      have h1 := ky (fun c => !lfC c) (c :: l)
      have h2 := km (fun c => !lfC c) c l (by simp only [lfC]; rw [decide_eq_false (by omega)]; rfl)
      split at h
      · rw [<- h]; simp only; omega
      · rw [<- h]; simp only; omega
    · split at h
      · unfold kW at h
        split at h
        · cases h
        · split at h
          · cases h
          · rename_i j hj
            have h1 := taken_at h
            have h2 := textGo_shut _ _ _ _ hj
            rw [List.drop_one, List.tail_cons] at h2
            omega
          · injection h with h
            rw [<- h]
            simp only
            omega
      · split at h
        · rename_i hw
          have h1 := ky jK (c :: l)
          have h2 := km jK c l hw
          unfold ka at h
          simp only at h
          split at h
          · have h3 := taken_at h
            omega
          · unfold vI at h
            split at h
            · cases h
            · injection h with h
              rw [<- h]
              simp only
              omega
        · unfold kc at h
          simp only at h
          split at h
          · split at h
            · rename_i hh
              have h3 := taken_at h
              have : l ≠ [] := fun e => by rw [e] at hh; exact absurd hh.2.2 (by decide)
              have := List.length_pos_iff.2 this
              omega
            · have h3 := taken_at h
              omega
          · split at h
            · cases h
            · split at h
              · injection h with h
                rw [<- h]
                simp only
                omega
              · rename_i hne
                have := List.length_pos_iff.2 hne
                split at h
                · cases h
                · have h3 := taken_at h
                  omega
inductive Goes : Mc -> List UInt8 -> Mc -> List UInt8 -> Prop
  | refl (m : Mc) (l : List UInt8) : Goes m l m l
  | step {m m1 m' : Mc} {c : UInt8} {l l' : List UInt8} : vC m (c :: l) = .ok m1 -> Goes m1 ((c :: l).drop (m1.at_ - m.at_)) m' l' -> Goes m (c :: l) m' l'
theorem Goes.trans {m m1 m2 : Mc} {l l1 l2 : List UInt8} (h : Goes m l m1 l1) (k : Goes m1 l1 m2 l2) : Goes m l m2 l2 := by
  induction h with
  | refl => exact k
  | step h1 _ ih => exact .step h1 (ih k)
theorem mayN_more (t : Nat) : ∀ (l m : List Nat), mayN t l = true -> mayN t (l ++ m) = true
  | [], m, h => by cases h
  | n :: l, m, h => by
    rw [List.cons_append, mayN]
    rw [mayN] at h
    split at h
    · rename_i hb
      rw [if_pos hb]
    · rename_i hb
      rw [if_neg hb]
      split at h
      · rename_i he
        rw [if_pos he]
        exact mayN_more t l m h
      · cases h
theorem mayN_skips (t : Nat) : ∀ (l m : List Nat), (l.all fun n => !jD n t && jY n) = true -> mayN t (l ++ m) = mayN t m
  | [], m, _ => rfl
  | n :: l, m, h => by
    rw [List.all_cons, Bool.and_eq_true, Bool.and_eq_true, Bool.not_eq_true'] at h
    rw [List.cons_append, mayN, if_neg (by rw [h.1.1]; decide), if_pos h.1.2]
    exact mayN_skips t l m h.2
theorem mayN_stop (t n : Nat) (l : List Nat) (h : jD n t = false) (k : jY n = false) : mayN t (n :: l) = false := by
  rw [mayN, if_neg (by rw [h]; decide), if_neg (by rw [k]; decide)]
theorem step_wrong (m : Mc) (c : UInt8) (l : List UInt8) (t : Nat) (hb : ki c = false) (h5 : ¬ c.toNat = 35) (h4 : ¬ c.toNat = 34) (hw : jK c = false) (h1 : jS [c] = t) (h2 : jS [c, 61] = 0) (hm : mayN t m.stack = false) : vC m (c :: l) = .error m.at_ := by
  rw [vC, if_neg (by rw [hb]; decide), if_neg h5, if_neg h4, if_neg (by rw [hw]; decide)]
  unfold kc
  simp only [h1, h2]
  rw [if_neg (fun e => by rw [hm] at e; exact absurd e.2 (by decide)), if_pos (.inl trivial)]
theorem takeWhile_word : ∀ (w : List UInt8) (c : UInt8) (l : List UInt8), w.all jK = true -> jK c = false -> (w ++ c :: l).takeWhile jK = w
  | [], c, l, _, hc => by rw [List.nil_append, List.takeWhile_cons, if_neg (by rw [hc]; decide)]
  | a :: w, c, l, h, hc => by
    rw [List.all_cons, Bool.and_eq_true] at h
    rw [List.cons_append, List.takeWhile_cons, if_pos h.1, takeWhile_word w c l h.2 hc]
theorem word_byte {c : UInt8} (h : jK c = true) : ki c = false /\ ¬ c.toNat = 35 /\ ¬ c.toNat = 34 := by
  unfold jK letC digC at h
  simp only [Bool.or_eq_true, decide_eq_true_eq] at h
  refine ⟨decide_eq_false ?_, ?_, ?_⟩ <;> omega
theorem Goes.one {m m1 m' : Mc} {l0 l l' : List UInt8} (n : Nat) (h : vC m l0 = .ok m1) (hn : m1.at_ = m.at_ + n) (h0 : l0 ≠ []) (hl : l0.drop n = l) (k : Goes m1 l m' l') : Goes m l0 m' l' := by
  cases l0 with
  | nil => exact absurd rfl h0
  | cons c l1 => exact .step h (by rw [hn, Nat.add_sub_cancel_left, hl]; exact k)
theorem takeN_uniq {t f g : Nat} {l k k' : List Nat} (h : jt t f l = some k) (h' : jt t g l = some k') : k = k' := by
  have h1 := vj t f (max f g) l k (by omega) h
  have h2 := vj t g (max f g) l k' (by omega) h'
  rw [h1] at h2
  exact Option.some.inj h2
def growsLen (n t : Nat) : Bool := !jD n t || (match jt t 30 [n] with | some k => decide (k.length <= 12) | none => true)
theorem growsLen_all : ∀ n : Fin 85, ∀ t : Fin 58, growsLen n.val t.val = true := by decide +kernel
theorem takeN_len (t : Nat) (ht : t < 58) : ∀ (st : List Nat) (f : Nat) (k : List Nat), (∀ n ∈ st, n < 85) -> mayN t st = true -> jt t f st = some k -> k.length <= st.length + 12
  | [], f, k, _, h, _ => by cases h
  | n :: l, f, k, h5, h, hk => by
    rw [mayN] at h
    split at h
    · rename_i hb
      obtain ⟨k0, hk0⟩ := grows_eq n t ht hb
      have h1 := yJ t 30 [n] k0 l hk0
      obtain rfl := takeN_uniq hk h1
      have h2 := growsLen_all ⟨n, h5 n List.mem_cons_self⟩ ⟨t, ht⟩
      simp only [growsLen, hb, Bool.not_true, Bool.false_or, hk0] at h2
      have h3 := of_decide_eq_true h2
      rw [List.length_append, List.length_cons]
      omega
    · rename_i hb
      split at h
      · rename_i he
        cases f with
        | zero => cases hk
        | succ f =>
          rw [jt] at hk
          have hge := empty_ge n he
          rw [if_neg (by omega), skip_rule n t (by simpa using hb), List.nil_append] at hk
          have := takeN_len t ht l f k (fun x hx => h5 x (List.mem_cons_of_mem _ hx)) h hk
          rw [List.length_cons]
          omega
      · cases h
theorem taken_len {t : Nat} (ht : t < 58) {m m' : Mc} {a k f : Nat} {fin : Nat} (h5 : ∀ n ∈ m.stack, n < 85) (hm : mayN t m.stack = true) (h : kw t { at_ := a, stack := m.stack, fin := fin, from_ := f } k = .ok m') : m'.stack.length <= m.stack.length + 12 := by
  unfold kw at h
  split at h
  · rename_i s hs
    injection h with h
    rw [<- h]
    exact takeN_len t ht m.stack _ s h5 hm hs
  · cases h
def ltB : List UInt8 -> List UInt8 -> Bool
  | a :: x, b :: y => if a = b then ltB x y else decide (a.toNat < b.toNat)
  | _, _ => false
def vG (x y : List UInt8) : Bool := if x.length = y.length then ltB x y else decide (x.length < y.length)
def vN (x y : List UInt8) : List UInt8 := if vG y x = true then y else x
def jH (s : Nat) : List UInt8 :=
  if s = 1 then [97] else if s = 2 then [48] else if s = 3 then [34, 34] else if s < 23 then signL.getD (s - 4) [] else resL.getD (s - 23) []
def kM (s : Nat) : Bool := decide (s <= 2 \/ 23 <= s)
def jh (n : Nat) (e : List UInt8 × List UInt8) : List UInt8 × List UInt8 :=
  if jY n = true then e
  else if n = 60 then (9 :: (jH 34 ++ e.1), jH 34 ++ e.1)
  else if 58 <= n then (vN (9 :: 48 :: e.1) (34 :: 34 :: e.2), vN (48 :: e.1) (34 :: 34 :: e.2))
  else if kM n = true then (9 :: (jH n ++ e.1), jH n ++ e.1)
  else (jH n ++ e.2, jH n ++ e.2)
def jG (st : List Nat) : List UInt8 × List UInt8 := st.foldr jh ([], [])
def jR (t : Nat) (st : List Nat) : List Nat := (jt t (st.length + 100) st).getD []
def tryN (st : List Nat) (best : List UInt8) (t : Nat) (more : List UInt8) : List UInt8 :=
  if mayN t st = true then
    (let r := more ++ (jG (jR t st)).1
     if best = [] \/ vG r best = true then r else best)
  else best
def kS (st : List Nat) (w : List UInt8) : List (List UInt8) -> Nat -> List UInt8 -> List UInt8
  | [], _, best => best
  | r :: l, i, best => kS st w l (i + 1) (if w.isPrefixOf r = true then tryN st best (23 + i) (r.drop w.length) else best)
def kR (st : List Nat) (w : List UInt8) : List UInt8 :=
  let best := kS st w resL 0 []
  if digC (w.headD 0) = true then tryN st best 2 []
  else if jq w = true then tryN st best 1 []
  else if w.length < 64 /\ jQ w = true then tryN st best 1 [48]
  else best
def vF (src : List UInt8) (m : Mc) : List UInt8 :=
  if m.fin = 1 then (let e := (jG m.stack).2; if e = [] then [] else 10 :: e)
  else if m.fin = 2 then kR m.stack (src.drop m.from_)
  else if m.fin = 3 then 61 :: (jG (jR (jS (src.drop m.from_ ++ [61])) m.stack)).2
  else if m.fin = 4 then 34 :: (jG (jR 3 m.stack)).2
  else if m.fin = 5 then 34 :: 34 :: (jG (jR 3 m.stack)).2
  else if m.fin = 6 then 48 :: 48 :: 34 :: (jG (jR 3 m.stack)).2
  else if m.fin = 7 then 48 :: 34 :: (jG (jR 3 m.stack)).2
  else (jG m.stack).2
def vO (src : List UInt8) : Option (List UInt8) := if src.length <= 60000 then (match kG src with
  | .error _ => none
  | .ok m => some (vF src m)) else none
end Go.Proofs.YtmmjcbbogokmfaaGreatDoor
