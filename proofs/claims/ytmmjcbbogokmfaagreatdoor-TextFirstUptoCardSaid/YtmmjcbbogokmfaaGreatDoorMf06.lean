import Derived.Test.YtmmjcbbogokmfaaGreatDoorMf01
import Derived.Test.YtmmjcbbogokmfaaGreatDoorMf05
set_option maxRecDepth 100000
set_option maxHeartbeats 25600000
namespace Go.Proofs.YtmmjcbbogokmfaaGreatDoor
inductive Md9 where
  | btw
  | com
  | wrd (w : List UInt8)
  | sgn (c : UInt8)
  | txt (e : Nat)
structure Bs where
  st : List Nat
  md : Md9
def yO (st : List Nat) (w : List UInt8) : Bool := fitsB (mayN 1 st) (mayN 2 st) (kI st resL 0) w
def yM (st : List Nat) (w : List UInt8) : Prop := jV w ≠ 0 /\ mayN (jV w) st = true
instance (st : List Nat) (w : List UInt8) : Decidable (yM st w) := inferInstanceAs (Decidable (_ /\ _))
def btwB (st : List Nat) (c : UInt8) : Option Bs :=
  if kO c = true then some ⟨st, .btw⟩
  else if c.toNat = 35 then some ⟨st, .com⟩
  else if c.toNat = 34 then (if mayN 3 st = true then some ⟨st, .txt 4⟩ else none)
  else if jH c = true then (if yO st [c] = true then some ⟨st, .wrd [c]⟩ else none)
  else if yM st [c, 61] then some ⟨st, .sgn c⟩
  else if yM st [c] then some ⟨jc (jV [c]) st, .btw⟩
  else none
def txtB (st : List Nat) (e : Nat) (c : UInt8) : Option Bs :=
  if e = 4 then (if c.toNat = 34 then some ⟨jc 3 st, .btw⟩ else if c.toNat = 92 then some ⟨st, .txt 5⟩ else if c.toNat < 32 \/ 126 < c.toNat then none else some ⟨st, .txt 4⟩)
  else if e = 5 then (if c.toNat = 120 then some ⟨st, .txt 6⟩ else if c.toNat = 34 \/ c.toNat = 92 \/ c.toNat = 110 \/ c.toNat = 116 then some ⟨st, .txt 4⟩ else none)
  else if hexC c = false then none else some ⟨st, .txt (if e = 7 then 4 else e + 1)⟩
def kx (b : Bs) (c : UInt8) : Option Bs := match b.md with
  | .btw => btwB b.st c
  | .com => if lfC c = true then some ⟨b.st, .btw⟩ else some ⟨b.st, .com⟩
  | .wrd w => if jH c = true then (if yO b.st (w ++ [c]) = true then some ⟨b.st, .wrd (w ++ [c])⟩ else none)
      else if jh w = true /\ mayN (jT w) b.st = true then btwB (jc (jT w) b.st) c else none
  | .sgn s => if c = 61 then some ⟨jc (jV [s, 61]) b.st, .btw⟩ else if yM b.st [s] then btwB (jc (jV [s]) b.st) c else none
  | .txt e => txtB b.st e c
def runB : Bs -> List UInt8 -> Nat -> Except Nat Bs
  | b, [], _ => .ok b
  | b, c :: l, k => match kx b c with
    | none => .error k
    | some b' => runB b' l (k + 1)
def startB : Bs := ⟨[23, 1, 4, 58, 5], .btw⟩
inductive Rel (src : List UInt8) (m : Mc) : Bs -> Prop
  | btw : m.fin = 0 -> Rel src m ⟨m.stack, .btw⟩
  | com : m.fin = 1 -> Rel src m ⟨m.stack, .com⟩
  | wrd {w : List UInt8} : m.fin = 2 -> src.drop m.from_ = w -> yO m.stack w = true -> Rel src m ⟨m.stack, .wrd w⟩
  | one {st : List Nat} {c : UInt8} : m.fin = 0 -> yM st [c, 61] -> yM st [c] -> m.stack = jc (jV [c]) st -> m.stack ≠ [] -> Rel src m ⟨st, .sgn c⟩
  | two {c : UInt8} : m.fin = 3 -> src.drop m.from_ = [c] -> yM m.stack [c, 61] -> ¬ yM m.stack [c] -> Rel src m ⟨m.stack, .sgn c⟩
  | txt {e : Nat} : m.fin = e -> 4 <= e -> e <= 7 -> mayN 3 m.stack = true -> Rel src m ⟨m.stack, .txt e⟩
theorem run_com (st : List Nat) : ∀ (l : List UInt8) (k : Nat), runB ⟨st, .com⟩ l k = if (l.takeWhile fun c => !lfC c).length = l.length then .ok ⟨st, .com⟩ else runB ⟨st, .btw⟩ (l.drop (l.takeWhile fun c => !lfC c).length) (k + (l.takeWhile fun c => !lfC c).length)
  | [], k => rfl
  | c :: l, k => by
    rw [runB]
    by_cases hc : lfC c = true
    · have e1 : kx ⟨st, .com⟩ c = some ⟨st, .btw⟩ := by
        show (if lfC c = true then _ else _) = _
        rw [if_pos hc]
      have hb : kO c = true := by
        have := of_decide_eq_true hc
        unfold kO
        rw [decide_eq_true (by omega)]
      have e2 : kx ⟨st, .btw⟩ c = some ⟨st, .btw⟩ := by
        show btwB st c = _
        unfold btwB
        rw [if_pos hb]
      have e3 : ((c :: l).takeWhile fun c => !lfC c) = [] := by rw [List.takeWhile_cons, if_neg (by rw [hc]; decide)]
      rw [e1, e3, List.length_nil, List.length_cons, if_neg (by omega), List.drop_zero, runB, e2]
    · have e1 : kx ⟨st, .com⟩ c = some ⟨st, .com⟩ := by
        show (if lfC c = true then _ else _) = _
        rw [if_neg hc]
      have e3 : ((c :: l).takeWhile fun c => !lfC c) = c :: (l.takeWhile fun c => !lfC c) := by
        have hc' : lfC c = false := by simpa using hc
        rw [List.takeWhile_cons, if_pos (by rw [hc']; rfl)]
      rw [e1, e3, List.length_cons, List.length_cons, List.drop_succ_cons]
      simp only
      rw [run_com st l (k + 1), show k + 1 + (l.takeWhile fun c => !lfC c).length = k + ((l.takeWhile fun c => !lfC c).length + 1) by omega]
      by_cases h : (l.takeWhile fun c => !lfC c).length = l.length
      · rw [if_pos h, if_pos (by omega)]
      · rw [if_neg h, if_neg (by omega)]
theorem run_txt (st : List Nat) : ∀ (l : List UInt8) (k e : Nat), 4 <= e -> e <= 7 -> runB ⟨st, .txt e⟩ l k = match js l k e with
    | .wrong j => .error j
    | .shut j => runB ⟨jc 3 st, .btw⟩ (l.drop (j - k)) j
    | .ends e' => .ok ⟨st, .txt e'⟩
  | [], k, e, _, _ => rfl
  | c :: l, k, e, h4, h7 => by
    have go : ∀ e', 4 <= e' -> e' <= 7 -> runB ⟨st, .txt e'⟩ l (k + 1) = match js l (k + 1) e' with
        | .wrong j => .error j
        | .shut j => runB ⟨jc 3 st, .btw⟩ ((c :: l).drop (j - k)) j
        | .ends e' => .ok ⟨st, .txt e'⟩ := fun e' h1 h2 => by
      rw [run_txt st l (k + 1) e' h1 h2]
      cases hg : js l (k + 1) e' with
      | wrong j => rfl
      | ends j => rfl
      | shut j =>
        have := (textGo_shut _ _ _ _ hg).1
        simp only
        rw [show j - k = (j - (k + 1)) + 1 by omega, List.drop_succ_cons]
    rw [runB, show kx ⟨st, .txt e⟩ c = txtB st e c from rfl, js]
    unfold txtB
    by_cases e4 : e = 4
    · rw [if_pos e4, if_pos e4]
      by_cases c34 : c.toNat = 34
      · rw [if_pos c34, if_pos c34]
        simp only
        rw [show k + 1 - k = 0 + 1 by omega, List.drop_succ_cons, List.drop_zero]
      rw [if_neg c34, if_neg c34]
      by_cases c92 : c.toNat = 92
      · rw [if_pos c92, if_pos c92]
        exact go 5 (by decide) (by decide)
      rw [if_neg c92, if_neg c92]
      by_cases cr : c.toNat < 32 \/ 126 < c.toNat
      · rw [if_pos cr, if_pos cr]
      rw [if_neg cr, if_neg cr]
      exact go 4 (by decide) (by decide)
    rw [if_neg e4, if_neg e4]
    by_cases e5 : e = 5
    · rw [if_pos e5, if_pos e5]
      by_cases cx : c.toNat = 120
      · rw [if_pos cx, if_pos cx]
        exact go 6 (by decide) (by decide)
      rw [if_neg cx, if_neg cx]
      by_cases co : c.toNat = 34 \/ c.toNat = 92 \/ c.toNat = 110 \/ c.toNat = 116
      · rw [if_pos co, if_pos co]
        exact go 4 (by decide) (by decide)
      rw [if_neg co, if_neg co]
    rw [if_neg e5, if_neg e5]
    by_cases ch : hexC c = false
    · rw [if_pos ch, if_pos ch]
    rw [if_neg ch, if_neg ch]
    by_cases e7 : e = 7
    · rw [if_pos e7]
      exact go 4 (by decide) (by decide)
    · rw [if_neg e7]
      exact go (e + 1) (by omega) (by omega)
theorem words_of (st : List Nat) : ∀ (l : List (List UInt8)) (i : Nat) (w : List UInt8), jm (23 + i) w l ≠ 0 -> mayN (jm (23 + i) w l) st = true -> w ∈ kI st l i
  | [], i, w, h, _ => absurd rfl h
  | r :: l, i, w, h, hm => by
    rw [jm] at h hm
    rw [kI]
    by_cases e : r = w
    · rw [if_pos e] at hm
      rw [if_pos hm, e]
      exact List.mem_cons_self
    · rw [if_neg e] at h hm
      have ih := words_of st l (i + 1) w h hm
      split
      · exact List.mem_cons_of_mem _ ih
      · exact ih
theorem dropZ_prefix : ∀ (w p : List UInt8), p <+: w -> vL p <+: vL w \/ (vL p).length <= 1
  | [], p, h => by
    rw [List.prefix_nil] at h
    subst h
    exact .inl (List.prefix_refl _)
  | [a], p, h => by
    cases p with
    | nil => exact .inr (Nat.zero_le _)
    | cons b p =>
      rw [List.cons_prefix_cons] at h
      obtain ⟨rfl, h⟩ := h
      rw [List.prefix_nil] at h
      subst h
      exact .inl (List.prefix_refl _)
  | a :: b :: w, p, h => by
    match p, h with
    | [], h => exact .inr (Nat.zero_le _)
    | [c], h => exact .inr (Nat.le_refl _)
    | c :: d :: p, h =>
      rw [List.cons_prefix_cons, List.cons_prefix_cons] at h
      obtain ⟨rfl, rfl, h3⟩ := h
      unfold vL
      by_cases h48 : c = 48
      · rw [if_pos h48, if_pos h48]
        exact dropZ_prefix (d :: w) (d :: p) (List.cons_prefix_cons.2 ⟨rfl, h3⟩)
      · rw [if_neg h48, if_neg h48]
        exact .inl (List.cons_prefix_cons.2 ⟨rfl, List.cons_prefix_cons.2 ⟨rfl, h3⟩⟩)
theorem int_prefix {w p : List UInt8} (h : p <+: w) (hw : jX w = true) : jX p = true := by
  unfold jX at hw ⊢
  rw [Bool.and_eq_true] at hw ⊢
  obtain ⟨h1, h2⟩ := hw
  refine ⟨List.all_eq_true.2 fun x hx => List.all_eq_true.1 h1 x (h.subset hx), ?_⟩
  rw [Bool.or_eq_true, Bool.and_eq_true] at h2 ⊢
  rcases dropZ_prefix w p h with hd | hd
  · have hl := hd.length_le
    rcases h2 with h2 | ⟨h2, h3⟩
    · have := of_decide_eq_true h2
      exact .inl (decide_eq_true (by omega))
    · have h19 := of_decide_eq_true h2
      by_cases he : (vL p).length = 19
      · have := hd.eq_of_length (by omega)
        rw [this]
        exact .inr ⟨h2, h3⟩
      · exact .inl (decide_eq_true (by omega))
  · exact .inl (decide_eq_true (by omega))
theorem name_prefix {w p : List UInt8} (h : p <+: w) (h0 : p ≠ []) (hw : jN w = true) : jN p = true := by
  unfold jN at hw ⊢
  rw [Bool.and_eq_true, Bool.and_eq_true] at hw ⊢
  obtain ⟨⟨h1, h2⟩, h3⟩ := hw
  have h1 := of_decide_eq_true h1
  have hl := h.length_le
  have hp := List.length_pos_iff.2 h0
  refine ⟨⟨decide_eq_true ⟨hp, by omega⟩, ?_⟩, List.all_eq_true.2 fun x hx => List.all_eq_true.1 h3 x (h.subset hx)⟩
  obtain ⟨t, rfl⟩ := h
  cases p with
  | nil => exact absurd rfl h0
  | cons a p => exact h2
theorem fits_prefix {st : List Nat} {w p : List UInt8} (h : p <+: w) (h0 : p ≠ []) (hp : jh w = true) (hm : mayN (jT w) st = true) : yO st p = true := by
  unfold yO fitsB
  rw [Bool.or_eq_true, Bool.or_eq_true, Bool.and_eq_true, Bool.and_eq_true]
  unfold jT at hm
  by_cases hd : digC (w.headD 0) = true
  · rw [if_pos hd] at hm
    exact .inl (.inr ⟨hm, int_prefix h (proper_int hd hp)⟩)
  · rw [if_neg hd] at hm
    by_cases hw : kc w = 0
    · rw [if_pos hw] at hm
      have hl : jv w = true := by
        unfold jh at hp
        rw [Bool.or_eq_true, Bool.or_eq_true, Bool.and_eq_true] at hp
        rcases hp with (e | e) | e
        · exact absurd e.1 hd
        · exact absurd hw (of_decide_eq_true e)
        · exact e
      unfold jv at hl
      rw [Bool.and_eq_true] at hl
      exact .inl (.inl ⟨hm, name_prefix h h0 hl.1⟩)
    · rw [if_neg hw] at hm
      refine .inr (List.any_eq_true.2 ⟨w, words_of st resL 0 w hw hm, ?_⟩)
      exact List.isPrefixOf_iff_prefix.2 h
theorem step_wrd (st : List Nat) (w : List UInt8) (c : UInt8) (h : jH c = true) : kx ⟨st, .wrd w⟩ c = if yO st (w ++ [c]) = true then some ⟨st, .wrd (w ++ [c])⟩ else none := by
  show (if jH c = true then _ else _) = _
  rw [if_pos h]
theorem step_wend (st : List Nat) (w : List UInt8) (c : UInt8) (h : jH c = false) : kx ⟨st, .wrd w⟩ c = if jh w = true /\ mayN (jT w) st = true then btwB (jc (jT w) st) c else none := by
  show (if jH c = true then _ else _) = _
  rw [if_neg (by rw [h]; decide)]
theorem run_word {st : List Nat} {W : List UInt8} (hp : jh W = true) (hm : mayN (jT W) st = true) : ∀ (w' v : List UInt8) (d : UInt8) (l : List UInt8) (k : Nat), v ++ w' = W -> w'.all jH = true -> jH d = false -> runB ⟨st, .wrd v⟩ (w' ++ d :: l) k = runB ⟨jc (jT W) st, .btw⟩ (d :: l) (k + w'.length)
  | [], v, d, l, k, hv, _, hd => by
    rw [List.append_nil] at hv
    subst hv
    rw [List.nil_append, runB, step_wend st v d hd, if_pos ⟨hp, hm⟩, runB]
    rfl
  | c :: w', v, d, l, k, hv, hw, hd => by
    rw [List.all_cons, Bool.and_eq_true] at hw
    have hv2 : (v ++ [c]) ++ w' = W := by rw [List.append_assoc]; exact hv
    have hf : yO st (v ++ [c]) = true := fits_prefix ⟨w', hv2⟩ (by simp) hp hm
    rw [List.cons_append, runB, step_wrd st v c hw.1, if_pos hf]
    simp only
    rw [run_word hp hm w' (v ++ [c]) d l (k + 1) hv2 hw.2 hd, List.length_cons, show k + 1 + w'.length = k + (w'.length + 1) by omega]
theorem run_spell {st : List Nat} : ∀ (l v : List UInt8) (k : Nat), (∀ w' d l', l = w' ++ d :: l' -> w'.all jH = true -> jH d = false -> ¬ (jh (v ++ w') = true /\ mayN (jT (v ++ w')) st = true)) ->
    runB ⟨st, .wrd v⟩ l k = match kG (mayN 1 st) (mayN 2 st) (kI st resL 0) v l k with
      | some j => .error j
      | none => .ok ⟨st, .wrd (v ++ l)⟩
  | [], v, k, _ => by rw [kG, List.append_nil]; rfl
  | c :: l, v, k, h => by
    rw [kG, runB]
    by_cases hc : jH c = true
    · rw [if_neg (by rw [hc]; decide), step_wrd st v c hc]
      by_cases hf : yO st (v ++ [c]) = true
      · rw [if_pos hf, if_pos (show fitsB _ _ _ _ = true from hf)]
        simp only
        rw [run_spell l (v ++ [c]) (k + 1) (fun w' d l' e hw hd => by
          have := h (c :: w') d l' (by rw [e]; rfl) (by rw [List.all_cons, hc, hw]; rfl) hd
          rw [List.append_assoc]
          exact this), List.append_assoc]
        rfl
      · rw [if_neg hf, if_neg (show ¬ fitsB _ _ _ _ = true from hf)]
    · have hc' : jH c = false := by simpa using hc
      have := h [] c l rfl rfl hc'
      rw [List.append_nil] at this
      rw [if_pos hc', step_wend st v c hc', if_neg this]
theorem sole_ne {t : Nat} (ht3 : t = 10 \/ t = 14 \/ t = 16) {st st' : List Nat} {f : Nat} (h : okSt st = true) (hm : mayN t st = true) (ht : jl t f st = some st') : st' ≠ [] := by
  have h58 : t < 58 := by omega
  obtain ⟨e, n, l, k, rfl, he, hb, h85, hk, rfl⟩ := vf h58 hm ht
  unfold okSt at h
  rw [Bool.and_eq_true, sole_app, Bool.and_eq_true] at h
  obtain ⟨h1, -, h3⟩ := h
  have h4 : soleB (n :: l) = (decide (n < 14 \/ 17 < n) && soleB l) := List.all_cons
  rw [h4, Bool.and_eq_true] at h3
  have hn := of_decide_eq_true h3.1
  have h5 := noEq_all ⟨n, h85⟩ ⟨t, h58⟩
  simp only [noEq, hb, Bool.true_and, decide_eq_true ht3, Bool.not_true, Bool.false_or, decide_eq_false (show ¬ (14 <= n /\ n <= 17) by omega), hk] at h5
  by_cases h10 : n = 10
  · subst h10
    have := ve e _ h1
    rw [yC, Bool.and_eq_true] at this
    have h6 := this.1
    simp only [ne_eq, not_true_eq_false, decide_false, Bool.false_or] at h6
    intro e2
    have : l = [] := (List.append_eq_nil_iff.1 e2).2
    rw [this] at h6
    cases h6
  · simp only [decide_eq_false h10, Bool.false_or] at h5
    split at h5
    · rename_i e2
      injection e2 with e2
      rw [e2]
      simp
    · cases h5
theorem taken_with {t : Nat} {m m' : Mc} {k : Nat} (h : kf t m k = .ok m') : m' = { m with at_ := k, stack := jc t m.stack } := by
  unfold kf at h
  unfold jc
  split at h
  · rename_i s hs
    injection h with h
    rw [<- h, hs]
    rfl
  · cases h
theorem taken_ok {t : Nat} (ht : t < 58) {m : Mc} {k : Nat} (hm : mayN t m.stack = true) : kf t m k = .ok { m with at_ := k, stack := jc t m.stack } := by
  obtain ⟨s, h1, h2⟩ := taken_may t ht m k hm
  rw [h2]
  unfold jc
  rw [h1]
  rfl
theorem vl {t : Nat} (ht : t < 58) {st : List Nat} (hm : mayN t st = true) : jl t (st.length + 100) st = some (jc t st) := by
  obtain ⟨s, h1, -⟩ := taken_may t ht ⟨0, st, 0, 0⟩ 0 hm
  unfold jc
  rw [h1]
  rfl
theorem ok_with {t : Nat} (ht : t < 58) {st : List Nat} (h : okSt st = true) (hm : mayN t st = true) : okSt (jc t st) = true := ok_take ht h hm (vl ht hm)
theorem textGo_fin : ∀ (l : List UInt8) (k e j : Nat), 4 <= e -> e <= 7 -> js l k e = .ends j -> 4 <= j /\ j <= 7
  | [], k, e, j, h4, h7, h => by
    rw [js] at h
    injection h with h
    omega
  | c :: l, k, e, j, h4, h7, h => by
    rw [js] at h
    repeat' split at h
    all_goals first | (cases h; done) | exact textGo_fin l _ _ j (by omega) (by omega) h | exact textGo_fin l _ _ j (by split <;> omega) (by split <;> omega) h
theorem spell_fits {st : List Nat} : ∀ (l v : List UInt8) (k : Nat), yO st v = true -> kG (mayN 1 st) (mayN 2 st) (kI st resL 0) v l k = none -> yO st (v ++ l) = true
  | [], v, k, hv, _ => by rw [List.append_nil]; exact hv
  | c :: l, v, k, hv, h => by
    rw [kG] at h
    split at h
    · cases h
    · split at h
      · rename_i hf
        have := spell_fits l (v ++ [c]) (k + 1) hf h
        rw [List.append_assoc] at this
        exact this
      · cases h
theorem run_same (src : List UInt8) : ∀ (f : Nat) (m : Mc), src.length + 1 <= f + m.at_ -> m.at_ <= src.length -> okSt m.stack = true -> m.fin = 0 ->
    match runN src f m with
    | .error k => runB ⟨m.stack, .btw⟩ (src.drop m.at_) m.at_ = .error k
    | .ok m' => ∃ b, runB ⟨m.stack, .btw⟩ (src.drop m.at_) m.at_ = .ok b /\ Rel src m' b
  | 0, m, hf, ha, _, _ => by omega
  | f + 1, m, hf, ha, hok, h0 => by
    rw [runN]
    by_cases hlt : src.length <= m.at_
    · rw [if_pos hlt, List.drop_eq_nil_of_le hlt]
      exact ⟨_, rfl, .btw h0⟩
    rw [if_neg hlt]
    obtain ⟨c, l, hd⟩ : ∃ c l, src.drop m.at_ = c :: l := by
      cases hd : src.drop m.at_ with
      | nil =>
        have := congrArg List.length hd
        rw [List.length_drop, List.length_nil] at this
        omega
      | cons c l => exact ⟨c, l, rfl⟩
    have hlen := congrArg List.length hd
    rw [List.length_drop, List.length_cons] at hlen
    rw [hd]
    -- the machine goes on between lexemes
    have on : ∀ (m1 : Mc) (n : Nat), kR m (c :: l) = .ok m1 -> m1.at_ = m.at_ + n -> okSt m1.stack = true -> m1.fin = 0 -> runB ⟨m.stack, .btw⟩ (c :: l) m.at_ = runB ⟨m1.stack, .btw⟩ ((c :: l).drop n) (m.at_ + n) ->
        (match (match kR m (c :: l) with | .error k => Except.error k | .ok m' => runN src f m') with
        | .error k => runB ⟨m.stack, .btw⟩ (c :: l) m.at_ = .error k
        | .ok m' => ∃ b, runB ⟨m.stack, .btw⟩ (c :: l) m.at_ = .ok b /\ Rel src m' b) := by
      intro m1 n hs h1 h2 h3 h4
      have hon := stepN_on hs
      rw [List.length_cons] at hon
      rw [hs]
      simp only
      have ih := run_same src f m1 (by omega) (by omega) h2 h3
      rw [h1, <- List.drop_drop, hd, <- h4] at ih
      exact ih
    -- the bytes end
    have ends : ∀ (m1 : Mc) (b : Bs), kR m (c :: l) = .ok m1 -> src.length <= m1.at_ -> runB ⟨m.stack, .btw⟩ (c :: l) m.at_ = .ok b -> Rel src m1 b ->
        (match (match kR m (c :: l) with | .error k => Except.error k | .ok m' => runN src f m') with
        | .error k => runB ⟨m.stack, .btw⟩ (c :: l) m.at_ = .error k
        | .ok m' => ∃ b, runB ⟨m.stack, .btw⟩ (c :: l) m.at_ = .ok b /\ Rel src m' b) := by
      intro m1 b hs h1 h2 h3
      rw [hs]
      simp only
      have hr : runN src f m1 = .ok m1 := by
        cases f with
        | zero => rfl
        | succ f => rw [runN, if_pos h1]
      rw [hr]
      exact ⟨b, h2, h3⟩
    have bad : ∀ k, kR m (c :: l) = .error k -> runB ⟨m.stack, .btw⟩ (c :: l) m.at_ = .error k ->
        (match (match kR m (c :: l) with | .error k => Except.error k | .ok m' => runN src f m') with
        | .error k => runB ⟨m.stack, .btw⟩ (c :: l) m.at_ = .error k
        | .ok m' => ∃ b, runB ⟨m.stack, .btw⟩ (c :: l) m.at_ = .ok b /\ Rel src m' b) := by
      intro k hs h2
      rw [hs]
      exact h2
    have hb0 : ∀ b', btwB m.stack c = some b' -> runB ⟨m.stack, .btw⟩ (c :: l) m.at_ = runB b' l (m.at_ + 1) := fun b' e => by
      rw [runB, show kx ⟨m.stack, .btw⟩ c = btwB m.stack c from rfl, e]
    have hbn : btwB m.stack c = none -> runB ⟨m.stack, .btw⟩ (c :: l) m.at_ = .error m.at_ := fun e => by
      rw [runB, show kx ⟨m.stack, .btw⟩ c = btwB m.stack c from rfl, e]
    by_cases hb : kO c = true
    · refine on { m with at_ := m.at_ + 1 } 1 (by rw [kR, if_pos hb]) rfl hok h0 (hb0 _ ?_)
      unfold btwB
      rw [if_pos hb]
    have hst1 : kR m (c :: l) = if c.toNat = 35 then ka m (c :: l) else if c.toNat = 34 then kQ m (c :: l) else if jH c = true then kJ m (c :: l) else kS m c l := by rw [kR, if_neg hb]
    have hbt1 : btwB m.stack c = if c.toNat = 35 then some ⟨m.stack, .com⟩ else if c.toNat = 34 then (if mayN 3 m.stack = true then some ⟨m.stack, .txt 4⟩ else none) else if jH c = true then (if yO m.stack [c] = true then some ⟨m.stack, .wrd [c]⟩ else none)
        else if yM m.stack [c, 61] then some ⟨m.stack, .sgn c⟩ else if yM m.stack [c] then some ⟨jc (jV [c]) m.stack, .btw⟩ else none := by
      unfold btwB
      rw [if_neg hb]
    by_cases h35 : c.toNat = 35
    · rw [if_pos h35] at hst1 hbt1
      have hrun := (hb0 _ hbt1).trans (run_com m.stack l (m.at_ + 1))
      have hlf : lfC c = false := by unfold lfC; rw [decide_eq_false (by omega)]
      have htw : ((c :: l).takeWhile fun c => !lfC c) = c :: (l.takeWhile fun c => !lfC c) := by rw [List.takeWhile_cons, if_pos (by rw [hlf]; rfl)]
      unfold ka at hst1
      simp only [htw] at hst1
      by_cases hall : (l.takeWhile fun c => !lfC c).length = l.length
      · rw [if_pos hall] at hrun
        rw [if_pos (by rw [List.length_cons, List.length_cons, hall])] at hst1
        exact ends _ _ hst1 (by simp only [List.length_cons]; omega) hrun (.com rfl)
      · rw [if_neg hall] at hrun
        rw [if_neg (by rw [List.length_cons, List.length_cons]; omega)] at hst1
        refine on _ ((l.takeWhile fun c => !lfC c).length + 1) hst1 (by simp only [List.length_cons]) hok h0 ?_
        rw [hrun, List.drop_succ_cons, show m.at_ + 1 + (l.takeWhile fun c => !lfC c).length = m.at_ + ((l.takeWhile fun c => !lfC c).length + 1) by omega]
    rw [if_neg h35] at hst1 hbt1
    by_cases h34 : c.toNat = 34
    · rw [if_pos h34] at hst1 hbt1
      unfold kQ at hst1
      cases hm : mayN 3 m.stack with
      | false =>
        rw [hm, if_pos rfl] at hst1
        rw [hm, if_neg (by decide)] at hbt1
        exact bad _ hst1 (hbn hbt1)
      | true =>
        rw [hm, if_neg (by decide)] at hst1
        rw [hm, if_pos rfl] at hbt1
        simp only [List.drop_one, List.tail_cons] at hst1
        have hrun := (hb0 _ hbt1).trans (run_txt m.stack l (m.at_ + 1) 4 (by decide) (by decide))
        cases hg : js l (m.at_ + 1) 4 with
        | wrong j =>
          rw [hg] at hst1 hrun
          exact bad _ hst1 hrun
        | shut j =>
          rw [hg] at hst1 hrun
          simp only at hst1 hrun
          rw [taken_ok (t := 3) (by decide) (m := { m with from_ := m.at_, fin := 0 }) hm] at hst1
          have hj := (textGo_shut _ _ _ _ hg).1
          refine on _ (j - m.at_) hst1 (by simp only; omega) (ok_with (by decide) hok hm) rfl ?_
          rw [hrun, show j - m.at_ = (j - (m.at_ + 1)) + 1 by omega, List.drop_succ_cons, show m.at_ + (j - (m.at_ + 1) + 1) = j by omega]
        | ends e =>
          rw [hg] at hst1 hrun
          have he := textGo_fin l (m.at_ + 1) 4 e (by decide) (by decide) hg
          exact ends _ _ hst1 (by simp only [List.length_cons]; omega) hrun (.txt rfl he.1 he.2 hm)
    rw [if_neg h34] at hst1 hbt1
    by_cases hw : jH c = true
    · rw [if_pos hw] at hst1 hbt1
      unfold kJ at hst1
      simp only at hst1
      obtain ⟨w', hw'⟩ : ∃ w', (c :: l).takeWhile jH = c :: w' := by rw [List.takeWhile_cons, if_pos hw]; exact ⟨_, rfl⟩
      have hsplit : c :: l = (c :: l).takeWhile jH ++ (c :: l).dropWhile jH := (List.takeWhile_append_dropWhile ..).symm
      have hall : w'.all jH = true := by
        have : ((c :: l).takeWhile jH).all jH = true := List.all_takeWhile
        rw [hw', List.all_cons, Bool.and_eq_true] at this
        exact this.2
      rw [hw'] at hst1
      by_cases hc : (c :: w').length < (c :: l).length /\ jh (c :: w') = true /\ mayN (jT (c :: w')) m.stack = true
      · rw [if_pos hc, taken_ok (vB _) (m := { m with from_ := m.at_ }) hc.2.2] at hst1
        have hf : yO m.stack [c] = true := fits_prefix (List.cons_prefix_cons.2 ⟨rfl, List.nil_prefix⟩) (by simp) hc.2.1 hc.2.2
        rw [if_pos hf] at hbt1
        cases hdw : (c :: l).dropWhile jH with
        | nil =>
          rw [hw', hdw, List.append_nil] at hsplit
          rw [<- hsplit] at hc
          exact absurd hc.1 (Nat.lt_irrefl _)
        | cons d l2 =>
          have hdn : jH d = false := by
            have h := List.head?_dropWhile_not jH (c :: l)
            rw [hdw, List.head?_cons] at h
            simpa using h
          rw [hw', hdw, List.cons_append] at hsplit
          injection hsplit with _ hl2
          have hrun := hb0 _ hbt1
          rw [hl2, run_word hc.2.1 hc.2.2 w' [c] d l2 (m.at_ + 1) rfl hall hdn] at hrun
          refine on _ (w'.length + 1) hst1 (by simp only [List.length_cons]) (ok_with (vB _) hok hc.2.2) h0 ?_
          rw [hl2, hrun, List.drop_succ_cons, List.drop_left', show m.at_ + 1 + w'.length = m.at_ + (w'.length + 1) by omega]
          rfl
      · rw [if_neg hc] at hst1
        unfold kz at hst1
        simp only at hst1
        have hno : ∀ v d l', l = v ++ d :: l' -> v.all jH = true -> jH d = false -> ¬ (jh ([c] ++ v) = true /\ mayN (jT ([c] ++ v)) m.stack = true) := fun v d l' e hv hdd hh => by
          have h1 : (c :: l).takeWhile jH = c :: v := by
            rw [e, show c :: (v ++ d :: l') = (c :: v) ++ d :: l' from rfl]
            exact yF (c :: v) d l' (by rw [List.all_cons, hw, hv]; rfl) hdd
          rw [hw'] at h1
          injection h1 with _ h1
          refine hc ⟨?_, by rw [h1]; exact hh.1, by rw [h1]; exact hh.2⟩
          rw [e, h1]
          simp only [List.length_cons, List.length_append]
          omega
        by_cases hf : yO m.stack [c] = true
        · rw [if_pos hf] at hbt1
          have hrun := (hb0 _ hbt1).trans (run_spell l [c] (m.at_ + 1) hno)
          have hsp : kG (mayN 1 m.stack) (mayN 2 m.stack) (kI m.stack resL 0) [] (c :: l) m.at_ = kG (mayN 1 m.stack) (mayN 2 m.stack) (kI m.stack resL 0) [c] l (m.at_ + 1) := by
            rw [kG, if_neg (by rw [hw]; decide), if_pos (show fitsB _ _ _ ([] ++ [c]) = true from hf)]
            rfl
          rw [hsp] at hst1
          cases hg : kG (mayN 1 m.stack) (mayN 2 m.stack) (kI m.stack resL 0) [c] l (m.at_ + 1) with
          | some j =>
            rw [hg] at hst1 hrun
            exact bad _ hst1 hrun
          | none =>
            rw [hg] at hst1 hrun
            refine ends _ _ hst1 (by simp only [List.length_cons]; omega) hrun (.wrd rfl hd ?_)
            exact spell_fits l [c] (m.at_ + 1) hf hg
        · rw [if_neg hf] at hbt1
          rw [kG, if_neg (by rw [hw]; decide), if_neg (show ¬ fitsB _ _ _ ([] ++ [c]) = true from hf)] at hst1
          exact bad _ hst1 (hbn hbt1)
    rw [if_neg hw] at hst1 hbt1
    unfold kS at hst1
    simp only at hst1
    by_cases hone : yM m.stack [c]
    · rw [if_pos (show jV [c] ≠ 0 /\ mayN (jV [c]) m.stack = true from hone)] at hst1
      by_cases htwo : yM m.stack [c, 61]
      · rw [if_pos htwo] at hbt1
        by_cases h61 : l.headD 0 = 61
        · rw [if_pos ⟨htwo.1, htwo.2, h61⟩, taken_ok (ja _) (m := { m with from_ := m.at_ }) htwo.2] at hst1
          obtain ⟨l2, rfl⟩ : ∃ l2, l = 61 :: l2 := by
            cases l with
            | nil => exact absurd h61 (by decide)
            | cons x l2 => exact ⟨l2, by rw [show x = 61 from h61]⟩
          refine on _ 2 hst1 rfl (ok_with (ja _) hok htwo.2) h0 ?_
          rw [hb0 _ hbt1, runB]
          rfl
        · rw [if_neg (fun e => h61 e.2.2), taken_ok (ja _) (m := { m with from_ := m.at_ }) hone.2] at hst1
          cases l with
          | nil =>
            refine ends _ _ hst1 (by rw [List.length_nil] at hlen; simp only; omega) (hb0 _ hbt1) (.one h0 htwo hone rfl ?_)
            exact sole_ne (two_sign htwo.1 hone.1) hok hone.2 (vl (ja _) hone.2)
          | cons d l2 =>
            refine on _ 1 hst1 rfl (ok_with (ja _) hok hone.2) h0 ?_
            rw [hb0 _ hbt1, runB, show (c :: d :: l2).drop 1 = d :: l2 from rfl, runB]
            have e : kx ⟨m.stack, .sgn c⟩ d = btwB (jc (jV [c]) m.stack) d := by
              show (if d = 61 then _ else _) = _
              rw [if_neg (show ¬ d = 61 from h61), if_pos hone]
            rw [e]
            rfl
      · rw [if_neg htwo, if_pos hone] at hbt1
        rw [if_neg (fun e => htwo ⟨e.1, e.2.1⟩), taken_ok (ja _) (m := { m with from_ := m.at_ }) hone.2] at hst1
        exact on _ 1 hst1 rfl (ok_with (ja _) hok hone.2) h0 (hb0 _ hbt1)
    · rw [if_neg (show ¬ (jV [c] ≠ 0 /\ mayN (jV [c]) m.stack = true) from hone)] at hst1
      by_cases htwo : yM m.stack [c, 61]
      · rw [if_pos htwo] at hbt1
        rw [if_neg (fun e => e.elim htwo.1 (fun e => by rw [htwo.2] at e; cases e))] at hst1
        cases l with
        | nil =>
          rw [if_pos rfl] at hst1
          exact ends _ _ hst1 (by rw [List.length_nil] at hlen; simp only; omega) (hb0 _ hbt1) (.two rfl hd htwo hone)
        | cons d l2 =>
          rw [if_neg (by simp), List.headD_cons] at hst1
          by_cases h61 : d = 61
          · rw [if_neg (fun e => e h61), taken_ok (ja _) (m := { m with from_ := m.at_ }) htwo.2] at hst1
            refine on _ 2 hst1 rfl (ok_with (ja _) hok htwo.2) h0 ?_
            rw [hb0 _ hbt1, runB, h61]
            rfl
          · rw [if_pos h61] at hst1
            refine bad _ hst1 ?_
            rw [hb0 _ hbt1, runB]
            have e : kx ⟨m.stack, .sgn c⟩ d = none := by
              show (if d = 61 then _ else _) = _
              rw [if_neg h61, if_neg hone]
            rw [e]
      · rw [if_neg htwo, if_neg hone] at hbt1
        rw [if_pos (by
          by_cases h2 : jV [c, 61] = 0
          · exact .inl h2
          · refine .inr ?_
            cases hm : mayN (jV [c, 61]) m.stack with
            | false => rfl
            | true => exact absurd ⟨h2, hm⟩ htwo)] at hst1
        exact bad _ hst1 (hbn hbt1)
end Go.Proofs.YtmmjcbbogokmfaaGreatDoor
