import Derived.Test.YtmmjcbbogokmfaaGreatDoorMt01
import Derived.Test.YtmmjcbbogokmfaaGreatDoorMt05
set_option maxRecDepth 100000
set_option maxHeartbeats 25600000
namespace Go.Proofs.YtmmjcbbogokmfaaGreatDoor
inductive Md9 where
  | btw
  | com
  | wrd (w : List UInt8)
  | sgn (c : UInt8)
  | txt (e : Nat)
structure Bs where
  st : List Nat
  md : Md9
def yH (st : List Nat) (w : List UInt8) : Bool := fitsB (mayN 1 st) (mayN 2 st) (kQ st resL 0) w
def vH (st : List Nat) (w : List UInt8) : Prop := jS w ≠ 0 /\ mayN (jS w) st = true
instance (st : List Nat) (w : List UInt8) : Decidable (vH st w) := inferInstanceAs (Decidable (_ /\ _))
def btwB (st : List Nat) (c : UInt8) : Option Bs :=
  if ki c = true then some ⟨st, .btw⟩
  else if c.toNat = 35 then some ⟨st, .com⟩
  else if c.toNat = 34 then (if mayN 3 st = true then some ⟨st, .txt 4⟩ else none)
  else if jK c = true then (if yH st [c] = true then some ⟨st, .wrd [c]⟩ else none)
  else if vH st [c, 61] then some ⟨st, .sgn c⟩
  else if vH st [c] then some ⟨jR (jS [c]) st, .btw⟩
  else none
def txtB (st : List Nat) (e : Nat) (c : UInt8) : Option Bs :=
  if e = 4 then (if c.toNat = 34 then some ⟨jR 3 st, .btw⟩ else if c.toNat = 92 then some ⟨st, .txt 5⟩ else if c.toNat < 32 \/ 126 < c.toNat then none else some ⟨st, .txt 4⟩)
  else if e = 5 then (if c.toNat = 120 then some ⟨st, .txt 6⟩ else if c.toNat = 34 \/ c.toNat = 92 \/ c.toNat = 110 \/ c.toNat = 116 then some ⟨st, .txt 4⟩ else none)
  else if hexC c = false then none else some ⟨st, .txt (if e = 7 then 4 else e + 1)⟩
def kV (b : Bs) (c : UInt8) : Option Bs := match b.md with
  | .btw => btwB b.st c
  | .com => if lfC c = true then some ⟨b.st, .btw⟩ else some ⟨b.st, .com⟩
  | .wrd w => if jK c = true then (if yH b.st (w ++ [c]) = true then some ⟨b.st, .wrd (w ++ [c])⟩ else none)
      else if jj w = true /\ mayN (jU w) b.st = true then btwB (jR (jU w) b.st) c else none
  | .sgn s => if c = 61 then some ⟨jR (jS [s, 61]) b.st, .btw⟩ else if vH b.st [s] then btwB (jR (jS [s]) b.st) c else none
  | .txt e => txtB b.st e c
def runB : Bs -> List UInt8 -> Nat -> Except Nat Bs
  | b, [], _ => .ok b
  | b, c :: l, k => match kV b c with
    | none => .error k
    | some b' => runB b' l (k + 1)
def yK : Bs := ⟨[23, 1, 4, 58, 5], .btw⟩
inductive Rel (src : List UInt8) (m : Mc) : Bs -> Prop
  | btw : m.fin = 0 -> Rel src m ⟨m.stack, .btw⟩
  | com : m.fin = 1 -> Rel src m ⟨m.stack, .com⟩
  | wrd {w : List UInt8} : m.fin = 2 -> src.drop m.from_ = w -> yH m.stack w = true -> Rel src m ⟨m.stack, .wrd w⟩
  | one {st : List Nat} {c : UInt8} : m.fin = 0 -> vH st [c, 61] -> vH st [c] -> m.stack = jR (jS [c]) st -> m.stack ≠ [] -> Rel src m ⟨st, .sgn c⟩
  | two {c : UInt8} : m.fin = 3 -> src.drop m.from_ = [c] -> vH m.stack [c, 61] -> ¬ vH m.stack [c] -> Rel src m ⟨m.stack, .sgn c⟩
  | txt {e : Nat} : m.fin = e -> 4 <= e -> e <= 7 -> mayN 3 m.stack = true -> Rel src m ⟨m.stack, .txt e⟩
theorem run_com (st : List Nat) : ∀ (l : List UInt8) (k : Nat), runB ⟨st, .com⟩ l k = if (l.takeWhile fun c => !lfC c).length = l.length then .ok ⟨st, .com⟩ else runB ⟨st, .btw⟩ (l.drop (l.takeWhile fun c => !lfC c).length) (k + (l.takeWhile fun c => !lfC c).length)
  | [], k => rfl
  | c :: l, k => by
    rw [runB]
    by_cases hc : lfC c = true
    · have e1 : kV ⟨st, .com⟩ c = some ⟨st, .btw⟩ := by
        show (if lfC c = true then _ else _) = _
        rw [if_pos hc]
      have hb : ki c = true := by
        have := of_decide_eq_true hc
        unfold ki
        rw [decide_eq_true (by omega)]
      have e2 : kV ⟨st, .btw⟩ c = some ⟨st, .btw⟩ := by
        show btwB st c = _
        unfold btwB
        rw [if_pos hb]
      have e3 : ((c :: l).takeWhile fun c => !lfC c) = [] := by rw [List.takeWhile_cons, if_neg (by rw [hc]; decide)]
      rw [e1, e3, List.length_nil, List.length_cons, if_neg (by omega), List.drop_zero, runB, e2]
    · have e1 : kV ⟨st, .com⟩ c = some ⟨st, .com⟩ := by
        show (if lfC c = true then _ else _) = _
        rw [if_neg hc]
      have e3 : ((c :: l).takeWhile fun c => !lfC c) = c :: (l.takeWhile fun c => !lfC c) := by
        have hc' : lfC c = false := by simpa using hc
        rw [List.takeWhile_cons, if_pos (by rw [hc']; rfl)]
      rw [e1, e3, List.length_cons, List.length_cons, List.drop_succ_cons]
      simp only
      rw [run_com st l (k + 1), show k + 1 + (l.takeWhile fun c => !lfC c).length = k + ((l.takeWhile fun c => !lfC c).length + 1) by omega]
      by_cases h : (l.takeWhile fun c => !lfC c).length = l.length
      · rw [if_pos h, if_pos (by omega)]
      · rw [if_neg h, if_neg (by omega)]
theorem run_txt (st : List Nat) : ∀ (l : List UInt8) (k e : Nat), 4 <= e -> e <= 7 -> runB ⟨st, .txt e⟩ l k = match jx l k e with
    | .wrong j => .error j
    | .shut j => runB ⟨jR 3 st, .btw⟩ (l.drop (j - k)) j
    | .ends e' => .ok ⟨st, .txt e'⟩
  | [], k, e, _, _ => rfl
  | c :: l, k, e, h4, h7 => by
    have go : ∀ e', 4 <= e' -> e' <= 7 -> runB ⟨st, .txt e'⟩ l (k + 1) = match jx l (k + 1) e' with
        | .wrong j => .error j
        | .shut j => runB ⟨jR 3 st, .btw⟩ ((c :: l).drop (j - k)) j
        | .ends e' => .ok ⟨st, .txt e'⟩ := fun e' h1 h2 => by
      rw [run_txt st l (k + 1) e' h1 h2]
      cases hg : jx l (k + 1) e' with
      | wrong j => rfl
      | ends j => rfl
      | shut j =>
        have := (textGo_shut _ _ _ _ hg).1
        simp only
        rw [show j - k = (j - (k + 1)) + 1 by omega, List.drop_succ_cons]
    rw [runB, show kV ⟨st, .txt e⟩ c = txtB st e c from rfl, jx]
    unfold txtB
    by_cases e4 : e = 4
    · rw [if_pos e4, if_pos e4]
      by_cases c34 : c.toNat = 34
      · rw [if_pos c34, if_pos c34]
        simp only
        rw [show k + 1 - k = 0 + 1 by omega, List.drop_succ_cons, List.drop_zero]
      rw [if_neg c34, if_neg c34]
      by_cases c92 : c.toNat = 92
      · rw [if_pos c92, if_pos c92]
        exact go 5 (by decide) (by decide)
      rw [if_neg c92, if_neg c92]
      by_cases cr : c.toNat < 32 \/ 126 < c.toNat
      · rw [if_pos cr, if_pos cr]
      rw [if_neg cr, if_neg cr]
      exact go 4 (by decide) (by decide)
    rw [if_neg e4, if_neg e4]
    by_cases e5 : e = 5
    · rw [if_pos e5, if_pos e5]
      by_cases cx : c.toNat = 120
      · rw [if_pos cx, if_pos cx]
        exact go 6 (by decide) (by decide)
      rw [if_neg cx, if_neg cx]
      by_cases co : c.toNat = 34 \/ c.toNat = 92 \/ c.toNat = 110 \/ c.toNat = 116
      · rw [if_pos co, if_pos co]
        exact go 4 (by decide) (by decide)
      rw [if_neg co, if_neg co]
    rw [if_neg e5, if_neg e5]
    by_cases ch : hexC c = false
    · rw [if_pos ch, if_pos ch]
    rw [if_neg ch, if_neg ch]
    by_cases e7 : e = 7
    · rw [if_pos e7]
      exact go 4 (by decide) (by decide)
    · rw [if_neg e7]
      exact go (e + 1) (by omega) (by omega)
theorem words_of (st : List Nat) : ∀ (l : List (List UInt8)) (i : Nat) (w : List UInt8), jn (23 + i) w l ≠ 0 -> mayN (jn (23 + i) w l) st = true -> w ∈ kQ st l i
  | [], i, w, h, _ => absurd rfl h
  | r :: l, i, w, h, hm => by
    rw [jn] at h hm
    rw [kQ]
    by_cases e : r = w
    · rw [if_pos e] at hm
      rw [if_pos hm, e]
      exact List.mem_cons_self
    · rw [if_neg e] at h hm
      have ih := words_of st l (i + 1) w h hm
      split
      · exact List.mem_cons_of_mem _ ih
      · exact ih
theorem dropZ_prefix : ∀ (w p : List UInt8), p <+: w -> vP p <+: vP w \/ (vP p).length <= 1
  | [], p, h => by
    rw [List.prefix_nil] at h
    subst h
    exact .inl (List.prefix_refl _)
  | [a], p, h => by
    cases p with
    | nil => exact .inr (Nat.zero_le _)
    | cons b p =>
      rw [List.cons_prefix_cons] at h
      obtain ⟨rfl, h⟩ := h
      rw [List.prefix_nil] at h
      subst h
      exact .inl (List.prefix_refl _)
  | a :: b :: w, p, h => by
    match p, h with
    | [], h => exact .inr (Nat.zero_le _)
    | [c], h => exact .inr (Nat.le_refl _)
    | c :: d :: p, h =>
      rw [List.cons_prefix_cons, List.cons_prefix_cons] at h
      obtain ⟨rfl, rfl, h3⟩ := h
      unfold vP
      by_cases h48 : c = 48
      · rw [if_pos h48, if_pos h48]
        exact dropZ_prefix (d :: w) (d :: p) (List.cons_prefix_cons.2 ⟨rfl, h3⟩)
      · rw [if_neg h48, if_neg h48]
        exact .inl (List.cons_prefix_cons.2 ⟨rfl, List.cons_prefix_cons.2 ⟨rfl, h3⟩⟩)
theorem int_prefix {w p : List UInt8} (h : p <+: w) (hw : jc w = true) : jc p = true := by
  unfold jc at hw ⊢
  rw [Bool.and_eq_true] at hw ⊢
  obtain ⟨h1, h2⟩ := hw
  refine ⟨List.all_eq_true.2 fun x hx => List.all_eq_true.1 h1 x (h.subset hx), ?_⟩
  rw [Bool.or_eq_true, Bool.and_eq_true] at h2 ⊢
  rcases dropZ_prefix w p h with hd | hd
  · have hl := hd.length_le
    rcases h2 with h2 | ⟨h2, h3⟩
    · have := of_decide_eq_true h2
      exact .inl (decide_eq_true (by omega))
    · have h19 := of_decide_eq_true h2
      by_cases he : (vP p).length = 19
      · have := hd.eq_of_length (by omega)
        rw [this]
        exact .inr ⟨h2, h3⟩
      · exact .inl (decide_eq_true (by omega))
  · exact .inl (decide_eq_true (by omega))
theorem name_prefix {w p : List UInt8} (h : p <+: w) (h0 : p ≠ []) (hw : jQ w = true) : jQ p = true := by
  unfold jQ at hw ⊢
  rw [Bool.and_eq_true, Bool.and_eq_true] at hw ⊢
  obtain ⟨⟨h1, h2⟩, h3⟩ := hw
  have h1 := of_decide_eq_true h1
  have hl := h.length_le
  have hp := List.length_pos_iff.2 h0
  refine ⟨⟨decide_eq_true ⟨hp, by omega⟩, ?_⟩, List.all_eq_true.2 fun x hx => List.all_eq_true.1 h3 x (h.subset hx)⟩
  obtain ⟨t, rfl⟩ := h
  cases p with
  | nil => exact absurd rfl h0
  | cons a p => exact h2
theorem fits_prefix {st : List Nat} {w p : List UInt8} (h : p <+: w) (h0 : p ≠ []) (hp : jj w = true) (hm : mayN (jU w) st = true) : yH st p = true := by
  unfold yH fitsB
  rw [Bool.or_eq_true, Bool.or_eq_true, Bool.and_eq_true, Bool.and_eq_true]
  unfold jU at hm
  by_cases hd : digC (w.headD 0) = true
  · rw [if_pos hd] at hm
    exact .inl (.inr ⟨hm, int_prefix h (proper_int hd hp)⟩)
  · rw [if_neg hd] at hm
    by_cases hw : kj w = 0
    · rw [if_pos hw] at hm
      have hl : jq w = true := by
        unfold jj at hp
        rw [Bool.or_eq_true, Bool.or_eq_true, Bool.and_eq_true] at hp
        rcases hp with (e | e) | e
        · exact absurd e.1 hd
        · exact absurd hw (of_decide_eq_true e)
        · exact e
      unfold jq at hl
      rw [Bool.and_eq_true] at hl
      exact .inl (.inl ⟨hm, name_prefix h h0 hl.1⟩)
    · rw [if_neg hw] at hm
      refine .inr (List.any_eq_true.2 ⟨w, words_of st resL 0 w hw hm, ?_⟩)
      exact List.isPrefixOf_iff_prefix.2 h
theorem step_wrd (st : List Nat) (w : List UInt8) (c : UInt8) (h : jK c = true) : kV ⟨st, .wrd w⟩ c = if yH st (w ++ [c]) = true then some ⟨st, .wrd (w ++ [c])⟩ else none := by
  show (if jK c = true then _ else _) = _
  rw [if_pos h]
theorem step_wend (st : List Nat) (w : List UInt8) (c : UInt8) (h : jK c = false) : kV ⟨st, .wrd w⟩ c = if jj w = true /\ mayN (jU w) st = true then btwB (jR (jU w) st) c else none := by
  show (if jK c = true then _ else _) = _
  rw [if_neg (by rw [h]; decide)]
theorem run_word {st : List Nat} {W : List UInt8} (hp : jj W = true) (hm : mayN (jU W) st = true) : ∀ (w' v : List UInt8) (d : UInt8) (l : List UInt8) (k : Nat), v ++ w' = W -> w'.all jK = true -> jK d = false -> runB ⟨st, .wrd v⟩ (w' ++ d :: l) k = runB ⟨jR (jU W) st, .btw⟩ (d :: l) (k + w'.length)
  | [], v, d, l, k, hv, _, hd => by
    rw [List.append_nil] at hv
    subst hv
    rw [List.nil_append, runB, step_wend st v d hd, if_pos ⟨hp, hm⟩, runB]
    rfl
  | c :: w', v, d, l, k, hv, hw, hd => by
    rw [List.all_cons, Bool.and_eq_true] at hw
    have hv2 : (v ++ [c]) ++ w' = W := by rw [List.append_assoc]; exact hv
    have hf : yH st (v ++ [c]) = true := fits_prefix ⟨w', hv2⟩ (by simp) hp hm
    rw [List.cons_append, runB, step_wrd st v c hw.1, if_pos hf]
    simp only
    rw [run_word hp hm w' (v ++ [c]) d l (k + 1) hv2 hw.2 hd, List.length_cons, show k + 1 + w'.length = k + (w'.length + 1) by omega]
theorem run_spell {st : List Nat} : ∀ (l v : List UInt8) (k : Nat), (∀ w' d l', l = w' ++ d :: l' -> w'.all jK = true -> jK d = false -> ¬ (jj (v ++ w') = true /\ mayN (jU (v ++ w')) st = true)) ->
    runB ⟨st, .wrd v⟩ l k = match kU (mayN 1 st) (mayN 2 st) (kQ st resL 0) v l k with
      | some j => .error j
      | none => .ok ⟨st, .wrd (v ++ l)⟩
  | [], v, k, _ => by rw [kU, List.append_nil]; rfl
  | c :: l, v, k, h => by
    rw [kU, runB]
    by_cases hc : jK c = true
    · rw [if_neg (by rw [hc]; decide), step_wrd st v c hc]
      by_cases hf : yH st (v ++ [c]) = true
      · rw [if_pos hf, if_pos (show fitsB _ _ _ _ = true from hf)]
        simp only
        rw [run_spell l (v ++ [c]) (k + 1) (fun w' d l' e hw hd => by
          have := h (c :: w') d l' (by rw [e]; rfl) (by rw [List.all_cons, hc, hw]; rfl) hd
          rw [List.append_assoc]
          exact this), List.append_assoc]
        rfl
      · rw [if_neg hf, if_neg (show ¬ fitsB _ _ _ _ = true from hf)]
    · have hc' : jK c = false := by simpa using hc
      have := h [] c l rfl rfl hc'
      rw [List.append_nil] at this
      rw [if_pos hc', step_wend st v c hc', if_neg this]
theorem sole_ne {t : Nat} (ht3 : t = 10 \/ t = 14 \/ t = 16) {st st' : List Nat} {f : Nat} (h : okSt st = true) (hm : mayN t st = true) (ht : jt t f st = some st') : st' ≠ [] := by
  have h58 : t < 58 := by omega
  obtain ⟨e, n, l, k, rfl, he, hb, h85, hk, rfl⟩ := kZ h58 hm ht
  unfold okSt at h
  rw [Bool.and_eq_true, sole_app, Bool.and_eq_true] at h
  obtain ⟨h1, -, h3⟩ := h
  have h4 : soleB (n :: l) = (decide (n < 14 \/ 17 < n) && soleB l) := List.all_cons
  rw [h4, Bool.and_eq_true] at h3
  have hn := of_decide_eq_true h3.1
  have h5 := noEq_all ⟨n, h85⟩ ⟨t, h58⟩
  simp only [noEq, hb, Bool.true_and, decide_eq_true ht3, Bool.not_true, Bool.false_or, decide_eq_false (show ¬ (14 <= n /\ n <= 17) by omega), hk] at h5
  by_cases h10 : n = 10
  · subst h10
    have := vi e _ h1
    rw [yD, Bool.and_eq_true] at this
    have h6 := this.1
    simp only [ne_eq, not_true_eq_false, decide_false, Bool.false_or] at h6
    intro e2
    have : l = [] := (List.append_eq_nil_iff.1 e2).2
    rw [this] at h6
    cases h6
  · simp only [decide_eq_false h10, Bool.false_or] at h5
    split at h5
    · rename_i e2
      injection e2 with e2
      rw [e2]
      simp
    · cases h5
theorem taken_ok {t : Nat} (ht : t < 58) {m : Mc} {k : Nat} (hm : mayN t m.stack = true) : kw t m k = .ok { m with at_ := k, stack := jR t m.stack } := by
  obtain ⟨s, h1, h2⟩ := taken_may t ht m k hm
  rw [h2]
  unfold jR
  rw [h1]
  rfl
theorem kl {t : Nat} (ht : t < 58) {st : List Nat} (hm : mayN t st = true) : jt t (st.length + 100) st = some (jR t st) := by
  obtain ⟨s, h1, -⟩ := taken_may t ht ⟨0, st, 0, 0⟩ 0 hm
  unfold jR
  rw [h1]
  rfl
theorem ok_with {t : Nat} (ht : t < 58) {st : List Nat} (h : okSt st = true) (hm : mayN t st = true) : okSt (jR t st) = true := ok_take ht h hm (kl ht hm)
theorem textGo_fin : ∀ (l : List UInt8) (k e j : Nat), 4 <= e -> e <= 7 -> jx l k e = .ends j -> 4 <= j /\ j <= 7
  | [], k, e, j, h4, h7, h => by
    rw [jx] at h
    injection h with h
    omega
  | c :: l, k, e, j, h4, h7, h => by
    rw [jx] at h
    repeat' split at h
    all_goals first | (cases h; done) | exact textGo_fin l _ _ j (by omega) (by omega) h | exact textGo_fin l _ _ j (by split <;> omega) (by split <;> omega) h
theorem spell_fits {st : List Nat} : ∀ (l v : List UInt8) (k : Nat), yH st v = true -> kU (mayN 1 st) (mayN 2 st) (kQ st resL 0) v l k = none -> yH st (v ++ l) = true
  | [], v, k, hv, _ => by rw [List.append_nil]; exact hv
  | c :: l, v, k, hv, h => by
    rw [kU] at h
    split at h
    · cases h
    · split at h
      · rename_i hf
        have := spell_fits l (v ++ [c]) (k + 1) hf h
        rw [List.append_assoc] at this
        exact this
      · cases h
theorem run_same (src : List UInt8) : ∀ (f : Nat) (m : Mc), src.length + 1 <= f + m.at_ -> m.at_ <= src.length -> okSt m.stack = true -> m.fin = 0 ->
    match runN src f m with
    | .error k => runB ⟨m.stack, .btw⟩ (src.drop m.at_) m.at_ = .error k
    | .ok m' => ∃ b, runB ⟨m.stack, .btw⟩ (src.drop m.at_) m.at_ = .ok b /\ Rel src m' b
  | 0, m, hf, ha, _, _ => by omega
  | f + 1, m, hf, ha, hok, h0 => by
    rw [runN]
    by_cases hlt : src.length <= m.at_
    · rw [if_pos hlt, List.drop_eq_nil_of_le hlt]
      exact ⟨_, rfl, .btw h0⟩
    rw [if_neg hlt]
    obtain ⟨c, l, hd⟩ : ∃ c l, src.drop m.at_ = c :: l := by
      cases hd : src.drop m.at_ with
      | nil =>
        have := congrArg List.length hd
        rw [List.length_drop, List.length_nil] at this
        omega
      | cons c l => exact ⟨c, l, rfl⟩
    have hlen := congrArg List.length hd
    rw [List.length_drop, List.length_cons] at hlen
    rw [hd]
    -- the machine goes on between lexemes
    have on : ∀ (m1 : Mc) (n : Nat), vC m (c :: l) = .ok m1 -> m1.at_ = m.at_ + n -> okSt m1.stack = true -> m1.fin = 0 -> runB ⟨m.stack, .btw⟩ (c :: l) m.at_ = runB ⟨m1.stack, .btw⟩ ((c :: l).drop n) (m.at_ + n) ->
        (match (match vC m (c :: l) with | .error k => Except.error k | .ok m' => runN src f m') with
        | .error k => runB ⟨m.stack, .btw⟩ (c :: l) m.at_ = .error k
        | .ok m' => ∃ b, runB ⟨m.stack, .btw⟩ (c :: l) m.at_ = .ok b /\ Rel src m' b) := by
      intro m1 n hs h1 h2 h3 h4
      have hon := stepN_on hs
      rw [List.length_cons] at hon
      rw [hs]
      simp only
      have ih := run_same src f m1 (by omega) (by omega) h2 h3
      rw [h1, <- List.drop_drop, hd, <- h4] at ih
      exact ih
    -- the bytes end
    have ends : ∀ (m1 : Mc) (b : Bs), vC m (c :: l) = .ok m1 -> src.length <= m1.at_ -> runB ⟨m.stack, .btw⟩ (c :: l) m.at_ = .ok b -> Rel src m1 b ->
        (match (match vC m (c :: l) with | .error k => Except.error k | .ok m' => runN src f m') with
        | .error k => runB ⟨m.stack, .btw⟩ (c :: l) m.at_ = .error k
        | .ok m' => ∃ b, runB ⟨m.stack, .btw⟩ (c :: l) m.at_ = .ok b /\ Rel src m' b) := by
      intro m1 b hs h1 h2 h3
      rw [hs]
      simp only
      have hr : runN src f m1 = .ok m1 := by
        cases f with
        | zero => rfl
        | succ f => rw [runN, if_pos h1]
      rw [hr]
      exact ⟨b, h2, h3⟩
    have bad : ∀ k, vC m (c :: l) = .error k -> runB ⟨m.stack, .btw⟩ (c :: l) m.at_ = .error k ->
        (match (match vC m (c :: l) with | .error k => Except.error k | .ok m' => runN src f m') with
        | .error k => runB ⟨m.stack, .btw⟩ (c :: l) m.at_ = .error k
        | .ok m' => ∃ b, runB ⟨m.stack, .btw⟩ (c :: l) m.at_ = .ok b /\ Rel src m' b) := by
      intro k hs h2
      rw [hs]
      exact h2
    have hb0 : ∀ b', btwB m.stack c = some b' -> runB ⟨m.stack, .btw⟩ (c :: l) m.at_ = runB b' l (m.at_ + 1) := fun b' e => by
      rw [runB, show kV ⟨m.stack, .btw⟩ c = btwB m.stack c from rfl, e]
    have hbn : btwB m.stack c = none -> runB ⟨m.stack, .btw⟩ (c :: l) m.at_ = .error m.at_ := fun e => by
      rw [runB, show kV ⟨m.stack, .btw⟩ c = btwB m.stack c from rfl, e]
    by_cases hb : ki c = true
    · refine on { m with at_ := m.at_ + 1 } 1 (by rw [vC, if_pos hb]) rfl hok h0 (hb0 _ ?_)
      unfold btwB
      rw [if_pos hb]
    have hst1 : vC m (c :: l) = if c.toNat = 35 then kg m (c :: l) else if c.toNat = 34 then kW m (c :: l) else if jK c = true then ka m (c :: l) else kc m c l := by rw [vC, if_neg hb]
    have hbt1 : btwB m.stack c = if c.toNat = 35 then some ⟨m.stack, .com⟩ else if c.toNat = 34 then (if mayN 3 m.stack = true then some ⟨m.stack, .txt 4⟩ else none) else if jK c = true then (if yH m.stack [c] = true then some ⟨m.stack, .wrd [c]⟩ else none)
        else if vH m.stack [c, 61] then some ⟨m.stack, .sgn c⟩ else if vH m.stack [c] then some ⟨jR (jS [c]) m.stack, .btw⟩ else none := by
      unfold btwB
      rw [if_neg hb]
    by_cases h35 : c.toNat = 35
    · rw [if_pos h35] at hst1 hbt1
      have hrun := (hb0 _ hbt1).trans (run_com m.stack l (m.at_ + 1))
      have hlf : lfC c = false := by unfold lfC; rw [decide_eq_false (by omega)]
      have htw : ((c :: l).takeWhile fun c => !lfC c) = c :: (l.takeWhile fun c => !lfC c) := by rw [List.takeWhile_cons, if_pos (by rw [hlf]; rfl)]
      unfold kg at hst1
      simp only [htw] at hst1
      by_cases hall : (l.takeWhile fun c => !lfC c).length = l.length
      · rw [if_pos hall] at hrun
        rw [if_pos (by rw [List.length_cons, List.length_cons, hall])] at hst1
        exact ends _ _ hst1 (by simp only [List.length_cons]; omega) hrun (.com rfl)
      · rw [if_neg hall] at hrun
        rw [if_neg (by rw [List.length_cons, List.length_cons]; omega)] at hst1
        refine on _ ((l.takeWhile fun c => !lfC c).length + 1) hst1 (by simp only [List.length_cons]) hok h0 ?_
        rw [hrun, List.drop_succ_cons, show m.at_ + 1 + (l.takeWhile fun c => !lfC c).length = m.at_ + ((l.takeWhile fun c => !lfC c).length + 1) by omega]
    rw [if_neg h35] at hst1 hbt1
    by_cases h34 : c.toNat = 34
    · rw [if_pos h34] at hst1 hbt1
      unfold kW at hst1
      cases hm : mayN 3 m.stack with
      | false =>
        rw [hm, if_pos rfl] at hst1
        rw [hm, if_neg (by decide)] at hbt1
        exact bad _ hst1 (hbn hbt1)
      | true =>
        rw [hm, if_neg (by decide)] at hst1
        rw [hm, if_pos rfl] at hbt1
        simp only [List.drop_one, List.tail_cons] at hst1
        have hrun := (hb0 _ hbt1).trans (run_txt m.stack l (m.at_ + 1) 4 (by decide) (by decide))
        cases hg : jx l (m.at_ + 1) 4 with
        | wrong j =>
          rw [hg] at hst1 hrun
          exact bad _ hst1 hrun
        | shut j =>
          rw [hg] at hst1 hrun
          simp only at hst1 hrun
          rw [taken_ok (t := 3) (by decide) (m := { m with from_ := m.at_, fin := 0 }) hm] at hst1
          have hj := (textGo_shut _ _ _ _ hg).1
          refine on _ (j - m.at_) hst1 (by simp only; omega) (ok_with (by decide) hok hm) rfl ?_
          rw [hrun, show j - m.at_ = (j - (m.at_ + 1)) + 1 by omega, List.drop_succ_cons, show m.at_ + (j - (m.at_ + 1) + 1) = j by omega]
        | ends e =>
          rw [hg] at hst1 hrun
          have he := textGo_fin l (m.at_ + 1) 4 e (by decide) (by decide) hg
          exact ends _ _ hst1 (by simp only [List.length_cons]; omega) hrun (.txt rfl he.1 he.2 hm)
    rw [if_neg h34] at hst1 hbt1
    by_cases hw : jK c = true
    · rw [if_pos hw] at hst1 hbt1
      unfold ka at hst1
      simp only at hst1
      obtain ⟨w', hw'⟩ : ∃ w', (c :: l).takeWhile jK = c :: w' := by rw [List.takeWhile_cons, if_pos hw]; exact ⟨_, rfl⟩
      have hsplit : c :: l = (c :: l).takeWhile jK ++ (c :: l).dropWhile jK := (List.takeWhile_append_dropWhile ..).symm
      have hall : w'.all jK = true := by
        have : ((c :: l).takeWhile jK).all jK = true := List.all_takeWhile
        rw [hw', List.all_cons, Bool.and_eq_true] at this
        exact this.2
      rw [hw'] at hst1
      by_cases hc : (c :: w').length < (c :: l).length /\ jj (c :: w') = true /\ mayN (jU (c :: w')) m.stack = true
      · rw [if_pos hc, taken_ok (kr _) (m := { m with from_ := m.at_ }) hc.2.2] at hst1
        have hf : yH m.stack [c] = true := fits_prefix (List.cons_prefix_cons.2 ⟨rfl, List.nil_prefix⟩) (by simp) hc.2.1 hc.2.2
        rw [if_pos hf] at hbt1
        cases hdw : (c :: l).dropWhile jK with
        | nil =>
          rw [hw', hdw, List.append_nil] at hsplit
          rw [<- hsplit] at hc
          exact absurd hc.1 (Nat.lt_irrefl _)
        | cons d l2 =>
          have hdn : jK d = false := by
            have h := List.head?_dropWhile_not jK (c :: l)
            rw [hdw, List.head?_cons] at h
            simpa using h
          rw [hw', hdw, List.cons_append] at hsplit
          injection hsplit with _ hl2
          have hrun := hb0 _ hbt1
          rw [hl2, run_word hc.2.1 hc.2.2 w' [c] d l2 (m.at_ + 1) rfl hall hdn] at hrun
          refine on _ (w'.length + 1) hst1 (by simp only [List.length_cons]) (ok_with (kr _) hok hc.2.2) h0 ?_
          rw [hl2, hrun, List.drop_succ_cons, List.drop_left', show m.at_ + 1 + w'.length = m.at_ + (w'.length + 1) by omega]
          rfl
      · rw [if_neg hc] at hst1
        unfold vI at hst1
        simp only at hst1
        have hno : ∀ v d l', l = v ++ d :: l' -> v.all jK = true -> jK d = false -> ¬ (jj ([c] ++ v) = true /\ mayN (jU ([c] ++ v)) m.stack = true) := fun v d l' e hv hdd hh => by
          have h1 : (c :: l).takeWhile jK = c :: v := by
            rw [e, show c :: (v ++ d :: l') = (c :: v) ++ d :: l' from rfl]
            exact takeWhile_word (c :: v) d l' (by rw [List.all_cons, hw, hv]; rfl) hdd
          rw [hw'] at h1
          injection h1 with _ h1
          refine hc ⟨?_, by rw [h1]; exact hh.1, by rw [h1]; exact hh.2⟩
          rw [e, h1]
          simp only [List.length_cons, List.length_append]
          omega
        by_cases hf : yH m.stack [c] = true
        · rw [if_pos hf] at hbt1
          have hrun := (hb0 _ hbt1).trans (run_spell l [c] (m.at_ + 1) hno)
          have hsp : kU (mayN 1 m.stack) (mayN 2 m.stack) (kQ m.stack resL 0) [] (c :: l) m.at_ = kU (mayN 1 m.stack) (mayN 2 m.stack) (kQ m.stack resL 0) [c] l (m.at_ + 1) := by
            rw [kU, if_neg (by rw [hw]; decide), if_pos (show fitsB _ _ _ ([] ++ [c]) = true from hf)]
            rfl
          rw [hsp] at hst1
          cases hg : kU (mayN 1 m.stack) (mayN 2 m.stack) (kQ m.stack resL 0) [c] l (m.at_ + 1) with
          | some j =>
            rw [hg] at hst1 hrun
            exact bad _ hst1 hrun
          | none =>
            rw [hg] at hst1 hrun
            refine ends _ _ hst1 (by simp only [List.length_cons]; omega) hrun (.wrd rfl hd ?_)
            exact spell_fits l [c] (m.at_ + 1) hf hg
        · rw [if_neg hf] at hbt1
          rw [kU, if_neg (by rw [hw]; decide), if_neg (show ¬ fitsB _ _ _ ([] ++ [c]) = true from hf)] at hst1
          exact bad _ hst1 (hbn hbt1)
    rw [if_neg hw] at hst1 hbt1
    unfold kc at hst1
    simp only at hst1
    by_cases hone : vH m.stack [c]
    · rw [if_pos (show jS [c] ≠ 0 /\ mayN (jS [c]) m.stack = true from hone)] at hst1
      by_cases htwo : vH m.stack [c, 61]
      · rw [if_pos htwo] at hbt1
        by_cases h61 : l.headD 0 = 61
        · rw [if_pos ⟨htwo.1, htwo.2, h61⟩, taken_ok (ja _) (m := { m with from_ := m.at_ }) htwo.2] at hst1
          obtain ⟨l2, rfl⟩ : ∃ l2, l = 61 :: l2 := by
            cases l with
            | nil => exact absurd h61 (by decide)
            | cons x l2 => exact ⟨l2, by rw [show x = 61 from h61]⟩
          refine on _ 2 hst1 rfl (ok_with (ja _) hok htwo.2) h0 ?_
          rw [hb0 _ hbt1, runB]
          rfl
        · rw [if_neg (fun e => h61 e.2.2), taken_ok (ja _) (m := { m with from_ := m.at_ }) hone.2] at hst1
          cases l with
          | nil =>
            refine ends _ _ hst1 (by rw [List.length_nil] at hlen; simp only; omega) (hb0 _ hbt1) (.one h0 htwo hone rfl ?_)
            exact sole_ne (two_sign htwo.1 hone.1) hok hone.2 (kl (ja _) hone.2)
          | cons d l2 =>
            refine on _ 1 hst1 rfl (ok_with (ja _) hok hone.2) h0 ?_
            rw [hb0 _ hbt1, runB, show (c :: d :: l2).drop 1 = d :: l2 from rfl, runB]
            have e : kV ⟨m.stack, .sgn c⟩ d = btwB (jR (jS [c]) m.stack) d := by
              show (if d = 61 then _ else _) = _
              rw [if_neg (show ¬ d = 61 from h61), if_pos hone]
            rw [e]
            rfl
      · rw [if_neg htwo, if_pos hone] at hbt1
        rw [if_neg (fun e => htwo ⟨e.1, e.2.1⟩), taken_ok (ja _) (m := { m with from_ := m.at_ }) hone.2] at hst1
        exact on _ 1 hst1 rfl (ok_with (ja _) hok hone.2) h0 (hb0 _ hbt1)
    · rw [if_neg (show ¬ (jS [c] ≠ 0 /\ mayN (jS [c]) m.stack = true) from hone)] at hst1
      by_cases htwo : vH m.stack [c, 61]
      · rw [if_pos htwo] at hbt1
        rw [if_neg (fun e => e.elim htwo.1 (fun e => by rw [htwo.2] at e; cases e))] at hst1
        cases l with
        | nil =>
          rw [if_pos rfl] at hst1
          exact ends _ _ hst1 (by rw [List.length_nil] at hlen; simp only; omega) (hb0 _ hbt1) (.two rfl hd htwo hone)
        | cons d l2 =>
          rw [if_neg (by simp), List.headD_cons] at hst1
          by_cases h61 : d = 61
          · rw [if_neg (fun e => e h61), taken_ok (ja _) (m := { m with from_ := m.at_ }) htwo.2] at hst1
            refine on _ 2 hst1 rfl (ok_with (ja _) hok htwo.2) h0 ?_
            rw [hb0 _ hbt1, runB, h61]
            rfl
          · rw [if_pos h61] at hst1
            refine bad _ hst1 ?_
            rw [hb0 _ hbt1, runB]
            have e : kV ⟨m.stack, .sgn c⟩ d = none := by
              show (if d = 61 then _ else _) = _
              rw [if_neg h61, if_neg hone]
            rw [e]
      · rw [if_neg htwo, if_neg hone] at hbt1
        rw [if_pos (by
          by_cases h2 : jS [c, 61] = 0
          · exact .inl h2
          · refine .inr ?_
            cases hm : mayN (jS [c, 61]) m.stack with
            | false => rfl
            | true => exact absurd ⟨h2, hm⟩ htwo)] at hst1
        exact bad _ hst1 (hbn hbt1)
theorem runB_app : ∀ (p q : List UInt8) (b : Bs) (k : Nat), runB b (p ++ q) k = match runB b p k with
    | .error j => .error j
    | .ok b' => runB b' q (k + p.length)
  | [], q, b, k => rfl
  | c :: p, q, b, k => by
    rw [List.cons_append, runB, runB]
    cases kV b c with
    | none => rfl
    | some b' =>
      simp only
      rw [runB_app p q b' (k + 1), List.length_cons, show k + 1 + p.length = k + (p.length + 1) by omega]
theorem runB_at : ∀ (l : List UInt8) (b b' : Bs) (k j : Nat), runB b l k = .ok b' -> runB b l j = .ok b'
  | [], b, b', k, j, h => h
  | c :: l, b, b', k, j, h => by
    rw [runB] at h ⊢
    cases hs : kV b c with
    | none => rw [hs] at h; cases h
    | some b1 =>
      rw [hs] at h
      exact runB_at l b1 b' (k + 1) (j + 1) h
theorem runB_err : ∀ (l : List UInt8) (b : Bs) (k j : Nat), runB b l k = .error j -> k <= j /\ j < k + l.length /\ (∃ b', runB b (l.take (j - k)) k = .ok b') /\ runB b (l.take (j - k + 1)) k = .error j
  | [], b, k, j, h => by cases h
  | c :: l, b, k, j, h => by
    rw [runB] at h
    cases hs : kV b c with
    | none =>
      rw [hs] at h
      injection h with h
      subst h
      refine ⟨Nat.le_refl _, by rw [List.length_cons]; omega, ⟨b, ?_⟩, ?_⟩
      · rw [Nat.sub_self, List.take_zero]
        rfl
      · rw [Nat.sub_self, List.take_succ_cons, runB, hs]
    | some b1 =>
      rw [hs] at h
      obtain ⟨h1, h2, ⟨b', h3⟩, h4⟩ := runB_err l b1 (k + 1) j h
      refine ⟨by omega, by rw [List.length_cons]; omega, ⟨b', ?_⟩, ?_⟩
      · rw [show j - k = (j - (k + 1)) + 1 by omega, List.take_succ_cons, runB, hs]
        exact h3
      · rw [show j - k = (j - (k + 1)) + 1 by omega, List.take_succ_cons, runB, hs]
        exact h4
theorem begun_same (src : List UInt8) : match kG src with
    | .error k => runB yK src 0 = .error k
    | .ok m => ∃ b, runB yK src 0 = .ok b /\ Rel src m b :=
  run_same src (src.length + 1) startM (by show src.length + 1 <= src.length + 1 + 0; omega) (Nat.zero_le _) (by decide) rfl
theorem begun_err {src : List UInt8} {k : Nat} : kG src = .error k ↔ runB yK src 0 = .error k := by
  have h := begun_same src
  cases hb : kG src with
  | error j =>
    rw [hb] at h
    constructor
    · intro e; rw [h]; injection e with e; rw [e]
    · intro e; rw [h] at e; injection e with e; rw [e]
  | ok m =>
    rw [hb] at h
    obtain ⟨b, h, _⟩ := h
    constructor
    · intro e; cases e
    · intro e; rw [h] at e; cases e
theorem begun_ok {src : List UInt8} {m : Mc} (hb : kG src = .ok m) : ∃ b, runB yK src 0 = .ok b /\ Rel src m b := by
  have h := begun_same src
  rw [hb] at h
  exact h
theorem begun_of {src : List UInt8} {b : Bs} (hb : runB yK src 0 = .ok b) : ∃ m, kG src = .ok m /\ Rel src m b := by
  have h := begun_same src
  cases hm : kG src with
  | error j => rw [hm] at h; rw [h] at hb; cases hb
  | ok m =>
    rw [hm] at h
    obtain ⟨b', h, hr⟩ := h
    rw [h] at hb
    injection hb with hb
    subst hb
    exact ⟨m, rfl, hr⟩
def accB (b : Bs) : Prop := b.st = [] /\ (b.md = .btw \/ b.md = .com)
theorem may_ne {t : Nat} {st : List Nat} (h : mayN t st = true) : st ≠ [] := fun e => by rw [e] at h; cases h
theorem fits_ne {st : List Nat} {w : List UInt8} (h : yH st w = true) : st ≠ [] := fun e => by
  rw [e] at h
  have h1 : kQ [] resL 0 = [] := by decide
  unfold yH at h
  rw [h1] at h
  cases h
theorem Rel.acc {src : List UInt8} {m : Mc} {b : Bs} (h : Rel src m b) : m.stack = [] ↔ accB b := by
  cases h with
  | btw h => exact ⟨fun e => ⟨e, .inl rfl⟩, fun e => e.1⟩
  | com h => exact ⟨fun e => ⟨e, .inr rfl⟩, fun e => e.1⟩
  | wrd h1 h2 h3 => exact ⟨fun e => absurd e (fits_ne h3), fun e => absurd e.1 (fits_ne h3)⟩
  | one h1 h2 h3 h4 h5 => exact ⟨fun e => absurd e h5, fun e => absurd e.1 (may_ne h3.2)⟩
  | two h1 h2 h3 h4 => exact ⟨fun e => absurd e (may_ne h3.2), fun e => absurd e.1 (may_ne h3.2)⟩
  | txt h1 h2 h3 h4 => exact ⟨fun e => absurd e (may_ne h4), fun e => absurd e.1 (may_ne h4)⟩
def finS (b : Bs) : List UInt8 := match b.md with
  | .btw => (jG b.st).2
  | .com => let e := (jG b.st).2; if e = [] then [] else 10 :: e
  | .wrd w => kR b.st w
  | .sgn c => if vH b.st [c] then (jG (jR (jS [c]) b.st)).2 else 61 :: (jG (jR (jS [c, 61]) b.st)).2
  | .txt e => (if e = 4 then [34] else if e = 5 then [34, 34] else if e = 6 then [48, 48, 34] else [48, 34]) ++ (jG (jR 3 b.st)).2
theorem Rel.fin_ {src : List UInt8} {m : Mc} {b : Bs} (h : Rel src m b) : vF src m = finS b := by
  unfold vF finS
  cases h with
  | btw h => simp only [h]; rfl
  | com h => simp only [h]; rfl
  | wrd h1 h2 h3 => simp only [h1, h2]; rfl
  | one h1 h2 h3 h4 h5 =>
    simp only [h1]
    rw [if_pos h3, h4]
    rfl
  | two h1 h2 h3 h4 =>
    simp only [h1, h2]
    rw [if_neg h4]
    rfl
  | txt h1 h2 h3 h4 =>
    subst h1
    have h5 : m.fin = 4 \/ m.fin = 5 \/ m.fin = 6 \/ m.fin = 7 := by omega
    rcases h5 with h5 | h5 | h5 | h5 <;> (simp only [h5]; rfl)
def endS : List Nat := [9, 58, 5]
structure Brk where
  opn : UInt8
  cls : UInt8
  o : Nat
  s : Nat
  X : Nat -> Nat
  Z : Nat -> List Nat
structure Brk.Ok (b : Brk) : Prop where
  ob : ki b.opn = false /\ ¬ b.opn.toNat = 35 /\ ¬ b.opn.toNat = 34 /\ jK b.opn = false /\ jS [b.opn] = b.o /\ b.o ≠ 0 /\ jS [b.opn, 61] = 0
  cb : ki b.cls = false /\ ¬ b.cls.toNat = 35 /\ ¬ b.cls.toNat = 34 /\ jK b.cls = false /\ jS [b.cls] = b.s /\ b.s ≠ 0 /\ jS [b.cls, 61] = 0
  x0 : b.X 0 = 69
  on : ∀ n, mayN b.o [b.X n] = true /\ jt b.o 30 [b.X n] = some (b.X (n + 1) :: b.s :: b.Z n)
  zero : ∀ n, mayN 2 [b.X n] = true /\ jt 2 30 [b.X n] = some (b.Z n)
  shut : ∀ n, mayN b.s (b.Z n ++ [b.s]) = true /\ jt b.s 30 (b.Z n ++ [b.s]) = some []
  skip : ∀ n, (b.Z n).all jY = true
  z0 : mayN 9 (b.Z 0 ++ [9]) = true /\ jt 9 30 (b.Z 0 ++ [9]) = some [] /\ mayN b.s (b.Z 0 ++ endS) = false
  sp : jY b.s = false /\ b.s < 23 /\ ¬ b.s = 1 /\ ¬ b.s = 2 /\ ¬ b.s = 3 /\ signL.getD (b.s - 4) [] = [b.cls]
theorem vV : ∀ (l m : List Nat), l.all jY = true -> jG (l ++ m) = jG m
  | [], m, _ => rfl
  | n :: l, m, h => by
    rw [List.all_cons, Bool.and_eq_true] at h
    show jh n (jG (l ++ m)) = _
    rw [vV l m h.2]
    unfold jh
    rw [if_pos h.1]
end Go.Proofs.YtmmjcbbogokmfaaGreatDoor
