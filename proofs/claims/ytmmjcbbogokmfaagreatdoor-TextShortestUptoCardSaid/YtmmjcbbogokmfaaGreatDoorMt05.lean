import Derived.Test.YtmmjcbbogokmfaaGreatDoorMt04
set_option maxRecDepth 100000
set_option maxHeartbeats 25600000
namespace Go.Proofs.YtmmjcbbogokmfaaGreatDoor
theorem kZ {t : Nat} (h58 : t < 58) : ∀ {st : List Nat} {f : Nat} {st' : List Nat}, mayN t st = true -> jt t f st = some st' -> ∃ e n l k, st = e ++ n :: l /\ (e.all fun x => !jD x t && jY x) = true /\ jD n t = true /\ n < 85 /\ jt t 30 [n] = some k /\ st' = k ++ l
  | [], f, st', hm, _ => by cases hm
  | n :: l, f, st', hm, ht => by
    rw [mayN] at hm
    by_cases hb : jD n t = true
    · obtain ⟨k, hk⟩ := grows_eq n t h58 hb
      have h1 := yJ t 30 [n] k l hk
      obtain rfl := takeN_uniq ht h1
      exact ⟨[], n, l, k, rfl, rfl, hb, begins_lt h58 hb, hk, rfl⟩
    · have hb' : jD n t = false := by simpa using hb
      rw [if_neg hb] at hm
      split at hm
      case isFalse => cases hm
      rename_i he
      cases f with
      | zero => cases ht
      | succ f =>
        rw [jt] at ht
        have hge := empty_ge n he
        rw [if_neg (by omega), skip_rule n t hb', List.nil_append] at ht
        obtain ⟨e, m, l2, k, h1, h2, h3, h4, h5, h6⟩ := kZ h58 hm ht
        refine ⟨n :: e, m, l2, k, by rw [h1]; rfl, ?_, h3, h4, h5, h6⟩
        rw [List.all_cons, hb', he, h2]
        rfl
def kindAhead (l : List Nat) : Bool := decide (l.headD 0 = 60) || (decide (l.headD 0 = 59) && decide ((l.drop 1).headD 0 = 60))
def yD : List Nat -> Bool
  | [] => true
  | n :: l => (decide (n ≠ 10) || kindAhead l) && yD l
theorem kindAhead_app (l b : List Nat) (h : kindAhead l = true) : kindAhead (l ++ b) = true := by
  unfold kindAhead at h ⊢
  match l, h with
  | [], h => cases h
  | [x], h =>
    rw [Bool.or_eq_true, Bool.and_eq_true] at h ⊢
    rcases h with h | h
    · exact .inl h
    · exact absurd (of_decide_eq_true h.2 : 0 = 60) (by decide)
  | x :: y :: l, h => exact h
def soleB (st : List Nat) : Bool := st.all fun n => decide (n < 14 \/ 17 < n)
def okSt (st : List Nat) : Bool := yD st && soleB st
theorem colonB_app : ∀ (a b : List Nat), yD a = true -> yD b = true -> yD (a ++ b) = true
  | [], b, _, hb => hb
  | n :: l, b, ha, hb => by
    rw [yD, Bool.and_eq_true, Bool.or_eq_true] at ha
    rw [List.cons_append, yD, colonB_app l b ha.2 hb, Bool.and_true, Bool.or_eq_true]
    exact ha.1.imp id (kindAhead_app l b)
theorem vi : ∀ (a b : List Nat), yD (a ++ b) = true -> yD b = true
  | [], b, h => h
  | n :: l, b, h => by
    rw [List.cons_append, yD, Bool.and_eq_true] at h
    exact vi l b h.2
theorem sole_app (a b : List Nat) : soleB (a ++ b) = (soleB a && soleB b) := List.all_append
def okGrow (n t : Nat) : Bool := !jD n t || decide (14 <= n /\ n <= 17) || (match jt t 30 [n] with | some k => okSt k | none => true)
theorem okGrow_all : ∀ n : Fin 85, ∀ t : Fin 58, okGrow n.val t.val = true := by decide +kernel
theorem ok_take {t : Nat} (h58 : t < 58) {st st' : List Nat} {f : Nat} (h : okSt st = true) (hm : mayN t st = true) (ht : jt t f st = some st') : okSt st' = true := by
  obtain ⟨e, n, l, k, rfl, he, hb, h85, hk, rfl⟩ := kZ h58 hm ht
  unfold okSt at h ⊢
  rw [Bool.and_eq_true, sole_app, Bool.and_eq_true] at h
  obtain ⟨h1, -, h3⟩ := h
  have h4 : soleB (n :: l) = (decide (n < 14 \/ 17 < n) && soleB l) := List.all_cons
  rw [h4, Bool.and_eq_true] at h3
  have hn := of_decide_eq_true h3.1
  have h5 := okGrow_all ⟨n, h85⟩ ⟨t, h58⟩
  simp only [okGrow, hb, Bool.not_true, Bool.false_or, decide_eq_false (show ¬ (14 <= n /\ n <= 17) by omega), hk] at h5
  unfold okSt at h5
  rw [Bool.and_eq_true] at h5
  have h6 : yD l = true := by
    have := vi e _ h1
    rw [yD, Bool.and_eq_true] at this
    exact this.2
  rw [colonB_app k l h5.1 h6, sole_app, h5.2, h3.2]
  rfl
def noEq (n t : Nat) : Bool := !(jD n t && decide (t = 10 \/ t = 14 \/ t = 16)) || decide (14 <= n /\ n <= 17) || decide (n = 10) || (match jt t 30 [n] with | some [77] => true | _ => false)
theorem noEq_all : ∀ n : Fin 85, ∀ t : Fin 58, noEq n.val t.val = true := by decide +kernel
theorem no_eq {t : Nat} (ht3 : t = 10 \/ t = 14 \/ t = 16) {st st' : List Nat} {f : Nat} (h : okSt st = true) (hm : mayN t st = true) (ht : jt t f st = some st') : mayN 12 st' = false := by
  have h58 : t < 58 := by omega
  obtain ⟨e, n, l, k, rfl, he, hb, h85, hk, rfl⟩ := kZ h58 hm ht
  unfold okSt at h
  rw [Bool.and_eq_true, sole_app, Bool.and_eq_true] at h
  obtain ⟨h1, -, h3⟩ := h
  have h4 : soleB (n :: l) = (decide (n < 14 \/ 17 < n) && soleB l) := List.all_cons
  rw [h4, Bool.and_eq_true] at h3
  have hn := of_decide_eq_true h3.1
  have h5 := noEq_all ⟨n, h85⟩ ⟨t, h58⟩
  simp only [noEq, hb, Bool.true_and, decide_eq_true ht3, Bool.not_true, Bool.false_or, decide_eq_false (show ¬ (14 <= n /\ n <= 17) by omega), hk] at h5
  by_cases h10 : n = 10
  · subst h10
    have ht10 : t = 10 := (vR (by decide) hb).symm
    subst ht10
    have hk2 : k = [] := by
      have : jt 10 30 [10] = some [] := by decide
      rw [this] at hk
      exact (Option.some.inj hk).symm
    subst hk2
    have := vi e _ h1
    rw [yD, Bool.and_eq_true] at this
    have h6 := this.1
    rw [List.nil_append]
    simp only [ne_eq, not_true_eq_false, decide_false, Bool.false_or] at h6
    unfold kindAhead at h6
    match l, h6 with
    | [], h6 => cases h6
    | [x], h6 =>
      rw [Bool.or_eq_true, Bool.and_eq_true] at h6
      have hx : x = 60 := h6.elim (fun e => of_decide_eq_true e) (fun e => absurd (of_decide_eq_true e.2 : 0 = 60) (by decide))
      subst hx
      exact mayN_stop 12 60 [] (by decide) (by decide)
    | x :: y :: l, h6 =>
      rw [Bool.or_eq_true, Bool.and_eq_true] at h6
      rcases h6 with hx | ⟨hx, hy⟩
      · obtain rfl : x = 60 := of_decide_eq_true hx
        exact mayN_stop 12 60 (y :: l) (by decide) (by decide)
      · obtain rfl : x = 59 := of_decide_eq_true hx
        obtain rfl : y = 60 := of_decide_eq_true hy
        rw [mayN, if_neg (by decide), if_pos (by decide)]
        exact mayN_stop 12 60 l (by decide) (by decide)
  · simp only [decide_eq_false h10, Bool.false_or] at h5
    have hk2 : k = [77] := by
      split at h5
      · rename_i e2; injection e2
      · cases h5
    subst hk2
    exact mayN_stop 12 77 l (by decide) (by decide)
theorem toks_skip {src : List UInt8} {p n : Nat} {ts : List Tk} (hs : ji false (src.drop p) = n + ji false (src.drop (p + n))) (h : Toks src (p + n) ts) : Toks src p ts := by
  cases h with
  | done h1 => exact .done (by omega)
  | @more _ k x ts hk hlt hx hl ht => exact .more (by omega) hlt hx hl ht
theorem skip_comment : ∀ (l : List UInt8), ji true l = (l.takeWhile fun c => !lfC c).length + ji false (l.drop (l.takeWhile fun c => !lfC c).length)
  | [] => rfl
  | c :: l => by
    by_cases hc : lfC c = true
    · rw [ji, if_pos hc, List.takeWhile_cons, if_neg (by rw [hc]; decide), List.length_nil, List.drop_zero, Nat.zero_add]
      have hb : ki c = true := by
        have := of_decide_eq_true hc
        unfold ki
        rw [decide_eq_true (by omega)]
      rw [ji, if_pos hb]
    · rw [ji, if_neg hc, List.takeWhile_cons, if_pos (by simpa using hc), List.length_cons, List.drop_succ_cons, skip_comment l]
      omega
theorem lexOf_drop {src : List UInt8} {p n t : Nat} {l : List UInt8} (h : src.drop p = l) : lexOf src ⟨t, p, p + n⟩ = l.take n := by
  unfold lexOf
  simp only
  rw [List.drop_take, h, Nat.add_sub_cancel_left]
theorem idx_mem (w : List UInt8) : ∀ (l : List (List UInt8)) (k : Nat), jn k w l ≠ 0 -> w ∈ l
  | [], k, h => absurd rfl h
  | r :: l, k, h => by
    rw [jn] at h
    split at h
    · rename_i e
      rw [e]
      exact List.mem_cons_self
    · exact List.mem_cons_of_mem _ (idx_mem w l _ h)
theorem res_letter : ∀ r ∈ resL, letC (r.headD 0) = true := by decide
theorem word_letter {w : List UInt8} (h : kj w ≠ 0) : letC (w.headD 0) = true := res_letter w (idx_mem w resL 23 h)
theorem let_dig {c : UInt8} (h : letC c = true) : digC c = false := by
  unfold letC at h
  have := of_decide_eq_true h
  unfold digC
  rw [decide_eq_false (by omega)]
theorem proper_int {w : List UInt8} (hd : digC (w.headD 0) = true) (h : jj w = true) : jc w = true := by
  unfold jj at h
  rw [Bool.or_eq_true, Bool.or_eq_true, Bool.and_eq_true] at h
  rcases h with (h | h) | h
  · exact h.2
  · have := let_dig (word_letter (of_decide_eq_true h))
    rw [this] at hd; cases hd
  · unfold jq jQ at h
    rw [Bool.and_eq_true, Bool.and_eq_true, Bool.and_eq_true] at h
    have := let_dig h.1.1.2
    rw [this] at hd; cases hd
theorem named_two {w : List UInt8} (h : jU w = 2) : digC (w.headD 0) = true := by
  unfold jU at h
  split at h
  · assumption
  · split at h
    · cases h
    · rename_i h1 h2
      exfalso
      have h3 : 23 <= kj w \/ kj w = 0 := by
        unfold kj
        generalize resL = L
        suffices ∀ (l : List (List UInt8)) (k : Nat), 23 <= k -> 23 <= jn k w l \/ jn k w l = 0 from this L 23 (Nat.le_refl _)
        intro l
        induction l with
        | nil => exact fun k _ => .inr rfl
        | cons r l ih =>
          intro k hk
          rw [jn]
          split
          · exact .inl hk
          · exact ih (k + 1) (by omega)
      omega
theorem mN_plain (f : Nat) (c : UInt8) (l : List UInt8) (h : ¬ c.toNat = 92) : meantN (f + 1) (c :: l) = (meantN f l).map (c :: ·) := by
  rw [meantN.eq_def]
  exact if_neg h
theorem mN_nil (f : Nat) (c : UInt8) (h : c.toNat = 92) : meantN (f + 1) [c] = none := by
  rw [meantN.eq_def]
  exact if_pos h
def escC (d : UInt8) : UInt8 := if d.toNat = 110 then 10 else if d.toNat = 116 then 9 else d
theorem mN_esc (f : Nat) (c d : UInt8) (l : List UInt8) (h : c.toNat = 92) (hd : ¬ d.toNat = 120) : meantN (f + 1) (c :: d :: l) = (meantN f l).map (escC d :: ·) := by
  rw [meantN.eq_def]
  refine (if_pos h).trans ?_
  unfold escC
  by_cases h1 : d.toNat = 110
  · simp only [if_pos h1]
  by_cases h2 : d.toNat = 116
  · simp only [if_neg h1, if_pos h2]
  · simp only [if_neg h1, if_neg h2, if_neg hd]
theorem mN_x (f : Nat) (c d a b : UInt8) (l : List UInt8) (h : c.toNat = 92) (hd : d.toNat = 120) : meantN (f + 1) (c :: d :: a :: b :: l) = if hexC a = true /\ hexC b = true then (meantN f l).map (UInt8.ofNat (16 * hexV a + hexV b) :: ·) else none := by
  rw [meantN.eq_def]
  refine (if_pos h).trans ?_
  simp only
  rw [if_neg (by omega), if_neg (by omega), if_pos hd]
theorem mN_x0 (f : Nat) (c d : UInt8) (h : c.toNat = 92) (hd : d.toNat = 120) : meantN (f + 1) [c, d] = none := by
  rw [meantN.eq_def]
  refine (if_pos h).trans ?_
  simp only
  rw [if_neg (by omega), if_neg (by omega), if_pos hd]
theorem mN_x1 (f : Nat) (c d a : UInt8) (h : c.toNat = 92) (hd : d.toNat = 120) : meantN (f + 1) [c, d, a] = none := by
  rw [meantN.eq_def]
  refine (if_pos h).trans ?_
  simp only
  rw [if_neg (by omega), if_neg (by omega), if_pos hd]
theorem meantN_more : ∀ (f g : Nat) (l v : List UInt8), f <= g -> meantN f l = some v -> meantN g l = some v
  | 0, g, l, v, _, h => by cases h
  | f + 1, 0, l, v, hg, _ => by omega
  | f + 1, g + 1, [], v, _, h => h
  | f + 1, g + 1, c :: l, v, hg, h => by
    have ih := fun l v => meantN_more f g l v (by omega)
    have im : ∀ (l : List UInt8) (w : UInt8), (meantN f l).map (w :: ·) = some v -> (meantN g l).map (w :: ·) = some v := fun l w e => by
      obtain ⟨x, hx, hx2⟩ := Option.map_eq_some_iff.1 e
      rw [ih l x hx]
      exact congrArg some hx2
    by_cases hc : c.toNat = 92
    · match l, h with
      | [], h => rw [mN_nil f c hc] at h; cases h
      | d :: l, h =>
        by_cases hd : d.toNat = 120
        · match l, h with
          | [], h => rw [mN_x0 f c d hc hd] at h; cases h
          | [a], h => rw [mN_x1 f c d a hc hd] at h; cases h
          | a :: b :: l, h =>
            rw [mN_x f c d a b l hc hd] at h
            rw [mN_x g c d a b l hc hd]
            split at h
            · rename_i h4
              rw [if_pos h4]
              exact im _ _ h
            · cases h
        · rw [mN_esc f c d l hc hd] at h
          rw [mN_esc g c d l hc hd]
          exact im _ _ h
    · rw [mN_plain f c l hc] at h
      rw [mN_plain g c l hc]
      exact im _ _ h
theorem sL_mark (c : UInt8) (l : List UInt8) (h : c.toNat = 34) : strLen (c :: l) = some 1 := by
  rw [strLen.eq_def]
  exact if_pos h
theorem sL_esc (c d : UInt8) (l : List UInt8) (h : c.toNat = 92) : strLen (c :: d :: l) = (strLen l).map (· + 2) := by
  rw [strLen.eq_def]
  exact (if_neg (by omega)).trans (if_pos h)
theorem sL_plain (c : UInt8) (l : List UInt8) (h : ¬ c.toNat = 34) (h2 : ¬ c.toNat = 92) : strLen (c :: l) = (strLen l).map (· + 1) := by
  rw [strLen.eq_def]
  exact (if_neg h).trans (if_neg h2)
theorem text_shut : ∀ (n : Nat) (l : List UInt8) (q k : Nat), l.length <= n -> jx l q 4 = .shut k -> ∃ j v, strLen l = some (j + 1) /\ k = q + (j + 1) /\ j < l.length /\ meantN (j + 1) (l.take j) = some v
  | _, [], q, k, _, h => by cases h
  | 0, c :: l, q, k, hn, _ => by rw [List.length_cons] at hn; omega
  | n + 1, c :: l, q, k, hn, h => by
    rw [List.length_cons] at hn
    rw [jx, if_pos rfl] at h
    by_cases h34 : c.toNat = 34
    · rw [if_pos h34] at h
      injection h with h
      refine ⟨0, [], ?_, by omega, by simp, rfl⟩
      exact sL_mark c l h34
    rw [if_neg h34] at h
    by_cases h92 : c.toNat = 92
    · rw [if_pos h92] at h
      cases l with
      | nil => cases h
      | cons d l =>
        rw [List.length_cons] at hn
        rw [jx, if_neg (by decide), if_pos rfl] at h
        by_cases hx : d.toNat = 120
        · rw [if_pos hx] at h
          cases l with
          | nil => cases h
          | cons a l =>
            rw [jx, if_neg (by decide), if_neg (by decide)] at h
            by_cases ha : hexC a = true
            · rw [if_neg (by rw [ha]; decide), if_neg (by decide)] at h
              cases l with
              | nil => cases h
              | cons b l =>
                rw [jx, if_neg (by decide), if_neg (by decide)] at h
                by_cases hb : hexC b = true
                · rw [if_neg (by rw [hb]; decide), if_pos (by decide)] at h
                  simp only [List.length_cons] at hn
                  obtain ⟨j, v, e1, e2, e3, e4⟩ := text_shut n l _ k (by omega) h
                  have hne : ∀ y, hexC y = true -> ¬ y.toNat = 34 /\ ¬ y.toNat = 92 := fun y hy => by
                    unfold hexC digC at hy
                    rw [Bool.or_eq_true] at hy
                    rcases hy with e | e <;> (have := of_decide_eq_true e; omega)
                  refine ⟨j + 4, UInt8.ofNat (16 * hexV a + hexV b) :: v, ?_, by omega, by simp only [List.length_cons]; omega, ?_⟩
                  · rw [sL_esc c d _ h92, sL_plain a _ (hne a ha).1 (hne a ha).2, sL_plain b _ (hne b hb).1 (hne b hb).2, e1]
                    rfl
                  · simp only [List.take_succ_cons]
                    rw [mN_x (j + 4) c d a b _ h92 hx, if_pos ⟨ha, hb⟩, meantN_more (j + 1) (j + 4) _ v (by omega) e4]
                    rfl
                · rw [if_pos (by simpa using hb)] at h; cases h
            · rw [if_pos (by simpa using ha)] at h; cases h
        · rw [if_neg hx] at h
          by_cases hd : d.toNat = 34 \/ d.toNat = 92 \/ d.toNat = 110 \/ d.toNat = 116
          · rw [if_pos hd] at h
            obtain ⟨j, v, e1, e2, e3, e4⟩ := text_shut n l _ k (by omega) h
            have hm := meantN_more (j + 1) (j + 2) _ v (by omega) e4
            have hst : strLen (c :: d :: l) = some (j + 2 + 1) := by
              rw [sL_esc c d l h92, e1]
              rfl
            have hgo : ∃ v', meantN (j + 2 + 1) ((c :: d :: l).take (j + 2)) = some v' := by
              simp only [List.take_succ_cons]
              rw [mN_esc (j + 2) c d _ h92 hx, hm]
              exact ⟨_, rfl⟩
            obtain ⟨v', hv'⟩ := hgo
            exact ⟨j + 2, v', hst, by omega, by simp only [List.length_cons]; omega, hv'⟩
          · rw [if_neg hd] at h; cases h
    · rw [if_neg h92] at h
      by_cases hr : c.toNat < 32 \/ 126 < c.toNat
      · rw [if_pos hr] at h; cases h
      · rw [if_neg hr] at h
        obtain ⟨j, v, e1, e2, e3, e4⟩ := text_shut n l _ k (by omega) h
        refine ⟨j + 1, c :: v, ?_, by omega, by simp only [List.length_cons]; omega, ?_⟩
        · rw [sL_plain c l h34 h92, e1]
          rfl
        · simp only [List.take_succ_cons]
          rw [mN_plain (j + 1) c _ h92, e4]
          rfl
theorem taken_inv {t : Nat} {m m' : Mc} {k : Nat} (h : kw t m k = .ok m') : jt t (m.stack.length + 100) m.stack = some m'.stack /\ m'.at_ = k := by
  unfold kw at h
  split at h
  · rename_i s hs
    injection h with h
    rw [<- h]
    exact ⟨hs, rfl⟩
  · cases h
theorem spell_none (l : List UInt8) (m : Mc) (c : UInt8) (hw : jK c = true) (hs : m.stack = []) : vI m (c :: l) = .error m.at_ := by
  have h1 : kQ [] resL 0 = [] := by decide
  have h2 : ∀ w : List UInt8, fitsB false false [] w = false := fun w => rfl
  unfold vI
  rw [hs, h1, show mayN 1 [] = false from rfl, show mayN 2 [] = false from rfl, kU, if_neg (by rw [hw]; decide), if_neg (by rw [h2]; decide)]
theorem two_signs : ∀ c : Fin 256, (decide (jS [UInt8.ofNat c.val, 61] = 0) || (decide (jS [UInt8.ofNat c.val] = 0) || (decide (jS [UInt8.ofNat c.val] = 10) || (decide (jS [UInt8.ofNat c.val] = 14) || decide (jS [UInt8.ofNat c.val] = 16))))) = true := by decide +kernel
theorem two_sign {c : UInt8} (h2 : jS [c, 61] ≠ 0) (h1 : jS [c] ≠ 0) : jS [c] = 10 \/ jS [c] = 14 \/ jS [c] = 16 := by
  have h := two_signs ⟨c.toNat, c.toNat_lt⟩
  simp only [UInt8.ofNat_toNat] at h
  simp only [decide_eq_false h2, decide_eq_false h1, Bool.false_or, Bool.or_eq_true, decide_eq_true_eq] at h
  exact h
theorem run_at_end {src : List UInt8} {m m' : Mc} {f : Nat} (he : src.length <= m.at_) (h : runN src f m = .ok m') : m' = m := by
  cases f with
  | zero => rw [runN] at h; injection h with h; exact h.symm
  | succ f => rw [runN, if_pos he] at h; injection h with h; exact h.symm
theorem run_err {src : List UInt8} {m : Mc} {f k : Nat} (hlt : m.at_ < src.length) (hf : 0 < f) (hs : vC m (src.drop m.at_) = .error k) : runN src f m = .error k := by
  cases f with
  | zero => omega
  | succ f => rw [runN, if_neg (by omega), hs]
theorem tok_one {src : List UInt8} {p : Nat} {c : UInt8} {l : List UInt8} {n t : Nat} {ts : List Tk} (hd : src.drop p = c :: l) (hb : ki c = false) (h35 : ¬ c.toNat = 35) (hx : lexN (c :: l) = some (n, t)) (hl : LitOk src ⟨t, p, p + n⟩) (h : Toks src (p + n) ts) : Toks src p (⟨t, p, p + n⟩ :: ts) := by
  have hs : ji false (c :: l) = 0 := by rw [ji, if_neg (by rw [hb]; decide), if_neg h35]
  have hlen := congrArg List.length hd
  rw [List.length_drop, List.length_cons] at hlen
  exact .more (x := (n, t)) (by rw [hd, hs]; rfl) (by omega) (by rw [hd]; exact hx) hl h
theorem run_toks (src : List UInt8) : ∀ (f : Nat) (m m' : Mc), src.length + 1 <= f + m.at_ -> m.at_ <= src.length -> okSt m.stack = true -> runN src f m = .ok m' -> m'.stack = [] -> ∃ ts, Toks src m.at_ ts /\ Acc m.stack ts /\ ts.length <= src.length - m.at_
  | 0, m, m', hf, ha, _, _, _ => by omega
  | f + 1, m, m', hf, ha, hok, h, h0 => by
    rw [runN] at h
    by_cases hlt : src.length <= m.at_
    · rw [if_pos hlt] at h
      injection h with h
      rw [<- h] at h0
      rw [h0]
      exact ⟨[], .done (by omega), .done, Nat.zero_le _⟩
    rw [if_neg hlt] at h
    obtain ⟨c, l, hd⟩ : ∃ c l, src.drop m.at_ = c :: l := by
      cases hd : src.drop m.at_ with
      | nil =>
        have := congrArg List.length hd
        rw [List.length_drop, List.length_nil] at this
        omega
      | cons c l => exact ⟨c, l, rfl⟩
    have hlen := congrArg List.length hd
    rw [List.length_drop, List.length_cons] at hlen
    rw [hd] at h
    cases hst : vC m (c :: l) with
    | error k => rw [hst] at h; cases h
    | ok m1 =>
      rw [hst] at h
      simp only at h
      have hon := stepN_on hst
      rw [List.length_cons] at hon
      have ih := fun (hok1 : okSt m1.stack = true) => run_toks src f m1 m' (by omega) (by omega) hok1 h h0
      -- a kD
      have tok : ∀ (n t : Nat), ki c = false -> ¬ c.toNat = 35 -> lexN (c :: l) = some (n, t) -> LitOk src ⟨t, m.at_, m.at_ + n⟩ -> t < 58 -> mayN t m.stack = true -> (∃ g, jt t g m.stack = some m1.stack) -> m1.at_ = m.at_ + n -> 1 <= n -> ∃ ts, Toks src m.at_ ts /\ Acc m.stack ts /\ ts.length <= src.length - m.at_ := by
        rintro n t hb h35 hx hl h58 hm ⟨g, hg⟩ h1 hn
        obtain ⟨ts, i1, i2, i3⟩ := ih (ok_take h58 hok hm hg)
        rw [h1] at i1 i3
        exact ⟨_, tok_one hd hb h35 hx hl i1, .tak (k := ⟨t, m.at_, m.at_ + n⟩) h58 hm hg i2, by rw [List.length_cons]; omega⟩
      have ends : m1.stack = m.stack -> src.length <= m1.at_ -> m.stack = [] := fun e1 e2 => by
        rw [<- e1, <- run_at_end e2 h]
        exact h0
      rw [vC] at hst
      by_cases hb : ki c = true
      · rw [if_pos hb] at hst
        injection hst with hst
        obtain ⟨ts, i1, i2, i3⟩ := ih (by rw [<- hst]; exact hok)
        rw [<- hst] at i1 i2 i3
        simp only at i1 i2 i3
        refine ⟨ts, toks_skip (n := 1) ?_ i1, i2, by omega⟩
        rw [show src.drop (m.at_ + 1) = l by rw [<- List.drop_drop, hd]; rfl, hd, ji, if_pos hb, Nat.add_comm]
      rw [if_neg hb] at hst
      have hb' : ki c = false := by simpa using hb
      by_cases h35 : c.toNat = 35
      · rw [if_pos h35] at hst
        unfold kg at hst
        simp only at hst
        injection hst with hst
        have hm1 : m1.stack = m.stack /\ m1.at_ = m.at_ + ((c :: l).takeWhile fun c => !lfC c).length := by
          split at hst
          · rename_i e
            rw [<- hst]
            exact ⟨rfl, by rw [e]⟩
          · rw [<- hst]
            exact ⟨rfl, rfl⟩
        obtain ⟨ts, i1, i2, i3⟩ := ih (by rw [hm1.1]; exact hok)
        rw [hm1.1] at i2
        rw [hm1.2] at i1 i3
        refine ⟨ts, toks_skip ?_ i1, i2, by omega⟩
        have hlf : lfC c = false := by unfold lfC; rw [decide_eq_false (by omega)]
        rw [<- List.drop_drop, hd, List.takeWhile_cons, if_pos (by rw [hlf]; rfl), List.length_cons, List.drop_succ_cons, ji, if_neg hb, if_pos h35, skip_comment l]
        omega
      rw [if_neg h35] at hst
      by_cases h34 : c.toNat = 34
      · rw [if_pos h34] at hst
        unfold kW at hst
        cases hm : mayN 3 m.stack with
        | false => rw [hm, if_pos rfl] at hst; cases hst
        | true =>
          rw [hm, if_neg (by decide)] at hst
          simp only [List.drop_one, List.tail_cons] at hst
          split at hst
          · cases hst
          · rename_i k hk
            obtain ⟨e1, e2⟩ := taken_inv hst
            obtain ⟨j, v, s1, s2, s3, s4⟩ := text_shut l.length l _ k (Nat.le_refl _) hk
            have hw : jK c = false := by
              unfold jK letC digC
              rw [decide_eq_false (by omega), decide_eq_false (by omega), decide_eq_false (by omega)]
              rfl
            refine tok (j + 2) 3 hb' h35 ?_ ?_ (by decide) hm ⟨_, e1⟩ (by omega) (by omega)
            · rw [lexN, if_neg (by rw [hw]; decide), if_pos h34, s1]
              rfl
            · intro _
              rw [lexOf_drop hd]
              have hL : (c :: l).take (j + 2) = c :: l.take (j + 1) := by rw [List.take_succ_cons]
              have hl2 : ((c :: l).take (j + 2)).length = j + 2 := by rw [List.length_take, List.length_cons]; omega
              have hin : (((c :: l).take (j + 2)).drop 1).take (((c :: l).take (j + 2)).length - 2) = l.take j := by
                rw [hl2, hL, List.drop_one, List.tail_cons, List.take_take]
                congr 1
                omega
              show ∃ n, vY 3 _ = some n
              unfold vY
              rw [if_neg (by decide), if_neg (by decide), if_pos rfl, if_pos (by rw [hl2]; omega), hin, hl2, meantN_more (j + 1) (j + 2 + 1) _ v (by omega) s4]
              exact ⟨_, rfl⟩
          · rename_i e he
            injection hst with hst
            have := ends (by rw [<- hst]) (by rw [<- hst]; simp only [List.length_cons]; omega)
            rw [this] at hm; cases hm
      rw [if_neg h34] at hst
      by_cases hw : jK c = true
      · rw [if_pos hw] at hst
        unfold ka at hst
        simp only at hst
        split at hst
        · rename_i hc
          obtain ⟨e1, e2⟩ := taken_inv hst
          simp only at e1
          have hwl : (c :: l).take ((c :: l).takeWhile jK).length = (c :: l).takeWhile jK := (List.prefix_iff_eq_take.1 (List.takeWhile_prefix _)).symm
          refine tok _ (jU ((c :: l).takeWhile jK)) hb' h35 (by rw [lexN, if_pos hw]) ?_ (kr _) hc.2.2 ⟨_, e1⟩ e2 (km jK c l hw)
          intro hlt
          rw [lexOf_drop hd, hwl]
          simp only at hlt ⊢
          have hne : (c :: l).takeWhile jK ≠ [] := List.ne_nil_of_length_pos (km jK c l hw)
          unfold vY
          by_cases h2 : jU ((c :: l).takeWhile jK) = 2
          · rw [if_pos h2, if_pos ⟨proper_int (named_two h2) hc.2.1, hne⟩]
            exact ⟨_, rfl⟩
          rw [if_neg h2]
          by_cases h46 : jU ((c :: l).takeWhile jK) = 46 \/ jU ((c :: l).takeWhile jK) = 47
          · rw [if_pos h46]; exact ⟨_, rfl⟩
          rw [if_neg h46]
          by_cases h3 : jU ((c :: l).takeWhile jK) = 3
          · exfalso
            unfold jU at h3
            split at h3
            · cases h3
            · split at h3
              · cases h3
              · have h4 : ∀ r ∈ resL, kj r ≠ 3 := by decide
                rename_i h5
                exact h4 _ (idx_mem _ resL 23 h5) h3
          rw [if_neg h3]
          by_cases h1 : jU ((c :: l).takeWhile jK) = 1
          · rw [if_pos h1]; exact ⟨_, rfl⟩
          rw [if_neg h1]
          exact ⟨_, rfl⟩
        · exfalso
          unfold vI at hst
          split at hst
          · cases hst
          · injection hst with hst
            have := ends (by rw [<- hst]) (by rw [<- hst]; simp only [List.length_cons]; omega)
            rename_i hsp
            have h1 := spell_none l { m with from_ := m.at_ } c hw this
            unfold vI at h1
            rw [hsp] at h1
            cases h1
      rw [if_neg hw] at hst
      have hlex : lexN (c :: l) = if l.headD 0 = 61 /\ jS [c, 61] ≠ 0 then some (2, jS [c, 61]) else some (1, jS [c]) := by rw [lexN, if_neg hw, if_neg h34]
      have hno : ∀ t n, 4 <= t -> t < 23 -> LitOk src ⟨t, m.at_, m.at_ + n⟩ := fun t n h1 h2 e => by
        have := of_decide_eq_true e
        simp only at this
        omega
      have hsg : ∀ w, jS w ≠ 0 -> 4 <= jS w /\ jS w < 23 := fun w hw => by
        have h1 : ∀ r ∈ signL, 4 <= jS r /\ jS r < 23 := by decide
        exact h1 w (idx_mem w signL 4 hw)
      unfold kc at hst
      simp only at hst
      split at hst
      · rename_i hc
        split at hst
        · rename_i hc2
          obtain ⟨e1, e2⟩ := taken_inv hst
          exact tok 2 (jS [c, 61]) hb' h35 (by rw [hlex, if_pos ⟨hc2.2.2, hc2.1⟩]) (hno _ _ (hsg _ hc2.1).1 (hsg _ hc2.1).2) (ja _) hc2.2.1 ⟨_, e1⟩ e2 (by decide)
        · rename_i hc2
          obtain ⟨e1, e2⟩ := taken_inv hst
          by_cases heq : l.headD 0 = 61 /\ jS [c, 61] ≠ 0
          · exfalso
            have hno12 := no_eq (two_sign heq.2 hc.1) hok hc.2 e1
            obtain ⟨l2, rfl⟩ : ∃ l2, l = 61 :: l2 := by
              cases l with
              | nil => exact absurd heq.1 (by decide)
              | cons x l2 => exact ⟨l2, by rw [show x = 61 from heq.1]⟩
            have hd1 : src.drop m1.at_ = 61 :: l2 := by rw [e2, <- List.drop_drop, hd]; rfl
            have hstep := step_wrong m1 61 l2 12 (by decide) (by decide) (by decide) (by decide) (by decide) (by decide) hno12
            rw [run_err (by rw [List.length_cons] at hlen; omega) (by omega) (by rw [hd1]; exact hstep)] at h
            cases h
          · exact tok 1 (jS [c]) hb' h35 (by rw [hlex, if_neg heq]) (hno _ _ (hsg _ hc.1).1 (hsg _ hc.1).2) (ja _) hc.2 ⟨_, e1⟩ e2 (by decide)
      · rename_i hc
        split at hst
        · cases hst
        · rename_i hc2
          rw [not_or] at hc2
          have hm2 : mayN (jS [c, 61]) m.stack = true := by simpa using hc2.2
          split at hst
          · rename_i hl
            injection hst with hst
            have := ends (by rw [<- hst]) (by rw [hl, List.length_nil] at hlen; rw [<- hst]; simp only; omega)
            rw [this] at hm2; cases hm2
          · split at hst
            · cases hst
            · rename_i h61
              have h61 : l.headD 0 = 61 := by simpa using h61
              obtain ⟨e1, e2⟩ := taken_inv hst
              exact tok 2 (jS [c, 61]) hb' h35 (by rw [hlex, if_pos ⟨h61, hc2.1⟩]) (hno _ _ (hsg _ hc2.1).1 (hsg _ hc2.1).2) (ja _) hm2 ⟨_, e1⟩ e2 (by decide)
theorem begun_toks {src : List UInt8} {m : Mc} (h : kG src = .ok m) (h0 : m.stack = []) : ∃ ts, Toks src 0 ts /\ Acc [23, 1, 4, 58, 5] ts /\ ts.length <= src.length := by
  obtain ⟨ts, i1, i2, i3⟩ := run_toks src (src.length + 1) startM m (by have : startM.at_ = 0 := rfl; omega) (Nat.zero_le _) (by decide) h h0
  exact ⟨ts, i1, i2, i3⟩
theorem read_all {src : List UInt8} {m : Mc} (h : kG src = .ok m) (h0 : m.stack = []) (hs : src.length <= 60000) : ∃ r, readN src (10 * src.length + 20) = some r := by
  obtain ⟨ts, i1, i2, i3⟩ := begun_toks h h0
  exact read_acc i1 i2 (by omega) _ (by omega)
end Go.Proofs.YtmmjcbbogokmfaaGreatDoor
