import Derived.Test.YtmmjcbbogokmfaaGreatDoorMt07
set_option maxRecDepth 100000
set_option maxHeartbeats 25600000
namespace Go.Proofs.YtmmjcbbogokmfaaGreatDoor
def mdOk (st : List Nat) : Md9 -> Prop
  | .btw => True
  | .com => True
  | .wrd w => yH st w = true /\ w ≠ [] /\ w.all jK = true
  | .sgn c => vH st [c, 61]
  | .txt e => mayN 3 st = true /\ 4 <= e /\ e <= 7
structure InvB (b : Bs) : Prop where
  st : Inv b.st
  md : mdOk b.st b.md
theorem btw_inv {st : List Nat} {c : UInt8} {b : Bs} (h : Inv st) (hs : btwB st c = some b) : InvB b := by
  unfold btwB at hs
  split at hs
  · injection hs with hs; subst hs; exact ⟨h, trivial⟩
  split at hs
  · injection hs with hs; subst hs; exact ⟨h, trivial⟩
  split at hs
  · split at hs
    · rename_i hm
      injection hs with hs; subst hs; exact ⟨h, hm, by decide, by decide⟩
    · cases hs
  split at hs
  · rename_i hw
    split at hs
    · rename_i hf
      injection hs with hs; subst hs; exact ⟨h, hf, by simp, by rw [List.all_cons, hw]; rfl⟩
    · cases hs
  split at hs
  · rename_i h2
    injection hs with hs; subst hs; exact ⟨h, h2⟩
  split at hs
  · rename_i h1
    injection hs with hs; subst hs; exact ⟨h.take (ja _) h1.2, trivial⟩
  · cases hs
theorem step_inv {b b' : Bs} {c : UInt8} (h : InvB b) (hs : kV b c = some b') : InvB b' := by
  obtain ⟨st, md⟩ := b
  obtain ⟨hI, hm⟩ := h
  unfold kV at hs
  cases md with
  | btw => exact btw_inv hI hs
  | com =>
    simp only at hs
    split at hs
    · injection hs with hs; subst hs; exact ⟨hI, trivial⟩
    · injection hs with hs; subst hs; exact ⟨hI, trivial⟩
  | wrd w =>
    simp only at hs
    split at hs
    · rename_i hw
      split at hs
      · rename_i hf
        injection hs with hs; subst hs
        exact ⟨hI, hf, by simp, by rw [List.all_append, hm.2.2, List.all_cons, hw]; rfl⟩
      · cases hs
    · split at hs
      · rename_i hp
        exact btw_inv (hI.take (kr _) hp.2) hs
      · cases hs
  | sgn s =>
    simp only at hs
    split at hs
    · injection hs with hs; subst hs; exact ⟨hI.take (ja _) hm.2, trivial⟩
    · split at hs
      · rename_i h1
        exact btw_inv (hI.take (ja _) h1.2) hs
      · cases hs
  | txt e =>
    simp only at hs
    unfold txtB at hs
    obtain ⟨h3, h4, h7⟩ := hm
    split at hs
    · split at hs
      · injection hs with hs; subst hs; exact ⟨hI.take (by decide) h3, trivial⟩
      split at hs
      · injection hs with hs; subst hs; exact ⟨hI, h3, by decide, by decide⟩
      split at hs
      · cases hs
      · injection hs with hs; subst hs; exact ⟨hI, h3, by decide, by decide⟩
    split at hs
    · split at hs
      · injection hs with hs; subst hs; exact ⟨hI, h3, by decide, by decide⟩
      split at hs
      · injection hs with hs; subst hs; exact ⟨hI, h3, by decide, by decide⟩
      · cases hs
    · split at hs
      · cases hs
      · injection hs with hs; subst hs; exact ⟨hI, h3, by show 4 <= if e = 7 then 4 else e + 1; split <;> omega, by show (if e = 7 then 4 else e + 1) <= 7; split <;> omega⟩
theorem run_inv : ∀ (l : List UInt8) (b b' : Bs) (k : Nat), InvB b -> runB b l k = .ok b' -> InvB b'
  | [], b, b', k, h, hr => by rw [runB] at hr; injection hr with hr; rw [<- hr]; exact h
  | c :: l, b, b', k, h, hr => by
    rw [runB] at hr
    cases hs : kV b c with
    | none => rw [hs] at hr; cases hr
    | some b1 =>
      rw [hs] at hr
      exact run_inv l b1 b' (k + 1) (step_inv h hs) hr
theorem start_inv : InvB yK := ⟨Inv.start, trivial⟩
def GoodEnd (st : List Nat) (w r : List UInt8) : Prop := r ≠ [] /\ Done ⟨st, .wrd w⟩ r
theorem try_good {st : List Nat} {w : List UInt8} {t : Nat} {more : List UInt8} (hI : Inv st) (ht : jU (w ++ more) = t) (h5 : t ≠ 5) (hp : jj (w ++ more) = true) (ha : more.all jK = true) (hm : mayN t st = true) (best : List UInt8) (hb : best = [] \/ GoodEnd st w best) :
    GoodEnd st w (tryN st best t more) := by
  have h58 : t < 58 := by rw [<- ht]; exact kr _
  have hI2 := hI.take h58 hm
  have hne : jR t st ≠ [] := by
    obtain ⟨e, n, l, k, hst, he, hbg, h85, hk, hst'⟩ := kZ h58 hm (kl h58 hm)
    rw [hst']
    intro e0
    obtain ⟨rfl, rfl⟩ := List.append_eq_nil_iff.1 e0
    have htl := hI.tail
    rw [hst] at htl
    have := tail_app (a := e) htl (by simp)
    unfold tailB at this
    rw [Bool.or_eq_true] at this
    rcases this with e | e
    · exact absurd (of_decide_eq_true e) (by simp)
    · have e5 : n = 5 := of_decide_eq_true e
      rw [e5] at hbg
      exact h5 (vR (by decide) hbg).symm
  have hR := restOk hI2
  have hg : GoodEnd st w (more ++ (jG (jR t st)).1) := by
    refine ⟨fun e => hR.ne1 hne (List.append_eq_nil_iff.1 e).2, ?_⟩
    subst ht
    exact done_word hp hm more w _ rfl ha (hR.ne1 hne) (hR.hd1 hne) hR.one
  unfold tryN
  rw [if_pos hm]
  simp only
  split
  · exact hg
  · rename_i hn
    rcases hb with hb | hb
    · exact absurd (.inl hb) hn
    · exact hb
theorem try_keep {st : List Nat} {w : List UInt8} {t : Nat} {more : List UInt8} (hI : Inv st) (ht : jU (w ++ more) = t) (h5 : t ≠ 5) (hp : jj (w ++ more) = true) (ha : more.all jK = true) (best : List UInt8) (hb : best = [] \/ GoodEnd st w best) : tryN st best t more = [] \/ GoodEnd st w (tryN st best t more) := by
  cases hm : mayN t st with
  | true => exact .inr (try_good hI ht h5 hp ha hm best hb)
  | false =>
    unfold tryN
    rw [hm, if_neg (by decide)]
    exact hb
theorem res_facts : ∀ i : Fin 35, (let w := resL.getD i.val []; jj w = true /\ jU w = 23 + i.val /\ w.all jK = true /\ w.length <= 9 /\ w.all (fun c => decide (c.toNat ≠ 48)) = true) := by decide +kernel
theorem res_fact {r : List UInt8} {i : Nat} (h : resL[i]? = some r) : jj r = true /\ jU r = 23 + i /\ r.all jK = true := by
  have hi : i < 35 := (List.getElem?_eq_some_iff.1 h).1
  have h1 := res_facts ⟨i, hi⟩
  simp only [List.getD_eq_getElem?_getD, h, Option.getD_some] at h1
  exact ⟨h1.1, h1.2.1, h1.2.2.1⟩
theorem tries_good {st : List Nat} {w : List UInt8} (hI : Inv st) : ∀ (l : List (List UInt8)) (i : Nat) (best : List UInt8), l = resL.drop i -> (best = [] \/ GoodEnd st w best) ->
    (kS st w l i best = [] \/ GoodEnd st w (kS st w l i best)) /\ (best ≠ [] -> kS st w l i best ≠ []) /\ ((∃ r ∈ kQ st l i, w <+: r) -> kS st w l i best ≠ [])
  | [], i, best, _, hb => ⟨hb, fun h => h, fun ⟨r, hr, _⟩ => by cases hr⟩
  | r :: l, i, best, hl, hb => by
    have hi : resL[i]? = some r := by
      have h := congrArg (fun l => l[0]?) hl
      simp only [List.getElem?_drop, Nat.add_zero] at h
      exact h.symm
    have hl2 : l = resL.drop (i + 1) := by rw [<- List.drop_drop, <- hl]; rfl
    obtain ⟨f1, f2, f3⟩ := res_fact hi
    rw [kS]
    by_cases hpre : w.isPrefixOf r = true
    · rw [if_pos hpre]
      have hpr := List.isPrefixOf_iff_prefix.1 hpre
      have hwr : w ++ r.drop w.length = r := by
        obtain ⟨x, rfl⟩ := hpr
        rw [List.drop_left]
      have ha : (r.drop w.length).all jK = true := List.all_eq_true.2 fun x hx => List.all_eq_true.1 f3 x (List.mem_of_mem_drop hx)
      have hk := try_keep (t := 23 + i) (more := r.drop w.length) hI (by rw [hwr]; exact f2) (by omega) (by rw [hwr]; exact f1) ha best hb
      obtain ⟨g1, g2, g3⟩ := tries_good hI l (i + 1) (tryN st best (23 + i) (r.drop w.length)) hl2 hk
      have hnb : best ≠ [] -> tryN st best (23 + i) (r.drop w.length) ≠ [] := fun hne => by
        cases hm : mayN (23 + i) st with
        | true => exact (try_good (more := r.drop w.length) hI (by rw [hwr]; exact f2) (by omega) (by rw [hwr]; exact f1) ha hm best hb).1
        | false =>
          unfold tryN
          rw [hm, if_neg (by decide)]
          exact hne
      refine ⟨g1, fun hne => g2 (hnb hne), fun ⟨x, hx, hx2⟩ => ?_⟩
      rw [kQ] at hx
      by_cases hm : mayN (23 + i) st = true
      · exact g2 (try_good (more := r.drop w.length) hI (by rw [hwr]; exact f2) (by omega) (by rw [hwr]; exact f1) ha hm best hb).1
      · rw [if_neg hm] at hx
        exact g3 ⟨x, hx, hx2⟩
    · rw [if_neg hpre]
      obtain ⟨g1, g2, g3⟩ := tries_good hI l (i + 1) best hl2 hb
      refine ⟨g1, g2, fun ⟨x, hx, hx2⟩ => ?_⟩
      rw [kQ] at hx
      split at hx
      · rcases List.mem_cons.1 hx with rfl | hx
        · exact absurd (List.isPrefixOf_iff_prefix.2 hx2) hpre
        · exact g3 ⟨x, hx, hx2⟩
      · exact g3 ⟨x, hx, hx2⟩
theorem res_short {w : List UInt8} (h : kj w ≠ 0) : w.length <= 9 := by
  have hm := idx_mem w resL 23 h
  have : ∀ r ∈ resL, r.length <= 9 := by decide
  exact this w hm
theorem no_zero (w : List UInt8) : kj (w ++ [48]) = 0 := by
  rcases Nat.eq_zero_or_pos (kj (w ++ [48])) with h | h
  · exact h
  · exfalso
    have hm := idx_mem (w ++ [48]) resL 23 (Nat.pos_iff_ne_zero.1 h)
    have : ∀ r ∈ resL, (48 : UInt8) ∉ r := by decide
    exact this _ hm (by simp)
theorem head_app {w : List UInt8} (h : w ≠ []) (x : List UInt8) : (w ++ x).headD 0 = w.headD 0 := by
  cases w with
  | nil => exact absurd rfl h
  | cons a w => rfl
theorem words_sub (st : List Nat) : ∀ (l : List (List UInt8)) (i : Nat) (r : List UInt8), r ∈ kQ st l i -> r ∈ l
  | [], i, r, h => by cases h
  | x :: l, i, r, h => by
    rw [kQ] at h
    split at h
    · rcases List.mem_cons.1 h with rfl | h
      · exact List.mem_cons_self
      · exact List.mem_cons_of_mem _ (words_sub st l _ r h)
    · exact List.mem_cons_of_mem _ (words_sub st l _ r h)
theorem wordEnd_good {st : List Nat} {w : List UInt8} (hI : Inv st) (hf : yH st w = true) (hne : w ≠ []) (hall : w.all jK = true) : GoodEnd st w (kR st w) := by
  obtain ⟨g1, -, g3⟩ := tries_good (w := w) hI resL 0 [] rfl (.inl rfl)
  unfold yH fitsB at hf
  rw [Bool.or_eq_true, Bool.or_eq_true, Bool.and_eq_true, Bool.and_eq_true] at hf
  have hf' : (mayN 1 st = true /\ jQ w = true) \/ (mayN 2 st = true /\ jc w = true) \/ ∃ r ∈ kQ st resL 0, w <+: r := by
    rcases hf with (h | h) | h
    · exact .inl h
    · exact .inr (.inl h)
    · obtain ⟨r, h1, h2⟩ := List.any_eq_true.1 h
      exact .inr (.inr ⟨r, h1, List.isPrefixOf_iff_prefix.1 h2⟩)
  clear hf
  unfold kR
  simp only
  generalize kS st w resL 0 [] = best at *
  have hkeep : ∀ {t more}, jU (w ++ more) = t -> t ≠ 5 -> jj (w ++ more) = true -> more.all jK = true -> (best ≠ [] \/ mayN t st = true) -> GoodEnd st w (tryN st best t more) := by
    intro t more h1 h2 h3 h4 h5
    cases hm : mayN t st with
    | true => exact try_good hI h1 h2 h3 h4 hm best g1
    | false =>
      rw [hm] at h5
      unfold tryN
      rw [hm, if_neg (by decide)]
      rcases h5 with h5 | h5
      · exact g1.resolve_left h5
      · cases h5
  have hword : (∃ r ∈ kQ st resL 0, w <+: r) -> best ≠ [] := g3
  by_cases hd : digC (w.headD 0) = true
  · rw [if_pos hd]
    have hno : ¬ ∃ r ∈ resL, w <+: r := fun ⟨r, hr, x, hx⟩ => by
      have h1 := res_letter r hr
      rw [<- hx, head_app hne] at h1
      rw [let_dig h1] at hd
      cases hd
    have hint : mayN 2 st = true /\ jc w = true := by
      rcases hf' with h | h | ⟨r, h1, h2⟩
      · exfalso
        have h2 := h.2
        unfold jQ at h2
        rw [Bool.and_eq_true, Bool.and_eq_true] at h2
        rw [let_dig h2.1.2] at hd
        cases hd
      · exact h
      · exact absurd ⟨r, words_sub st resL 0 r h1, h2⟩ hno
    refine hkeep (more := []) ?_ (by decide) ?_ rfl (.inr hint.1)
    · rw [List.append_nil]
      unfold jU
      rw [if_pos hd]
    · rw [List.append_nil]
      unfold jj
      rw [hd, hint.2]
      rfl
  · rw [if_neg hd]
    have hint : ¬ (mayN 2 st = true /\ jc w = true) := fun h => by
      have h2 := h.2
      unfold jc at h2
      rw [Bool.and_eq_true] at h2
      cases w with
      | nil => exact hne rfl
      | cons a w =>
        have h3 := h2.1
        rw [List.all_cons, Bool.and_eq_true] at h3
        exact hd h3.1
    by_cases hl : jq w = true
    · rw [if_pos hl]
      have h0 : kj w = 0 := by
        unfold jq at hl
        rw [Bool.and_eq_true] at hl
        exact of_decide_eq_true hl.2
      refine hkeep (more := []) ?_ (by decide) ?_ rfl ?_
      · rw [List.append_nil]
        unfold jU
        rw [if_neg hd, if_pos h0]
      · rw [List.append_nil]
        unfold jj
        rw [hl, Bool.or_true]
      · rcases hf' with h | h | h
        · exact .inr h.1
        · exact absurd h hint
        · exact .inl (hword h)
    · rw [if_neg hl]
      by_cases hs : w.length < 64 /\ jQ w = true
      · rw [if_pos hs]
        have hs0 : jQ (w ++ [48]) = true := by
          have h2 := hs.2
          unfold jQ at h2 ⊢
          rw [Bool.and_eq_true, Bool.and_eq_true] at h2 ⊢
          refine ⟨⟨decide_eq_true (by rw [List.length_append, List.length_singleton]; omega), ?_⟩, ?_⟩
          · rw [head_app hne]
            exact h2.1.2
          · rw [List.all_append, h2.2]
            decide
        refine hkeep (more := [48]) ?_ (by decide) ?_ (by decide) ?_
        · unfold jU
          rw [head_app hne, if_neg hd, if_pos (no_zero w)]
        · unfold jj jq
          rw [hs0, decide_eq_true (no_zero w), Bool.and_self, Bool.or_true]
        · rcases hf' with h | h | h
          · exact .inr h.1
          · exact absurd h hint
          · exact .inl (hword h)
      · rw [if_neg hs]
        refine g1.resolve_left ?_
        rcases hf' with h | h | h
        · exfalso
          refine hs ⟨?_, h.2⟩
          by_cases hw : kj w = 0
          · exact absurd (by unfold jq; rw [h.2, decide_eq_true hw]; rfl) hl
          · have := res_short hw
            omega
        · exact absurd h hint
        · exact hword h
theorem fin_done {b : Bs} (h : InvB b) : Done b (finS b) := by
  obtain ⟨st, md⟩ := b
  obtain ⟨hI, hm⟩ := h
  have hR := restOk hI
  unfold finS
  cases md with
  | btw => exact hR.two
  | com =>
    simp only
    by_cases h0 : (jG st).2 = []
    · rw [if_pos h0]
      have hst : st = [] := by
        cases st with
        | nil => rfl
        | cons n l => exact absurd h0 (hR.ne2 (by simp))
      exact ⟨_, rfl, hst, .inr rfl⟩
    · rw [if_neg h0]
      refine Done.cons (b1 := ⟨st, .btw⟩) ?_ hR.two
      unfold kV
      exact if_pos (by decide)
  | wrd w => exact (wordEnd_good hI hm.1 hm.2.1 hm.2.2).2
  | sgn c =>
    simp only
    by_cases h1 : vH st [c]
    · rw [if_pos h1]
      have hI2 := hI.take (ja _) h1.2
      have hR2 := restOk hI2
      have hne := sole_ne (two_sign hm.1 h1.1) hI.ok h1.2 (kl (ja _) h1.2)
      have h2 := hR2.ne2 hne
      have h3 := hR2.hd2
      have h4 := hR2.two
      cases hq : (jG (jR (jS [c]) st)).2 with
      | nil => exact absurd hq h2
      | cons d q =>
        rw [hq] at h3 h4
        exact Done.alike (b1 := ⟨jR (jS [c]) st, .btw⟩) (step_sgn1 st c d h3 h1) h4
    · rw [if_neg h1]
      exact Done.cons (step_sgn2 st c) (restOk (hI.take (ja _) hm.2)).two
  | txt e =>
    obtain ⟨h3, h4, h7⟩ := hm
    have hd := (restOk (hI.take (t := 3) (by decide) h3)).two
    have s4 : kV ⟨st, .txt 4⟩ 34 = some ⟨jR 3 st, .btw⟩ := by
      show txtB st 4 34 = _
      unfold txtB
      rw [if_pos rfl, if_pos (by decide)]
    have d4 : Done ⟨st, .txt 4⟩ (34 :: (jG (jR 3 st)).2) := Done.cons s4 hd
    have s7 : kV ⟨st, .txt 7⟩ 48 = some ⟨st, .txt 4⟩ := by
      show txtB st 7 48 = _
      unfold txtB
      rw [if_neg (by decide), if_neg (by decide), if_neg (by decide), if_pos rfl]
    have s6 : kV ⟨st, .txt 6⟩ 48 = some ⟨st, .txt 7⟩ := by
      show txtB st 6 48 = _
      unfold txtB
      rw [if_neg (by decide), if_neg (by decide), if_neg (by decide), if_neg (by decide)]
    have s5 : kV ⟨st, .txt 5⟩ 34 = some ⟨st, .txt 4⟩ := by
      show txtB st 5 34 = _
      unfold txtB
      rw [if_neg (by decide), if_pos rfl, if_neg (by decide), if_pos (.inl (by decide))]
    have he : e = 4 \/ e = 5 \/ e = 6 \/ e = 7 := by omega
    rcases he with rfl | rfl | rfl | rfl
    · exact d4
    · exact Done.cons s5 d4
    · exact Done.cons s6 (Done.cons s7 d4)
    · exact Done.cons s7 d4
end Go.Proofs.YtmmjcbbogokmfaaGreatDoor
