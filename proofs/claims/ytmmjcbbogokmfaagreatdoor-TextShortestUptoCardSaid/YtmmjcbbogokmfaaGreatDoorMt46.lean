import Derived.Test.YtmmjcbbogokmfaaGreatDoorMt05
import Derived.Test.YtmmjcbbogokmfaaGreatDoorMt44
import Derived.Test.YtmmjcbbogokmfaaGreatDoorMt45
set_option maxRecDepth 100000
set_option maxHeartbeats 25600000
namespace Go.Proofs.YtmmjcbbogokmfaaGreatDoor
theorem with_ne {st : List Nat} (hI : Inv st) {t : Nat} (h58 : t < 58) (hm : mayN t st = true) (h5 : t ≠ 5) : jR t st ≠ [] := by
  obtain ⟨e, n, l, k, hst, he, hbg, h85, hk, hst'⟩ := kZ h58 hm (kl h58 hm)
  rw [hst']
  intro e0
  obtain ⟨rfl, rfl⟩ := List.append_eq_nil_iff.1 e0
  have htl := hI.tail
  rw [hst] at htl
  have := tail_app (a := e) htl (by simp)
  unfold tailB at this
  rw [Bool.or_eq_true] at this
  rcases this with e | e
  · exact absurd (of_decide_eq_true e) (by simp)
  · have e5 : n = 5 := of_decide_eq_true e
    rw [e5] at hbg
    exact h5 (vR (by decide) hbg).symm
theorem with_rest {st : List Nat} (hI : Inv st) {t : Nat} (h58 : t < 58) (hm : mayN t st = true) (h5 : t ≠ 5) : (jG (jR t st)).1 ≠ [] := (restOk (hI.take h58 hm)).ne1 (with_ne hI h58 hm h5)
inductive Opt (st : List Nat) (w : List UInt8) : List UInt8 -> Prop
  | res {i : Nat} {x : List UInt8} : resL[i]? = some x -> w <+: x -> mayN (23 + i) st = true -> Opt st w (x.drop w.length ++ (jG (jR (23 + i) st)).1)
  | int : digC (w.headD 0) = true -> mayN 2 st = true -> Opt st w (jG (jR 2 st)).1
  | name : digC (w.headD 0) = false -> jq w = true -> mayN 1 st = true -> Opt st w (jG (jR 1 st)).1
  | more : digC (w.headD 0) = false -> jq w = false -> w.length < 64 -> jQ w = true -> mayN 1 st = true -> Opt st w (48 :: (jG (jR 1 st)).1)
theorem ahead_le {r best : List UInt8} (h : vG r best = true) : leS r best := by
  unfold vG at h
  split at h
  · rename_i hl
    exact leS_iff.2 (.inr ⟨hl, ltB_asymm hl h⟩)
  · exact .of_lt (of_decide_eq_true h)
theorem tryN_best {st : List Nat} {t : Nat} {more best : List UInt8} (Q : List UInt8 -> Prop) (hb : best = [] \/ Q best) (hr : mayN t st = true -> more ++ (jG (jR t st)).1 ≠ [] /\ Q (more ++ (jG (jR t st)).1)) :
    (tryN st best t more = [] \/ Q (tryN st best t more)) /\ (best ≠ [] -> tryN st best t more ≠ [] /\ leS (tryN st best t more) best) /\ (mayN t st = true -> tryN st best t more ≠ [] /\ leS (tryN st best t more) (more ++ (jG (jR t st)).1)) := by
  unfold tryN
  cases hm : mayN t st with
  | false =>
    rw [if_neg (by decide)]
    exact ⟨hb, fun h => ⟨h, .refl _⟩, fun h => by cases h⟩
  | true =>
    rw [if_pos rfl]
    simp only
    obtain ⟨h1, h2⟩ := hr hm
    by_cases hc : best = [] \/ vG (more ++ (jG (jR t st)).1) best = true
    · rw [if_pos hc]
      refine ⟨.inr h2, fun hne => ⟨h1, ?_⟩, fun _ => ⟨h1, .refl _⟩⟩
      exact ahead_le (hc.resolve_left hne)
    · rw [if_neg hc]
      rw [not_or] at hc
      exact ⟨hb, fun hne => ⟨hne, .refl _⟩, fun _ => ⟨hc.1, by unfold leS; simpa using hc.2⟩⟩
theorem tries_best {st : List Nat} {w : List UInt8} (hI : Inv st) : ∀ (l : List (List UInt8)) (i : Nat) (best : List UInt8), l = resL.drop i -> (best = [] \/ Opt st w best) ->
    (kS st w l i best = [] \/ Opt st w (kS st w l i best)) /\ (best ≠ [] -> kS st w l i best ≠ [] /\ leS (kS st w l i best) best) /\
    (∀ j x, i <= j -> resL[j]? = some x -> w <+: x -> mayN (23 + j) st = true -> kS st w l i best ≠ [] /\ leS (kS st w l i best) (x.drop w.length ++ (jG (jR (23 + j) st)).1))
  | [], i, best, hl, hb => ⟨hb, fun h => ⟨h, .refl _⟩, fun j x hj hx => by
      have h1 : resL.length <= i := by
        have := congrArg List.length hl
        rw [List.length_drop, List.length_nil] at this
        omega
      have := (List.getElem?_eq_some_iff.1 hx).1
      omega⟩
  | r :: l, i, best, hl, hb => by
    have hi : resL[i]? = some r := by
      have h := congrArg (fun l => l[0]?) hl
      simp only [List.getElem?_drop, Nat.add_zero] at h
      exact h.symm
    have hl2 : l = resL.drop (i + 1) := by rw [<- List.drop_drop, <- hl]; rfl
    have hi35 : i < 35 := (List.getElem?_eq_some_iff.1 hi).1
    rw [kS]
    by_cases hpre : w.isPrefixOf r = true
    · rw [if_pos hpre]
      have hpr := List.isPrefixOf_iff_prefix.1 hpre
      obtain ⟨g1, g2, g3⟩ := tryN_best (st := st) (t := 23 + i) (more := r.drop w.length) (best := best) (Opt st w) hb (fun hm => ⟨fun e => with_rest hI (by omega) hm (by omega) (List.append_eq_nil_iff.1 e).2, .res hi hpr hm⟩)
      obtain ⟨k1, k2, k3⟩ := tries_best hI l (i + 1) (tryN st best (23 + i) (r.drop w.length)) hl2 g1
      refine ⟨k1, fun hne => ?_, fun j x hj hx hw hm => ?_⟩
      · have h1 := g2 hne
        have h2 := k2 h1.1
        exact ⟨h2.1, h2.2.trans h1.2⟩
      · rcases Nat.lt_or_ge i j with h | h
        · exact k3 j x h hx hw hm
        · obtain rfl : j = i := by omega
          rw [hi] at hx
          injection hx with hx
          subst hx
          have h1 := g3 hm
          have h2 := k2 h1.1
          exact ⟨h2.1, h2.2.trans h1.2⟩
    · rw [if_neg hpre]
      obtain ⟨k1, k2, k3⟩ := tries_best hI l (i + 1) best hl2 hb
      refine ⟨k1, k2, fun j x hj hx hw hm => ?_⟩
      rcases Nat.lt_or_ge i j with h | h
      · exact k3 j x h hx hw hm
      · obtain rfl : j = i := by omega
        rw [hi] at hx
        injection hx with hx
        subst hx
        exact absurd (List.isPrefixOf_iff_prefix.2 hw) hpre
theorem wordEnd_best {st : List Nat} {w : List UInt8} (hI : Inv st) (hf : yH st w = true) (hne : w ≠ []) (hall : w.all jK = true) : Opt st w (kR st w) /\ ∀ r, Opt st w r -> leS (kR st w) r := by
  have hgood := (wordEnd_good hI hf hne hall).1
  obtain ⟨g1, g2, g3⟩ := tries_best (w := w) hI resL 0 [] rfl (.inl rfl)
  unfold kR at hgood ⊢
  simp only at hgood ⊢
  generalize kS st w resL 0 [] = best at *
  -- the last try
  have last : ∀ (t : Nat) (more : List UInt8), (mayN t st = true -> more ++ (jG (jR t st)).1 ≠ [] /\ Opt st w (more ++ (jG (jR t st)).1)) -> tryN st best t more ≠ [] -> (∀ r, Opt st w r -> (∃ i x, resL[i]? = some x /\ w <+: x /\ mayN (23 + i) st = true /\ r = x.drop w.length ++ (jG (jR (23 + i) st)).1) \/ (mayN t st = true /\ r = more ++ (jG (jR t st)).1)) ->
      Opt st w (tryN st best t more) /\ ∀ r, Opt st w r -> leS (tryN st best t more) r := by
    intro t more hr hnn hcase
    obtain ⟨k1, k2, k3⟩ := tryN_best (st := st) (t := t) (more := more) (best := best) (Opt st w) g1 hr
    refine ⟨k1.resolve_left hnn, fun r ho => ?_⟩
    rcases hcase r ho with ⟨i, x, h1, h2, h3, rfl⟩ | ⟨h1, rfl⟩
    · have h4 := g3 i x (Nat.zero_le _) h1 h2 h3
      exact (k2 h4.1).2.trans h4.2
    · exact (k3 h1).2
  by_cases hd : digC (w.headD 0) = true
  · rw [if_pos hd] at hgood ⊢
    refine last 2 [] (fun hm => ⟨with_rest hI (by decide) hm (by decide), .int hd hm⟩) hgood (fun r ho => ?_)
    cases ho with
    | res h1 h2 h3 => exact .inl ⟨_, _, h1, h2, h3, rfl⟩
    | int h1 h2 => exact .inr ⟨h2, rfl⟩
    | name h1 _ _ => rw [hd] at h1; cases h1
    | more h1 _ _ _ _ => rw [hd] at h1; cases h1
  · have hd' : digC (w.headD 0) = false := by simpa using hd
    rw [if_neg hd] at hgood ⊢
    by_cases hl : jq w = true
    · rw [if_pos hl] at hgood ⊢
      refine last 1 [] (fun hm => ⟨with_rest hI (by decide) hm (by decide), .name hd' hl hm⟩) hgood (fun r ho => ?_)
      cases ho with
      | res h1 h2 h3 => exact .inl ⟨_, _, h1, h2, h3, rfl⟩
      | int h1 h2 => exact absurd h1 hd
      | name h1 _ h2 => exact .inr ⟨h2, rfl⟩
      | more h1 h2 _ _ _ => rw [hl] at h2; cases h2
    · have hl' : jq w = false := by simpa using hl
      rw [if_neg hl] at hgood ⊢
      by_cases hs : w.length < 64 /\ jQ w = true
      · rw [if_pos hs] at hgood ⊢
        refine last 1 [48] (fun hm => ⟨by simp, .more hd' hl' hs.1 hs.2 hm⟩) hgood (fun r ho => ?_)
        cases ho with
        | res h1 h2 h3 => exact .inl ⟨_, _, h1, h2, h3, rfl⟩
        | int h1 h2 => exact absurd h1 hd
        | name h1 h2 _ => exact absurd h2 hl
        | more h1 h2 _ _ h3 => exact .inr ⟨h3, rfl⟩
      · rw [if_neg hs] at hgood ⊢
        refine ⟨g1.resolve_left hgood, fun r ho => ?_⟩
        cases ho with
        | res h1 h2 h3 => exact (g3 _ _ (Nat.zero_le _) h1 h2 h3).2
        | int h1 h2 => exact absurd h1 hd
        | name h1 h2 _ => exact absurd h2 hl
        | more h1 h2 h3 h4 _ => exact absurd ⟨h3, h4⟩ hs
theorem sign_spell : ∀ (w : List UInt8), jS w ≠ 0 -> jH (jS w) = w /\ 4 <= jS w /\ jS w < 23 := by
  intro w h
  have h1 : ∀ r ∈ signL, jH (jS r) = r /\ 4 <= jS r /\ jS r < 23 := by decide
  exact h1 w (idx_mem w signL 4 h)
theorem worded_of {t : Nat} : kM t = decide (t <= 2 \/ 23 <= t) := rfl
theorem word_ge {c : UInt8} (h : jK c = true) : 48 <= c.toNat := by
  unfold jK letC digC at h
  simp only [Bool.or_eq_true, decide_eq_true_eq] at h
  omega
theorem head_pre {w : List UInt8} {c : UInt8} {x : List UInt8} (h : w ++ [c] <+: x) : x.drop w.length = c :: x.drop (w.length + 1) /\ w <+: x := by
  obtain ⟨t, rfl⟩ := h
  rw [List.append_assoc]
  refine ⟨?_, ⟨[c] ++ t, rfl⟩⟩
  rw [List.drop_left, <- List.drop_drop, List.drop_left]
  rfl
theorem bell_btw {st : List Nat} (hI : Inv st) {c : UInt8} {b' : Bs} (hs : btwB st c = some b') : leS (jG st).2 (c :: finS b') /\ (jK c = false -> leS (jG st).1 (c :: finS b')) := by
  have hI' := btw_inv hI hs
  have htab := rest_tab st
  unfold btwB at hs
  split at hs
  · rename_i hb
    injection hs with hs; subst hs
    show leS (jG st).2 (c :: (jG st).2) /\ (jK c = false -> leS (jG st).1 (c :: (jG st).2))
    refine ⟨.of_lt (by simp), fun _ => ?_⟩
    rcases htab with h | h
    · rw [h]; exact .of_lt (by simp)
    · rw [h]
      have h9 := of_decide_eq_true hb
      rcases Nat.lt_or_ge 9 c.toNat with h1 | h1
      · exact .head (Nat.le_refl _) (by show 9 < c.toNat; exact h1)
      · have : c = 9 := UInt8.toNat_inj.1 (by show c.toNat = 9; omega)
        rw [this]; exact .refl _
  split at hs
  · rename_i h35
    injection hs with hs; subst hs
    show leS (jG st).2 (c :: (if (jG st).2 = [] then [] else 10 :: (jG st).2)) /\ (jK c = false -> leS (jG st).1 (c :: (if (jG st).2 = [] then [] else 10 :: (jG st).2)))
    by_cases h0 : (jG st).2 = []
    · rw [if_pos h0]
      refine ⟨by rw [h0]; exact .of_lt (by simp), fun _ => ?_⟩
      rcases htab with h | h
      · rw [h, h0]; exact .of_lt (by simp)
      · rw [h, h0]; exact .head (Nat.le_refl _) (by show 9 < c.toNat; omega)
    · rw [if_neg h0]
      refine ⟨.of_lt (by simp only [List.length_cons]; omega), fun _ => ?_⟩
      rcases htab with h | h
      · rw [h]; exact .of_lt (by simp only [List.length_cons]; omega)
      · rw [h]; exact .of_lt (by simp only [List.length_cons]; omega)
  split at hs
  · rename_i h34
    split at hs
    · rename_i hm
      injection hs with hs; subst hs
      have hc : c = 34 := UInt8.toNat_inj.1 h34
      have h := tok_best hI (t := 3) (by decide) hm (.text (c := 34) (w := []) (by decide))
      have e : jv 3 st = (jG (jR 3 st)).2 := by unfold jv; rw [if_neg (by decide)]
      rw [e] at h
      rw [hc]
      exact ⟨h.1, fun _ => h.2 (by decide)⟩
    · cases hs
  split at hs
  · rename_i hw
    split at hs
    · rename_i hf
      injection hs with hs; subst hs
      refine ⟨?_, fun h => by rw [hw] at h; cases h⟩
      show leS (jG st).2 (c :: kR st [c])
      have hopt := (wordEnd_best hI hf (by simp) (by rw [List.all_cons, hw]; rfl)).1
      generalize kR st [c] = r at hopt
      cases hopt with
      | @res i x h1 h2 h3 =>
        have hi : i < 35 := (List.getElem?_eq_some_iff.1 h1).1
        have hsp : jH (23 + i) = x := by
          unfold jH
          rw [if_neg (by omega), if_neg (by omega), if_neg (by omega), if_neg (by omega), Nat.add_sub_cancel_left, List.getD_eq_getElem?_getD, h1]
          rfl
        have h := (tok_best hI (t := 23 + i) (by omega) h3 (.fix (by omega) (by omega))).1
        have e : jv (23 + i) st = (jG (jR (23 + i) st)).1 := by unfold jv; rw [if_pos (by rw [worded_of]; exact decide_eq_true (by omega))]
        rw [e, hsp] at h
        obtain ⟨t, rfl⟩ := h2
        exact h
      | int h1 h2 =>
        have h := (tok_best hI (t := 2) (by decide) h2 (.int (c := c) (w := []) (word_ge hw))).1
        have e : jv 2 st = (jG (jR 2 st)).1 := by unfold jv; rw [if_pos (by decide)]
        rw [e] at h
        exact h
      | name h1 h2 h3 =>
        have hlet : letC c = true := by
          unfold jq jQ at h2
          rw [Bool.and_eq_true, Bool.and_eq_true, Bool.and_eq_true] at h2
          exact h2.1.1.2
        have h := (tok_best hI (t := 1) (by decide) h3 (.name (c := c) (w := []) (of_decide_eq_true hlet).1)).1
        have e : jv 1 st = (jG (jR 1 st)).1 := by unfold jv; rw [if_pos (by decide)]
        rw [e] at h
        exact h
      | more h1 h2 h4 h5 h3 =>
        have hlet : letC c = true := by
          unfold jQ at h5
          rw [Bool.and_eq_true, Bool.and_eq_true] at h5
          exact h5.1.2
        have h := (tok_best hI (t := 1) (by decide) h3 (.name (c := c) (w := [48]) (of_decide_eq_true hlet).1)).1
        have e : jv 1 st = (jG (jR 1 st)).1 := by unfold jv; rw [if_pos (by decide)]
        rw [e] at h
        exact h
    · cases hs
  -- signs
  have sgn : ∀ W : List UInt8, vH st W -> leS (jG st).2 (W ++ (jG (jR (jS W) st)).2) /\ leS (jG st).1 (W ++ (jG (jR (jS W) st)).2) := fun W h => by
    obtain ⟨h1, h2, h3⟩ := sign_spell W h.1
    have hw : kM (jS W) = false := by rw [worded_of]; exact decide_eq_false (by omega)
    have hb := tok_best hI (ja W) h.2 (.fix h2 (by omega))
    have e : jv (jS W) st = (jG (jR (jS W) st)).2 := by unfold jv; rw [if_neg (by rw [hw]; decide)]
    rw [h1, e] at hb
    exact ⟨hb.1, hb.2 hw⟩
  split at hs
  · rename_i h2
    injection hs with hs; subst hs
    show leS (jG st).2 (c :: (if vH st [c] then _ else _)) /\ (jK c = false -> leS (jG st).1 (c :: (if vH st [c] then _ else _)))
    by_cases h1 : vH st [c]
    · rw [if_pos h1]
      exact ⟨(sgn [c] h1).1, fun _ => (sgn [c] h1).2⟩
    · rw [if_neg h1]
      exact ⟨(sgn [c, 61] h2).1, fun _ => (sgn [c, 61] h2).2⟩
  split at hs
  · rename_i h1
    injection hs with hs; subst hs
    exact ⟨(sgn [c] h1).1, fun _ => (sgn [c] h1).2⟩
  · cases hs
theorem two_vals : ∀ c : Fin 256, (decide (jS [UInt8.ofNat c.val] = 10) -> jS [UInt8.ofNat c.val, 61] = 11) /\ (decide (jS [UInt8.ofNat c.val] = 14) -> jS [UInt8.ofNat c.val, 61] = 15) /\ (decide (jS [UInt8.ofNat c.val] = 16) -> jS [UInt8.ofNat c.val, 61] = 17) := by decide +kernel
def relTwin (x t : Nat) : Bool := !jY x || (jD x t == jD x (t + 1))
theorem relTwin_all : ∀ x : Fin 85, relTwin x.val 14 = true /\ relTwin x.val 16 = true := by decide +kernel
theorem empty_lt {x : Nat} (h : jY x = true) : x < 85 := by
  have := of_decide_eq_true h
  omega
theorem relOne : ∀ n : Fin 85, (decide (14 <= n.val /\ n.val <= 17) || (!(jD n.val 14) || (decide (jt 14 30 [n.val] = some [77]) && jD n.val 15 && decide (jt 15 30 [n.val] = some [77])))) = true /\ (decide (14 <= n.val /\ n.val <= 17) || (!(jD n.val 16) || (decide (jt 16 30 [n.val] = some [77]) && jD n.val 17 && decide (jt 17 30 [n.val] = some [77])))) = true := by decide +kernel
theorem twin {st : List Nat} (hI : Inv st) {t : Nat} (ht : t = 14 \/ t = 16) (h1 : mayN t st = true) : jR t st = jR (t + 1) st := by
  have h58 : t < 58 := by omega
  obtain ⟨e, n, l, k, hst, he, hb, h85, hk, hst'⟩ := kZ h58 h1 (kl h58 h1)
  have hok := hI.ok
  rw [hst] at hok
  unfold okSt at hok
  rw [Bool.and_eq_true, sole_app, Bool.and_eq_true] at hok
  have h4 : soleB (n :: l) = (decide (n < 14 \/ 17 < n) && soleB l) := List.all_cons
  have h3 := hok.2.2
  rw [h4, Bool.and_eq_true] at h3
  have hn := of_decide_eq_true h3.1
  have hr := relOne ⟨n, h85⟩
  have hkey : k = [77] /\ jD n (t + 1) = true /\ jt (t + 1) 30 [n] = some [77] := by
    rcases ht with rfl | rfl
    · have h := hr.1
      simp only [decide_eq_false (show ¬ (14 <= n /\ n <= 17) by omega), hb, Bool.not_true, Bool.false_or, Bool.and_eq_true] at h
      have h5 := of_decide_eq_true h.1.1
      rw [hk] at h5
      exact ⟨Option.some.inj h5, h.1.2, of_decide_eq_true h.2⟩
    · have h := hr.2
      simp only [decide_eq_false (show ¬ (14 <= n /\ n <= 17) by omega), hb, Bool.not_true, Bool.false_or, Bool.and_eq_true] at h
      have h5 := of_decide_eq_true h.1.1
      rw [hk] at h5
      exact ⟨Option.some.inj h5, h.1.2, of_decide_eq_true h.2⟩
  have he2 : ∀ x ∈ e, jY x = true /\ jD x (t + 1) = false := fun x hx => by
    have h5 := List.all_eq_true.1 he x hx
    rw [Bool.and_eq_true, Bool.not_eq_true'] at h5
    refine ⟨h5.2, ?_⟩
    have h6 := relTwin_all ⟨x, empty_lt h5.2⟩
    rcases ht with rfl | rfl
    · have h7 := h6.1
      simp only [relTwin, h5.2, Bool.not_true, Bool.false_or, beq_iff_eq] at h7
      rw [<- h7]; exact h5.1
    · have h7 := h6.2
      simp only [relTwin, h5.2, Bool.not_true, Bool.false_or, beq_iff_eq] at h7
      rw [<- h7]; exact h5.1
  have h8 := (with_shape (l := l) (by omega) he2 hkey.2.1 hkey.2.2).2
  rw [hst', hkey.1, hst, h8]
theorem no_both {st : List Nat} (h1 : mayN 10 st = true) (h2 : mayN 11 st = true) : False := by
  obtain ⟨e, n, l, k, hst, he, hb, h85, hk, hst'⟩ := kZ (by decide) h1 (kl (by decide) h1)
  have hn : n = 10 := by
    have h3 : ∀ n : Fin 85, (!(jD n.val 10) || decide (n.val = 10)) = true := by decide +kernel
    have := h3 ⟨n, h85⟩
    simp only [hb, Bool.not_true, Bool.false_or] at this
    exact of_decide_eq_true this
  subst hn
  rw [hst, may11 (List.all_eq_true.2 fun x hx => by
    have := List.all_eq_true.1 he x hx
    rw [Bool.and_eq_true] at this
    exact this.2)] at h2
  cases h2
theorem word_at (w : List UInt8) (h : kj w ≠ 0) : ∃ i, resL[i]? = some w /\ kj w = 23 + i := by
  have key : ∀ (l : List (List UInt8)) (i : Nat), l = resL.drop i -> jn (23 + i) w l ≠ 0 -> ∃ j, resL[j]? = some w /\ jn (23 + i) w l = 23 + j := by
    intro l
    induction l with
    | nil => exact fun i _ h => absurd rfl h
    | cons r l ih =>
      intro i hl h0
      have hi : resL[i]? = some r := by
        have h := congrArg (fun l => l[0]?) hl
        simp only [List.getElem?_drop, Nat.add_zero] at h
        exact h.symm
      have hl2 : l = resL.drop (i + 1) := by rw [<- List.drop_drop, <- hl]; rfl
      rw [jn] at h0 ⊢
      by_cases e : r = w
      · rw [if_pos e]
        exact ⟨i, by rw [hi, e], rfl⟩
      · rw [if_neg e] at h0 ⊢
        exact ih (i + 1) hl2 h0
  exact key resL 0 rfl h
theorem bell {b b' : Bs} {c : UInt8} (h : InvB b) (hs : kV b c = some b') : leS (finS b) (c :: finS b') := by
  obtain ⟨st, md⟩ := b
  obtain ⟨hI, hm⟩ := h
  cases md with
  | btw => exact (bell_btw hI hs).1
  | com =>
    have hs : (if lfC c = true then some (⟨st, .btw⟩ : Bs) else some ⟨st, .com⟩) = some b' := hs
    show leS (if (jG st).2 = [] then [] else 10 :: (jG st).2) _
    split at hs
    · rename_i hl
      injection hs with hs; subst hs
      have hc : c = 10 := UInt8.toNat_inj.1 (of_decide_eq_true hl)
      show leS _ (c :: (jG st).2)
      rw [hc]
      split
      · exact .of_lt (by simp)
      · exact .refl _
    · injection hs with hs; subst hs
      exact .of_lt (by show _ < (c :: (if (jG st).2 = [] then [] else 10 :: (jG st).2)).length; simp)
  | wrd w =>
    obtain ⟨hf, hne, hall⟩ := hm
    have hbest := (wordEnd_best hI hf hne hall).2
    show leS (kR st w) _
    by_cases hw : jK c = true
    · rw [step_wrd st w c hw] at hs
      split at hs
      · rename_i hf2
        injection hs with hs; subst hs
        show leS _ (c :: kR st (w ++ [c]))
        have hopt := (wordEnd_best hI hf2 (by simp) (by rw [List.all_append, hall, List.all_cons, hw]; rfl)).1
        generalize kR st (w ++ [c]) = r at hopt
        cases hopt with
        | @res i x h1 h2 h3 =>
          obtain ⟨g1, g2⟩ := head_pre h2
          have h := hbest _ (.res h1 g2 h3)
          rw [g1] at h
          rw [List.length_append, List.length_singleton]
          exact h
        | int h1 h2 =>
          rw [head_app hne] at h1
          exact (hbest _ (.int h1 h2)).trans (.of_lt (by simp))
        | name h1 h2 h3 =>
          rw [head_app hne] at h1
          cases hl : jq w with
          | true => exact (hbest _ (.name h1 hl h3)).trans (.of_lt (by simp))
          | false =>
            unfold jq at h2
            rw [Bool.and_eq_true] at h2
            have hsn := h2.1
            have hlen : w.length < 64 := by
              unfold jQ at hsn
              rw [Bool.and_eq_true, Bool.and_eq_true] at hsn
              have := of_decide_eq_true hsn.1.1
              rw [List.length_append, List.length_singleton] at this
              omega
            refine (hbest _ (.more h1 hl hlen (name_prefix ⟨[c], rfl⟩ hne hsn) h3)).trans ?_
            rcases Nat.lt_or_ge 48 c.toNat with h | h
            · exact .head (Nat.le_refl _) (by show 48 < c.toNat; exact h)
            · have hc : c = 48 := UInt8.toNat_inj.1 (by show c.toNat = 48; have := word_ge hw; omega)
              rw [hc]; exact .refl _
        | more h1 h2 h4 h5 h3 =>
          rw [head_app hne] at h1
          cases hl : jq w with
          | true => exact (hbest _ (.name h1 hl h3)).trans (.of_lt (by simp only [List.length_cons]; omega))
          | false =>
            rw [List.length_append, List.length_singleton] at h4
            exact (hbest _ (.more h1 hl (by omega) (name_prefix ⟨[c], rfl⟩ hne h5) h3)).trans (.of_lt (by simp only [List.length_cons]; omega))
      · cases hs
    · have hw' : jK c = false := by simpa using hw
      rw [step_wend st w c hw'] at hs
      split at hs
      · rename_i hp
        have hb := (bell_btw (hI.take (kr w) hp.2) hs).2 hw'
        refine (hbest _ ?_).trans hb
        by_cases hd : digC (w.headD 0) = true
        · have e : jU w = 2 := by unfold jU; rw [if_pos hd]
          rw [e] at hp ⊢
          exact .int hd hp.2
        · have hd' : digC (w.headD 0) = false := by simpa using hd
          by_cases h0 : kj w = 0
          · have e : jU w = 1 := by unfold jU; rw [if_neg hd, if_pos h0]
            rw [e] at hp ⊢
            refine .name hd' ?_ hp.2
            have h1 := hp.1
            unfold jj at h1
            rw [Bool.or_eq_true, Bool.or_eq_true, Bool.and_eq_true] at h1
            rcases h1 with (h1 | h1) | h1
            · exact absurd h1.1 hd
            · exact absurd h0 (of_decide_eq_true h1)
            · exact h1
          · have e : jU w = kj w := by unfold jU; rw [if_neg hd, if_neg h0]
            obtain ⟨i, hi, hi2⟩ := word_at w h0
            rw [e, hi2] at hp ⊢
            have := Opt.res (st := st) (w := w) hi (List.prefix_refl _) hp.2
            rw [List.drop_length, List.nil_append] at this
            exact this
      · cases hs
  | sgn s =>
    have hm : vH st [s, 61] := hm
    show leS (if vH st [s] then (jG (jR (jS [s]) st)).2 else 61 :: (jG (jR (jS [s, 61]) st)).2) _
    by_cases h61 : c = 61
    · subst h61
      rw [step_sgn2] at hs
      injection hs with hs; subst hs
      show leS _ (61 :: (jG (jR (jS [s, 61]) st)).2)
      by_cases h1 : vH st [s]
      · rw [if_pos h1]
        have hv := two_vals ⟨s.toNat, s.toNat_lt⟩
        simp only [UInt8.ofNat_toNat] at hv
        rcases two_sign hm.1 h1.1 with h | h | h
        · exfalso
          have h2 := hv.1 (decide_eq_true h)
          have m1 := h1.2
          have m2 := hm.2
          rw [h] at m1
          rw [h2] at m2
          exact no_both m1 m2
        · have h2 := hv.2.1 (decide_eq_true h)
          have m1 := h1.2
          rw [h] at m1
          rw [h, h2, twin hI (.inl rfl) m1]
          exact .of_lt (by simp)
        · have h2 := hv.2.2 (decide_eq_true h)
          have m1 := h1.2
          rw [h] at m1
          rw [h, h2, twin hI (.inr rfl) m1]
          exact .of_lt (by simp)
      · rw [if_neg h1]
        exact .refl _
    · by_cases h1 : vH st [s]
      · rw [step_sgn1 st s c h61 h1] at hs
        rw [if_pos h1]
        exact (bell_btw (hI.take (ja _) h1.2) hs).1
      · exfalso
        have : kV ⟨st, .sgn s⟩ c = none := by
          unfold kV
          exact (if_neg h61).trans (if_neg h1)
        rw [this] at hs
        cases hs
  | txt e =>
    obtain ⟨h3, h4, h7⟩ := hm
    have hs : txtB st e c = some b' := hs
    have fin4 : finS ⟨st, .txt 4⟩ = 34 :: (jG (jR 3 st)).2 := rfl
    have fin5 : finS ⟨st, .txt 5⟩ = 34 :: 34 :: (jG (jR 3 st)).2 := rfl
    have fin6 : finS ⟨st, .txt 6⟩ = 48 :: 48 :: 34 :: (jG (jR 3 st)).2 := rfl
    have fin7 : finS ⟨st, .txt 7⟩ = 48 :: 34 :: (jG (jR 3 st)).2 := rfl
    have same : ∀ (d : UInt8) (X : List UInt8), d.toNat <= c.toNat -> leS (d :: X) (c :: X) := fun d X h => by
      rcases Nat.lt_or_ge d.toNat c.toNat with h1 | h1
      · exact .head (Nat.le_refl _) h1
      · have : c = d := UInt8.toNat_inj.1 (by omega)
        rw [this]; exact .refl _
    have hhex : hexC c = true -> 48 <= c.toNat := fun h => by
      unfold hexC digC at h
      rw [Bool.or_eq_true] at h
      rcases h with h | h <;> (have := of_decide_eq_true h; omega)
    have he : e = 4 \/ e = 5 \/ e = 6 \/ e = 7 := by omega
    unfold txtB at hs
    rcases he with rfl | rfl | rfl | rfl
    · rw [if_pos rfl] at hs
      rw [fin4]
      split at hs
      · rename_i h
        injection hs with hs; subst hs
        have hc : c = 34 := UInt8.toNat_inj.1 h
        rw [hc]
        exact .refl _
      split at hs
      · injection hs with hs; subst hs
        rw [fin5]
        exact .of_lt (by simp only [List.length_cons]; omega)
      split at hs
      · cases hs
      · injection hs with hs; subst hs
        rw [fin4]
        exact .of_lt (by simp only [List.length_cons]; omega)
    · rw [if_neg (by decide), if_pos rfl] at hs
      rw [fin5]
      split at hs
      · injection hs with hs; subst hs
        rw [fin6]
        exact .of_lt (by simp only [List.length_cons]; omega)
      split at hs
      · rename_i h
        injection hs with hs; subst hs
        rw [fin4]
        exact same 34 _ (by show 34 <= c.toNat; omega)
      · cases hs
    · rw [if_neg (by decide), if_neg (by decide)] at hs
      rw [fin6]
      split at hs
      · cases hs
      · rename_i h
        injection hs with hs; subst hs
        have hf7 : finS ⟨st, .txt (if 6 = 7 then 4 else 6 + 1)⟩ = 48 :: 34 :: (jG (jR 3 st)).2 := rfl
        rw [hf7]
        exact same 48 _ (hhex (by simpa using h))
    · rw [if_neg (by decide), if_neg (by decide)] at hs
      rw [fin7]
      split at hs
      · cases hs
      · rename_i h
        injection hs with hs; subst hs
        have hf4 : finS ⟨st, .txt (if 7 = 7 then 4 else 7 + 1)⟩ = 34 :: (jG (jR 3 st)).2 := rfl
        rw [hf4]
        exact same 48 _ (hhex (by simpa using h))
theorem best {b : Bs} (h : InvB b) : ∀ (q : List UInt8), Done b q -> leS (finS b) q := by
  intro q
  induction q generalizing b with
  | nil =>
    rintro ⟨b', h1, h2⟩
    rw [runB] at h1
    injection h1 with h1
    rw [<- h1] at h2
    rw [acc_fin h2]
    exact .refl _
  | cons c q ih =>
    rintro ⟨b', h1, h2⟩
    rw [runB] at h1
    cases hs : kV b c with
    | none => rw [hs] at h1; cases h1
    | some b1 =>
      rw [hs] at h1
      have hd : Done b1 q := ⟨b', runB_at q b1 b' 1 0 h1, h2⟩
      exact (bell h hs).trans ((leS.cons c).2 (ih (step_inv h hs) hd))
theorem fin_next {b : Bs} (h : InvB b) {c : UInt8} {r : List UInt8} (hf : finS b = c :: r) : ∃ b', kV b c = some b' /\ finS b' = r := by
  obtain ⟨b2, h1, h2⟩ := fin_done h
  rw [hf, runB] at h1
  cases hs : kV b c with
  | none => rw [hs] at h1; cases h1
  | some b1 =>
    rw [hs] at h1
    have hd : Done b1 r := ⟨b2, runB_at r b1 b2 1 0 h1, h2⟩
    have k1 := best (step_inv h hs) r hd
    have k2 := bell h hs
    rw [hf, leS.cons] at k2
    exact ⟨b1, rfl, k1.antisymm k2⟩
open Go.RowKit
def ParW (w : World) (l : List UInt8) (e : Ending) (w' : World) : Prop := ∃ nm ta aA an ac gA gn gc mA mn mc pA pn pc nA nn nc oA on oc, e = .returned (.tuple #[.agg #[.string nm, .int .i64 ta, .slice aA an ac, .slice gA gn gc, .slice mA mn mc, .slice pA pn pc, .slice nA nn nc, .slice oA on oc], .int .i64 (parAt l : Int), .int .i64 (parE l : Int)]) /\ Old w w'
theorem par9_any (w : World) (hg : Sg w) (h8 : 8 <= w.heap.size) (A : Option Addr) (n c : Nat) (l : List UInt8) (hr : Rd w 1 A n (l.map bv)) : Calls Tryz.prog 26 #[.slice A n c] w (ParW w l) := by
  have hn : l.length = n := by simpa using hr.1
  by_cases hl : l.length <= 60000
  · unfold ParW parAt parE parsesN
    rw [if_pos hl, if_pos hl]
    cases hb : kG l with
    | error k => exact (parse_bad w hg h8 A n c l hr hl k hb).mono fun e w' ⟨he, ho⟩ => ⟨_, _, _, _, _, _, _, _, _, _, _, _, _, _, _, _, _, _, _, _, he, ho⟩
    | ok m =>
      simp only
      by_cases hm : m.stack = []
      · rw [if_pos hm]
        obtain ⟨r, hk⟩ := read_all hb hm hl
        exact (parse_ok w hg h8 A n c l hr hl m hb hm _ r hk).mono fun e w' ⟨g, s, he, _, ho, _⟩ => ⟨_, _, _, _, _, _, _, _, _, _, _, _, _, _, _, _, _, _, _, _, he, ho⟩
      · rw [if_neg hm]
        exact (parse_short w hg h8 A n c l hr hl m hb hm).mono fun e w' ⟨he, ho⟩ => ⟨_, _, _, _, _, _, _, _, _, _, _, _, _, _, _, _, _, _, _, _, he, ho⟩
  · unfold ParW
    rw [(par_long hl).1, (par_long hl).2.1]
    exact (parse_long w A n c (by omega)).mono fun e w' ⟨he, ho⟩ => ⟨_, _, _, _, _, _, _, _, _, _, _, _, _, _, _, _, _, _, _, _, he, ho⟩
theorem take_rd {W : World} {A : Option Addr} {n k : Nat} {l : List UInt8} (h : Rd W 1 A n (l.map bv)) (hk : k <= n) : Rd W 1 A k ((l.take k).map bv) := by
  have h1 := h.take_ hk
  rw [Nat.mul_one, <- List.map_take] at h1
  exact h1
section
variable (w : World) (hg : Sg w) (h8 : 8 <= w.heap.size) (B : Option Addr) (d : Nat) (l : List UInt8) (hr : Rd w 1 B l.length (l.map bv)) (hl : l.length <= 100000000)
include hg h8 hr hl
end
end Go.Proofs.YtmmjcbbogokmfaaGreatDoor
