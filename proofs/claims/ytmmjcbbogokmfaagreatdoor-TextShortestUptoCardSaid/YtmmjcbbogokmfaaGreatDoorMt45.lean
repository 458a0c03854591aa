import Derived.Test.YtmmjcbbogokmfaaGreatDoorMt44
set_option maxRecDepth 100000
set_option maxHeartbeats 25600000
namespace Go.Proofs.YtmmjcbbogokmfaaGreatDoor
def leS (x y : List UInt8) : Prop := vG y x = false
theorem ltB_irrefl : ∀ x : List UInt8, ltB x x = false
  | [] => rfl
  | a :: x => by rw [ltB, if_pos rfl]; exact ltB_irrefl x
theorem ltB_trans : ∀ {x y z : List UInt8}, x.length = y.length -> y.length = z.length -> ltB x y = true -> ltB y z = true -> ltB x z = true
  | [], _, _, _, _, h, _ => by cases h
  | a :: x, [], _, h, _, _, _ => by cases h
  | a :: x, b :: y, [], _, h, _, _ => by cases h
  | a :: x, b :: y, c :: z, h1, h2, hxy, hyz => by
    rw [List.length_cons, List.length_cons] at h1 h2
    rw [ltB] at hxy hyz ⊢
    by_cases hab : a = b
    · subst hab
      rw [if_pos rfl] at hxy
      by_cases hac : a = c
      · rw [if_pos hac] at hyz ⊢
        exact ltB_trans (by omega) (by omega) hxy hyz
      · rw [if_neg hac] at hyz ⊢
        exact hyz
    · rw [if_neg hab] at hxy
      have h3 := of_decide_eq_true hxy
      by_cases hbc : b = c
      · subst hbc
        rw [if_neg hab]
        exact hxy
      · rw [if_neg hbc] at hyz
        have h4 := of_decide_eq_true hyz
        rw [if_neg (fun e => by rw [e] at h3; omega)]
        exact decide_eq_true (by omega)
theorem ltB_total : ∀ {x y : List UInt8}, x.length = y.length -> ltB x y = false -> ltB y x = false -> x = y
  | [], [], _, _, _ => rfl
  | [], _ :: _, h, _, _ => by cases h
  | _ :: _, [], h, _, _ => by cases h
  | a :: x, b :: y, h, h1, h2 => by
    rw [List.length_cons, List.length_cons] at h
    rw [ltB] at h1 h2
    by_cases hab : a = b
    · subst hab
      rw [if_pos rfl] at h1 h2
      rw [ltB_total (by omega) h1 h2]
    · rw [if_neg hab] at h1
      rw [if_neg (fun e => hab e.symm)] at h2
      have h3 := of_decide_eq_false h1
      have h4 := of_decide_eq_false h2
      exact absurd (UInt8.toNat_inj.1 (by omega)) hab
theorem leS_iff {x y : List UInt8} : leS x y ↔ x.length < y.length \/ (x.length = y.length /\ ltB y x = false) := by
  unfold leS vG
  by_cases h : y.length = x.length
  · rw [if_pos h]
    constructor
    · exact fun e => .inr ⟨h.symm, e⟩
    · rintro (e | e)
      · omega
      · exact e.2
  · rw [if_neg h]
    constructor
    · intro e
      have := of_decide_eq_false e
      exact .inl (by omega)
    · rintro (e | e)
      · exact decide_eq_false (by omega)
      · exact absurd e.1.symm h
theorem leS.refl (x : List UInt8) : leS x x := leS_iff.2 (.inr ⟨rfl, ltB_irrefl x⟩)
theorem leS.of_lt {x y : List UInt8} (h : x.length < y.length) : leS x y := leS_iff.2 (.inl h)
theorem leS.len {x y : List UInt8} (h : leS x y) : x.length <= y.length := by rcases leS_iff.1 h with h | h <;> omega
theorem ltB_asymm : ∀ {x y : List UInt8}, x.length = y.length -> ltB x y = true -> ltB y x = false := fun {x y} h h1 => by
  cases h2 : ltB y x with
  | false => rfl
  | true =>
    have := ltB_trans h h.symm h1 h2
    rw [ltB_irrefl] at this
    cases this
theorem leS.trans {x y z : List UInt8} (h : leS x y) (k : leS y z) : leS x z := by
  rcases leS_iff.1 h with h1 | ⟨h1, h2⟩
  · exact .of_lt (by have := k.len; omega)
  rcases leS_iff.1 k with k1 | ⟨k1, k2⟩
  · exact .of_lt (by omega)
  refine leS_iff.2 (.inr ⟨by omega, ?_⟩)
  cases h3 : ltB z x with
  | false => rfl
  | true =>
    exfalso
    -- z < x <= y
    cases h4 : ltB x y with
    | true =>
      have := ltB_trans (by omega) h1 h3 h4
      rw [this] at k2
      cases k2
    | false =>
      have he := ltB_total h1 h4 h2
      rw [he] at h3
      rw [h3] at k2
      cases k2
theorem leS.antisymm {x y : List UInt8} (h : leS x y) (k : leS y x) : x = y := by
  rcases leS_iff.1 h with h1 | ⟨h1, h2⟩
  · have := k.len; omega
  rcases leS_iff.1 k with k1 | ⟨k1, k2⟩
  · omega
  exact ltB_total h1 k2 h2
theorem leS.cons {x y : List UInt8} (c : UInt8) : leS (c :: x) (c :: y) ↔ leS x y := by
  rw [leS_iff, leS_iff, List.length_cons, List.length_cons, ltB, if_pos rfl]
  constructor
  · rintro (h | h)
    · exact .inl (by omega)
    · exact .inr ⟨by omega, h.2⟩
  · rintro (h | h)
    · exact .inl (by omega)
    · exact .inr ⟨by omega, h.2⟩
theorem leS.head {x y : List UInt8} {a b : UInt8} (hl : x.length <= y.length) (h : a.toNat < b.toNat) : leS (a :: x) (b :: y) := by
  rcases Nat.lt_or_ge x.length y.length with h1 | h1
  · exact .of_lt (by rw [List.length_cons, List.length_cons]; omega)
  · refine leS_iff.2 (.inr ⟨by rw [List.length_cons, List.length_cons]; omega, ?_⟩)
    rw [ltB, if_neg (fun e => by rw [e] at h; omega)]
    exact decide_eq_false (by omega)
theorem less_le (x y : List UInt8) : leS (vN x y) x /\ leS (vN x y) y := by
  unfold vN
  by_cases h : vG y x = true
  · rw [if_pos h]
    refine ⟨?_, .refl _⟩
    unfold vG at h
    split at h
    · rename_i hl
      exact leS_iff.2 (.inr ⟨hl, ltB_asymm hl h⟩)
    · exact .of_lt (of_decide_eq_true h)
  · rw [if_neg h]
    exact ⟨.refl _, by unfold leS; simpa using h⟩
def tabbed (e : List UInt8 × List UInt8) : Prop := e.1 = e.2 \/ e.1 = 9 :: e.2
theorem before_tab (n : Nat) (e : List UInt8 × List UInt8) (h : tabbed e) : tabbed (jh n e) /\ e.2.length <= (jh n e).2.length /\ (jY n = false -> n < 85 -> termOk n = true -> e.2.length + 1 <= (jh n e).2.length) := by
  have hl : e.2.length <= e.1.length := by rcases h with h | h <;> rw [h] <;> simp
  unfold jh
  by_cases he : jY n = true
  · rw [if_pos he]
    exact ⟨h, Nat.le_refl _, fun e2 => by rw [he] at e2; cases e2⟩
  rw [if_neg he]
  by_cases h60 : n = 60
  · rw [if_pos h60]
    refine ⟨.inr rfl, ?_, fun _ _ _ => ?_⟩
    · simp only [List.length_append]; omega
    · simp only [List.length_append]
      have : (jH 34).length = 3 := rfl
      omega
  rw [if_neg h60]
  by_cases h58 : 58 <= n
  · rw [if_pos h58]
    have l2 := less_either (48 :: e.1) (34 :: 34 :: e.2)
    refine ⟨?_, ?_, fun _ _ _ => ?_⟩
    · -- which of the two is kw
      have hA := less_le (9 :: 48 :: e.1) (34 :: 34 :: e.2)
      have hB := less_le (48 :: e.1) (34 :: 34 :: e.2)
      have l1 := less_either (9 :: 48 :: e.1) (34 :: 34 :: e.2)
      rcases l2 with h2 | h2
      · refine .inr ?_
        show vN (9 :: 48 :: e.1) (34 :: 34 :: e.2) = 9 :: vN (48 :: e.1) (34 :: 34 :: e.2)
        rw [h2] at hB ⊢
        refine hA.1.antisymm ?_
        rcases l1 with h1 | h1
        · rw [h1]; exact .refl _
        · rw [h1]
          -- the text is not shorter than the integer: it is longer
          have hlen := hB.2.len
          simp only [List.length_cons] at hlen
          rcases Nat.lt_or_ge (e.1.length + 1) (e.2.length + 2) with hl2 | hl2
          · exact .head (by simp only [List.length_cons]; omega) (by decide)
          · have := leS_iff.1 hB.2
            rcases this with h3 | ⟨_, h3⟩
            · simp only [List.length_cons] at h3; omega
            · rw [ltB, if_neg (by decide)] at h3
              exact absurd (of_decide_eq_false h3) (by decide)
      · refine .inl ?_
        show vN (9 :: 48 :: e.1) (34 :: 34 :: e.2) = vN (48 :: e.1) (34 :: 34 :: e.2)
        rw [h2] at hB ⊢
        refine hA.2.antisymm ?_
        rcases l1 with h1 | h1
        · rw [h1]
          have hlen := hB.1.len
          simp only [List.length_cons] at hlen
          exact .of_lt (by simp only [List.length_cons]; omega)
        · rw [h1]; exact .refl _
    · rcases l2 with h2 | h2
      · show e.2.length <= (vN _ _).length
        rw [h2]; simp only [List.length_cons]; omega
      · show e.2.length <= (vN _ _).length
        rw [h2]; simp only [List.length_cons]; omega
    · rcases l2 with h2 | h2
      · show e.2.length + 1 <= (vN _ _).length
        rw [h2]; simp only [List.length_cons]; omega
      · show e.2.length + 1 <= (vN _ _).length
        rw [h2]; simp only [List.length_cons]; omega
  rw [if_neg h58]
  have hsp : n < 85 -> termOk n = true -> 1 <= (jH n).length := fun _ ht => by
    have h2 := of_decide_eq_true ht
    have h3 : ∀ n : Fin 58, (decide (n.val = 1 \/ (4 <= n.val /\ n.val <= 11) \/ (23 <= n.val)) -> 1 <= (jH n.val).length) := by decide
    exact h3 ⟨n, by omega⟩ (decide_eq_true (by simp only; omega))
  by_cases hw : kM n = true
  · rw [if_pos hw]
    refine ⟨.inr rfl, ?_, fun _ h85 ht => ?_⟩
    · simp only [List.length_append]; omega
    · have := hsp h85 ht
      simp only [List.length_append]; omega
  · rw [if_neg hw]
    refine ⟨.inl rfl, ?_, fun _ h85 ht => ?_⟩
    · simp only [List.length_append]; omega
    · have := hsp h85 ht
      simp only [List.length_append]; omega
theorem rest_tab : ∀ st : List Nat, tabbed (jG st)
  | [] => .inl rfl
  | n :: l => (before_tab n (jG l) (rest_tab l)).1
theorem tab_le {e : List UInt8 × List UInt8} (h : tabbed e) : leS e.2 e.1 /\ e.2.length <= e.1.length := by
  rcases h with h | h
  · rw [h]; exact ⟨.refl _, Nat.le_refl _⟩
  · rw [h]; exact ⟨.of_lt (by simp), by simp⟩
theorem rest_cnt : ∀ (k l : List Nat), (k.all termOk) = true -> (jG l).2.length + cntNE k <= (jG (k ++ l)).2.length
  | [], l, _ => Nat.le_refl _
  | n :: k, l, h => by
    rw [List.all_cons, Bool.and_eq_true] at h
    have ih := rest_cnt k l h.2
    have hb := before_tab n (jG (k ++ l)) (rest_tab _)
    rw [List.cons_append]
    show _ <= (jh n (jG (k ++ l))).2.length
    have ht := of_decide_eq_true h.1
    cases he : jY n with
    | true =>
      have : cntNE (n :: k) = cntNE k := by unfold cntNE; rw [List.filter_cons, if_neg (by rw [he]; decide)]
      have := hb.2.1
      omega
    | false =>
      have h2 := hb.2.2 he (by omega) h.1
      have := cntNE_one n k he
      omega
inductive Spell : Nat -> List UInt8 -> Prop
  | name {c : UInt8} {w : List UInt8} : 97 <= c.toNat -> Spell 1 (c :: w)
  | int {c : UInt8} {w : List UInt8} : 48 <= c.toNat -> Spell 2 (c :: w)
  | text {c : UInt8} {w : List UInt8} : 34 <= c.toNat -> Spell 3 (34 :: c :: w)
  | fix {t : Nat} : 4 <= t -> t < 58 -> Spell t (jH t)
def jv (t : Nat) (st : List Nat) : List UInt8 := if kM t = true then (jG (jR t st)).1 else (jG (jR t st)).2
theorem spelled_pos : ∀ t : Fin 58, (decide (4 <= t.val) -> (jH t.val ≠ [] /\ (kM t.val = false -> 9 < ((jH t.val).headD 0).toNat /\ 34 < ((jH t.val).headD 0).toNat \/ t.val = 22 \/ t.val = 13))) := by decide
theorem Spell.ne {t : Nat} {W : List UInt8} (h : Spell t W) : 1 <= W.length := by
  cases h with
  | name _ => simp
  | int _ => simp
  | text _ => simp
  | fix h1 h2 =>
    have := (spelled_pos ⟨t, h2⟩ (decide_eq_true h1)).1
    exact List.length_pos_iff.2 this
theorem Spell.head9 {t : Nat} {W : List UInt8} (h : Spell t W) (hw : kM t = false) : ∃ c w, W = c :: w /\ 9 < c.toNat := by
  cases h with
  | name _ => exact absurd hw (by decide)
  | int _ => exact absurd hw (by decide)
  | text _ => exact ⟨34, _, rfl, by decide⟩
  | fix h1 h2 =>
    have h3 : ∀ t : Fin 58, (decide (4 <= t.val /\ t.val < 23) -> jH t.val ≠ [] /\ 9 < ((jH t.val).headD 0).toNat) := by decide
    have h4 : t < 23 := by
      unfold kM at hw
      have := of_decide_eq_false hw
      omega
    obtain ⟨g1, g2⟩ := h3 ⟨t, h2⟩ (decide_eq_true ⟨h1, h4⟩)
    simp only at g1 g2
    cases hs : jH t with
    | nil => exact absurd hs g1
    | cons c w => rw [hs] at g2; exact ⟨c, w, rfl, g2⟩
theorem behind_len (t : Nat) (st : List Nat) : (jG (jR t st)).2.length <= (jv t st).length := by
  unfold jv
  split
  · exact (tab_le (rest_tab _)).2
  · exact Nat.le_refl _
theorem tok_early {e l k : List Nat} {x t : Nat} {W : List UInt8} (hs : Spell t W) (hw : jR t (e ++ x :: l) = k ++ l) (hk : (k.all termOk) = true) (he : (e ++ [x]).all jY = true) : leS (jG (e ++ x :: l)).2 (W ++ jv t (e ++ x :: l)) /\ (kM t = false -> leS (jG (e ++ x :: l)).1 (W ++ jv t (e ++ x :: l))) := by
  have hr : jG (e ++ x :: l) = jG l := by
    have := vV (e ++ [x]) l he
    rw [List.append_assoc] at this
    exact this
  have h1 := hs.ne
  have h2 := behind_len t (e ++ x :: l)
  have h3 := rest_cnt k l hk
  rw [<- hw] at h3
  rw [hr]
  refine ⟨.of_lt (by rw [List.length_append]; omega), fun hwd => ?_⟩
  obtain ⟨c, w, rfl, hc⟩ := hs.head9 hwd
  rw [List.length_cons] at h1
  rcases rest_tab l with h | h
  · rw [h]; exact .of_lt (by rw [List.length_append, List.length_cons]; omega)
  · rw [h, List.cons_append]
    exact .head (by rw [List.length_append]; omega) (by simpa using hc)
def exprGrow (m t : Nat) : Bool := !(decide (69 <= m) && !jY m && jD m t) || (match jt t 30 [m] with
  | some k => k.all termOk && (if t <= 3 then k.all jY else if 23 <= t then decide (3 <= (jH t).length + cntNE k) else decide (1 <= cntNE k) && decide (34 < ((jH t).headD 0).toNat))
  | none => false)
theorem exprGrow_all : ∀ m : Fin 85, ∀ t : Fin 58, exprGrow m.val t.val = true := by decide +kernel
def termGrow (n t : Nat) : Bool := !jD n t || (match jt t 30 [n] with | some k => k.all termOk | none => false)
theorem termGrow_all : ∀ n : Fin 85, ∀ t : Fin 58, termGrow n.val t.val = true := by decide +kernel
theorem expr_opts (m : Nat) (e : List UInt8 × List UInt8) (hm : jY m = false) (h69 : 69 <= m) : leS (jh m e).2 (48 :: e.1) /\ leS (jh m e).2 (34 :: 34 :: e.2) /\ leS (jh m e).1 (34 :: 34 :: e.2) := by
  unfold jh
  rw [if_neg (by rw [hm]; decide), if_neg (by omega), if_pos (by omega)]
  exact ⟨(less_le _ _).1, (less_le _ _).2, (less_le _ _).2⟩
theorem tok_best {st : List Nat} (hI : Inv st) {t : Nat} (ht : t < 58) (hm : mayN t st = true) {W : List UInt8} (hs : Spell t W) : leS (jG st).2 (W ++ jv t st) /\ (kM t = false -> leS (jG st).1 (W ++ jv t st)) := by
  obtain ⟨e0, n, l0, k, hst, he0, hb, h85, hk, hst'⟩ := kZ ht hm (kl ht hm)
  have hkt : (k.all termOk) = true := by
    have h := termGrow_all ⟨n, h85⟩ ⟨t, ht⟩
    simp only [termGrow, hb, Bool.not_true, Bool.false_or, hk] at h
    exact h
  have he1 : e0.all jY = true := List.all_eq_true.2 fun x hx => by
    have := List.all_eq_true.1 he0 x hx
    rw [Bool.and_eq_true] at this
    exact this.2
  cases hem : jY n with
  | true =>
    rw [hst] at hst' ⊢
    exact tok_early hs hst' hkt (by rw [List.all_append, he1, List.all_cons, hem]; rfl)
  | false =>
    have hr : jG st = jh n (jG l0) := by rw [hst]; exact vV e0 (n :: l0) he1
    have hwell := hI.well
    rw [hst] at hwell
    have hwell := yO e0 _ hwell
    rw [wellB, Bool.and_eq_true, Bool.and_eq_true] at hwell
    have hterm : n = 1 \/ (4 <= n /\ n <= 11) \/ (23 <= n /\ n < 85) := of_decide_eq_true hwell.1.1
    have htab := tab_le (rest_tab l0)
    rw [hr]
    rcases Nat.lt_or_ge n 58 with h58 | h58
    · -- the terminal itself
      obtain rfl := vR h58 hb
      have hk0 : k = [] := by
        have h1 := (term_take (m := n) (by omega) h58).2
        rw [h1] at hk
        exact (Option.some.inj hk).symm
      subst hk0
      rw [List.nil_append] at hst'
      unfold jv
      rw [hst']
      by_cases hw : kM n = true
      · rw [if_pos hw]
        have hbf : jh n (jG l0) = (9 :: (jH n ++ (jG l0).1), jH n ++ (jG l0).1) := by
          unfold jh
          rw [if_neg (by rw [hem]; decide), if_neg (by omega), if_neg (by omega), if_pos hw]
        rw [hbf]
        refine ⟨?_, fun h => by rw [hw] at h; cases h⟩
        cases hs with
        | @name c w hc =>
          show leS (97 :: (jG l0).1) (c :: (w ++ (jG l0).1))
          rcases Nat.lt_or_ge 97 c.toNat with h | h
          · exact .head (by rw [List.length_append]; omega) (by simpa using h)
          · have : c = 97 := UInt8.toNat_inj.1 (by show c.toNat = 97; omega)
            rw [this, leS.cons]
            cases w with
            | nil => exact .refl _
            | cons a w => exact .of_lt (by simp only [List.cons_append, List.length_cons, List.length_append]; omega)
        | int _ => exact absurd hterm (by decide)
        | text _ => exact absurd hterm (by decide)
        | fix h1 h2 => exact .refl _
      · have hw' : kM n = false := by simpa using hw
        rw [if_neg hw]
        have hbf : jh n (jG l0) = (jH n ++ (jG l0).2, jH n ++ (jG l0).2) := by
          unfold jh
          rw [if_neg (by rw [hem]; decide), if_neg (by omega), if_neg (by omega), if_neg hw]
        rw [hbf]
        cases hs with
        | name _ => exact absurd hw' (by decide)
        | int _ => exact absurd hw' (by decide)
        | text _ => exact absurd hterm (by decide)
        | fix h1 h2 => exact ⟨.refl _, fun _ => .refl _⟩
    · by_cases h60 : n = 60
      · subst h60
        have ht5 : 34 <= t /\ t <= 38 := by simpa [jD] using hb
        have hk0 : k = [] := by
          have h1 : ∀ t : Fin 58, (decide (34 <= t.val /\ t.val <= 38) -> jt t.val 30 [60] = some []) := by decide
          rw [h1 ⟨t, ht⟩ (decide_eq_true ht5)] at hk
          exact (Option.some.inj hk).symm
        subst hk0
        rw [List.nil_append] at hst'
        have hw : kM t = true := decide_eq_true (by omega)
        unfold jv
        rw [if_pos hw, hst']
        have hbf : jh 60 (jG l0) = (9 :: (jH 34 ++ (jG l0).1), jH 34 ++ (jG l0).1) := by
          unfold jh
          rw [if_neg (by decide), if_pos rfl]
        rw [hbf]
        refine ⟨?_, fun h => by rw [hw] at h; cases h⟩
        cases hs with
        | name _ => omega
        | int _ => omega
        | text _ => omega
        | fix h1 h2 =>
          have h5 : t = 34 \/ t = 35 \/ t = 36 \/ t = 37 \/ t = 38 := by omega
          show leS (105 :: 110 :: 116 :: (jG l0).1) (jH t ++ (jG l0).1)
          rcases h5 with rfl | rfl | rfl | rfl | rfl
          · exact .refl _
          · exact .of_lt (by show _ < (98 :: 111 :: 111 :: 108 :: (jG l0).1).length; simp only [List.length_cons]; omega)
          · exact .of_lt (by show _ < (116 :: 101 :: 120 :: 116 :: (jG l0).1).length; simp only [List.length_cons]; omega)
          · exact .of_lt (by show _ < (116 :: 105 :: 109 :: 101 :: (jG l0).1).length; simp only [List.length_cons]; omega)
          · show leS _ (115 :: 101 :: 116 :: (jG l0).1)
            exact .head (by simp only [List.length_cons]; omega) (by decide)
      · have h69 : 69 <= n := by
          rcases Nat.lt_or_ge n 69 with h | h
          · exfalso
            have h2 : n = 58 \/ n = 59 \/ n = 61 \/ n = 62 \/ n = 63 \/ n = 64 \/ n = 65 \/ n = 66 \/ n = 67 \/ n = 68 := by omega
            rcases h2 with rfl | rfl | rfl | rfl | rfl | rfl | rfl | rfl | rfl | rfl <;> cases hem
          · exact h
        obtain ⟨o1, o2, o3⟩ := expr_opts n (jG l0) hem h69
        have hg := exprGrow_all ⟨n, h85⟩ ⟨t, ht⟩
        simp only [exprGrow, decide_eq_true h69, hem, hb, Bool.not_false, Bool.and_self, Bool.not_true, Bool.false_or, hk, Bool.and_eq_true] at hg
        have hcnt := rest_cnt k l0 hkt
        rw [<- hst'] at hcnt
        have hbl := behind_len t st
        -- no shorter than a text without bytes
        have txt : leS (34 :: 34 :: (jG l0).2) (W ++ jv t st) -> leS (jh n (jG l0)).2 (W ++ jv t st) /\ (kM t = false -> leS (jh n (jG l0)).1 (W ++ jv t st)) := fun h => ⟨o2.trans h, fun _ => o3.trans h⟩
        have int : kM t = true -> leS (48 :: (jG l0).1) (W ++ jv t st) -> leS (jh n (jG l0)).2 (W ++ jv t st) /\ (kM t = false -> leS (jh n (jG l0)).1 (W ++ jv t st)) := fun hw h => ⟨o1.trans h, fun h2 => by rw [hw] at h2; cases h2⟩
        cases hs with
        | @name c w hc =>
          have hke : k.all jY = true := by have := hg.2; rw [if_pos (by decide)] at this; exact this
          have hrk : jG (k ++ l0) = jG l0 := vV k l0 hke
          refine int (by decide) ?_
          unfold jv
          rw [if_pos (by decide), hst', hrk, List.cons_append]
          exact .head (by rw [List.length_append]; omega) (by show 48 < c.toNat; omega)
        | @int c w hc =>
          have hke : k.all jY = true := by have := hg.2; rw [if_pos (by decide)] at this; exact this
          have hrk : jG (k ++ l0) = jG l0 := vV k l0 hke
          refine int (by decide) ?_
          unfold jv
          rw [if_pos (by decide), hst', hrk, List.cons_append]
          rcases Nat.lt_or_ge 48 c.toNat with h | h
          · exact .head (by rw [List.length_append]; omega) (by show 48 < c.toNat; exact h)
          · have : c = 48 := UInt8.toNat_inj.1 (by show c.toNat = 48; omega)
            rw [this, leS.cons]
            cases w with
            | nil => exact .refl _
            | cons a w => exact .of_lt (by simp only [List.cons_append, List.length_cons, List.length_append]; omega)
        | @text c w hc =>
          have hke : k.all jY = true := by have := hg.2; rw [if_pos (by decide)] at this; exact this
          have hrk : jG (k ++ l0) = jG l0 := vV k l0 hke
          refine txt ?_
          unfold jv
          rw [if_neg (by decide), hst', hrk, List.cons_append, leS.cons, List.cons_append]
          rcases Nat.lt_or_ge 34 c.toNat with h | h
          · exact .head (by rw [List.length_append]; omega) (by show 34 < c.toNat; exact h)
          · have : c = 34 := UInt8.toNat_inj.1 (by show c.toNat = 34; omega)
            rw [this, leS.cons]
            cases w with
            | nil => exact .refl _
            | cons a w => exact .of_lt (by simp only [List.cons_append, List.length_cons, List.length_append]; omega)
        | fix h4 h5 =>
          refine txt ?_
          have hg2 := hg.2
          rw [if_neg (by omega)] at hg2
          by_cases h23 : 23 <= t
          · rw [if_pos h23] at hg2
            have := of_decide_eq_true hg2
            exact .of_lt (by simp only [List.length_cons, List.length_append]; omega)
          · rw [if_neg h23, Bool.and_eq_true] at hg2
            have g1 := of_decide_eq_true hg2.1
            have g2 := of_decide_eq_true hg2.2
            cases hsp : jH t with
            | nil => rw [hsp] at g2; exact absurd g2 (by decide)
            | cons c w =>
              rw [hsp] at g2
              rw [List.cons_append]
              exact .head (by simp only [List.length_cons, List.length_append]; omega) (by show 34 < c.toNat; exact g2)
end Go.Proofs.YtmmjcbbogokmfaaGreatDoor
