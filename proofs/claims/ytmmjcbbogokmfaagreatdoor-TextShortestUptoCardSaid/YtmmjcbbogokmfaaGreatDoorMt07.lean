import Derived.Test.YtmmjcbbogokmfaaGreatDoorMt06
set_option maxRecDepth 100000
set_option maxHeartbeats 25600000
namespace Go.Proofs.YtmmjcbbogokmfaaGreatDoor
def vx : List Nat -> Option Nat
  | [] => none
  | n :: l => if jY n = true then vx l else some n
def ku (m : Nat) : List Nat := if m < 58 then [m] else if m = 60 then [34] else [2, 3]
def opsB (t : Nat) : Bool := decide (t = 43 \/ t = 44 \/ (12 <= t /\ t <= 22) \/ t = 28)
def contB (n t : Nat) : Bool :=
  if n = 58 then decide (24 <= t /\ t <= 27)
  else if n = 59 then decide (t = 39)
  else if n = 61 then decide (t = 12) || opsB t
  else if n = 62 then decide (t = 32) || opsB t
  else if n = 63 then decide (t = 28)
  else if n = 64 then decide (t = 29)
  else if n = 65 then decide (t = 30)
  else if n = 66 then decide (t = 1 \/ t = 8)
  else if n = 67 then decide (t = 8)
  else if n = 68 then decide (t = 1 \/ t = 33)
  else if n = 83 then jD 69 t || decide (t = 8) || opsB t
  else if n = 84 then decide (t = 8) || opsB t
  else decide (69 <= n) && opsB t
def termOk (n : Nat) : Bool := decide (n = 1 \/ (4 <= n /\ n <= 11) \/ (23 <= n /\ n < 85))
def sepB (n : Nat) (o : Option Nat) : Bool := match o with
  | none => true
  | some m => (ku m).all fun t => !contB n t
def wellB : List Nat -> Bool
  | [] => true
  | n :: l => termOk n && sepB n (vx l) && wellB l
def tailB (st : List Nat) : Bool := decide (st = []) || decide (st.getLastD 0 = 5)
structure Inv (st : List Nat) : Prop where
  ok : okSt st = true
  well : wellB st = true
  tail : tailB st = true
theorem headNE_app : ∀ (k l : List Nat), vx (k ++ l) = match vx k with | some m => some m | none => vx l
  | [], l => rfl
  | n :: k, l => by
    rw [List.cons_append, vx, vx]
    by_cases h : jY n = true
    · rw [if_pos h, if_pos h]; exact headNE_app k l
    · rw [if_neg h, if_neg h]
theorem yO : ∀ (a b : List Nat), wellB (a ++ b) = true -> wellB b = true
  | [], b, h => h
  | n :: a, b, h => by
    rw [List.cons_append, wellB, Bool.and_eq_true] at h
    exact yO a b h.2
def okK (n : Nat) : List Nat -> Bool
  | [] => true
  | x :: r => termOk x && (match vx r with
    | some m => sepB x (some m)
    | none => (List.range 58).all fun t => !contB x t || contB n t) && okK n r
theorem firsts_lt {m : Nat} : ∀ t ∈ ku m, t < 58 := by
  intro t h
  unfold ku at h
  split at h
  · rw [List.mem_singleton] at h; omega
  · split at h
    · rw [List.mem_singleton] at h; omega
    · simp only [List.mem_cons, List.not_mem_nil, or_false] at h; omega
theorem well_app (n : Nat) (l : List Nat) (hl : wellB l = true) (hs : sepB n (vx l) = true) : ∀ k, okK n k = true -> wellB (k ++ l) = true
  | [], _ => hl
  | x :: r, h => by
    rw [okK, Bool.and_eq_true, Bool.and_eq_true] at h
    obtain ⟨⟨h1, h2⟩, h3⟩ := h
    rw [List.cons_append, wellB, h1, well_app n l hl hs r h3, Bool.and_true, Bool.true_and, headNE_app]
    cases hr : vx r with
    | some m => rw [hr] at h2; exact h2
    | none =>
      rw [hr] at h2
      simp only at h2 ⊢
      cases ho : vx l with
      | none => rfl
      | some m =>
        rw [ho] at hs
        unfold sepB at hs ⊢
        simp only at hs ⊢
        refine List.all_eq_true.2 fun t ht => ?_
        have h4 := List.all_eq_true.1 hs t ht
        have h5 := List.all_eq_true.1 h2 t (List.mem_range.2 (firsts_lt t ht))
        cases hc : contB x t with
        | false => rfl
        | true =>
          rw [hc, Bool.not_true, Bool.false_or] at h5
          rw [h5] at h4
          exact h4
def wellGrow (n t : Nat) : Bool := !jD n t || (match jt t 30 [n] with | some k => okK n k | none => true)
theorem wellGrow_all : ∀ n : Fin 85, ∀ t : Fin 58, wellGrow n.val t.val = true := by decide +kernel
theorem lastD_app (a : List Nat) {b : List Nat} (hb : b ≠ []) : (a ++ b).getLastD 0 = b.getLastD 0 := by
  rw [List.getLastD_eq_getLast?, List.getLastD_eq_getLast?, List.getLast?_append, List.getLast?_eq_some_getLast hb]
  rfl
theorem tail_app {a b : List Nat} (h : tailB (a ++ b) = true) (hb : b ≠ []) : tailB b = true := by
  unfold tailB at h ⊢
  rw [Bool.or_eq_true] at h ⊢
  rcases h with h | h
  · exact absurd (List.append_eq_nil_iff.1 (of_decide_eq_true h)).2 hb
  · rw [lastD_app a hb] at h
    exact .inr h
theorem tail_cons {k b : List Nat} (h : tailB b = true) (hb : b ≠ []) : tailB (k ++ b) = true := by
  unfold tailB at h ⊢
  rw [Bool.or_eq_true] at h ⊢
  rcases h with h | h
  · exact absurd (of_decide_eq_true h) hb
  · rw [lastD_app k hb]
    exact .inr h
theorem Inv.take {st : List Nat} (h : Inv st) {t : Nat} (ht : t < 58) (hm : mayN t st = true) : Inv (jR t st) := by
  obtain ⟨e, n, l, k, hst, he, hb, h85, hk, hst'⟩ := kZ ht hm (kl ht hm)
  have hw := h.well
  rw [hst] at hw
  have hw2 := yO e _ hw
  rw [wellB, Bool.and_eq_true, Bool.and_eq_true] at hw2
  have hg := wellGrow_all ⟨n, h85⟩ ⟨t, ht⟩
  simp only [wellGrow, hb, Bool.not_true, Bool.false_or, hk] at hg
  refine ⟨ok_with ht h.ok hm, by rw [hst']; exact well_app n l hw2.2 hw2.1.2 k hg, ?_⟩
  rw [hst']
  have htl := h.tail
  rw [hst] at htl
  by_cases hl : l = []
  · subst hl
    have h5 : n = 5 := by
      have := tail_app (a := e) htl (by simp)
      unfold tailB at this
      rw [Bool.or_eq_true] at this
      rcases this with e | e
      · exact absurd (of_decide_eq_true e) (by simp)
      · exact of_decide_eq_true e
    subst h5
    have : t = 5 := (vR (by decide) hb).symm
    subst this
    have h0 : jt 5 30 [5] = some [] := by decide
    rw [h0] at hk
    rw [<- Option.some.inj hk]
    rfl
  · have := tail_app (a := e ++ [n]) (b := l) (by rw [List.append_assoc]; exact htl) hl
    exact tail_cons this hl
theorem Inv.start : Inv [23, 1, 4, 58, 5] := ⟨by decide, by decide, by decide⟩
theorem split_ne : ∀ (st : List Nat), wellB st = true -> st ≠ [] -> tailB st = true -> ∃ e m l, st = e ++ m :: l /\ (e.all jY) = true /\ jY m = false /\ (∀ x ∈ e, ∀ t ∈ ku m, contB x t = false)
  | [], _, h, _ => absurd rfl h
  | n :: l, hw, _, ht => by
    by_cases he : jY n = true
    · have hl : l ≠ [] := fun e => by
        subst e
        unfold tailB at ht
        rw [Bool.or_eq_true] at ht
        rcases ht with e | e
        · exact absurd (of_decide_eq_true e) (by simp)
        · have e5 : n = 5 := of_decide_eq_true e
          rw [e5] at he
          cases he
      rw [wellB, Bool.and_eq_true, Bool.and_eq_true] at hw
      obtain ⟨e, m, l2, h1, h2, h3, h4⟩ := split_ne l hw.2 hl (tail_app (a := [n]) ht hl)
      refine ⟨n :: e, m, l2, by rw [h1]; rfl, by rw [List.all_cons, he, h2]; rfl, h3, fun x hx t hm => ?_⟩
      rcases List.mem_cons.1 hx with rfl | hx
      · have hs := hw.1.2
        have hh : vx l = some m := by
          rw [h1, headNE_app]
          have : ∀ e : List Nat, e.all jY = true -> vx e = none := by
            intro e
            induction e with
            | nil => exact fun _ => rfl
            | cons y e ih =>
              intro h
              rw [List.all_cons, Bool.and_eq_true] at h
              rw [vx, if_pos h.1]
              exact ih h.2
          rw [this e h2, vx, if_neg (by rw [h3]; decide)]
        rw [hh] at hs
        have := List.all_eq_true.1 hs t hm
        simpa using this
      · exact h4 x hx t hm
    · exact ⟨[], n, l, rfl, rfl, by simpa using he, fun x hx => by cases hx⟩
def beginsCont (n t : Nat) : Bool := !jY n || !jD n t || contB n t
theorem beginsCont_all : ∀ n : Fin 85, ∀ t : Fin 58, beginsCont n.val t.val = true := by decide +kernel
theorem no_begin {x t : Nat} (ht : t < 58) (he : jY x = true) (hc : contB x t = false) : jD x t = false := by
  cases hb : jD x t with
  | false => rfl
  | true =>
    have h := beginsCont_all ⟨x, begins_lt ht hb⟩ ⟨t, ht⟩
    simp only [beginsCont, he, hb, hc, Bool.not_true, Bool.or_false] at h
    cases h
theorem with_shape {t n : Nat} {e l k : List Nat} (ht : t < 58) (he : ∀ x ∈ e, jY x = true /\ jD x t = false) (hb : jD n t = true) (hk : jt t 30 [n] = some k) : mayN t (e ++ n :: l) = true /\ jR t (e ++ n :: l) = k ++ l := by
  have hm : mayN t (e ++ n :: l) = true := by
    rw [mayN_skips t e (n :: l) (List.all_eq_true.2 fun x hx => by rw [(he x hx).1, (he x hx).2]; rfl), mayN, if_pos hb]
  refine ⟨hm, ?_⟩
  have hs : ∀ (e : List Nat), (∀ x ∈ e, jY x = true /\ jD x t = false) -> jt t (e.length + 30) (e ++ n :: l) = some (k ++ l) := by
    intro e
    induction e with
    | nil => exact fun _ => vj t 30 _ _ _ (by omega) (yJ t 30 [n] k l hk)
    | cons x e ih =>
      intro h
      have hx := h x List.mem_cons_self
      have hge := empty_ge x hx.1
      rw [List.cons_append, List.length_cons, show e.length + 1 + 30 = (e.length + 30) + 1 by omega, jt, if_neg (by omega), skip_rule x t hx.2, List.nil_append]
      exact ih fun y hy => h y (List.mem_cons_of_mem _ hy)
  exact takeN_uniq (kl ht hm) (hs e he)
def Done (b : Bs) (q : List UInt8) : Prop := ∃ b', runB b q 0 = .ok b' /\ accB b'
theorem Done.cons {b b1 : Bs} {c : UInt8} {q : List UInt8} (h : kV b c = some b1) (hd : Done b1 q) : Done b (c :: q) := by
  obtain ⟨b', h1, h2⟩ := hd
  refine ⟨b', ?_, h2⟩
  rw [runB, h]
  exact runB_at q b1 b' 0 1 h1
theorem Done.alike {b b1 : Bs} {c : UInt8} {q : List UInt8} (h : kV b c = kV b1 c) (hd : Done b1 (c :: q)) : Done b (c :: q) := by
  obtain ⟨b', h1, h2⟩ := hd
  refine ⟨b', ?_, h2⟩
  rw [runB] at h1 ⊢
  rw [h]
  exact h1
theorem step_btw (st : List Nat) (c : UInt8) : kV ⟨st, .btw⟩ c = btwB st c := rfl
theorem done_tab {st : List Nat} {q : List UInt8} (h : Done ⟨st, .btw⟩ q) : Done ⟨st, .btw⟩ (9 :: q) := Done.cons (by rw [step_btw]; unfold btwB; rw [if_pos (by decide)]) h
theorem step_sgn2 (st : List Nat) (s : UInt8) : kV ⟨st, .sgn s⟩ 61 = some ⟨jR (jS [s, 61]) st, .btw⟩ := by
  unfold kV
  exact if_pos rfl
theorem step_sgn1 (st : List Nat) (s d : UInt8) (h : d ≠ 61) (h1 : vH st [s]) : kV ⟨st, .sgn s⟩ d = btwB (jR (jS [s]) st) d := by
  unfold kV
  exact (if_neg h).trans (if_pos h1)
theorem done_wend {st : List Nat} {w : List UInt8} {q : List UInt8} (hp : jj w = true) (hm : mayN (jU w) st = true) (hq : q ≠ []) (hw : jK (q.headD 0) = false) (h : Done ⟨jR (jU w) st, .btw⟩ q) : Done ⟨st, .wrd w⟩ q := by
  cases q with
  | nil => exact absurd rfl hq
  | cons d q =>
    have hd : jK d = false := hw
    refine Done.alike ?_ h
    rw [step_wend st w d hd, if_pos ⟨hp, hm⟩]
    rfl
theorem done_word {st : List Nat} {W : List UInt8} (hp : jj W = true) (hm : mayN (jU W) st = true) : ∀ (w' v q : List UInt8), v ++ w' = W -> w'.all jK = true -> q ≠ [] -> jK (q.headD 0) = false -> Done ⟨jR (jU W) st, .btw⟩ q -> Done ⟨st, .wrd v⟩ (w' ++ q)
  | [], v, q, hv, _, hq, hw, h => by
    rw [List.append_nil] at hv
    subst hv
    exact done_wend hp hm hq hw h
  | c :: w', v, q, hv, ha, hq, hw, h => by
    rw [List.all_cons, Bool.and_eq_true] at ha
    have hv2 : (v ++ [c]) ++ w' = W := by rw [List.append_assoc]; exact hv
    have hf : yH st (v ++ [c]) = true := fits_prefix ⟨w', hv2⟩ (by simp) hp hm
    rw [List.cons_append]
    exact Done.cons (by rw [step_wrd st v c ha.1, if_pos hf]) (done_word hp hm w' (v ++ [c]) q hv2 ha.2 hq hw h)
theorem done_full {st : List Nat} {W q : List UInt8} (hp : jj W = true) (hne : W ≠ []) (hall : W.all jK = true) (hm : mayN (jU W) st = true) (hq : q ≠ []) (hw : jK (q.headD 0) = false) (h : Done ⟨jR (jU W) st, .btw⟩ q) : Done ⟨st, .btw⟩ (W ++ q) := by
  cases W with
  | nil => exact absurd rfl hne
  | cons c w' =>
    rw [List.all_cons, Bool.and_eq_true] at hall
    obtain ⟨b1, b2, b3⟩ := word_byte hall.1
    have hf : yH st [c] = true := fits_prefix (List.cons_prefix_cons.2 ⟨rfl, List.nil_prefix⟩) (by simp) hp hm
    rw [List.cons_append]
    refine Done.cons ?_ (done_word hp hm w' [c] q rfl hall.2 hq hw h)
    rw [step_btw]
    unfold btwB
    rw [if_neg (by rw [b1]; decide), if_neg b2, if_neg b3, if_pos hall.1, if_pos hf]
theorem done_text {st : List Nat} {q : List UInt8} (hm : mayN 3 st = true) (h : Done ⟨jR 3 st, .btw⟩ q) : Done ⟨st, .btw⟩ (34 :: 34 :: q) := by
  refine Done.cons (b1 := ⟨st, .txt 4⟩) ?_ (Done.cons (b1 := ⟨jR 3 st, .btw⟩) ?_ h)
  · rw [step_btw]
    unfold btwB
    rw [if_neg (by decide), if_neg (by decide), if_pos (by decide), if_pos hm]
  · show txtB st 4 34 = _
    unfold txtB
    rw [if_pos rfl, if_pos (by decide)]
theorem done_sign1 {st : List Nat} {c : UInt8} {q : List UInt8} (hb : ki c = false /\ ¬ c.toNat = 35 /\ ¬ c.toNat = 34 /\ jK c = false) (h2 : ¬ vH st [c, 61]) (h1 : vH st [c]) (h : Done ⟨jR (jS [c]) st, .btw⟩ q) : Done ⟨st, .btw⟩ (c :: q) := by
  refine Done.cons ?_ h
  rw [step_btw]
  unfold btwB
  rw [if_neg (by rw [hb.1]; decide), if_neg hb.2.1, if_neg hb.2.2.1, if_neg (by rw [hb.2.2.2]; decide), if_neg h2, if_pos h1]
theorem words_ok : ∀ i : Fin 35, (let w := resL.getD i.val []; jj w = true /\ jU w = 23 + i.val /\ w.all jK = true /\ w ≠ []) := by decide +kernel
theorem word_ok {m : Nat} (h1 : 23 <= m) (h2 : m < 58) : jj (jH m) = true /\ jU (jH m) = m /\ (jH m).all jK = true /\ jH m ≠ [] := by
  have h := words_ok ⟨m - 23, by omega⟩
  have e : jH m = resL.getD (m - 23) [] := by
    unfold jH
    rw [if_neg (by omega), if_neg (by omega), if_neg (by omega), if_neg (by omega)]
  rw [e]
  simp only at h
  exact ⟨h.1, by rw [h.2.1]; omega, h.2.2⟩
def cntNE (st : List Nat) : Nat := (st.filter fun n => !jY n).length
theorem cntNE_app (a b : List Nat) : cntNE (a ++ b) = cntNE a + cntNE b := by unfold cntNE; rw [List.filter_append, List.length_append]
theorem cntNE_empty : ∀ (e : List Nat), e.all jY = true -> cntNE e = 0
  | [], _ => rfl
  | n :: e, h => by
    rw [List.all_cons, Bool.and_eq_true] at h
    have := cntNE_empty e h.2
    unfold cntNE at this ⊢
    rw [List.filter_cons, if_neg (by rw [h.1]; decide)]
    exact this
theorem cntNE_one (m : Nat) (l : List Nat) (h : jY m = false) : cntNE (m :: l) = cntNE l + 1 := by
  unfold cntNE
  rw [List.filter_cons, if_pos (by rw [h]; decide), List.length_cons]
structure RestOk (st : List Nat) : Prop where
  two : Done ⟨st, .btw⟩ (jG st).2
  one : Done ⟨st, .btw⟩ (jG st).1
  ne1 : st ≠ [] -> (jG st).1 ≠ []
  hd1 : st ≠ [] -> jK ((jG st).1.headD 0) = false
  ne2 : st ≠ [] -> (jG st).2 ≠ []
  hd2 : (jG st).2.headD 0 ≠ 61
def atomGrow (n t : Nat) : Bool := !(decide (69 <= n) && !jY n && decide (t = 2 \/ t = 3)) || (jD n t && (match jt t 30 [n] with | some k => k.all jY | none => false))
theorem atomGrow_all : ∀ n : Fin 85, ∀ t : Fin 58, atomGrow n.val t.val = true := by decide +kernel
theorem atom_grow {m t : Nat} (h1 : 69 <= m) (h2 : m < 85) (he : jY m = false) (ht : t = 2 \/ t = 3) : jD m t = true /\ ∃ k, jt t 30 [m] = some k /\ k.all jY = true := by
  have h := atomGrow_all ⟨m, h2⟩ ⟨t, by omega⟩
  simp only [atomGrow, decide_eq_true h1, he, Bool.not_false, Bool.and_self, decide_eq_true ht, Bool.not_true, Bool.false_or, Bool.and_eq_true] at h
  refine ⟨h.1, ?_⟩
  have h3 := h.2
  cases hk : jt t 30 [m] with
  | none => rw [hk] at h3; cases h3
  | some k => rw [hk] at h3; exact ⟨k, rfl, h3⟩
theorem less_either (x y : List UInt8) : vN x y = x \/ vN x y = y := by
  unfold vN
  split
  · exact .inr rfl
  · exact .inl rfl
def no11 (x : Nat) : Bool := !jD x 11 || decide (x = 11)
theorem no11_all : ∀ x : Fin 85, no11 x.val = true := by decide +kernel
theorem may11 {e l : List Nat} (he : e.all jY = true) : mayN 11 (e ++ 10 :: l) = false := by
  induction e with
  | nil => exact mayN_stop 11 10 l (by decide) (by decide)
  | cons x e ih =>
    rw [List.all_cons, Bool.and_eq_true] at he
    have hb : jD x 11 = false := by
      cases hb : jD x 11 with
      | false => rfl
      | true =>
        have h := no11_all ⟨x, begins_lt (by decide) hb⟩
        simp only [no11, hb, Bool.not_true, Bool.false_or] at h
        have := of_decide_eq_true h
        rw [this] at he
        exact absurd he.1 (by decide)
    rw [List.cons_append, mayN, if_neg (by rw [hb]; decide), if_pos he.1]
    exact ih he.2
theorem term_self : ∀ m : Fin 58, (decide (m.val = 0) || (jD m.val m.val && decide (jt m.val 30 [m.val] = some []))) = true := by decide +kernel
theorem term_take {m : Nat} (h0 : m ≠ 0) (h : m < 58) : jD m m = true /\ jt m 30 [m] = some [] := by
  have h1 := term_self ⟨m, h⟩
  simp only [decide_eq_false h0, Bool.false_or, Bool.and_eq_true] at h1
  exact ⟨h1.1, of_decide_eq_true h1.2⟩
theorem restOk_all : ∀ (N : Nat) (st : List Nat), cntNE st <= N -> Inv st -> RestOk st := by
  intro N
  induction N with
  | zero =>
    intro st hN hI
    by_cases h0 : st = []
    · subst h0
      exact ⟨⟨_, rfl, rfl, .inl rfl⟩, ⟨_, rfl, rfl, .inl rfl⟩, fun h => absurd rfl h, fun h => absurd rfl h, fun h => absurd rfl h, by decide⟩
    · obtain ⟨e, m, l, rfl, he, hm, hx⟩ := split_ne st hI.well h0 hI.tail
      rw [cntNE_app, cntNE_one m l hm] at hN
      omega
  | succ N ih =>
    intro st hN hI
    by_cases h0 : st = []
    · subst h0
      exact ⟨⟨_, rfl, rfl, .inl rfl⟩, ⟨_, rfl, rfl, .inl rfl⟩, fun h => absurd rfl h, fun h => absurd rfl h, fun h => absurd rfl h, by decide⟩
    obtain ⟨e, m, l, rfl, he, hm, hx⟩ := split_ne st hI.well h0 hI.tail
    rw [cntNE_app, cntNE_one m l hm, cntNE_empty e he] at hN
    have hrest : jG (e ++ m :: l) = jh m (jG l) := vV e (m :: l) he
    have hwell := yO e _ hI.well
    rw [wellB, Bool.and_eq_true, Bool.and_eq_true] at hwell
    have hterm : m = 1 \/ (4 <= m /\ m <= 11) \/ (23 <= m /\ m < 85) := of_decide_eq_true hwell.1.1
    have hsk : ∀ t ∈ ku m, ∀ x ∈ e, jY x = true /\ jD x t = false := fun t ht x hxe => by
      have h1 := List.all_eq_true.1 he x hxe
      exact ⟨h1, no_begin (firsts_lt t ht) h1 (hx x hxe t ht)⟩
    -- what stands behind it
    have behind : ∀ (t : Nat) (k : List Nat), t ∈ ku m -> jD m t = true -> jt t 30 [m] = some k -> k.all jY = true -> mayN t (e ++ m :: l) = true /\ jR t (e ++ m :: l) = k ++ l /\ jG (k ++ l) = jG l /\ RestOk (k ++ l) := by
      intro t k ht hb hk hke
      have ht58 := firsts_lt t ht
      obtain ⟨h1, h2⟩ := with_shape (l := l) ht58 (hsk t ht) hb hk
      refine ⟨h1, h2, vV k l hke, ih _ ?_ ?_⟩
      · rw [cntNE_app, cntNE_empty k hke]
        omega
      · rw [<- h2]
        exact hI.take ht58 h1
    have hle : m ≠ 5 -> l ≠ [] := fun h5 e0 => by
      subst e0
      have := tail_app (a := e) hI.tail (by simp)
      unfold tailB at this
      rw [Bool.or_eq_true] at this
      rcases this with e | e
      · exact absurd (of_decide_eq_true e) (by simp)
      · exact h5 (of_decide_eq_true e)
    -- a word ahead of the rest
    have word : ∀ (W : List UInt8), jU W ∈ ku m -> jj W = true -> W ≠ [] -> W.all jK = true -> jD m (jU W) = true -> (∃ k, jt (jU W) 30 [m] = some k /\ k.all jY = true) -> m ≠ 5 -> Done ⟨e ++ m :: l, .btw⟩ (W ++ (jG l).1) := by
      intro W h1 h2 h3 h4 h5 ⟨k, h6, h7⟩ h8
      obtain ⟨q1, q2, q3, q4⟩ := behind _ k h1 h5 h6 h7
      have hkl : k ++ l ≠ [] := fun e0 => hle h8 (List.append_eq_nil_iff.1 e0).2
      refine done_full h2 h3 h4 q1 ?_ ?_ ?_
      · rw [<- q3]; exact q4.ne1 hkl
      · rw [<- q3]; exact q4.hd1 hkl
      · rw [q2, <- q3]; exact q4.one
    have fin : ∀ (W : List UInt8), jG (e ++ m :: l) = (9 :: (W ++ (jG l).1), W ++ (jG l).1) -> jU W ∈ ku m -> jj W = true -> W ≠ [] -> W.all jK = true -> jD m (jU W) = true -> (∃ k, jt (jU W) 30 [m] = some k /\ k.all jY = true) -> m ≠ 5 -> RestOk (e ++ m :: l) := by
      intro W hr h1 h2 h3 h4 h5 h6 h7
      have hd := word W h1 h2 h3 h4 h5 h6 h7
      refine ⟨by rw [hr]; exact hd, by rw [hr]; exact done_tab hd, fun _ => by rw [hr]; simp, fun _ => by rw [hr]; exact (by decide : jK 9 = false), fun _ => by rw [hr]; simp [h3], ?_⟩
      rw [hr]
      cases W with
      | nil => exact absurd rfl h3
      | cons c W =>
        rw [List.all_cons, Bool.and_eq_true] at h4
        show c ≠ 61
        intro e0
        rw [e0] at h4
        exact absurd h4.1 (by decide)
    rcases Nat.lt_or_ge m 58 with hm58 | hm58
    · -- a terminal
      have hfo : ku m = [m] := by unfold ku; rw [if_pos hm58]
      obtain ⟨hb, hk⟩ := term_take (m := m) (by omega) hm58
      by_cases hw : m = 1 \/ 23 <= m
      · have hsp : jj (jH m) = true /\ jU (jH m) = m /\ (jH m).all jK = true /\ jH m ≠ [] := by
          rcases hw with rfl | h23
          · decide
          · exact word_ok h23 hm58
        refine fin (jH m) ?_ (by rw [hsp.2.1, hfo]; exact List.mem_singleton.2 rfl) hsp.1 hsp.2.2.2 hsp.2.2.1 (by rw [hsp.2.1]; exact hb) ⟨[], by rw [hsp.2.1]; exact hk, rfl⟩ (by omega)
        rw [hrest]
        unfold jh
        rw [if_neg (by rw [hm]; decide), if_neg (by omega), if_neg (by omega), if_pos (by unfold kM; exact decide_eq_true (by omega))]
      · have h411 : 4 <= m /\ m <= 11 := by omega
        obtain ⟨q1, q2, q3, q4⟩ := behind m [] (by rw [hfo]; exact List.mem_singleton.2 rfl) hb hk rfl
        rw [List.nil_append] at q2 q4
        have hr : jG (e ++ m :: l) = (jH m ++ (jG l).2, jH m ++ (jG l).2) := by
          rw [hrest]
          unfold jh
          rw [if_neg (by rw [hm]; decide), if_neg (by omega), if_neg (by omega), if_neg (by unfold kM; rw [decide_eq_false (by omega)]; decide)]
        have fin1 : ∀ c : UInt8, jH m = [c] -> jS [c] = m -> (ki c = false /\ ¬ c.toNat = 35 /\ ¬ c.toNat = 34 /\ jK c = false) -> ¬ vH (e ++ m :: l) [c, 61] -> c ≠ 61 -> RestOk (e ++ m :: l) := by
          intro c h1 h2 h3 h4 h5
          have hd : Done ⟨e ++ m :: l, .btw⟩ (jH m ++ (jG l).2) := by
            rw [h1]
            exact done_sign1 h3 h4 ⟨by rw [h2]; omega, by rw [h2]; exact q1⟩ (by rw [h2, q2]; exact q4.two)
          exact ⟨by rw [hr]; exact hd, by rw [hr]; exact hd, fun _ => by rw [hr, h1]; simp, fun _ => by rw [hr, h1]; exact h3.2.2.2, fun _ => by rw [hr, h1]; simp, by rw [hr, h1]; exact h5⟩
        have hmm : m = 4 \/ m = 5 \/ m = 6 \/ m = 7 \/ m = 8 \/ m = 9 \/ m = 10 \/ m = 11 := by omega
        rcases hmm with rfl | rfl | rfl | rfl | rfl | rfl | rfl | rfl
        · exact fin1 123 rfl (by decide) (by decide) (fun h => h.1 (by decide)) (by decide)
        · exact fin1 125 rfl (by decide) (by decide) (fun h => h.1 (by decide)) (by decide)
        · exact fin1 40 rfl (by decide) (by decide) (fun h => h.1 (by decide)) (by decide)
        · exact fin1 41 rfl (by decide) (by decide) (fun h => h.1 (by decide)) (by decide)
        · exact fin1 44 rfl (by decide) (by decide) (fun h => h.1 (by decide)) (by decide)
        · exact fin1 59 rfl (by decide) (by decide) (fun h => h.1 (by decide)) (by decide)
        · exact fin1 58 rfl (by decide) (by decide) (fun h => by
            have := h.2
            rw [show jS [58, 61] = 11 by decide, may11 he] at this
            cases this) (by decide)
        · have hd : Done ⟨e ++ 11 :: l, .btw⟩ (58 :: 61 :: (jG l).2) := by
            refine Done.cons (b1 := ⟨e ++ 11 :: l, .sgn 58⟩) ?_ (Done.cons (b1 := ⟨l, .btw⟩) ?_ q4.two)
            · rw [step_btw]
              unfold btwB
              rw [if_neg (by decide), if_neg (by decide), if_neg (by decide), if_neg (by decide), if_pos ⟨by decide, by rw [show jS [58, 61] = 11 by decide]; exact q1⟩]
            · rw [step_sgn2, show jS [58, 61] = 11 by decide, q2]
          have hr2 : jG (e ++ 11 :: l) = (58 :: 61 :: (jG l).2, 58 :: 61 :: (jG l).2) := hr
          exact ⟨by rw [hr2]; exact hd, by rw [hr2]; exact hd, fun _ => by rw [hr2]; simp, fun _ => by rw [hr2]; exact (by decide : jK 58 = false), fun _ => by rw [hr2]; simp, by rw [hr2]; exact (by decide : (58 : UInt8) ≠ 61)⟩
    · by_cases h60 : m = 60
      · subst h60
        refine fin (jH 34) ?_ (by decide) (by decide) (by decide) (by decide) (by decide) ⟨[], by decide, rfl⟩ (by decide)
        rw [hrest]
        unfold jh
        rw [if_neg (by decide), if_pos rfl]
      · have h69 : 69 <= m := by
          rcases Nat.lt_or_ge m 69 with h | h
          · exfalso
            have h2 : m = 58 \/ m = 59 \/ m = 61 \/ m = 62 \/ m = 63 \/ m = 64 \/ m = 65 \/ m = 66 \/ m = 67 \/ m = 68 := by omega
            rcases h2 with rfl | rfl | rfl | rfl | rfl | rfl | rfl | rfl | rfl | rfl <;> cases hm
          · exact h
        have hfo : ku m = [2, 3] := by unfold ku; rw [if_neg (by omega), if_neg h60]
        obtain ⟨hb2, k2, hk2, hke2⟩ := atom_grow h69 (by omega) hm (.inl rfl)
        obtain ⟨hb3, k3, hk3, hke3⟩ := atom_grow h69 (by omega) hm (.inr rfl)
        have d2 : Done ⟨e ++ m :: l, .btw⟩ (48 :: (jG l).1) := word [48] (by rw [hfo]; decide) (by decide) (by decide) (by decide) hb2 ⟨k2, hk2, hke2⟩ (by omega)
        obtain ⟨q1, q2, q3, q4⟩ := behind 3 k3 (by rw [hfo]; decide) hb3 hk3 hke3
        have d3 : Done ⟨e ++ m :: l, .btw⟩ (34 :: 34 :: (jG l).2) := done_text q1 (by rw [q2, <- q3]; exact q4.two)
        have hr : jG (e ++ m :: l) = (vN (9 :: 48 :: (jG l).1) (34 :: 34 :: (jG l).2), vN (48 :: (jG l).1) (34 :: 34 :: (jG l).2)) := by
          rw [hrest]
          unfold jh
          rw [if_neg (by rw [hm]; decide), if_neg h60, if_pos (by omega)]
        have l1 := less_either (9 :: 48 :: (jG l).1) (34 :: 34 :: (jG l).2)
        have l2 := less_either (48 :: (jG l).1) (34 :: 34 :: (jG l).2)
        refine ⟨?_, ?_, fun _ => ?_, fun _ => ?_, fun _ => ?_, ?_⟩
        · rw [hr]; rcases l2 with h | h <;> (simp only [h]; assumption)
        · rw [hr]
          rcases l1 with h | h
          · simp only [h]; exact done_tab d2
          · simp only [h]; exact d3
        · rw [hr]; rcases l1 with h | h <;> simp [h]
        · rw [hr]
          rcases l1 with h | h
          · simp only [h]; exact (by decide : jK 9 = false)
          · simp only [h]; exact (by decide : jK 34 = false)
        · rw [hr]; rcases l2 with h | h <;> simp [h]
        · rw [hr]
          rcases l2 with h | h
          · simp only [h]; exact (by decide : (48 : UInt8) ≠ 61)
          · simp only [h]; exact (by decide : (34 : UInt8) ≠ 61)
theorem restOk {st : List Nat} (h : Inv st) : RestOk st := restOk_all _ st (Nat.le_refl _) h
end Go.Proofs.YtmmjcbbogokmfaaGreatDoor
