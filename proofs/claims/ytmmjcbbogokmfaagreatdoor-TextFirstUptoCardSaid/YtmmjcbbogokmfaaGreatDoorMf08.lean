import Derived.Test.YtmmjcbbogokmfaaGreatDoorMf07
set_option maxRecDepth 100000
set_option maxHeartbeats 25600000
namespace Go.Proofs.YtmmjcbbogokmfaaGreatDoor
def Done (b : Bs) (q : List UInt8) : Prop := ∃ b', runB b q 0 = .ok b' /\ accB b'
theorem Done.cons {b b1 : Bs} {c : UInt8} {q : List UInt8} (h : kx b c = some b1) (hd : Done b1 q) : Done b (c :: q) := by
  obtain ⟨b', h1, h2⟩ := hd
  refine ⟨b', ?_, h2⟩
  rw [runB, h]
  exact runB_at q b1 b' 0 1 h1
theorem Done.of_run {b b1 : Bs} {p q : List UInt8} {k : Nat} (h : runB b p k = .ok b1) (hd : Done b1 q) : Done b (p ++ q) := by
  obtain ⟨b', h1, h2⟩ := hd
  refine ⟨b', ?_, h2⟩
  rw [runB_app, runB_at p b b1 k 0 h]
  exact runB_at q b1 b' 0 _ h1
theorem Done.alike {b b1 : Bs} {c : UInt8} {q : List UInt8} (h : kx b c = kx b1 c) (hd : Done b1 (c :: q)) : Done b (c :: q) := by
  obtain ⟨b', h1, h2⟩ := hd
  refine ⟨b', ?_, h2⟩
  rw [runB] at h1 ⊢
  rw [h]
  exact h1
theorem step_btw (st : List Nat) (c : UInt8) : kx ⟨st, .btw⟩ c = btwB st c := rfl
theorem done_tab {st : List Nat} {q : List UInt8} (h : Done ⟨st, .btw⟩ q) : Done ⟨st, .btw⟩ (9 :: q) := Done.cons (by rw [step_btw]; unfold btwB; rw [if_pos (by decide)]) h
theorem done_lf {st : List Nat} {q : List UInt8} (h : Done ⟨st, .btw⟩ q) : Done ⟨st, .btw⟩ (10 :: q) := Done.cons (by rw [step_btw]; unfold btwB; rw [if_pos (by decide)]) h
theorem step_sgn2 (st : List Nat) (s : UInt8) : kx ⟨st, .sgn s⟩ 61 = some ⟨jc (jV [s, 61]) st, .btw⟩ := by
  unfold kx
  exact if_pos rfl
theorem step_sgn1 (st : List Nat) (s d : UInt8) (h : d ≠ 61) (h1 : yM st [s]) : kx ⟨st, .sgn s⟩ d = btwB (jc (jV [s]) st) d := by
  unfold kx
  exact (if_neg h).trans (if_pos h1)
theorem done_wend {st : List Nat} {w : List UInt8} {q : List UInt8} (hp : jh w = true) (hm : mayN (jT w) st = true) (hq : q ≠ []) (hw : jH (q.headD 0) = false) (h : Done ⟨jc (jT w) st, .btw⟩ q) : Done ⟨st, .wrd w⟩ q := by
  cases q with
  | nil => exact absurd rfl hq
  | cons d q =>
    have hd : jH d = false := hw
    refine Done.alike ?_ h
    rw [step_wend st w d hd, if_pos ⟨hp, hm⟩]
    rfl
theorem done_word {st : List Nat} {W : List UInt8} (hp : jh W = true) (hm : mayN (jT W) st = true) : ∀ (w' v q : List UInt8), v ++ w' = W -> w'.all jH = true -> q ≠ [] -> jH (q.headD 0) = false -> Done ⟨jc (jT W) st, .btw⟩ q -> Done ⟨st, .wrd v⟩ (w' ++ q)
  | [], v, q, hv, _, hq, hw, h => by
    rw [List.append_nil] at hv
    subst hv
    exact done_wend hp hm hq hw h
  | c :: w', v, q, hv, ha, hq, hw, h => by
    rw [List.all_cons, Bool.and_eq_true] at ha
    have hv2 : (v ++ [c]) ++ w' = W := by rw [List.append_assoc]; exact hv
    have hf : yO st (v ++ [c]) = true := fits_prefix ⟨w', hv2⟩ (by simp) hp hm
    rw [List.cons_append]
    exact Done.cons (by rw [step_wrd st v c ha.1, if_pos hf]) (done_word hp hm w' (v ++ [c]) q hv2 ha.2 hq hw h)
theorem done_full {st : List Nat} {W q : List UInt8} (hp : jh W = true) (hne : W ≠ []) (hall : W.all jH = true) (hm : mayN (jT W) st = true) (hq : q ≠ []) (hw : jH (q.headD 0) = false) (h : Done ⟨jc (jT W) st, .btw⟩ q) : Done ⟨st, .btw⟩ (W ++ q) := by
  cases W with
  | nil => exact absurd rfl hne
  | cons c w' =>
    rw [List.all_cons, Bool.and_eq_true] at hall
    obtain ⟨b1, b2, b3⟩ := word_byte hall.1
    have hf : yO st [c] = true := fits_prefix (List.cons_prefix_cons.2 ⟨rfl, List.nil_prefix⟩) (by simp) hp hm
    rw [List.cons_append]
    refine Done.cons ?_ (done_word hp hm w' [c] q rfl hall.2 hq hw h)
    rw [step_btw]
    unfold btwB
    rw [if_neg (by rw [b1]; decide), if_neg b2, if_neg b3, if_pos hall.1, if_pos hf]
theorem done_text {st : List Nat} {q : List UInt8} (hm : mayN 3 st = true) (h : Done ⟨jc 3 st, .btw⟩ q) : Done ⟨st, .btw⟩ (34 :: 34 :: q) := by
  refine Done.cons (b1 := ⟨st, .txt 4⟩) ?_ (Done.cons (b1 := ⟨jc 3 st, .btw⟩) ?_ h)
  · rw [step_btw]
    unfold btwB
    rw [if_neg (by decide), if_neg (by decide), if_pos (by decide), if_pos hm]
  · show txtB st 4 34 = _
    unfold txtB
    rw [if_pos rfl, if_pos (by decide)]
theorem done_sign1 {st : List Nat} {c : UInt8} {q : List UInt8} (hb : kO c = false /\ ¬ c.toNat = 35 /\ ¬ c.toNat = 34 /\ jH c = false) (h2 : ¬ yM st [c, 61]) (h1 : yM st [c]) (h : Done ⟨jc (jV [c]) st, .btw⟩ q) : Done ⟨st, .btw⟩ (c :: q) := by
  refine Done.cons ?_ h
  rw [step_btw]
  unfold btwB
  rw [if_neg (by rw [hb.1]; decide), if_neg hb.2.1, if_neg hb.2.2.1, if_neg (by rw [hb.2.2.2]; decide), if_neg h2, if_pos h1]
theorem words_ok : ∀ i : Fin 35, (let w := resL.getD i.val []; jh w = true /\ jT w = 23 + i.val /\ w.all jH = true /\ w ≠ []) := by decide +kernel
theorem word_ok {m : Nat} (h1 : 23 <= m) (h2 : m < 58) : jh (jO m) = true /\ jT (jO m) = m /\ (jO m).all jH = true /\ jO m ≠ [] := by
  have h := words_ok ⟨m - 23, by omega⟩
  have e : jO m = resL.getD (m - 23) [] := by
    unfold jO
    rw [if_neg (by omega), if_neg (by omega), if_neg (by omega), if_neg (by omega)]
  rw [e]
  simp only at h
  exact ⟨h.1, by rw [h.2.1]; omega, h.2.2⟩
def cntNE (st : List Nat) : Nat := (st.filter fun n => !jf n).length
theorem cntNE_app (a b : List Nat) : cntNE (a ++ b) = cntNE a + cntNE b := by unfold cntNE; rw [List.filter_append, List.length_append]
theorem cntNE_empty : ∀ (e : List Nat), e.all jf = true -> cntNE e = 0
  | [], _ => rfl
  | n :: e, h => by
    rw [List.all_cons, Bool.and_eq_true] at h
    have := cntNE_empty e h.2
    unfold cntNE at this ⊢
    rw [List.filter_cons, if_neg (by rw [h.1]; decide)]
    exact this
theorem cntNE_one (m : Nat) (l : List Nat) (h : jf m = false) : cntNE (m :: l) = cntNE l + 1 := by
  unfold cntNE
  rw [List.filter_cons, if_pos (by rw [h]; decide), List.length_cons]
structure RestOk (st : List Nat) : Prop where
  two : Done ⟨st, .btw⟩ (jS st).2
  one : Done ⟨st, .btw⟩ (jS st).1
  ne1 : st ≠ [] -> (jS st).1 ≠ []
  hd1 : st ≠ [] -> jH ((jS st).1.headD 0) = false
  ne2 : st ≠ [] -> (jS st).2 ≠ []
  hd2 : (jS st).2.headD 0 ≠ 61
def atomGrow (n t : Nat) : Bool := !(decide (69 <= n) && !jf n && decide (t = 2 \/ t = 3)) || (jD n t && (match jl t 30 [n] with | some k => k.all jf | none => false))
theorem atomGrow_all : ∀ n : Fin 85, ∀ t : Fin 58, atomGrow n.val t.val = true := by decide +kernel
theorem atom_grow {m t : Nat} (h1 : 69 <= m) (h2 : m < 85) (he : jf m = false) (ht : t = 2 \/ t = 3) : jD m t = true /\ ∃ k, jl t 30 [m] = some k /\ k.all jf = true := by
  have h := atomGrow_all ⟨m, h2⟩ ⟨t, by omega⟩
  simp only [atomGrow, decide_eq_true h1, he, Bool.not_false, Bool.and_self, decide_eq_true ht, Bool.not_true, Bool.false_or, Bool.and_eq_true] at h
  refine ⟨h.1, ?_⟩
  have h3 := h.2
  cases hk : jl t 30 [m] with
  | none => rw [hk] at h3; cases h3
  | some k => rw [hk] at h3; exact ⟨k, rfl, h3⟩
theorem less_either (x y : List UInt8) : lessB x y = x \/ lessB x y = y := by
  unfold lessB
  split
  · exact .inr rfl
  · exact .inl rfl
def no11 (x : Nat) : Bool := !jD x 11 || decide (x = 11)
theorem no11_all : ∀ x : Fin 85, no11 x.val = true := by decide +kernel
theorem may11 {e l : List Nat} (he : e.all jf = true) : mayN 11 (e ++ 10 :: l) = false := by
  induction e with
  | nil => exact mayN_stop 11 10 l (by decide) (by decide)
  | cons x e ih =>
    rw [List.all_cons, Bool.and_eq_true] at he
    have hb : jD x 11 = false := by
      cases hb : jD x 11 with
      | false => rfl
      | true =>
        have h := no11_all ⟨x, begins_lt (by decide) hb⟩
        simp only [no11, hb, Bool.not_true, Bool.false_or] at h
        have := of_decide_eq_true h
        rw [this] at he
        exact absurd he.1 (by decide)
    rw [List.cons_append, mayN, if_neg (by rw [hb]; decide), if_pos he.1]
    exact ih he.2
theorem term_self : ∀ m : Fin 58, (decide (m.val = 0) || (jD m.val m.val && decide (jl m.val 30 [m.val] = some []))) = true := by decide +kernel
theorem term_take {m : Nat} (h0 : m ≠ 0) (h : m < 58) : jD m m = true /\ jl m 30 [m] = some [] := by
  have h1 := term_self ⟨m, h⟩
  simp only [decide_eq_false h0, Bool.false_or, Bool.and_eq_true] at h1
  exact ⟨h1.1, of_decide_eq_true h1.2⟩
theorem restOk_all : ∀ (N : Nat) (st : List Nat), cntNE st <= N -> Inv st -> RestOk st := by
  intro N
  induction N with
  | zero =>
    intro st hN hI
    by_cases h0 : st = []
    · subst h0
      exact ⟨⟨_, rfl, rfl, .inl rfl⟩, ⟨_, rfl, rfl, .inl rfl⟩, fun h => absurd rfl h, fun h => absurd rfl h, fun h => absurd rfl h, by decide⟩
    · obtain ⟨e, m, l, rfl, he, hm, hx⟩ := split_ne st hI.well h0 hI.tail
      rw [cntNE_app, cntNE_one m l hm] at hN
      omega
  | succ N ih =>
    intro st hN hI
    by_cases h0 : st = []
    · subst h0
      exact ⟨⟨_, rfl, rfl, .inl rfl⟩, ⟨_, rfl, rfl, .inl rfl⟩, fun h => absurd rfl h, fun h => absurd rfl h, fun h => absurd rfl h, by decide⟩
    obtain ⟨e, m, l, rfl, he, hm, hx⟩ := split_ne st hI.well h0 hI.tail
    rw [cntNE_app, cntNE_one m l hm, cntNE_empty e he] at hN
    have hrest : jS (e ++ m :: l) = kN m (jS l) := yL e (m :: l) he
    have hwell := well_suffix e _ hI.well
    rw [wellB, Bool.and_eq_true, Bool.and_eq_true] at hwell
    have hterm : m = 1 \/ (4 <= m /\ m <= 11) \/ (23 <= m /\ m < 85) := of_decide_eq_true hwell.1.1
    have hsk : ∀ t ∈ kq m, ∀ x ∈ e, jf x = true /\ jD x t = false := fun t ht x hxe => by
      have h1 := List.all_eq_true.1 he x hxe
      exact ⟨h1, no_begin (firsts_lt t ht) h1 (hx x hxe t ht)⟩
    -- what stands behind it
    have behind : ∀ (t : Nat) (k : List Nat), t ∈ kq m -> jD m t = true -> jl t 30 [m] = some k -> k.all jf = true -> mayN t (e ++ m :: l) = true /\ jc t (e ++ m :: l) = k ++ l /\ jS (k ++ l) = jS l /\ RestOk (k ++ l) := by
      intro t k ht hb hk hke
      have ht58 := firsts_lt t ht
      obtain ⟨h1, h2⟩ := with_shape (l := l) ht58 (hsk t ht) hb hk
      refine ⟨h1, h2, yL k l hke, ih _ ?_ ?_⟩
      · rw [cntNE_app, cntNE_empty k hke]
        omega
      · rw [<- h2]
        exact hI.take ht58 h1
    have hle : m ≠ 5 -> l ≠ [] := fun h5 e0 => by
      subst e0
      have := tail_app (a := e) hI.tail (by simp)
      unfold tailB at this
      rw [Bool.or_eq_true] at this
      rcases this with e | e
      · exact absurd (of_decide_eq_true e) (by simp)
      · exact h5 (of_decide_eq_true e)
    -- a word ahead of the rest
    have word : ∀ (W : List UInt8), jT W ∈ kq m -> jh W = true -> W ≠ [] -> W.all jH = true -> jD m (jT W) = true -> (∃ k, jl (jT W) 30 [m] = some k /\ k.all jf = true) -> m ≠ 5 -> Done ⟨e ++ m :: l, .btw⟩ (W ++ (jS l).1) := by
      intro W h1 h2 h3 h4 h5 ⟨k, h6, h7⟩ h8
      obtain ⟨q1, q2, q3, q4⟩ := behind _ k h1 h5 h6 h7
      have hkl : k ++ l ≠ [] := fun e0 => hle h8 (List.append_eq_nil_iff.1 e0).2
      refine done_full h2 h3 h4 q1 ?_ ?_ ?_
      · rw [<- q3]; exact q4.ne1 hkl
      · rw [<- q3]; exact q4.hd1 hkl
      · rw [q2, <- q3]; exact q4.one
    have fin : ∀ (W : List UInt8), jS (e ++ m :: l) = (9 :: (W ++ (jS l).1), W ++ (jS l).1) -> jT W ∈ kq m -> jh W = true -> W ≠ [] -> W.all jH = true -> jD m (jT W) = true -> (∃ k, jl (jT W) 30 [m] = some k /\ k.all jf = true) -> m ≠ 5 -> RestOk (e ++ m :: l) := by
      intro W hr h1 h2 h3 h4 h5 h6 h7
      have hd := word W h1 h2 h3 h4 h5 h6 h7
      refine ⟨by rw [hr]; exact hd, by rw [hr]; exact done_tab hd, fun _ => by rw [hr]; simp, fun _ => by rw [hr]; exact (by decide : jH 9 = false), fun _ => by rw [hr]; simp [h3], ?_⟩
      rw [hr]
      cases W with
      | nil => exact absurd rfl h3
      | cons c W =>
        rw [List.all_cons, Bool.and_eq_true] at h4
        show c ≠ 61
        intro e0
        rw [e0] at h4
        exact absurd h4.1 (by decide)
    rcases Nat.lt_or_ge m 58 with hm58 | hm58
    · -- a terminal
      have hfo : kq m = [m] := by unfold kq; rw [if_pos hm58]
      obtain ⟨hb, hk⟩ := term_take (m := m) (by omega) hm58
      by_cases hw : m = 1 \/ 23 <= m
      · have hsp : jh (jO m) = true /\ jT (jO m) = m /\ (jO m).all jH = true /\ jO m ≠ [] := by
          rcases hw with rfl | h23
          · decide
          · exact word_ok h23 hm58
        refine fin (jO m) ?_ (by rw [hsp.2.1, hfo]; exact List.mem_singleton.2 rfl) hsp.1 hsp.2.2.2 hsp.2.2.1 (by rw [hsp.2.1]; exact hb) ⟨[], by rw [hsp.2.1]; exact hk, rfl⟩ (by omega)
        rw [hrest]
        unfold kN
        rw [if_neg (by rw [hm]; decide), if_neg (by omega), if_neg (by omega), if_pos (by unfold wordedB; exact decide_eq_true (by omega))]
      · have h411 : 4 <= m /\ m <= 11 := by omega
        obtain ⟨q1, q2, q3, q4⟩ := behind m [] (by rw [hfo]; exact List.mem_singleton.2 rfl) hb hk rfl
        rw [List.nil_append] at q2 q4
        have hr : jS (e ++ m :: l) = (jO m ++ (jS l).2, jO m ++ (jS l).2) := by
          rw [hrest]
          unfold kN
          rw [if_neg (by rw [hm]; decide), if_neg (by omega), if_neg (by omega), if_neg (by unfold wordedB; rw [decide_eq_false (by omega)]; decide)]
        have fin1 : ∀ c : UInt8, jO m = [c] -> jV [c] = m -> (kO c = false /\ ¬ c.toNat = 35 /\ ¬ c.toNat = 34 /\ jH c = false) -> ¬ yM (e ++ m :: l) [c, 61] -> c ≠ 61 -> RestOk (e ++ m :: l) := by
          intro c h1 h2 h3 h4 h5
          have hd : Done ⟨e ++ m :: l, .btw⟩ (jO m ++ (jS l).2) := by
            rw [h1]
            exact done_sign1 h3 h4 ⟨by rw [h2]; omega, by rw [h2]; exact q1⟩ (by rw [h2, q2]; exact q4.two)
          exact ⟨by rw [hr]; exact hd, by rw [hr]; exact hd, fun _ => by rw [hr, h1]; simp, fun _ => by rw [hr, h1]; exact h3.2.2.2, fun _ => by rw [hr, h1]; simp, by rw [hr, h1]; exact h5⟩
        have hmm : m = 4 \/ m = 5 \/ m = 6 \/ m = 7 \/ m = 8 \/ m = 9 \/ m = 10 \/ m = 11 := by omega
        rcases hmm with rfl | rfl | rfl | rfl | rfl | rfl | rfl | rfl
        · exact fin1 123 rfl (by decide) (by decide) (fun h => h.1 (by decide)) (by decide)
        · exact fin1 125 rfl (by decide) (by decide) (fun h => h.1 (by decide)) (by decide)
        · exact fin1 40 rfl (by decide) (by decide) (fun h => h.1 (by decide)) (by decide)
        · exact fin1 41 rfl (by decide) (by decide) (fun h => h.1 (by decide)) (by decide)
        · exact fin1 44 rfl (by decide) (by decide) (fun h => h.1 (by decide)) (by decide)
        · exact fin1 59 rfl (by decide) (by decide) (fun h => h.1 (by decide)) (by decide)
        · exact fin1 58 rfl (by decide) (by decide) (fun h => by
            have := h.2
            rw [show jV [58, 61] = 11 by decide, may11 he] at this
            cases this) (by decide)
        · have hd : Done ⟨e ++ 11 :: l, .btw⟩ (58 :: 61 :: (jS l).2) := by
            refine Done.cons (b1 := ⟨e ++ 11 :: l, .sgn 58⟩) ?_ (Done.cons (b1 := ⟨l, .btw⟩) ?_ q4.two)
            · rw [step_btw]
              unfold btwB
              rw [if_neg (by decide), if_neg (by decide), if_neg (by decide), if_neg (by decide), if_pos ⟨by decide, by rw [show jV [58, 61] = 11 by decide]; exact q1⟩]
            · rw [step_sgn2, show jV [58, 61] = 11 by decide, q2]
          have hr2 : jS (e ++ 11 :: l) = (58 :: 61 :: (jS l).2, 58 :: 61 :: (jS l).2) := hr
          exact ⟨by rw [hr2]; exact hd, by rw [hr2]; exact hd, fun _ => by rw [hr2]; simp, fun _ => by rw [hr2]; exact (by decide : jH 58 = false), fun _ => by rw [hr2]; simp, by rw [hr2]; exact (by decide : (58 : UInt8) ≠ 61)⟩
    · by_cases h60 : m = 60
      · subst h60
        refine fin (jO 34) ?_ (by decide) (by decide) (by decide) (by decide) (by decide) ⟨[], by decide, rfl⟩ (by decide)
        rw [hrest]
        unfold kN
        rw [if_neg (by decide), if_pos rfl]
      · have h69 : 69 <= m := by
          rcases Nat.lt_or_ge m 69 with h | h
          · exfalso
            have h2 : m = 58 \/ m = 59 \/ m = 61 \/ m = 62 \/ m = 63 \/ m = 64 \/ m = 65 \/ m = 66 \/ m = 67 \/ m = 68 := by omega
            rcases h2 with rfl | rfl | rfl | rfl | rfl | rfl | rfl | rfl | rfl | rfl <;> cases hm
          · exact h
        have hfo : kq m = [2, 3] := by unfold kq; rw [if_neg (by omega), if_neg h60]
        obtain ⟨hb2, k2, hk2, hke2⟩ := atom_grow h69 (by omega) hm (.inl rfl)
        obtain ⟨hb3, k3, hk3, hke3⟩ := atom_grow h69 (by omega) hm (.inr rfl)
        have d2 : Done ⟨e ++ m :: l, .btw⟩ (48 :: (jS l).1) := word [48] (by rw [hfo]; decide) (by decide) (by decide) (by decide) hb2 ⟨k2, hk2, hke2⟩ (by omega)
        obtain ⟨q1, q2, q3, q4⟩ := behind 3 k3 (by rw [hfo]; decide) hb3 hk3 hke3
        have d3 : Done ⟨e ++ m :: l, .btw⟩ (34 :: 34 :: (jS l).2) := done_text q1 (by rw [q2, <- q3]; exact q4.two)
        have hr : jS (e ++ m :: l) = (lessB (9 :: 48 :: (jS l).1) (34 :: 34 :: (jS l).2), lessB (48 :: (jS l).1) (34 :: 34 :: (jS l).2)) := by
          rw [hrest]
          unfold kN
          rw [if_neg (by rw [hm]; decide), if_neg h60, if_pos (by omega)]
        have l1 := less_either (9 :: 48 :: (jS l).1) (34 :: 34 :: (jS l).2)
        have l2 := less_either (48 :: (jS l).1) (34 :: 34 :: (jS l).2)
        refine ⟨?_, ?_, fun _ => ?_, fun _ => ?_, fun _ => ?_, ?_⟩
        · rw [hr]; rcases l2 with h | h <;> (simp only [h]; assumption)
        · rw [hr]
          rcases l1 with h | h
          · simp only [h]; exact done_tab d2
          · simp only [h]; exact d3
        · rw [hr]; rcases l1 with h | h <;> simp [h]
        · rw [hr]
          rcases l1 with h | h
          · simp only [h]; exact (by decide : jH 9 = false)
          · simp only [h]; exact (by decide : jH 34 = false)
        · rw [hr]; rcases l2 with h | h <;> simp [h]
        · rw [hr]
          rcases l2 with h | h
          · simp only [h]; exact (by decide : (48 : UInt8) ≠ 61)
          · simp only [h]; exact (by decide : (34 : UInt8) ≠ 61)
theorem restOk {st : List Nat} (h : Inv st) : RestOk st := restOk_all _ st (Nat.le_refl _) h
def mdOk (st : List Nat) : Md9 -> Prop
  | .btw => True
  | .com => True
  | .wrd w => yO st w = true /\ w ≠ [] /\ w.all jH = true
  | .sgn c => yM st [c, 61]
  | .txt e => mayN 3 st = true /\ 4 <= e /\ e <= 7
structure InvB (b : Bs) : Prop where
  st : Inv b.st
  md : mdOk b.st b.md
theorem btw_inv {st : List Nat} {c : UInt8} {b : Bs} (h : Inv st) (hs : btwB st c = some b) : InvB b := by
  unfold btwB at hs
  split at hs
  · injection hs with hs; subst hs; exact ⟨h, trivial⟩
  split at hs
  · injection hs with hs; subst hs; exact ⟨h, trivial⟩
  split at hs
  · split at hs
    · rename_i hm
      injection hs with hs; subst hs; exact ⟨h, hm, by decide, by decide⟩
    · cases hs
  split at hs
  · rename_i hw
    split at hs
    · rename_i hf
      injection hs with hs; subst hs; exact ⟨h, hf, by simp, by rw [List.all_cons, hw]; rfl⟩
    · cases hs
  split at hs
  · rename_i h2
    injection hs with hs; subst hs; exact ⟨h, h2⟩
  split at hs
  · rename_i h1
    injection hs with hs; subst hs; exact ⟨h.take (ja _) h1.2, trivial⟩
  · cases hs
theorem step_inv {b b' : Bs} {c : UInt8} (h : InvB b) (hs : kx b c = some b') : InvB b' := by
  obtain ⟨st, md⟩ := b
  obtain ⟨hI, hm⟩ := h
  unfold kx at hs
  cases md with
  | btw => exact btw_inv hI hs
  | com =>
    simp only at hs
    split at hs
    · injection hs with hs; subst hs; exact ⟨hI, trivial⟩
    · injection hs with hs; subst hs; exact ⟨hI, trivial⟩
  | wrd w =>
    simp only at hs
    split at hs
    · rename_i hw
      split at hs
      · rename_i hf
        injection hs with hs; subst hs
        exact ⟨hI, hf, by simp, by rw [List.all_append, hm.2.2, List.all_cons, hw]; rfl⟩
      · cases hs
    · split at hs
      · rename_i hp
        exact btw_inv (hI.take (vB _) hp.2) hs
      · cases hs
  | sgn s =>
    simp only at hs
    split at hs
    · injection hs with hs; subst hs; exact ⟨hI.take (ja _) hm.2, trivial⟩
    · split at hs
      · rename_i h1
        exact btw_inv (hI.take (ja _) h1.2) hs
      · cases hs
  | txt e =>
    simp only at hs
    unfold txtB at hs
    obtain ⟨h3, h4, h7⟩ := hm
    split at hs
    · split at hs
      · injection hs with hs; subst hs; exact ⟨hI.take (by decide) h3, trivial⟩
      split at hs
      · injection hs with hs; subst hs; exact ⟨hI, h3, by decide, by decide⟩
      split at hs
      · cases hs
      · injection hs with hs; subst hs; exact ⟨hI, h3, by decide, by decide⟩
    split at hs
    · split at hs
      · injection hs with hs; subst hs; exact ⟨hI, h3, by decide, by decide⟩
      split at hs
      · injection hs with hs; subst hs; exact ⟨hI, h3, by decide, by decide⟩
      · cases hs
    · split at hs
      · cases hs
      · injection hs with hs; subst hs; exact ⟨hI, h3, by show 4 <= if e = 7 then 4 else e + 1; split <;> omega, by show (if e = 7 then 4 else e + 1) <= 7; split <;> omega⟩
theorem run_inv : ∀ (l : List UInt8) (b b' : Bs) (k : Nat), InvB b -> runB b l k = .ok b' -> InvB b'
  | [], b, b', k, h, hr => by rw [runB] at hr; injection hr with hr; rw [<- hr]; exact h
  | c :: l, b, b', k, h, hr => by
    rw [runB] at hr
    cases hs : kx b c with
    | none => rw [hs] at hr; cases hr
    | some b1 =>
      rw [hs] at hr
      exact run_inv l b1 b' (k + 1) (step_inv h hs) hr
theorem start_inv : InvB startB := ⟨Inv.start, trivial⟩
def GoodEnd (st : List Nat) (w r : List UInt8) : Prop := r ≠ [] /\ Done ⟨st, .wrd w⟩ r
theorem try_good {st : List Nat} {w : List UInt8} {t : Nat} {more : List UInt8} (hI : Inv st) (ht : jT (w ++ more) = t) (h5 : t ≠ 5) (hp : jh (w ++ more) = true) (ha : more.all jH = true) (hm : mayN t st = true) (best : List UInt8) (hb : best = [] \/ GoodEnd st w best) :
    GoodEnd st w (tryN st best t more) := by
  have h58 : t < 58 := by rw [<- ht]; exact vB _
  have hI2 := hI.take h58 hm
  have hne : jc t st ≠ [] := by
    obtain ⟨e, n, l, k, hst, he, hbg, h85, hk, hst'⟩ := vf h58 hm (vl h58 hm)
    rw [hst']
    intro e0
    obtain ⟨rfl, rfl⟩ := List.append_eq_nil_iff.1 e0
    have htl := hI.tail
    rw [hst] at htl
    have := tail_app (a := e) htl (by simp)
    unfold tailB at this
    rw [Bool.or_eq_true] at this
    rcases this with e | e
    · exact absurd (of_decide_eq_true e) (by simp)
    · have e5 : n = 5 := of_decide_eq_true e
      rw [e5] at hbg
      exact h5 (begins_term (by decide) hbg).symm
  have hR := restOk hI2
  have hg : GoodEnd st w (more ++ (jS (jc t st)).1) := by
    refine ⟨fun e => hR.ne1 hne (List.append_eq_nil_iff.1 e).2, ?_⟩
    subst ht
    exact done_word hp hm more w _ rfl ha (hR.ne1 hne) (hR.hd1 hne) hR.one
  unfold tryN
  rw [if_pos hm]
  simp only
  split
  · exact hg
  · rename_i hn
    rcases hb with hb | hb
    · exact absurd (.inl hb) hn
    · exact hb
theorem try_keep {st : List Nat} {w : List UInt8} {t : Nat} {more : List UInt8} (hI : Inv st) (ht : jT (w ++ more) = t) (h5 : t ≠ 5) (hp : jh (w ++ more) = true) (ha : more.all jH = true) (best : List UInt8) (hb : best = [] \/ GoodEnd st w best) : tryN st best t more = [] \/ GoodEnd st w (tryN st best t more) := by
  cases hm : mayN t st with
  | true => exact .inr (try_good hI ht h5 hp ha hm best hb)
  | false =>
    unfold tryN
    rw [hm, if_neg (by decide)]
    exact hb
theorem res_facts : ∀ i : Fin 35, (let w := resL.getD i.val []; jh w = true /\ jT w = 23 + i.val /\ w.all jH = true /\ w.length <= 9 /\ w.all (fun c => decide (c.toNat ≠ 48)) = true) := by decide +kernel
theorem res_fact {r : List UInt8} {i : Nat} (h : resL[i]? = some r) : jh r = true /\ jT r = 23 + i /\ r.all jH = true := by
  have hi : i < 35 := (List.getElem?_eq_some_iff.1 h).1
  have h1 := res_facts ⟨i, hi⟩
  simp only [List.getD_eq_getElem?_getD, h, Option.getD_some] at h1
  exact ⟨h1.1, h1.2.1, h1.2.2.1⟩
theorem tries_good {st : List Nat} {w : List UInt8} (hI : Inv st) : ∀ (l : List (List UInt8)) (i : Nat) (best : List UInt8), l = resL.drop i -> (best = [] \/ GoodEnd st w best) ->
    (ki st w l i best = [] \/ GoodEnd st w (ki st w l i best)) /\ (best ≠ [] -> ki st w l i best ≠ []) /\ ((∃ r ∈ kI st l i, w <+: r) -> ki st w l i best ≠ [])
  | [], i, best, _, hb => ⟨hb, fun h => h, fun ⟨r, hr, _⟩ => by cases hr⟩
  | r :: l, i, best, hl, hb => by
    have hi : resL[i]? = some r := by
      have h := congrArg (fun l => l[0]?) hl
      simp only [List.getElem?_drop, Nat.add_zero] at h
      exact h.symm
    have hl2 : l = resL.drop (i + 1) := by rw [<- List.drop_drop, <- hl]; rfl
    obtain ⟨f1, f2, f3⟩ := res_fact hi
    rw [ki]
    by_cases hpre : w.isPrefixOf r = true
    · rw [if_pos hpre]
      have hpr := List.isPrefixOf_iff_prefix.1 hpre
      have hwr : w ++ r.drop w.length = r := by
        obtain ⟨x, rfl⟩ := hpr
        rw [List.drop_left]
      have ha : (r.drop w.length).all jH = true := List.all_eq_true.2 fun x hx => List.all_eq_true.1 f3 x (List.mem_of_mem_drop hx)
      have hk := try_keep (t := 23 + i) (more := r.drop w.length) hI (by rw [hwr]; exact f2) (by omega) (by rw [hwr]; exact f1) ha best hb
      obtain ⟨g1, g2, g3⟩ := tries_good hI l (i + 1) (tryN st best (23 + i) (r.drop w.length)) hl2 hk
      have hnb : best ≠ [] -> tryN st best (23 + i) (r.drop w.length) ≠ [] := fun hne => by
        cases hm : mayN (23 + i) st with
        | true => exact (try_good (more := r.drop w.length) hI (by rw [hwr]; exact f2) (by omega) (by rw [hwr]; exact f1) ha hm best hb).1
        | false =>
          unfold tryN
          rw [hm, if_neg (by decide)]
          exact hne
      refine ⟨g1, fun hne => g2 (hnb hne), fun ⟨x, hx, hx2⟩ => ?_⟩
      rw [kI] at hx
      by_cases hm : mayN (23 + i) st = true
      · exact g2 (try_good (more := r.drop w.length) hI (by rw [hwr]; exact f2) (by omega) (by rw [hwr]; exact f1) ha hm best hb).1
      · rw [if_neg hm] at hx
        exact g3 ⟨x, hx, hx2⟩
    · rw [if_neg hpre]
      obtain ⟨g1, g2, g3⟩ := tries_good hI l (i + 1) best hl2 hb
      refine ⟨g1, g2, fun ⟨x, hx, hx2⟩ => ?_⟩
      rw [kI] at hx
      split at hx
      · rcases List.mem_cons.1 hx with rfl | hx
        · exact absurd (List.isPrefixOf_iff_prefix.2 hx2) hpre
        · exact g3 ⟨x, hx, hx2⟩
      · exact g3 ⟨x, hx, hx2⟩
theorem res_short {w : List UInt8} (h : kc w ≠ 0) : w.length <= 9 := by
  have hm := idx_mem w resL 23 h
  have : ∀ r ∈ resL, r.length <= 9 := by decide
  exact this w hm
theorem no_zero (w : List UInt8) : kc (w ++ [48]) = 0 := by
  rcases Nat.eq_zero_or_pos (kc (w ++ [48])) with h | h
  · exact h
  · exfalso
    have hm := idx_mem (w ++ [48]) resL 23 (Nat.pos_iff_ne_zero.1 h)
    have : ∀ r ∈ resL, (48 : UInt8) ∉ r := by decide
    exact this _ hm (by simp)
theorem head_app {w : List UInt8} (h : w ≠ []) (x : List UInt8) : (w ++ x).headD 0 = w.headD 0 := by
  cases w with
  | nil => exact absurd rfl h
  | cons a w => rfl
theorem words_sub (st : List Nat) : ∀ (l : List (List UInt8)) (i : Nat) (r : List UInt8), r ∈ kI st l i -> r ∈ l
  | [], i, r, h => by cases h
  | x :: l, i, r, h => by
    rw [kI] at h
    split at h
    · rcases List.mem_cons.1 h with rfl | h
      · exact List.mem_cons_self
      · exact List.mem_cons_of_mem _ (words_sub st l _ r h)
    · exact List.mem_cons_of_mem _ (words_sub st l _ r h)
theorem wordEnd_good {st : List Nat} {w : List UInt8} (hI : Inv st) (hf : yO st w = true) (hne : w ≠ []) (hall : w.all jH = true) : GoodEnd st w (ky st w) := by
  obtain ⟨g1, -, g3⟩ := tries_good (w := w) hI resL 0 [] rfl (.inl rfl)
  unfold yO fitsB at hf
  rw [Bool.or_eq_true, Bool.or_eq_true, Bool.and_eq_true, Bool.and_eq_true] at hf
  have hf' : (mayN 1 st = true /\ jN w = true) \/ (mayN 2 st = true /\ jX w = true) \/ ∃ r ∈ kI st resL 0, w <+: r := by
    rcases hf with (h | h) | h
    · exact .inl h
    · exact .inr (.inl h)
    · obtain ⟨r, h1, h2⟩ := List.any_eq_true.1 h
      exact .inr (.inr ⟨r, h1, List.isPrefixOf_iff_prefix.1 h2⟩)
  clear hf
  unfold ky
  simp only
  generalize ki st w resL 0 [] = best at *
  have hkeep : ∀ {t more}, jT (w ++ more) = t -> t ≠ 5 -> jh (w ++ more) = true -> more.all jH = true -> (best ≠ [] \/ mayN t st = true) -> GoodEnd st w (tryN st best t more) := by
    intro t more h1 h2 h3 h4 h5
    cases hm : mayN t st with
    | true => exact try_good hI h1 h2 h3 h4 hm best g1
    | false =>
      rw [hm] at h5
      unfold tryN
      rw [hm, if_neg (by decide)]
      rcases h5 with h5 | h5
      · exact g1.resolve_left h5
      · cases h5
  have hword : (∃ r ∈ kI st resL 0, w <+: r) -> best ≠ [] := g3
  by_cases hd : digC (w.headD 0) = true
  · rw [if_pos hd]
    have hno : ¬ ∃ r ∈ resL, w <+: r := fun ⟨r, hr, x, hx⟩ => by
      have h1 := res_letter r hr
      rw [<- hx, head_app hne] at h1
      rw [let_dig h1] at hd
      cases hd
    have hint : mayN 2 st = true /\ jX w = true := by
      rcases hf' with h | h | ⟨r, h1, h2⟩
      · exfalso
        have h2 := h.2
        unfold jN at h2
        rw [Bool.and_eq_true, Bool.and_eq_true] at h2
        rw [let_dig h2.1.2] at hd
        cases hd
      · exact h
      · exact absurd ⟨r, words_sub st resL 0 r h1, h2⟩ hno
    refine hkeep (more := []) ?_ (by decide) ?_ rfl (.inr hint.1)
    · rw [List.append_nil]
      unfold jT
      rw [if_pos hd]
    · rw [List.append_nil]
      unfold jh
      rw [hd, hint.2]
      rfl
  · rw [if_neg hd]
    have hint : ¬ (mayN 2 st = true /\ jX w = true) := fun h => by
      have h2 := h.2
      unfold jX at h2
      rw [Bool.and_eq_true] at h2
      cases w with
      | nil => exact hne rfl
      | cons a w =>
        have h3 := h2.1
        rw [List.all_cons, Bool.and_eq_true] at h3
        exact hd h3.1
    by_cases hl : jv w = true
    · rw [if_pos hl]
      have h0 : kc w = 0 := by
        unfold jv at hl
        rw [Bool.and_eq_true] at hl
        exact of_decide_eq_true hl.2
      refine hkeep (more := []) ?_ (by decide) ?_ rfl ?_
      · rw [List.append_nil]
        unfold jT
        rw [if_neg hd, if_pos h0]
      · rw [List.append_nil]
        unfold jh
        rw [hl, Bool.or_true]
      · rcases hf' with h | h | h
        · exact .inr h.1
        · exact absurd h hint
        · exact .inl (hword h)
    · rw [if_neg hl]
      by_cases hs : w.length < 64 /\ jN w = true
      · rw [if_pos hs]
        have hs0 : jN (w ++ [48]) = true := by
          have h2 := hs.2
          unfold jN at h2 ⊢
          rw [Bool.and_eq_true, Bool.and_eq_true] at h2 ⊢
          refine ⟨⟨decide_eq_true (by rw [List.length_append, List.length_singleton]; omega), ?_⟩, ?_⟩
          · rw [head_app hne]
            exact h2.1.2
          · rw [List.all_append, h2.2]
            decide
        refine hkeep (more := [48]) ?_ (by decide) ?_ (by decide) ?_
        · unfold jT
          rw [head_app hne, if_neg hd, if_pos (no_zero w)]
        · unfold jh jv
          rw [hs0, decide_eq_true (no_zero w), Bool.and_self, Bool.or_true]
        · rcases hf' with h | h | h
          · exact .inr h.1
          · exact absurd h hint
          · exact .inl (hword h)
      · rw [if_neg hs]
        refine g1.resolve_left ?_
        rcases hf' with h | h | h
        · exfalso
          refine hs ⟨?_, h.2⟩
          by_cases hw : kc w = 0
          · exact absurd (by unfold jv; rw [h.2, decide_eq_true hw]; rfl) hl
          · have := res_short hw
            omega
        · exact absurd h hint
        · exact hword h
theorem fin_done {b : Bs} (h : InvB b) : Done b (finS b) := by
  obtain ⟨st, md⟩ := b
  obtain ⟨hI, hm⟩ := h
  have hR := restOk hI
  unfold finS
  cases md with
  | btw => exact hR.two
  | com =>
    simp only
    by_cases h0 : (jS st).2 = []
    · rw [if_pos h0]
      have hst : st = [] := by
        cases st with
        | nil => rfl
        | cons n l => exact absurd h0 (hR.ne2 (by simp))
      exact ⟨_, rfl, hst, .inr rfl⟩
    · rw [if_neg h0]
      refine Done.cons (b1 := ⟨st, .btw⟩) ?_ hR.two
      unfold kx
      exact if_pos (by decide)
  | wrd w => exact (wordEnd_good hI hm.1 hm.2.1 hm.2.2).2
  | sgn c =>
    simp only
    by_cases h1 : yM st [c]
    · rw [if_pos h1]
      have hI2 := hI.take (ja _) h1.2
      have hR2 := restOk hI2
      have hne := sole_ne (two_sign hm.1 h1.1) hI.ok h1.2 (vl (ja _) h1.2)
      have h2 := hR2.ne2 hne
      have h3 := hR2.hd2
      have h4 := hR2.two
      cases hq : (jS (jc (jV [c]) st)).2 with
      | nil => exact absurd hq h2
      | cons d q =>
        rw [hq] at h3 h4
        exact Done.alike (b1 := ⟨jc (jV [c]) st, .btw⟩) (step_sgn1 st c d h3 h1) h4
    · rw [if_neg h1]
      exact Done.cons (step_sgn2 st c) (restOk (hI.take (ja _) hm.2)).two
  | txt e =>
    obtain ⟨h3, h4, h7⟩ := hm
    have hd := (restOk (hI.take (t := 3) (by decide) h3)).two
    have s4 : kx ⟨st, .txt 4⟩ 34 = some ⟨jc 3 st, .btw⟩ := by
      show txtB st 4 34 = _
      unfold txtB
      rw [if_pos rfl, if_pos (by decide)]
    have d4 : Done ⟨st, .txt 4⟩ (34 :: (jS (jc 3 st)).2) := Done.cons s4 hd
    have s7 : kx ⟨st, .txt 7⟩ 48 = some ⟨st, .txt 4⟩ := by
      show txtB st 7 48 = _
      unfold txtB
      rw [if_neg (by decide), if_neg (by decide), if_neg (by decide), if_pos rfl]
    have s6 : kx ⟨st, .txt 6⟩ 48 = some ⟨st, .txt 7⟩ := by
      show txtB st 6 48 = _
      unfold txtB
      rw [if_neg (by decide), if_neg (by decide), if_neg (by decide), if_neg (by decide)]
    have s5 : kx ⟨st, .txt 5⟩ 34 = some ⟨st, .txt 4⟩ := by
      show txtB st 5 34 = _
      unfold txtB
      rw [if_neg (by decide), if_pos rfl, if_neg (by decide), if_pos (.inl (by decide))]
    have he : e = 4 \/ e = 5 \/ e = 6 \/ e = 7 := by omega
    rcases he with rfl | rfl | rfl | rfl
    · exact d4
    · exact Done.cons s5 d4
    · exact Done.cons s6 (Done.cons s7 d4)
    · exact Done.cons s7 d4
end Go.Proofs.YtmmjcbbogokmfaaGreatDoor
