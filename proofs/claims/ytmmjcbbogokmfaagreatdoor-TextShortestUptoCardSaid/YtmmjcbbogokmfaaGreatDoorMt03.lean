import Derived.Test.YtmmjcbbogokmfaaGreatDoorMt02
set_option maxRecDepth 100000
set_option maxHeartbeats 25600000
namespace Go.Proofs.YtmmjcbbogokmfaaGreatDoor
theorem nb69 (t : Nat) (h : jD 69 t = true) : t ≠ 5 /\ t ≠ 7 /\ t ≠ 8 := by
  refine ⟨fun e => ?_, fun e => ?_, fun e => ?_⟩ <;> (subst e; revert h; decide)
theorem nb83 (t : Nat) (h : jD 83 t = true) : t ≠ 5 /\ t ≠ 8 /\ jZ 83 t = [69, 84] := by
  refine ⟨fun e => ?_, fun e => ?_, ?_⟩
  · subst e; revert h; decide
  · subst e; revert h; decide
  · unfold jZ
    rw [if_neg (by rw [h]; decide)]
    rfl
theorem nb84 (t : Nat) (h : jD 84 t = true) : t = 8 := by simpa [jD] using h
theorem lst_cases {last : Nat} {L st : List Nat} {ts : List Tk} (h57 : last = 5 \/ last = 7) (hL : LstSt last L) (ha : Acc (L ++ st) ts) :
    ∃ k ts', ts = k :: ts' /\ ((k.t = last /\ Acc st ts') \/ (k.t ≠ last /\ k.t ≠ 8 /\ ∃ M, LstSt last M /\ Acc (69 :: (M ++ st)) (k :: ts')) \/ (k.t = 8 /\ ∃ M, LstSt last M /\ Acc (69 :: (M ++ st)) ts')) := by
  cases hL with
  | shut =>
    obtain ⟨k, ts', e, h1, h2⟩ := jb (by omega) ha
    exact ⟨k, ts', e, .inl ⟨h1, h2⟩⟩
  | ex hM =>
    obtain ⟨k, ts', e, h58, hb, h1⟩ := yE (by decide) (by decide) ha
    have h2 := nb69 _ hb
    subst e
    exact ⟨k, ts', rfl, .inr (.inl ⟨by omega, h2.2.2, _, hM, ha⟩)⟩
  | comma hM =>
    obtain ⟨k, ts', e, h1, h2⟩ := jb (by decide) ha
    exact ⟨k, ts', e, .inr (.inr ⟨h1, _, hM, h2⟩)⟩
  | set =>
    obtain ⟨k, ts', e, h58, ⟨hb, h1⟩ | ⟨hb, h1⟩⟩ := kY (by decide) ha
    · obtain ⟨h2, h3, h4⟩ := nb83 _ hb
      rw [h4] at h1
      exact ⟨k, ts', e, .inr (.inl ⟨h2, h3, _, .more, h1⟩)⟩
    · obtain ⟨h2, h3⟩ := jf (by decide) h1
      exact ⟨k, ts', e, .inl ⟨h2, h3⟩⟩
  | more =>
    obtain ⟨k, ts', e, h58, ⟨hb, h1⟩ | ⟨hb, h1⟩⟩ := kY (by decide) ha
    · have h8 := nb84 _ hb
      rw [show jZ 84 k.t = [8, 69, 84] by rw [h8]; rfl] at h1
      obtain ⟨-, h2⟩ := jf (by decide) h1
      exact ⟨k, ts', e, .inr (.inr ⟨h8, _, .more, h2⟩)⟩
    · obtain ⟨h2, h3⟩ := jf (by decide) h1
      exact ⟨k, ts', e, .inl ⟨h2, h3⟩⟩
section
variable {src : List UInt8} {f : Nat}
theorem ok_ls (IH : AllOk src f) (last : Nat) (L : List Nat) (kids : List Int) (r : Rdr) (ts : List Tk) (st : List Nat) (h57 : last = 5 \/ last = 7) (hL : LstSt last L) (hk : kids.length + ts.length <= 900000) (hl : Look src r ts) (hb : big r + 2 * ts.length <= LIMR) (hf : 10 * ts.length + 9 <= f + 1) (ha : Acc (L ++ st) ts) :
    ∃ ks r' ts', exN src (f + 1) (.list last kids) r = some (0, ks, r') /\ Got src st r ts r' ts' := by
  obtain ⟨k, ts2, rfl, ⟨h1, h2⟩ | ⟨h1, h8, M, hM, h2⟩ | ⟨h8, M, hM, h2⟩⟩ := lst_cases h57 hL ha
  · obtain ⟨r1, e1, b1, -, -, l1⟩ := jI hl
    refine ⟨kids, r1, ts2, ?_, l1, h2, by rw [List.length_cons]; omega, by rw [List.length_cons]; omega⟩
    rw [exN, if_pos (by rw [hl.1]; exact h1)]
    simp only [e1, Option.bind_some]
  · rw [List.length_cons] at hk
    obtain ⟨x2, r2, t2, e2, p2, l2, a2, n2, b2⟩ := IH.ex r (k :: ts2) _ hl hb (by omega) h2
    unfold LIMR at hb
    rw [List.length_cons] at n2 b2 hb hf
    obtain ⟨ks, r3, t3, e3, l3, a3, n3, b3⟩ := IH.ls last M (kids ++ [x2]) r2 t2 st h57 hM (by rw [List.length_append, List.length_singleton]; omega) l2 (by unfold LIMR; omega) (by omega) a2
    refine ⟨ks, r3, t3, ?_, l3, a3, by rw [List.length_cons]; omega, by rw [List.length_cons]; omega⟩
    rw [exN, if_neg (by rw [hl.1]; exact h1), if_pos (by omega), jW, if_neg (by rw [hl.1]; exact h8)]
    simp only [e2, e3, Option.bind_some]
  · rw [List.length_cons] at hk
    obtain ⟨r1, e1, b1, -, -, l1⟩ := jI hl
    unfold LIMR at hb
    rw [List.length_cons] at hb hf
    obtain ⟨x2, r2, t2, e2, p2, l2, a2, n2, b2⟩ := IH.ex r1 ts2 _ l1 (by unfold LIMR; omega) (by omega) h2
    obtain ⟨ks, r3, t3, e3, l3, a3, n3, b3⟩ := IH.ls last M (kids ++ [x2]) r2 t2 st h57 hM (by rw [List.length_append, List.length_singleton]; omega) l2 (by unfold LIMR; omega) (by omega) a2
    refine ⟨ks, r3, t3, ?_, l3, a3, by rw [List.length_cons]; omega, by rw [List.length_cons]; omega⟩
    rw [exN, if_neg (by rw [hl.1, h8]; omega), if_pos (by omega), jW, if_pos (by rw [hl.1]; exact h8)]
    simp only [e1, e2, e3, Option.bind_some, Option.map_some]
theorem atomic_lt {t : Nat} (h : jd t = true) : t = 2 \/ t = 46 \/ t = 47 \/ t = 3 \/ t = 48 \/ t = 1 \/ t = 6 \/ t = 4 \/ t = 31 \/ t = 49 \/ t = 50 \/ t = 51 \/ t = 52 \/ t = 53 \/ t = 54 \/ t = 55 \/ t = 56 \/ t = 57 := by
  have := of_decide_eq_true h
  omega
theorem lst_of (t : Nat) (h : t = 50 \/ t = 51 \/ t = 53 \/ t = 54 \/ t = 55 \/ t = 56 \/ t = 57) : ∃ L, kH t = t :: 6 :: L /\ LstSt 7 L /\ t ≠ 19 /\ litT t = false /\ t ≠ 6 /\ t ≠ 4 /\ ¬ (t = 49 \/ t = 52 \/ t = 31) /\ (t = 31 \/ (49 <= t /\ t <= 57)) := by
  rcases h with rfl | rfl | rfl | rfl | rfl | rfl | rfl
  · exact ⟨[69, 7], rfl, .ex (.shut 7), by decide, by decide, by decide, by decide, by decide, by decide⟩
  · exact ⟨[69, 8, 69, 7], rfl, .ex (.comma (.shut 7)), by decide, by decide, by decide, by decide, by decide, by decide⟩
  · exact ⟨[7], rfl, .shut 7, by decide, by decide, by decide, by decide, by decide, by decide⟩
  · exact ⟨[7], rfl, .shut 7, by decide, by decide, by decide, by decide, by decide, by decide⟩
  · exact ⟨[69, 8, 69, 7], rfl, .ex (.comma (.shut 7)), by decide, by decide, by decide, by decide, by decide, by decide⟩
  · exact ⟨[69, 8, 69, 7], rfl, .ex (.comma (.shut 7)), by decide, by decide, by decide, by decide, by decide, by decide⟩
  · exact ⟨[69, 8, 69, 7], rfl, .ex (.comma (.shut 7)), by decide, by decide, by decide, by decide, by decide, by decide⟩
theorem lit_atom (t : Nat) (h : t = 2 \/ t = 46 \/ t = 47 \/ t = 3 \/ t = 48 \/ t = 1) : kH t = [t] /\ litT t = true /\ t ≠ 19 /\ t < 58 := by
  rcases h with rfl | rfl | rfl | rfl | rfl | rfl <;> exact ⟨rfl, by decide, by decide, by decide⟩
theorem name_atom (t : Nat) (h : t = 49 \/ t = 52 \/ t = 31) : kH t = [t, 6, 1, 7] /\ litT t = false /\ t ≠ 19 /\ t ≠ 6 /\ t ≠ 4 /\ t < 58 /\ (t = 31 \/ (49 <= t /\ t <= 57)) := by
  rcases h with rfl | rfl | rfl <;> exact ⟨rfl, by decide, by decide, by decide, by decide, by decide, by decide⟩
theorem ok_un (IH : AllOk src f) (r : Rdr) (ts : List Tk) (st : List Nat) (hl : Look src r ts) (hb : big r + 2 * ts.length <= LIMR) (hf : 10 * ts.length + 1 <= f + 1) (ha : Acc (81 :: st) ts) : ∃ x r' ts', exN src (f + 1) .unary r = some (x, [], r') /\ 0 <= x /\ Got src st r ts r' ts' := by
  obtain ⟨k, ts2, rfl, h58, hbg, ha⟩ := yE (by decide) (by decide) ha
  rw [gru81 _ hbg] at ha
  unfold LIMR at hb
  rw [List.length_cons] at hb hf
  by_cases h19 : k.t = 19
  · rw [if_pos h19, h19] at ha
    obtain ⟨-, a1⟩ := jf (by decide) ha
    obtain ⟨r1, e1, b1, -, -, l1⟩ := jI hl
    obtain ⟨x2, r2, t2, e2, p2, l2, a2, n2, b2⟩ := IH.un r1 ts2 _ l1 (by unfold LIMR; omega) (by omega) a1
    obtain ⟨x, r', en, px, bn, ln⟩ := vW (kt 7 [x2]) r.from_ l2 (by omega)
    refine ⟨x, r', t2, ?_, px, ln, a2, by rw [List.length_cons]; omega, by rw [List.length_cons]; omega⟩
    rw [exN, if_pos (by rw [hl.1]; exact h19)]
    simp only [e1, e2, en, Option.bind_some, Option.map_some]
  rw [if_neg h19] at ha
  obtain ⟨k', ts2', e', -, hbg2, ha⟩ := yE (by decide) (by decide) ha
  injection e' with e1 e2
  subst e1 e2
  rw [gru82 _ hbg2] at ha
  have hat : jd k.t = true := by
    have h2 : 82 = k.t \/ jd k.t = true := by simpa [jD, jO] using hbg2
    rcases h2 with e | e
    · exfalso; rw [<- e] at h58; omega
    · exact e
  have hc := atomic_lt hat
  by_cases hlit : k.t = 2 \/ k.t = 46 \/ k.t = 47 \/ k.t = 3 \/ k.t = 48 \/ k.t = 1
  · obtain ⟨q1, q2, q3, q4⟩ := lit_atom _ hlit
    rw [q1] at ha
    obtain ⟨-, a1⟩ := jf q4 ha
    obtain ⟨n, hn⟩ := hl.lit q2
    obtain ⟨r1, e1, b1, -, -, l1⟩ := jI hl
    obtain ⟨x, r', en, px, bn, ln⟩ := vW n r.from_ l1 (by omega)
    refine ⟨x, r', ts2, ?_, px, ln, a1, by rw [List.length_cons]; omega, by rw [List.length_cons]; omega⟩
    rw [exN, if_neg (by rw [hl.1]; exact h19), if_pos (by rw [hl.1]; exact q2)]
    simp only [hn, e1, en, Option.bind_some, Option.map_some]
  have hlitT : litT r.t = false := by rw [hl.1]; exact decide_eq_false hlit
  by_cases h6 : k.t = 6
  · rw [show kH k.t = [6, 69, 7] by rw [h6]; rfl] at ha
    obtain ⟨-, a1⟩ := jf (by decide) ha
    obtain ⟨r1, e1, b1, -, -, l1⟩ := jI hl
    obtain ⟨x2, r2, t2, e2, p2, l2, a2, n2, b2⟩ := IH.ex r1 ts2 _ l1 (by unfold LIMR; omega) (by omega) a1
    obtain ⟨k3, t3, rfl, -, a3⟩ := jb (by decide) a2
    rw [List.length_cons] at n2 b2
    obtain ⟨r3, e3, b3, -, -, l3⟩ := jI l2
    refine ⟨x2, r3, t3, ?_, p2, l3, a3, by rw [List.length_cons]; omega, by rw [List.length_cons]; omega⟩
    rw [exN, if_neg (by rw [hl.1]; exact h19), if_neg (by rw [hlitT]; decide), if_pos (by rw [hl.1]; exact h6)]
    simp only [e1, e2, e3, Option.bind_some]
  by_cases h4 : k.t = 4
  · rw [show kH k.t = [4, 83, 5] by rw [h4]; rfl] at ha
    obtain ⟨-, a1⟩ := jf (by decide) ha
    obtain ⟨r1, e1, b1, -, -, l1⟩ := jI hl
    obtain ⟨ks, r2, t2, e2, l2, a2, n2, b2⟩ := IH.ls 5 [83, 5] [] r1 ts2 st (.inl rfl) .set (by rw [List.length_nil]; omega) l1 (by unfold LIMR; omega) (by omega) a1
    obtain ⟨x, r', en, px, bn, ln⟩ := vW (kt 6 ks) r.from_ l2 (by omega)
    refine ⟨x, r', t2, ?_, px, ln, a2, by rw [List.length_cons]; omega, by rw [List.length_cons]; omega⟩
    rw [exN, if_neg (by rw [hl.1]; exact h19), if_neg (by rw [hlitT]; decide), if_neg (by rw [hl.1]; exact h6), if_pos (by rw [hl.1]; exact h4)]
    simp only [e1, e2, en, Option.bind_some, Option.map_some]
  by_cases hnm : k.t = 49 \/ k.t = 52 \/ k.t = 31
  · obtain ⟨q1, q2, q3, q4, q5, q6, q7⟩ := name_atom _ hnm
    rw [q1] at ha
    obtain ⟨-, a1⟩ := jf q6 ha
    obtain ⟨r1, e1, b1, -, -, l1⟩ := jI hl
    obtain ⟨k2, t2, rfl, -, a2⟩ := jb (by decide) a1
    obtain ⟨r2, e2, b2, -, -, l2⟩ := jI l1
    obtain ⟨k3, t3, rfl, -, a3⟩ := jb (by decide) a2
    obtain ⟨r3, e3, b3, -, -, l3⟩ := jI l2
    obtain ⟨k4, t4, rfl, -, a4⟩ := jb (by decide) a3
    obtain ⟨r4, e4, b4, -, -, l4⟩ := jI l3
    simp only [List.length_cons] at hb
    obtain ⟨x, r', en, px, bn, ln⟩ := vW ⟨vQ r.t, ⟨(kD src r2).toArray⟩, 0, 0, ⟨#[]⟩, [], []⟩ r.from_ l4 (by omega)
    refine ⟨x, r', t4, ?_, px, ln, a4, by simp only [List.length_cons]; omega, by simp only [List.length_cons]; omega⟩
    rw [exN, if_neg (by rw [hl.1]; exact h19), if_neg (by rw [hlitT]; decide), if_neg (by rw [hl.1]; exact h6), if_neg (by rw [hl.1]; exact h4), if_neg (by rw [hl.1]; exact fun e => e q7)]
    simp only [e1, e2, Option.bind_some]
    rw [if_pos (by rw [hl.1]; exact hnm), nameN]
    simp only [e3, e4, en, Option.bind_some, Option.map_some]
  · obtain ⟨L, q1, q2, q3, q4, q5, q6, q7, q8⟩ := lst_of k.t (by omega)
    rw [q1] at ha
    obtain ⟨-, a1⟩ := jf h58 ha
    obtain ⟨r1, e1, b1, -, -, l1⟩ := jI hl
    obtain ⟨k2, t2, rfl, -, a2⟩ := jb (by decide) a1
    obtain ⟨r2, e2, b2, -, -, l2⟩ := jI l1
    simp only [List.length_cons] at hb hf
    obtain ⟨ks, r3, t3, e3, l3, a3, n3, b3⟩ := IH.ls 7 L [] r2 t2 st (.inr rfl) q2 (by rw [List.length_nil]; omega) l2 (by unfold LIMR; omega) (by omega) a2
    obtain ⟨x, r', en, px, bn, ln⟩ := vW (kt (vQ r.t) ks) r.from_ l3 (by omega)
    refine ⟨x, r', t3, ?_, px, ln, a3, by simp only [List.length_cons]; omega, by simp only [List.length_cons]; omega⟩
    rw [exN, if_neg (by rw [hl.1]; exact h19), if_neg (by rw [hlitT]; decide), if_neg (by rw [hl.1]; exact h6), if_neg (by rw [hl.1]; exact h4), if_neg (by rw [hl.1]; exact fun e => e q8)]
    simp only [e1, e2, Option.bind_some]
    rw [if_neg (by rw [hl.1]; exact hnm)]
    simp only [e3, en, Option.bind_some, Option.map_some]
end
theorem acc_some {n : Nat} {st : List Nat} {ts : List Tk} (h : Acc (n :: st) ts) : 0 < ts.length := by
  cases h with
  | tak => simp
theorem ok_all (src : List UInt8) : ∀ f, AllOk src f
  | 0 => ⟨fun r ts st _ _ h _ => by omega, fun l s k hm r ts st _ _ h ha => by
      have := acc_some ha
      omega, fun l s b u hm root r ts st _ _ _ h _ => by omega, fun l s k hm op root r c ts st _ _ h _ => by rw [List.length_cons] at h; omega, fun r ts st _ _ h _ => by omega, fun last L kids r ts st _ _ _ _ _ h _ => by omega⟩
  | f + 1 => ⟨ok_ex (ok_all src f), ok_row (ok_all src f), ok_more (ok_all src f), ok_two (ok_all src f), ok_un (ok_all src f), ok_ls (ok_all src f)⟩
end Go.Proofs.YtmmjcbbogokmfaaGreatDoor
