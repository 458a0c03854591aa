import Derived.Test.YtmmjcbbogokmfaaGreatDoorMt03
set_option maxRecDepth 100000
set_option maxHeartbeats 25600000
namespace Go.Proofs.YtmmjcbbogokmfaaGreatDoor
theorem Got.zero {src : List UInt8} {st : List Nat} {r r' : Rdr} {ts ts' : List Tk} (h : Got src st r ts r' ts') : Got0 src st r ts r' ts' := ⟨h.look, h.acc, Nat.le_of_lt h.len, h.big⟩
section
variable {src : List UInt8} {f : Nat}
theorem ok_expr (r : Rdr) (ts : List Tk) (st : List Nat) (hl : Look src r ts) (hb : big r + 2 * ts.length <= LIMR) (hf : 10 * ts.length + 8 <= f) (ha : Acc (69 :: st) ts) : ∃ x r' ts', exprN src f r = some (x, r') /\ 0 <= x /\ Got src st r ts r' ts' := by
  obtain ⟨x, r', ts', e, p, g⟩ := (ok_all src f).ex r ts st hl hb hf ha
  refine ⟨x, r', ts', ?_, p, g⟩
  unfold exprN
  rw [e]
  rfl
theorem ok_guard (first sym : Nat) (h : (first = 12 /\ sym = 61) \/ (first = 32 /\ sym = 62)) (r : Rdr) (ts : List Tk) (st : List Nat) (hl : Look src r ts) (hb : big r + 2 * ts.length <= LIMR) (hf : 10 * ts.length + 8 <= f) (ha : Acc (sym :: st) ts) :
    ∃ x r' ts', vE src f first r = some (x, r') /\ Got0 src st r ts r' ts' := by
  have hs : 58 <= sym /\ ∀ t, (jD sym t = true -> t = first /\ jZ sym t = [t, 69]) /\ (jD sym t = false -> t ≠ first) := by
    rcases h with ⟨rfl, rfl⟩ | ⟨rfl, rfl⟩
    · refine ⟨by decide, fun t => ⟨fun e => ?_, fun e e2 => ?_⟩⟩
      · have h1 : t = 12 := by simpa [jD] using e
        subst h1
        exact ⟨rfl, rfl⟩
      · subst e2; cases e
    · refine ⟨by decide, fun t => ⟨fun e => ?_, fun e e2 => ?_⟩⟩
      · have h1 : t = 32 := by simpa [jD] using e
        subst h1
        exact ⟨rfl, rfl⟩
      · subst e2; cases e
  obtain ⟨k, ts2, rfl, h58, ⟨hbg, ha⟩ | ⟨hbg, ha⟩⟩ := kY hs.1 ha
  · obtain ⟨h1, h2⟩ := (hs.2 k.t).1 hbg
    rw [h2] at ha
    obtain ⟨-, a1⟩ := jf h58 ha
    obtain ⟨r1, e1, b1, -, -, l1⟩ := jI hl
    unfold LIMR at hb
    rw [List.length_cons] at hb hf
    obtain ⟨x, r', ts', e2, p, l2, a2, n2, b2⟩ := ok_expr (f := f) r1 ts2 st l1 (by unfold LIMR; omega) (by omega) a1
    refine ⟨x, r', ts', ?_, l2, a2, by rw [List.length_cons]; omega, by rw [List.length_cons]; omega⟩
    unfold vE
    rw [if_neg (by rw [hl.1, h1]; exact fun e => e rfl), e1, Option.bind_some, if_pos (by omega)]
    exact e2
  · refine ⟨-1, r, _, ?_, hl, ha, Nat.le_refl _, Nat.le_refl _⟩
    unfold vE
    rw [if_pos (by rw [hl.1]; exact (hs.2 k.t).2 hbg)]
theorem ok_ruled1 (t : Nat) (ht : t = 29 \/ t = 30 \/ t = 31) (r : Rdr) (k : Tk) (ts : List Tk) (st : List Nat) (hk : k.t = t) (hl : Look src r (k :: ts)) (hb : big r + 2 * (k :: ts).length <= LIMR) (hf : 10 * (k :: ts).length + 8 <= f) (ha : Acc (32 :: 69 :: 9 :: st) ts) :
    ∃ x r' ts', yL src f t r = some (x, r') /\ Got src st r (k :: ts) r' ts' := by
  unfold LIMR at hb
  rw [List.length_cons] at hb hf
  obtain ⟨r1, e1, b1, -, -, l1⟩ := jI hl
  obtain ⟨k2, t2, rfl, -, a2⟩ := jb (by decide) ha
  obtain ⟨r2, e2, b2, -, -, l2⟩ := jI l1
  rw [List.length_cons] at hb hf
  obtain ⟨x3, r3, t3, e3, p3, l3, a3, n3, b3⟩ := ok_expr (f := f) r2 t2 _ l2 (by unfold LIMR; omega) (by omega) a2
  obtain ⟨k4, t4, rfl, -, a4⟩ := jb (by decide) a3
  rw [List.length_cons] at n3 b3
  obtain ⟨r4, e4, b4, -, -, l4⟩ := jI l3
  refine ⟨x3, r4, t4, ?_, l4, a4, by simp only [List.length_cons]; omega, by simp only [List.length_cons]; omega⟩
  unfold yL vE
  rw [if_neg (by rw [hl.1, hk]; exact fun e => e rfl), e1, Option.bind_some, if_neg (by omega), e2, Option.bind_some, e3, Option.bind_some, if_pos p3, e4, Option.bind_some]
theorem ok_ruled (t sym : Nat) (h : (t = 29 /\ sym = 64) \/ (t = 30 /\ sym = 65)) (r : Rdr) (ts : List Tk) (st : List Nat) (hl : Look src r ts) (hb : big r + 2 * ts.length <= LIMR) (hf : 10 * ts.length + 8 <= f) (ha : Acc (sym :: st) ts) :
    ∃ x r' ts', yL src f t r = some (x, r') /\ Got0 src st r ts r' ts' := by
  have hs : 58 <= sym /\ ∀ u, (jD sym u = true -> u = t /\ jZ sym u = [u, 32, 69, 9]) /\ (jD sym u = false -> u ≠ t) := by
    rcases h with ⟨rfl, rfl⟩ | ⟨rfl, rfl⟩
    · refine ⟨by decide, fun u => ⟨fun e => ?_, fun e e2 => ?_⟩⟩
      · have h1 : u = 29 := by simpa [jD] using e
        subst h1
        exact ⟨rfl, rfl⟩
      · subst e2; cases e
    · refine ⟨by decide, fun u => ⟨fun e => ?_, fun e e2 => ?_⟩⟩
      · have h1 : u = 30 := by simpa [jD] using e
        subst h1
        exact ⟨rfl, rfl⟩
      · subst e2; cases e
  obtain ⟨k, ts2, rfl, h58, ⟨hbg, ha⟩ | ⟨hbg, ha⟩⟩ := kY hs.1 ha
  · obtain ⟨h1, h2⟩ := (hs.2 k.t).1 hbg
    rw [h2] at ha
    obtain ⟨-, a1⟩ := jf h58 ha
    obtain ⟨x, r', ts', e, g⟩ := ok_ruled1 t (by omega) r k ts2 st h1 hl hb hf a1
    exact ⟨x, r', ts', e, g.zero⟩
  · refine ⟨-1, r, _, ?_, hl, ha, Nat.le_refl _, Nat.le_refl _⟩
    unfold yL vE
    rw [if_pos (by rw [hl.1]; exact (hs.2 k.t).2 hbg), Option.bind_some, if_neg (show ¬ (0 : Int) <= -1 by decide)]
theorem ok_decl (t0 : Nat) (ht : t0 < 58) (r : Rdr) (ts : List Tk) (st : List Nat) (hl : Look src r ts) (hb : big r + 2 * ts.length <= LIMR) (ha : Acc (t0 :: 1 :: st) ts) :
    ∃ w a o r' ts', declN src r = some (w, a, o, r') /\ Look src r' ts' /\ Acc st ts' /\ ts'.length + 2 = ts.length /\ big r' = big r + 1 := by
  obtain ⟨k1, t1, rfl, -, a1⟩ := jb ht ha
  obtain ⟨r1, e1, b1, -, -, l1⟩ := jI hl
  obtain ⟨k2, t2, rfl, -, a2⟩ := jb (by decide) a1
  obtain ⟨r2, e2, b2, -, -, l2⟩ := jI l1
  unfold LIMR at hb
  have ho : r2.order <= big r2 := by unfold big; omega
  refine ⟨⟨(kD src r1).toArray⟩, (r1.from_ : Int), (r2.order : Int), { r2 with order := r2.order + 1 }, t2, ?_, ?_, a2, rfl, ?_⟩
  · unfold declN nameN
    rw [e1, Option.bind_some, e2]
    simp only [Option.map_some, Option.bind_some]
    rw [if_pos (by omega)]
  · cases t2 with
    | nil => trivial
    | cons k t2 => exact l2
  · rw [<- b1, <- b2]
    unfold big
    simp only
    omega
theorem ok_in (r : Rdr) (ts : List Tk) (st : List Nat) (hl : Look src r ts) (ha : Acc (63 :: st) ts) : ∃ w a r' ts', inN src r = some (w, a, r') /\ Got0 src st r ts r' ts' := by
  obtain ⟨k, ts2, rfl, h58, ⟨hbg, ha⟩ | ⟨hbg, ha⟩⟩ := kY (by decide) ha
  · have h1 : k.t = 28 := by simpa [jD] using hbg
    rw [show jZ 63 k.t = [28, 1] by rw [h1]; rfl] at ha
    obtain ⟨-, a1⟩ := jf (by decide) ha
    obtain ⟨r1, e1, b1, -, -, l1⟩ := jI hl
    obtain ⟨k2, t2, rfl, -, a2⟩ := jb (by decide) a1
    obtain ⟨r2, e2, b2, -, -, l2⟩ := jI l1
    refine ⟨⟨(kD src r1).toArray⟩, (r1.from_ : Int), r2, t2, ?_, l2, a2, by simp only [List.length_cons]; omega, by simp only [List.length_cons]; omega⟩
    unfold inN nameN
    rw [if_pos (by rw [hl.1]; exact h1), e1, Option.bind_some, e2]
    rfl
  · have h1 : k.t ≠ 28 := fun e => by rw [e] at hbg; cases hbg
    refine ⟨⟨#[]⟩, 0, r, _, ?_, hl, ha, Nat.le_refl _, Nat.le_refl _⟩
    unfold inN
    rw [if_neg (by rw [hl.1]; exact h1)]
theorem ok_kind (r : Rdr) (ts : List Tk) (st : List Nat) (hl : Look src r ts) (ha : Acc (60 :: st) ts) : ∃ x r' ts', kindN src r = some (x, r') /\ Got src st r ts r' ts' := by
  obtain ⟨k, ts2, rfl, h58, hbg, ha⟩ := yE (by decide) (by decide) ha
  have h1 : 34 <= k.t /\ k.t <= 38 := by simpa [jD] using hbg
  have h2 : jZ 60 k.t = [k.t] := by
    unfold jZ
    rw [if_neg (by rw [hbg]; decide)]
    rfl
  rw [h2] at ha
  obtain ⟨-, a1⟩ := jf h58 ha
  obtain ⟨r1, e1, b1, -, -, l1⟩ := jI hl
  refine ⟨(r.t : Int) - 33, r1, ts2, ?_, l1, a1, by simp only [List.length_cons]; omega, by simp only [List.length_cons]; omega⟩
  unfold kindN
  rw [if_pos (by rw [hl.1]; exact h1), e1]
  rfl
theorem ok_optional (r : Rdr) (ts : List Tk) (st : List Nat) (hl : Look src r ts) (ha : Acc (59 :: st) ts) : ∃ b r' ts', jW src 39 r = some (b, r') /\ Got0 src st r ts r' ts' := by
  obtain ⟨k, ts2, rfl, h58, ⟨hbg, ha⟩ | ⟨hbg, ha⟩⟩ := kY (by decide) ha
  · have h1 : k.t = 39 := by simpa [jD] using hbg
    rw [show jZ 59 k.t = [39] by rw [h1]; rfl] at ha
    obtain ⟨-, a1⟩ := jf (by decide) ha
    obtain ⟨r1, e1, b1, -, -, l1⟩ := jI hl
    refine ⟨true, r1, ts2, ?_, l1, a1, by simp only [List.length_cons]; omega, by simp only [List.length_cons]; omega⟩
    unfold jW
    rw [if_pos (by rw [hl.1]; exact h1), e1]
    rfl
  · have h1 : k.t ≠ 39 := fun e => by rw [e] at hbg; cases hbg
    refine ⟨false, r, _, ?_, hl, ha, Nat.le_refl _, Nat.le_refl _⟩
    unfold jW
    rw [if_neg (by rw [hl.1]; exact h1)]
theorem ok_attr (r : Rdr) (ts : List Tk) (st : List Nat) (hl : Look src r ts) (hb : big r + 2 * ts.length <= LIMR) (hf : 10 * ts.length + 8 <= f) (ha : Acc (24 :: 1 :: 10 :: 59 :: 60 :: 61 :: 62 :: 9 :: st) ts) : ∃ r' ts', attrN src f r = some r' /\ Got src st r ts r' ts' := by
  obtain ⟨w, a, o, r1, t1, e1, l1, a1, n1, b1⟩ := ok_decl 24 (by decide) r ts _ hl hb ha
  unfold LIMR at hb
  obtain ⟨k2, t2, rfl, -, a2⟩ := jb (by decide) a1
  obtain ⟨r2, e2, b2, -, -, l2⟩ := jI l1
  rw [List.length_cons] at n1
  obtain ⟨x3, r3, t3, e3, l3, a3, n3, b3⟩ := ok_optional r2 t2 _ l2 a2
  obtain ⟨x4, r4, t4, e4, l4, a4, n4, b4⟩ := ok_kind r3 t3 _ l3 a3
  obtain ⟨x5, r5, t5, e5, l5, a5, n5, b5⟩ := ok_guard (f := f) 12 61 (.inl ⟨rfl, rfl⟩) r4 t4 _ l4 (by unfold LIMR; omega) (by omega) a4
  obtain ⟨x6, r6, t6, e6, l6, a6, n6, b6⟩ := ok_guard (f := f) 32 62 (.inr ⟨rfl, rfl⟩) r5 t5 _ l5 (by unfold LIMR; omega) (by omega) a5
  obtain ⟨k7, t7, rfl, -, a7⟩ := jb (by decide) a6
  obtain ⟨r7, e7, b7, -, -, l7⟩ := jI l6
  rw [List.length_cons] at n6 b6
  have hlim : r7.tree.attrs.length <= big r7 := by unfold big; omega
  refine ⟨{ r7 with tree := { r7.tree with attrs := r7.tree.attrs ++ [⟨w, a, o, x3, x4, x5, x6⟩] } }, t7, ?_, ?_, a7, by omega, ?_⟩
  · unfold attrN
    simp only [e1, e2, e3, e4, e5, e6, e7, Option.bind_some]
    rw [if_pos (by omega)]
  · cases t7 with
    | nil => trivial
    | cons k t7 => exact l7
  · have : big { r7 with tree := { r7.tree with attrs := r7.tree.attrs ++ [⟨w, a, o, x3, x4, x5, x6⟩] } } = big r7 + 1 := by
      unfold big
      simp only [List.length_append, List.length_cons, List.length_nil]
      omega
    omega
theorem ok_stage (r : Rdr) (ts : List Tk) (st : List Nat) (hl : Look src r ts) (hb : big r + 2 * ts.length <= LIMR) (hf : 10 * ts.length + 8 <= f) (ha : Acc (25 :: 1 :: 63 :: 4 :: 64 :: 65 :: 5 :: st) ts) : ∃ r' ts', stageN src f r = some r' /\ Got src st r ts r' ts' := by
  obtain ⟨w, a, o, r1, t1, e1, l1, a1, n1, b1⟩ := ok_decl 25 (by decide) r ts _ hl hb ha
  unfold LIMR at hb
  obtain ⟨x2, y2, r2, t2, e2, l2, a2, n2, b2⟩ := ok_in r1 t1 _ l1 a1
  obtain ⟨k3, t3, rfl, -, a3⟩ := jb (by decide) a2
  obtain ⟨r3, e3, b3, -, -, l3⟩ := jI l2
  rw [List.length_cons] at n2 b2
  obtain ⟨x4, r4, t4, e4, l4, a4, n4, b4⟩ := ok_ruled (f := f) 29 64 (.inl ⟨rfl, rfl⟩) r3 t3 _ l3 (by unfold LIMR; omega) (by omega) a3
  obtain ⟨x5, r5, t5, e5, l5, a5, n5, b5⟩ := ok_ruled (f := f) 30 65 (.inr ⟨rfl, rfl⟩) r4 t4 _ l4 (by unfold LIMR; omega) (by omega) a4
  obtain ⟨k7, t7, rfl, -, a7⟩ := jb (by decide) a5
  obtain ⟨r7, e7, b7, -, -, l7⟩ := jI l5
  rw [List.length_cons] at n5 b5
  have hlim : r7.tree.stages.length <= big r7 := by unfold big; omega
  refine ⟨{ r7 with tree := { r7.tree with stages := r7.tree.stages ++ [⟨w, a, o, x2, y2, x4, x5⟩] } }, t7, ?_, ?_, a7, by omega, ?_⟩
  · unfold stageN
    simp only [e1, e2, e3, e4, e5, e7, Option.bind_some]
    rw [if_pos (by omega)]
  · cases t7 with
    | nil => trivial
    | cons k t7 => exact l7
  · have : big { r7 with tree := { r7.tree with stages := r7.tree.stages ++ [⟨w, a, o, x2, y2, x4, x5⟩] } } = big r7 + 1 := by
      unfold big
      simp only [List.length_append, List.length_cons, List.length_nil]
      omega
    omega
theorem ok_mile (r : Rdr) (ts : List Tk) (st : List Nat) (hl : Look src r ts) (hb : big r + 2 * ts.length <= LIMR) (hf : 10 * ts.length + 8 <= f) (ha : Acc (26 :: 1 :: 63 :: 31 :: 32 :: 69 :: 9 :: st) ts) : ∃ r' ts', mileN src f r = some r' /\ Got src st r ts r' ts' := by
  obtain ⟨w, a, o, r1, t1, e1, l1, a1, n1, b1⟩ := ok_decl 26 (by decide) r ts _ hl hb ha
  unfold LIMR at hb
  obtain ⟨x2, y2, r2, t2, e2, l2, a2, n2, b2⟩ := ok_in r1 t1 _ l1 a1
  obtain ⟨k3, t3, rfl, hk3, a3⟩ := jb (by decide) a2
  obtain ⟨x4, r4, t4, e4, l4, a4, n4, b4⟩ := ok_ruled1 (f := f) 31 (.inr (.inr rfl)) r2 k3 t3 _ hk3 l2 (by unfold LIMR; omega) (by omega) a3
  have hlim : r4.tree.miles.length <= big r4 := by unfold big; omega
  refine ⟨{ r4 with tree := { r4.tree with miles := r4.tree.miles ++ [⟨w, a, o, x2, y2, x4⟩] } }, t4, ?_, ?_, a4, by omega, ?_⟩
  · unfold mileN
    simp only [e1, e2, e4, Option.bind_some]
    rw [if_pos (by omega)]
  · cases t4 with
    | nil => trivial
    | cons k t7 => exact l4
  · have : big { r4 with tree := { r4.tree with miles := r4.tree.miles ++ [⟨w, a, o, x2, y2, x4⟩] } } = big r4 + 1 := by
      unfold big
      simp only [List.length_append, List.length_cons, List.length_nil]
      omega
    omega
theorem ok_params : ∀ (f : Nat) (n : Nat) (ps : List Prm) (r : Rdr) (ts : List Tk) (st : List Nat), (n = 66 \/ n = 67) -> ps.length + ts.length <= 900000 -> Look src r ts -> ts.length + 1 <= f -> Acc (n :: 7 :: st) ts ->
    ∃ qs r' ts', paramsN src f ps r = some (qs, r') /\ Got0 src (7 :: st) r ts r' ts'
  | 0, n, ps, r, ts, st, hn, hp, hl, hf, ha => by omega
  | f + 1, n, ps, r, ts, st, hn, hp, hl, hf, ha => by
    have key : (∃ k t2, ts = k :: t2 /\ k.t = 7 /\ Acc (7 :: st) ts) \/ (∃ k t2, ts = k :: t2 /\ k.t ≠ 7 /\ ∃ b r1 t1, jW src 8 r = some (b, r1) /\ Look src r1 t1 /\ t1.length <= ts.length /\ big r1 = big r /\ Acc (1 :: 10 :: 60 :: 67 :: 7 :: st) t1) := by
      rcases hn with rfl | rfl
      · obtain ⟨k, ts2, rfl, h58, ⟨hbg, ha⟩ | ⟨hbg, ha⟩⟩ := kY (by decide) ha
        · have h1 : k.t = 1 := by simpa [jD] using hbg
          rw [show jZ 66 k.t = [1, 10, 60, 67] by rw [h1]; rfl] at ha
          refine .inr ⟨k, ts2, rfl, by omega, false, r, k :: ts2, ?_, hl, Nat.le_refl _, rfl, ha⟩
          unfold jW
          rw [if_neg (by rw [hl.1]; omega)]
        · obtain ⟨h1, -⟩ := jf (by decide) ha
          exact .inl ⟨k, ts2, rfl, h1, ha⟩
      · obtain ⟨k, ts2, rfl, h58, ⟨hbg, ha⟩ | ⟨hbg, ha⟩⟩ := kY (by decide) ha
        · have h1 : k.t = 8 := by simpa [jD] using hbg
          rw [show jZ 67 k.t = [8, 1, 10, 60, 67] by rw [h1]; rfl] at ha
          obtain ⟨-, a1⟩ := jf (by decide) ha
          obtain ⟨r1, e1, b1, -, -, l1⟩ := jI hl
          refine .inr ⟨k, ts2, rfl, by omega, true, r1, ts2, ?_, l1, by simp, b1, a1⟩
          unfold jW
          rw [if_pos (by rw [hl.1]; exact h1), e1]
          rfl
        · obtain ⟨h1, -⟩ := jf (by decide) ha
          exact .inl ⟨k, ts2, rfl, h1, ha⟩
    rcases key with ⟨k, t2, rfl, h7, ha⟩ | ⟨k, t2, rfl, h7, b, r1, t1, e1, l1, n1, b1, a1⟩
    · refine ⟨ps, r, _, ?_, hl, ha, Nat.le_refl _, Nat.le_refl _⟩
      rw [paramsN, if_pos (by rw [hl.1]; exact h7)]
    · obtain ⟨k2, t2', rfl, -, a2⟩ := jb (by decide) a1
      obtain ⟨r2, e2, b2, -, -, l2⟩ := jI l1
      obtain ⟨k3, t3, rfl, -, a3⟩ := jb (by decide) a2
      obtain ⟨r3, e3, b3, -, -, l3⟩ := jI l2
      obtain ⟨x4, r4, t4, e4, l4, a4, n4, b4⟩ := ok_kind r3 t3 _ l3 a3
      simp only [List.length_cons] at n1 hp hf
      obtain ⟨qs, r5, t5, e5, l5, a5, n5, b5⟩ := ok_params f 67 (ps ++ [⟨⟨(kD src r1).toArray⟩, (r1.from_ : Int), x4⟩]) r4 t4 st (.inr rfl) (by rw [List.length_append, List.length_singleton]; omega) l4 (by omega) a4
      refine ⟨qs, r5, t5, ?_, l5, a5, by simp only [List.length_cons]; omega, by simp only [List.length_cons]; omega⟩
      rw [paramsN, if_neg (by rw [hl.1]; exact h7), if_pos (by omega), e1]
      simp only [nameN, e2, e3, e4, e5, Option.bind_some, Option.map_some]
theorem ok_effects (src : List UInt8) : ∀ (f : Nat) (es : List Eff) (r : Rdr) (ts : List Tk) (st : List Nat), es.length + ts.length <= 900000 -> Look src r ts -> big r + 2 * ts.length <= LIMR -> 10 * ts.length + 10 <= f -> Acc (68 :: 5 :: st) ts ->
    ∃ qs r' ts', vh src f es r = some (qs, r') /\ Got0 src (5 :: st) r ts r' ts'
  | 0, es, r, ts, st, hp, hl, hb, hf, ha => by omega
  | f + 1, es, r, ts, st, hp, hl, hb, hf, ha => by
    obtain ⟨k, ts2, rfl, h58, ⟨hbg, ha⟩ | ⟨hbg, ha⟩⟩ := kY (by decide) ha
    · unfold LIMR at hb
      simp only [List.length_cons] at hb hp hf
      have h1 : k.t = 1 \/ k.t = 33 := by simpa [jD] using hbg
      rcases h1 with h1 | h1
      · rw [show jZ 68 k.t = [1, 11, 69, 9, 68] by rw [h1]; rfl] at ha
        obtain ⟨-, a1⟩ := jf (by decide) ha
        obtain ⟨r1, e1, b1, -, -, l1⟩ := jI hl
        obtain ⟨k2, t2, rfl, -, a2⟩ := jb (by decide) a1
        obtain ⟨r2, e2, b2, -, -, l2⟩ := jI l1
        simp only [List.length_cons] at hb hp hf
        obtain ⟨x3, r3, t3, e3, p3, l3, a3, n3, b3⟩ := ok_expr (f := f) r2 t2 _ l2 (by unfold LIMR; omega) (by omega) a2
        obtain ⟨k4, t4, rfl, -, a4⟩ := jb (by decide) a3
        obtain ⟨r4, e4, b4, -, -, l4⟩ := jI l3
        rw [List.length_cons] at n3 b3
        obtain ⟨qs, r5, t5, e5, l5, a5, n5, b5⟩ := ok_effects src f (es ++ [⟨⟨(kD src r).toArray⟩, (r.from_ : Int), x3⟩]) r4 t4 st (by rw [List.length_append, List.length_singleton]; omega) l4 (by unfold LIMR; omega) (by omega) a4
        refine ⟨qs, r5, t5, ?_, l5, a5, by simp only [List.length_cons]; omega, by simp only [List.length_cons]; omega⟩
        rw [vh, if_neg (by rw [hl.1, h1]; decide), if_pos (by omega), jW, if_neg (by rw [hl.1, h1]; decide)]
        simp only [nameN, e1, e2, e3, e4, e5, Option.bind_some, Option.map_some, Bool.false_eq_true, if_false]
      · rw [show jZ 68 k.t = [33, 1, 9, 68] by rw [h1]; rfl] at ha
        obtain ⟨-, a1⟩ := jf (by decide) ha
        obtain ⟨r1, e1, b1, -, -, l1⟩ := jI hl
        obtain ⟨k2, t2, rfl, -, a2⟩ := jb (by decide) a1
        obtain ⟨r2, e2, b2, -, -, l2⟩ := jI l1
        obtain ⟨k4, t4, rfl, -, a4⟩ := jb (by decide) a2
        obtain ⟨r4, e4, b4, -, -, l4⟩ := jI l2
        simp only [List.length_cons] at hb hp hf
        obtain ⟨qs, r5, t5, e5, l5, a5, n5, b5⟩ := ok_effects src f (es ++ [⟨⟨(kD src r1).toArray⟩, (r1.from_ : Int), -1⟩]) r4 t4 st (by rw [List.length_append, List.length_singleton]; omega) l4 (by unfold LIMR; omega) (by omega) a4
        refine ⟨qs, r5, t5, ?_, l5, a5, by simp only [List.length_cons]; omega, by simp only [List.length_cons]; omega⟩
        rw [vh, if_neg (by rw [hl.1, h1]; decide), if_pos (by omega), jW, if_pos (by rw [hl.1, h1])]
        simp only [nameN, e1, e2, e4, e5, Option.bind_some, Option.map_some, if_true]
    · obtain ⟨h1, -⟩ := jf (by decide) ha
      refine ⟨es, r, _, ?_, hl, ha, Nat.le_refl _, Nat.le_refl _⟩
      rw [vh, if_pos (by rw [hl.1]; exact h1)]
theorem ok_step (r : Rdr) (ts : List Tk) (st : List Nat) (hl : Look src r ts) (hb : big r + 2 * ts.length <= LIMR) (hf : 10 * ts.length + 10 <= f) (ha : Acc (27 :: 1 :: 6 :: 66 :: 7 :: 63 :: 62 :: 4 :: 68 :: 5 :: st) ts) : ∃ r' ts', stepD src f r = some r' /\ Got src st r ts r' ts' := by
  obtain ⟨w, a, o, r1, t1, e1, l1, a1, n1, b1⟩ := ok_decl 27 (by decide) r ts _ hl hb ha
  unfold LIMR at hb
  obtain ⟨k2, t2, rfl, -, a2⟩ := jb (by decide) a1
  obtain ⟨r2, e2, b2, -, -, l2⟩ := jI l1
  rw [List.length_cons] at n1
  obtain ⟨ps, r3, t3, e3, l3, a3, n3, b3⟩ := ok_params f 66 [] r2 t2 _ (.inl rfl) (by rw [List.length_nil]; omega) l2 (by omega) a2
  obtain ⟨k4, t4, rfl, -, a4⟩ := jb (by decide) a3
  obtain ⟨r4, e4, b4, -, -, l4⟩ := jI l3
  rw [List.length_cons] at n3 b3
  obtain ⟨x5, y5, r5, t5, e5, l5, a5, n5, b5⟩ := ok_in r4 t4 _ l4 a4
  obtain ⟨x6, r6, t6, e6, l6, a6, n6, b6⟩ := ok_guard (f := f) 32 62 (.inr ⟨rfl, rfl⟩) r5 t5 _ l5 (by unfold LIMR; omega) (by omega) a5
  obtain ⟨k7, t7, rfl, -, a7⟩ := jb (by decide) a6
  obtain ⟨r7, e7, b7, -, -, l7⟩ := jI l6
  rw [List.length_cons] at n6 b6
  obtain ⟨es, r8, t8, e8, l8, a8, n8, b8⟩ := ok_effects src f [] r7 t7 _ (by rw [List.length_nil]; omega) l7 (by unfold LIMR; omega) (by omega) a7
  obtain ⟨k9, t9, rfl, -, a9⟩ := jb (by decide) a8
  obtain ⟨r9, e9, b9, -, -, l9⟩ := jI l8
  rw [List.length_cons] at n8 b8
  have hlim : r9.tree.steps.length <= big r9 := by unfold big; omega
  refine ⟨{ r9 with tree := { r9.tree with steps := r9.tree.steps ++ [⟨w, a, o, ps, x5, y5, x6, es⟩] } }, t9, ?_, ?_, a9, by omega, ?_⟩
  · unfold stepD
    simp only [e1, e2, e3, e4, e5, e6, e7, e8, e9, Option.bind_some]
    rw [if_pos (by omega)]
  · cases t9 with
    | nil => trivial
    | cons k t9 => exact l9
  · have : big { r9 with tree := { r9.tree with steps := r9.tree.steps ++ [⟨w, a, o, ps, x5, y5, x6, es⟩] } } = big r9 + 1 := by
      unfold big
      simp only [List.length_append, List.length_cons, List.length_nil]
      omega
    omega
theorem ok_decls (src : List UInt8) : ∀ (f : Nat) (r : Rdr) (ts : List Tk), Look src r ts -> big r + 2 * ts.length <= LIMR -> 10 * ts.length + 11 <= f -> Acc [58, 5] ts -> ∃ r', declsN src f r = some r'
  | 0, r, ts, hl, hb, hf, ha => by omega
  | f + 1, r, ts, hl, hb, hf, ha => by
    obtain ⟨k, ts2, rfl, h58, ⟨hbg, ha⟩ | ⟨hbg, ha⟩⟩ := kY (by decide) ha
    · have h1 : 24 <= k.t /\ k.t <= 27 := by simpa [jD] using hbg
      rw [declsN]
      have hc : k.t = 24 \/ k.t = 25 \/ k.t = 26 \/ k.t = 27 := by omega
      rcases hc with h | h | h | h
      · rw [show jZ 58 k.t = [24, 1, 10, 59, 60, 61, 62, 9, 58] by rw [h]; rfl] at ha
        obtain ⟨r1, t1, e1, l1, a1, n1, b1⟩ := ok_attr (f := f) r _ [58, 5] hl hb (by omega) ha
        unfold LIMR at hb
        obtain ⟨r2, e2⟩ := ok_decls src f r1 t1 l1 (by unfold LIMR; omega) (by omega) a1
        refine ⟨r2, ?_⟩
        rw [if_pos (by rw [hl.1]; exact h), e1]
        exact e2
      · rw [show jZ 58 k.t = [25, 1, 63, 4, 64, 65, 5, 58] by rw [h]; rfl] at ha
        obtain ⟨r1, t1, e1, l1, a1, n1, b1⟩ := ok_stage (f := f) r _ [58, 5] hl hb (by omega) ha
        unfold LIMR at hb
        obtain ⟨r2, e2⟩ := ok_decls src f r1 t1 l1 (by unfold LIMR; omega) (by omega) a1
        refine ⟨r2, ?_⟩
        rw [if_neg (by rw [hl.1]; omega), if_pos (by rw [hl.1]; exact h), e1]
        exact e2
      · rw [show jZ 58 k.t = [26, 1, 63, 31, 32, 69, 9, 58] by rw [h]; rfl] at ha
        obtain ⟨r1, t1, e1, l1, a1, n1, b1⟩ := ok_mile (f := f) r _ [58, 5] hl hb (by omega) ha
        unfold LIMR at hb
        obtain ⟨r2, e2⟩ := ok_decls src f r1 t1 l1 (by unfold LIMR; omega) (by omega) a1
        refine ⟨r2, ?_⟩
        rw [if_neg (by rw [hl.1]; omega), if_neg (by rw [hl.1]; omega), if_pos (by rw [hl.1]; exact h), e1]
        exact e2
      · rw [show jZ 58 k.t = [27, 1, 6, 66, 7, 63, 62, 4, 68, 5, 58] by rw [h]; rfl] at ha
        obtain ⟨r1, t1, e1, l1, a1, n1, b1⟩ := ok_step (f := f) r _ [58, 5] hl hb (by omega) ha
        unfold LIMR at hb
        obtain ⟨r2, e2⟩ := ok_decls src f r1 t1 l1 (by unfold LIMR; omega) (by omega) a1
        refine ⟨r2, ?_⟩
        rw [if_neg (by rw [hl.1]; omega), if_neg (by rw [hl.1]; omega), if_neg (by rw [hl.1]; omega), if_pos (by rw [hl.1]; exact h), e1]
        exact e2
    · obtain ⟨h1, -⟩ := jf (by decide) ha
      refine ⟨r, ?_⟩
      rw [declsN, if_neg (by rw [hl.1]; omega), if_neg (by rw [hl.1]; omega), if_neg (by rw [hl.1]; omega), if_neg (by rw [hl.1]; omega)]
theorem read_acc {src : List UInt8} {ts : List Tk} (ht : Toks src 0 ts) (ha : Acc [23, 1, 4, 58, 5] ts) (hn : ts.length <= 400000) (f : Nat) (hf : 10 * ts.length + 11 <= f) : ∃ r, readN src f = some r := by
  obtain ⟨r1, e1, b1, -, -, l1⟩ := next_toks (r := ⟨0, 0, 0, 0, Tre.none_⟩) ht
  obtain ⟨k1, t1, rfl, -, a1⟩ := jb (by decide) ha
  obtain ⟨r2, e2, b2, -, -, l2⟩ := jI l1
  obtain ⟨k2, t2, rfl, -, a2⟩ := jb (by decide) a1
  obtain ⟨r3, e3, b3, -, -, l3⟩ := jI l2
  obtain ⟨k3, t3, rfl, -, a3⟩ := jb (by decide) a2
  obtain ⟨r4, e4, b4, -, -, l4⟩ := jI l3
  simp only [List.length_cons] at hn hf
  have h0 : big ⟨0, 0, 0, 0, Tre.none_⟩ = 0 := rfl
  obtain ⟨r', e'⟩ := ok_decls src f { r4 with tree := { r4.tree with name := ⟨(kD src r2).toArray⟩, at_ := (r2.from_ : Int) } } t3 (by
    cases t3 with
    | nil => trivial
    | cons k t => exact l4) (by
    have : big { r4 with tree := { r4.tree with name := ⟨(kD src r2).toArray⟩, at_ := (r2.from_ : Int) } } = big r4 := rfl
    unfold LIMR
    omega) (by omega) a3
  refine ⟨r', ?_⟩
  unfold readN nameN
  simp only [e1, e2, e3, e4, Option.bind_some, Option.map_some]
  exact e'
end
end Go.Proofs.YtmmjcbbogokmfaaGreatDoor
