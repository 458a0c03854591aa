import Derived.Test.YtmmjcbbogokmfaaGreatDoorMf02
set_option maxRecDepth 100000
set_option maxHeartbeats 25600000
namespace Go.Proofs.YtmmjcbbogokmfaaGreatDoor
def rowsL : List (Nat × Nat × Nat) := [(43, 70, 7), (44, 72, 6), (45, 74, 5), (18, 77, 4), (20, 79, 3), (19, 81, 2)]
def moresL : List (Nat × Nat × Nat × Nat) := [(43, 71, 44, 72), (44, 73, 45, 74), (18, 78, 20, 79), (20, 80, 19, 81)]
inductive LstSt : Nat -> List Nat -> Prop
  | shut (n : Nat) : LstSt n [n]
  | ex {n : Nat} {M : List Nat} : LstSt n M -> LstSt n (69 :: M)
  | comma {n : Nat} {M : List Nat} : LstSt n M -> LstSt n (8 :: 69 :: M)
  | set : LstSt 5 [83, 5]
  | more : LstSt 5 [84, 5]
structure Got (src : List UInt8) (st : List Nat) (r : Rdr) (ts : List Tk) (r' : Rdr) (ts' : List Tk) : Prop where
  look : Look src r' ts'
  acc : Acc st ts'
  len : ts'.length < ts.length
  big : big r' + 2 * ts'.length <= big r + 2 * ts.length
structure Got0 (src : List UInt8) (st : List Nat) (r : Rdr) (ts : List Tk) (r' : Rdr) (ts' : List Tk) : Prop where
  look : Look src r' ts'
  acc : Acc st ts'
  len : ts'.length <= ts.length
  big : Go.Proofs.YtmmjcbbogokmfaaGreatDoor.big r' + 2 * ts'.length <= Go.Proofs.YtmmjcbbogokmfaaGreatDoor.big r + 2 * ts.length
def LIMR : Nat := 900000
structure AllOk (src : List UInt8) (f : Nat) : Prop where
  ex : ∀ (r : Rdr) (ts : List Tk) (st : List Nat), Look src r ts -> big r + 2 * ts.length <= LIMR -> 10 * ts.length + 8 <= f -> Acc (69 :: st) ts -> ∃ x r' ts', exN src f .expr r = some (x, [], r') /\ 0 <= x /\ Got src st r ts r' ts'
  row : ∀ (l s k : Nat), (l, s, k) ∈ rowsL -> ∀ (r : Rdr) (ts : List Tk) (st : List Nat), Look src r ts -> big r + 2 * ts.length <= LIMR -> 10 * ts.length + k <= f -> Acc (s :: st) ts -> ∃ x r' ts', exN src f (.row l) r = some (x, [], r') /\ 0 <= x /\ Got src st r ts r' ts'
  more : ∀ (l s b u : Nat), (l, s, b, u) ∈ moresL -> ∀ (root : Int) (r : Rdr) (ts : List Tk) (st : List Nat), 0 <= root -> Look src r ts -> big r + 2 * ts.length <= LIMR -> 10 * ts.length + 9 <= f -> Acc (s :: st) ts -> ∃ x r' ts', exN src f (.more l root) r = some (x, [], r') /\ 0 <= x /\ Got0 src st r ts r' ts'
  two : ∀ (l s k : Nat), (l, s, k) ∈ rowsL -> ∀ (op root : Int) (r : Rdr) (c : Tk) (ts : List Tk) (st : List Nat), Look src r (c :: ts) -> big r + 2 * (c :: ts).length <= LIMR -> 10 * (c :: ts).length <= f -> Acc (s :: st) ts -> ∃ x r' ts', exN src f (.two op root l) r = some (x, [], r') /\ 0 <= x /\ Got src st r (c :: ts) r' ts'
  un : ∀ (r : Rdr) (ts : List Tk) (st : List Nat), Look src r ts -> big r + 2 * ts.length <= LIMR -> 10 * ts.length + 1 <= f -> Acc (81 :: st) ts -> ∃ x r' ts', exN src f .unary r = some (x, [], r') /\ 0 <= x /\ Got src st r ts r' ts'
  ls : ∀ (last : Nat) (L : List Nat) (kids : List Int) (r : Rdr) (ts : List Tk) (st : List Nat), (last = 5 \/ last = 7) -> LstSt last L -> kids.length + ts.length <= 900000 -> Look src r ts -> big r + 2 * ts.length <= LIMR -> 10 * ts.length + 9 <= f -> Acc (L ++ st) ts -> ∃ ks r' ts', exN src f (.list last kids) r = some (0, ks, r') /\ Got src st r ts r' ts'
theorem gru69 (t : Nat) (hb : jD 69 t = true) (h : t ≠ 40) : jW 69 t = [70] := by
  unfold jW
  rw [if_neg (by rw [hb]; decide), if_neg (by decide), if_neg (by decide), if_neg (by decide), if_neg (by decide), if_neg (by decide), if_neg (by decide), if_neg (by decide), if_neg (by decide), if_neg (by decide), if_neg (by decide), if_neg (by decide)]
  unfold jI
  rw [if_pos rfl, if_neg h]
section
variable {src : List UInt8} {f : Nat}
theorem ok_ex (IH : AllOk src f) (r : Rdr) (ts : List Tk) (st : List Nat) (hl : Look src r ts) (hb : big r + 2 * ts.length <= LIMR) (hf : 10 * ts.length + 8 <= f + 1) (ha : Acc (69 :: st) ts) : ∃ x r' ts', exN src (f + 1) .expr r = some (x, [], r') /\ 0 <= x /\ Got src st r ts r' ts' := by
  obtain ⟨k, ts2, rfl, h58, hbg, ha⟩ := yD (by decide) (by decide) ha
  unfold LIMR at hb
  rw [List.length_cons] at hb hf
  by_cases h40 : k.t = 40
  · rw [show jW 69 k.t = [40, 69, 41, 69, 42, 69] by rw [h40]; rfl] at ha
    obtain ⟨-, a1⟩ := jb (by decide) ha
    obtain ⟨r1, e1, b1, -, -, l1⟩ := jG hl
    obtain ⟨x2, r2, t2, e2, p2, l2, a2, n2, b2⟩ := IH.ex r1 ts2 _ l1 (by unfold LIMR; omega) (by omega) a1
    obtain ⟨k3, t3, rfl, -, a3⟩ := jY (by decide) a2
    rw [List.length_cons] at n2 b2
    obtain ⟨r3, e3, b3, -, -, l3⟩ := jG l2
    obtain ⟨x4, r4, t4, e4, p4, l4, a4, n4, b4⟩ := IH.ex r3 t3 _ l3 (by unfold LIMR; omega) (by omega) a3
    obtain ⟨k5, t5, rfl, -, a5⟩ := jY (by decide) a4
    rw [List.length_cons] at n4 b4
    obtain ⟨r5, e5, b5, -, -, l5⟩ := jG l4
    obtain ⟨x6, r6, t6, e6, p6, l6, a6, n6, b6⟩ := IH.ex r5 t5 _ l5 (by unfold LIMR; omega) (by omega) a5
    obtain ⟨x, r', en, px, bn, ln⟩ := vR (km 23 [x2, x4, x6]) r.from_ l6 (by omega)
    refine ⟨x, r', t6, ?_, px, ln, a6, by rw [List.length_cons]; omega, by rw [List.length_cons]; omega⟩
    rw [exN, if_neg (by rw [hl.1, h40]; decide)]
    simp only [e1, e2, e3, e4, e5, e6, en, Option.bind_some, Option.map_some]
  · rw [gru69 k.t hbg h40] at ha
    obtain ⟨x, r', ts', e, p, g⟩ := IH.row 43 70 7 (by decide) r (k :: ts2) st hl (by unfold LIMR; rw [List.length_cons]; omega) (by rw [List.length_cons]; omega) ha
    refine ⟨x, r', ts', ?_, p, g⟩
    rw [exN, if_pos (by rw [hl.1]; exact h40)]
    exact e
theorem ok_two (IH : AllOk src f) (l s k : Nat) (hm : (l, s, k) ∈ rowsL) (op root : Int) (r : Rdr) (c : Tk) (ts : List Tk) (st : List Nat) (hl : Look src r (c :: ts)) (hb : big r + 2 * (c :: ts).length <= LIMR) (hf : 10 * (c :: ts).length <= f + 1) (ha : Acc (s :: st) ts) : ∃ x r' ts', exN src (f + 1) (.two op root l) r = some (x, [], r') /\ 0 <= x /\ Got src st r (c :: ts) r' ts' := by
  unfold LIMR at hb
  rw [List.length_cons] at hb hf
  have hk : k <= 7 := by
    simp only [rowsL, List.mem_cons, Prod.mk.injEq, List.not_mem_nil, or_false] at hm
    omega
  obtain ⟨r1, e1, b1, -, -, l1⟩ := jG hl
  obtain ⟨x2, r2, t2, e2, p2, l2, a2, n2, b2⟩ := IH.row l s k hm r1 ts _ l1 (by unfold LIMR; omega) (by omega) ha
  obtain ⟨x, r', en, px, bn, ln⟩ := vR (km op [root, x2]) r.from_ l2 (by omega)
  refine ⟨x, r', t2, ?_, px, ln, a2, by rw [List.length_cons]; omega, by rw [List.length_cons]; omega⟩
  rw [exN]
  simp only [e1, e2, en, Option.bind_some, Option.map_some]
theorem more_rule (l s b u : Nat) (h : (l, s, b, u) ∈ moresL) : 58 <= s /\ beneath l = b /\ (b, u, if b = 44 then 6 else if b = 45 then 5 else if b = 20 then 3 else 2) ∈ rowsL /\ ∀ t, t < 58 -> (jD s t = true -> vW l t ≠ 0 /\ jW s t = [t, u, s]) /\ (jD s t = false -> vW l t = 0) := by
  simp only [moresL, List.mem_cons, Prod.mk.injEq, List.not_mem_nil, or_false] at h
  rcases h with ⟨rfl, rfl, rfl, rfl⟩ | ⟨rfl, rfl, rfl, rfl⟩ | ⟨rfl, rfl, rfl, rfl⟩ | ⟨rfl, rfl, rfl, rfl⟩
  · refine ⟨by decide, by decide, by decide, fun t h58 => ⟨fun hb => ?_, fun hb => ?_⟩⟩
    · have ht : t = 43 := by
        have h2 : 71 = t \/ t = 43 := by simpa [jD, jL] using hb
        omega
      subst ht
      exact ⟨by decide, rfl⟩
    · have ht : t ≠ 43 := fun e => by subst e; cases hb
      simp [vW, ht]
  · refine ⟨by decide, by decide, by decide, fun t h58 => ⟨fun hb => ?_, fun hb => ?_⟩⟩
    · have ht : t = 44 := by
        have h2 : 73 = t \/ t = 44 := by simpa [jD, jL] using hb
        omega
      subst ht
      exact ⟨by decide, rfl⟩
    · have ht : t ≠ 44 := fun e => by subst e; cases hb
      simp [vW, ht]
  · refine ⟨by decide, by decide, by decide, fun t h58 => ⟨fun hb => ?_, fun hb => ?_⟩⟩
    · have ht : t = 18 \/ t = 19 := by
        have h2 : 78 = t \/ t = 18 \/ t = 19 := by simpa [jD, jL] using hb
        omega
      rcases ht with rfl | rfl <;> exact ⟨by decide, rfl⟩
    · have ht : ¬ (t = 18 \/ t = 19) := fun e => by rcases e with rfl | rfl <;> cases hb
      simp [vW, ht]
  · refine ⟨by decide, by decide, by decide, fun t h58 => ⟨fun hb => ?_, fun hb => ?_⟩⟩
    · have ht : t = 20 \/ t = 21 \/ t = 22 := by
        have h2 : 80 = t \/ (20 <= t /\ t <= 22) := by simpa [jD, jL] using hb
        omega
      rcases ht with rfl | rfl | rfl <;> exact ⟨by decide, rfl⟩
    · have ht : ¬ (20 <= t /\ t <= 22) := fun e => by
        have : t = 20 \/ t = 21 \/ t = 22 := by omega
        rcases this with rfl | rfl | rfl <;> cases hb
      simp [vW, ht]
theorem ok_more (IH : AllOk src f) (l s b u : Nat) (hm : (l, s, b, u) ∈ moresL) (root : Int) (r : Rdr) (ts : List Tk) (st : List Nat) (h0 : 0 <= root) (hl : Look src r ts) (hb : big r + 2 * ts.length <= LIMR) (hf : 10 * ts.length + 9 <= f + 1) (ha : Acc (s :: st) ts) : ∃ x r' ts', exN src (f + 1) (.more l root) r = some (x, [], r') /\ 0 <= x /\ Got0 src st r ts r' ts' := by
  obtain ⟨h58, hbe, hro, hru⟩ := more_rule l s b u hm
  obtain ⟨k, ts2, rfl, hk58, ⟨hbg, ha⟩ | ⟨hbg, ha⟩⟩ := kX h58 ha
  · obtain ⟨h1, h2⟩ := (hru k.t hk58).1 hbg
    rw [h2] at ha
    obtain ⟨-, a1⟩ := jb (n := k.t) hk58 ha
    obtain ⟨x2, r2, t2, e2, p2, l2, a2, n2, b2⟩ := IH.two b u _ hro (vW l r.t) root r k ts2 (s :: st) hl hb (by rw [List.length_cons] at hf ⊢; omega) a1
    unfold LIMR at hb
    rw [List.length_cons] at n2 b2 hf hb
    obtain ⟨x3, r3, t3, e3, p3, l3, a3, n3, b3⟩ := IH.more l s b u hm x2 r2 t2 st p2 l2 (by unfold LIMR; omega) (by omega) a2
    refine ⟨x3, r3, t3, ?_, p3, l3, a3, by rw [List.length_cons]; omega, by rw [List.length_cons]; omega⟩
    rw [exN, if_neg (by rw [hl.1]; exact h1), hbe]
    simp only [e2, e3, Option.bind_some]
  · refine ⟨root, r, k :: ts2, ?_, h0, hl, ha, Nat.le_refl _, Nat.le_refl _⟩
    rw [exN, if_pos (by rw [hl.1]; exact (hru k.t hk58).2 hbg)]
theorem row_rule (l s k : Nat) (h : (l, s, k) ∈ rowsL) : 58 <= s /\ jf s = false := by
  simp only [rowsL, List.mem_cons, Prod.mk.injEq, List.not_mem_nil, or_false] at h
  rcases h with ⟨rfl, rfl, rfl⟩ | ⟨rfl, rfl, rfl⟩ | ⟨rfl, rfl, rfl⟩ | ⟨rfl, rfl, rfl⟩ | ⟨rfl, rfl, rfl⟩ | ⟨rfl, rfl, rfl⟩ <;> decide
theorem ok_rowm (IH : AllOk src f) (l s k m b u j : Nat) (hl4 : l = 43 \/ l = 44 \/ l = 18 \/ l = 20) (hm : (l, m, b, u) ∈ moresL) (hr : (b, u, j) ∈ rowsL) (hj : j + 1 <= k) (hru : ∀ t, jD s t = true -> jW s t = [u, m]) (hs : 58 <= s) (hse : jf s = false)
    (r : Rdr) (ts : List Tk) (st : List Nat) (hl : Look src r ts) (hb : big r + 2 * ts.length <= LIMR) (hf : 10 * ts.length + k <= f + 1) (ha : Acc (s :: st) ts) : ∃ x r' ts', exN src (f + 1) (.row l) r = some (x, [], r') /\ 0 <= x /\ Got src st r ts r' ts' := by
  obtain ⟨k0, ts2, rfl, -, hbg, ha⟩ := yD hs hse ha
  rw [hru _ hbg] at ha
  obtain ⟨x2, r2, t2, e2, p2, l2, a2, n2, b2⟩ := IH.row b u j hr r _ (m :: st) hl hb (by omega) ha
  unfold LIMR at hb
  obtain ⟨x3, r3, t3, e3, p3, l3, a3, n3, b3⟩ := IH.more l m b u hm x2 r2 t2 st p2 l2 (by unfold LIMR; omega) (by
    have : j <= 7 := by
      simp only [rowsL, List.mem_cons, Prod.mk.injEq, List.not_mem_nil, or_false] at hr
      omega
    omega) a2
  refine ⟨x3, r3, t3, ?_, p3, l3, a3, by omega, by omega⟩
  have hbe := (more_rule l m b u hm).2.1
  rw [exN, if_neg (by omega), if_pos hl4, hbe]
  simp only [e2, e3, Option.bind_some]
theorem gru_two (s u m t : Nat) (h : (s, u, m) ∈ [(70, 72, 71), (72, 74, 73), (77, 79, 78), (79, 81, 80)]) (hb : jD s t = true) : jW s t = [u, m] := by
  simp only [List.mem_cons, Prod.mk.injEq, List.not_mem_nil, or_false] at h
  unfold jW
  rw [if_neg (by rw [hb]; decide)]
  rcases h with ⟨rfl, rfl, rfl⟩ | ⟨rfl, rfl, rfl⟩ | ⟨rfl, rfl, rfl⟩ | ⟨rfl, rfl, rfl⟩ <;> rfl
theorem gru74 (t : Nat) (hb : jD 74 t = true) : jW 74 t = if t = 45 then [t, 74] else [75] := by
  unfold jW
  rw [if_neg (by rw [hb]; decide)]
  rfl
theorem gru75 (t : Nat) (hb : jD 75 t = true) : jW 75 t = [77, 76] := by
  unfold jW
  rw [if_neg (by rw [hb]; decide)]
  rfl
theorem gru76 (t : Nat) (hb : jD 76 t = true) : jW 76 t = [t, 77] := by
  unfold jW
  rw [if_neg (by rw [hb]; decide)]
  rfl
theorem gru81 (t : Nat) (hb : jD 81 t = true) : jW 81 t = if t = 19 then [t, 81] else [82] := by
  unfold jW
  rw [if_neg (by rw [hb]; decide)]
  rfl
theorem gru82 (t : Nat) (hb : jD 82 t = true) : jW 82 t = jz t := by
  unfold jW
  rw [if_neg (by rw [hb]; decide)]
  rfl
theorem ok_row45 (IH : AllOk src f) (r : Rdr) (ts : List Tk) (st : List Nat) (hl : Look src r ts) (hb : big r + 2 * ts.length <= LIMR) (hf : 10 * ts.length + 5 <= f + 1) (ha : Acc (74 :: st) ts) : ∃ x r' ts', exN src (f + 1) (.row 45) r = some (x, [], r') /\ 0 <= x /\ Got src st r ts r' ts' := by
  obtain ⟨k, ts2, rfl, h58, hbg, ha⟩ := yD (by decide) (by decide) ha
  rw [gru74 _ hbg] at ha
  by_cases h45 : k.t = 45
  · rw [if_pos h45, h45] at ha
    obtain ⟨-, a1⟩ := jb (by decide) ha
    unfold LIMR at hb
    rw [List.length_cons] at hb hf
    obtain ⟨r1, e1, b1, -, -, l1⟩ := jG hl
    obtain ⟨x2, r2, t2, e2, p2, l2, a2, n2, b2⟩ := IH.row 45 74 5 (by decide) r1 ts2 _ l1 (by unfold LIMR; omega) (by omega) a1
    obtain ⟨x, r', en, px, bn, ln⟩ := vR (km 8 [x2]) r.from_ l2 (by omega)
    refine ⟨x, r', t2, ?_, px, ln, a2, by rw [List.length_cons]; omega, by rw [List.length_cons]; omega⟩
    rw [exN, if_pos rfl, if_pos (by rw [hl.1]; exact h45)]
    simp only [e1, e2, en, Option.bind_some, Option.map_some]
  · rw [if_neg h45] at ha
    obtain ⟨k', ts2', e', -, hbg2, ha⟩ := yD (by decide) (by decide) ha
    injection e' with e1 e2
    subst e1 e2
    rw [gru75 _ hbg2] at ha
    obtain ⟨x2, r2, t2, e2, p2, l2, a2, n2, b2⟩ := IH.row 18 77 4 (by decide) r _ (76 :: st) hl hb (by omega) ha
    obtain ⟨k3, t3, rfl, h583, ⟨hbg3, a3⟩ | ⟨hbg3, a3⟩⟩ := kX (by decide) a2
    · rw [gru76 _ hbg3] at a3
      have h3 : (12 <= k3.t /\ k3.t <= 17) \/ k3.t = 28 := by
        have h2 : 76 = k3.t \/ (12 <= k3.t /\ k3.t <= 17) \/ k3.t = 28 := by simpa [jD, jL] using hbg3
        omega
      obtain ⟨-, a4⟩ := jb (n := k3.t) (by omega) a3
      unfold LIMR at hb
      have HT := fun op => IH.two 18 77 4 (by decide) op x2 r2 k3 t3 st l2 (by unfold LIMR; omega) (by omega) a4
      by_cases hc : 12 <= k3.t /\ k3.t <= 17
      · obtain ⟨x, r', ts', e, p, l, a, n, b⟩ := HT (11 + ((r2.t : Int) - 12))
        refine ⟨x, r', ts', ?_, p, l, a, by omega, by omega⟩
        rw [exN, if_pos rfl, if_neg (by rw [hl.1]; exact h45)]
        simp only [e2, Option.bind_some]
        rw [if_pos (by rw [l2.1]; exact hc)]
        exact e
      · obtain ⟨x, r', ts', e, p, l, a, n, b⟩ := HT 17
        refine ⟨x, r', ts', ?_, p, l, a, by omega, by omega⟩
        rw [exN, if_pos rfl, if_neg (by rw [hl.1]; exact h45)]
        simp only [e2, Option.bind_some]
        rw [if_neg (by rw [l2.1]; exact hc), if_pos (by rw [l2.1]; omega)]
        exact e
    · refine ⟨x2, r2, _, ?_, p2, l2, a3, n2, b2⟩
      have h3 : ¬ (12 <= k3.t /\ k3.t <= 17) /\ k3.t ≠ 28 := by
        have h2 : ¬ (76 = k3.t \/ (12 <= k3.t /\ k3.t <= 17) \/ k3.t = 28) := fun e => by
          have : jD 76 k3.t = true := by
            rcases e with e | e
            · simp [jD, <- e]
            · simp [jD, jL, e]
          rw [this] at hbg3; cases hbg3
        omega
      rw [exN, if_pos rfl, if_neg (by rw [hl.1]; exact h45)]
      simp only [e2, Option.bind_some]
      rw [if_neg (by rw [l2.1]; exact h3.1), if_neg (by rw [l2.1]; exact h3.2)]
theorem ok_row (IH : AllOk src f) (l s k : Nat) (hm : (l, s, k) ∈ rowsL) (r : Rdr) (ts : List Tk) (st : List Nat) (hl : Look src r ts) (hb : big r + 2 * ts.length <= LIMR) (hf : 10 * ts.length + k <= f + 1) (ha : Acc (s :: st) ts) : ∃ x r' ts', exN src (f + 1) (.row l) r = some (x, [], r') /\ 0 <= x /\ Got src st r ts r' ts' := by
  simp only [rowsL, List.mem_cons, Prod.mk.injEq, List.not_mem_nil, or_false] at hm
  rcases hm with ⟨rfl, rfl, rfl⟩ | ⟨rfl, rfl, rfl⟩ | ⟨rfl, rfl, rfl⟩ | ⟨rfl, rfl, rfl⟩ | ⟨rfl, rfl, rfl⟩ | ⟨rfl, rfl, rfl⟩
  · exact ok_rowm IH 43 70 7 71 44 72 6 (by decide) (by decide) (by decide) (by decide) (fun t h => gru_two 70 72 71 t (by decide) h) (by decide) (by decide) r ts st hl hb hf ha
  · exact ok_rowm IH 44 72 6 73 45 74 5 (by decide) (by decide) (by decide) (by decide) (fun t h => gru_two 72 74 73 t (by decide) h) (by decide) (by decide) r ts st hl hb hf ha
  · exact ok_row45 IH r ts st hl hb hf ha
  · exact ok_rowm IH 18 77 4 78 20 79 3 (by decide) (by decide) (by decide) (by decide) (fun t h => gru_two 77 79 78 t (by decide) h) (by decide) (by decide) r ts st hl hb hf ha
  · exact ok_rowm IH 20 79 3 80 19 81 2 (by decide) (by decide) (by decide) (by decide) (fun t h => gru_two 79 81 80 t (by decide) h) (by decide) (by decide) r ts st hl hb hf ha
  · obtain ⟨x, r', ts', e, p, g⟩ := IH.un r ts st hl hb (by omega) ha
    refine ⟨x, r', ts', ?_, p, g⟩
    rw [exN, if_neg (by decide), if_neg (by decide)]
    exact e
end
theorem nb69 (t : Nat) (h : jD 69 t = true) : t ≠ 5 /\ t ≠ 7 /\ t ≠ 8 := by
  refine ⟨fun e => ?_, fun e => ?_, fun e => ?_⟩ <;> (subst e; revert h; decide)
theorem nb83 (t : Nat) (h : jD 83 t = true) : t ≠ 5 /\ t ≠ 8 /\ jW 83 t = [69, 84] := by
  refine ⟨fun e => ?_, fun e => ?_, ?_⟩
  · subst e; revert h; decide
  · subst e; revert h; decide
  · unfold jW
    rw [if_neg (by rw [h]; decide)]
    rfl
theorem nb84 (t : Nat) (h : jD 84 t = true) : t = 8 := by simpa [jD] using h
theorem lst_cases {last : Nat} {L st : List Nat} {ts : List Tk} (h57 : last = 5 \/ last = 7) (hL : LstSt last L) (ha : Acc (L ++ st) ts) :
    ∃ k ts', ts = k :: ts' /\ ((k.t = last /\ Acc st ts') \/ (k.t ≠ last /\ k.t ≠ 8 /\ ∃ M, LstSt last M /\ Acc (69 :: (M ++ st)) (k :: ts')) \/ (k.t = 8 /\ ∃ M, LstSt last M /\ Acc (69 :: (M ++ st)) ts')) := by
  cases hL with
  | shut =>
    obtain ⟨k, ts', e, h1, h2⟩ := jY (by omega) ha
    exact ⟨k, ts', e, .inl ⟨h1, h2⟩⟩
  | ex hM =>
    obtain ⟨k, ts', e, h58, hb, h1⟩ := yD (by decide) (by decide) ha
    have h2 := nb69 _ hb
    subst e
    exact ⟨k, ts', rfl, .inr (.inl ⟨by omega, h2.2.2, _, hM, ha⟩)⟩
  | comma hM =>
    obtain ⟨k, ts', e, h1, h2⟩ := jY (by decide) ha
    exact ⟨k, ts', e, .inr (.inr ⟨h1, _, hM, h2⟩)⟩
  | set =>
    obtain ⟨k, ts', e, h58, ⟨hb, h1⟩ | ⟨hb, h1⟩⟩ := kX (by decide) ha
    · obtain ⟨h2, h3, h4⟩ := nb83 _ hb
      rw [h4] at h1
      exact ⟨k, ts', e, .inr (.inl ⟨h2, h3, _, .more, h1⟩)⟩
    · obtain ⟨h2, h3⟩ := jb (by decide) h1
      exact ⟨k, ts', e, .inl ⟨h2, h3⟩⟩
  | more =>
    obtain ⟨k, ts', e, h58, ⟨hb, h1⟩ | ⟨hb, h1⟩⟩ := kX (by decide) ha
    · have h8 := nb84 _ hb
      rw [show jW 84 k.t = [8, 69, 84] by rw [h8]; rfl] at h1
      obtain ⟨-, h2⟩ := jb (by decide) h1
      exact ⟨k, ts', e, .inr (.inr ⟨h8, _, .more, h2⟩)⟩
    · obtain ⟨h2, h3⟩ := jb (by decide) h1
      exact ⟨k, ts', e, .inl ⟨h2, h3⟩⟩
section
variable {src : List UInt8} {f : Nat}
theorem ok_ls (IH : AllOk src f) (last : Nat) (L : List Nat) (kids : List Int) (r : Rdr) (ts : List Tk) (st : List Nat) (h57 : last = 5 \/ last = 7) (hL : LstSt last L) (hk : kids.length + ts.length <= 900000) (hl : Look src r ts) (hb : big r + 2 * ts.length <= LIMR) (hf : 10 * ts.length + 9 <= f + 1) (ha : Acc (L ++ st) ts) :
    ∃ ks r' ts', exN src (f + 1) (.list last kids) r = some (0, ks, r') /\ Got src st r ts r' ts' := by
  obtain ⟨k, ts2, rfl, ⟨h1, h2⟩ | ⟨h1, h8, M, hM, h2⟩ | ⟨h8, M, hM, h2⟩⟩ := lst_cases h57 hL ha
  · obtain ⟨r1, e1, b1, -, -, l1⟩ := jG hl
    refine ⟨kids, r1, ts2, ?_, l1, h2, by rw [List.length_cons]; omega, by rw [List.length_cons]; omega⟩
    rw [exN, if_pos (by rw [hl.1]; exact h1)]
    simp only [e1, Option.bind_some]
  · rw [List.length_cons] at hk
    obtain ⟨x2, r2, t2, e2, p2, l2, a2, n2, b2⟩ := IH.ex r (k :: ts2) _ hl hb (by omega) h2
    unfold LIMR at hb
    rw [List.length_cons] at n2 b2 hb hf
    obtain ⟨ks, r3, t3, e3, l3, a3, n3, b3⟩ := IH.ls last M (kids ++ [x2]) r2 t2 st h57 hM (by rw [List.length_append, List.length_singleton]; omega) l2 (by unfold LIMR; omega) (by omega) a2
    refine ⟨ks, r3, t3, ?_, l3, a3, by rw [List.length_cons]; omega, by rw [List.length_cons]; omega⟩
    rw [exN, if_neg (by rw [hl.1]; exact h1), if_pos (by omega), jR, if_neg (by rw [hl.1]; exact h8)]
    simp only [e2, e3, Option.bind_some]
  · rw [List.length_cons] at hk
    obtain ⟨r1, e1, b1, -, -, l1⟩ := jG hl
    unfold LIMR at hb
    rw [List.length_cons] at hb hf
    obtain ⟨x2, r2, t2, e2, p2, l2, a2, n2, b2⟩ := IH.ex r1 ts2 _ l1 (by unfold LIMR; omega) (by omega) h2
    obtain ⟨ks, r3, t3, e3, l3, a3, n3, b3⟩ := IH.ls last M (kids ++ [x2]) r2 t2 st h57 hM (by rw [List.length_append, List.length_singleton]; omega) l2 (by unfold LIMR; omega) (by omega) a2
    refine ⟨ks, r3, t3, ?_, l3, a3, by rw [List.length_cons]; omega, by rw [List.length_cons]; omega⟩
    rw [exN, if_neg (by rw [hl.1, h8]; omega), if_pos (by omega), jR, if_pos (by rw [hl.1]; exact h8)]
    simp only [e1, e2, e3, Option.bind_some, Option.map_some]
theorem atomic_lt {t : Nat} (h : jZ t = true) : t = 2 \/ t = 46 \/ t = 47 \/ t = 3 \/ t = 48 \/ t = 1 \/ t = 6 \/ t = 4 \/ t = 31 \/ t = 49 \/ t = 50 \/ t = 51 \/ t = 52 \/ t = 53 \/ t = 54 \/ t = 55 \/ t = 56 \/ t = 57 := by
  have := of_decide_eq_true h
  omega
theorem lst_of (t : Nat) (h : t = 50 \/ t = 51 \/ t = 53 \/ t = 54 \/ t = 55 \/ t = 56 \/ t = 57) : ∃ L, jz t = t :: 6 :: L /\ LstSt 7 L /\ t ≠ 19 /\ litT t = false /\ t ≠ 6 /\ t ≠ 4 /\ ¬ (t = 49 \/ t = 52 \/ t = 31) /\ (t = 31 \/ (49 <= t /\ t <= 57)) := by
  rcases h with rfl | rfl | rfl | rfl | rfl | rfl | rfl
  · exact ⟨[69, 7], rfl, .ex (.shut 7), by decide, by decide, by decide, by decide, by decide, by decide⟩
  · exact ⟨[69, 8, 69, 7], rfl, .ex (.comma (.shut 7)), by decide, by decide, by decide, by decide, by decide, by decide⟩
  · exact ⟨[7], rfl, .shut 7, by decide, by decide, by decide, by decide, by decide, by decide⟩
  · exact ⟨[7], rfl, .shut 7, by decide, by decide, by decide, by decide, by decide, by decide⟩
  · exact ⟨[69, 8, 69, 7], rfl, .ex (.comma (.shut 7)), by decide, by decide, by decide, by decide, by decide, by decide⟩
  · exact ⟨[69, 8, 69, 7], rfl, .ex (.comma (.shut 7)), by decide, by decide, by decide, by decide, by decide, by decide⟩
  · exact ⟨[69, 8, 69, 7], rfl, .ex (.comma (.shut 7)), by decide, by decide, by decide, by decide, by decide, by decide⟩
theorem lit_atom (t : Nat) (h : t = 2 \/ t = 46 \/ t = 47 \/ t = 3 \/ t = 48 \/ t = 1) : jz t = [t] /\ litT t = true /\ t ≠ 19 /\ t < 58 := by
  rcases h with rfl | rfl | rfl | rfl | rfl | rfl <;> exact ⟨rfl, by decide, by decide, by decide⟩
theorem name_atom (t : Nat) (h : t = 49 \/ t = 52 \/ t = 31) : jz t = [t, 6, 1, 7] /\ litT t = false /\ t ≠ 19 /\ t ≠ 6 /\ t ≠ 4 /\ t < 58 /\ (t = 31 \/ (49 <= t /\ t <= 57)) := by
  rcases h with rfl | rfl | rfl <;> exact ⟨rfl, by decide, by decide, by decide, by decide, by decide, by decide⟩
theorem ok_un (IH : AllOk src f) (r : Rdr) (ts : List Tk) (st : List Nat) (hl : Look src r ts) (hb : big r + 2 * ts.length <= LIMR) (hf : 10 * ts.length + 1 <= f + 1) (ha : Acc (81 :: st) ts) : ∃ x r' ts', exN src (f + 1) .unary r = some (x, [], r') /\ 0 <= x /\ Got src st r ts r' ts' := by
  obtain ⟨k, ts2, rfl, h58, hbg, ha⟩ := yD (by decide) (by decide) ha
  rw [gru81 _ hbg] at ha
  unfold LIMR at hb
  rw [List.length_cons] at hb hf
  by_cases h19 : k.t = 19
  · rw [if_pos h19, h19] at ha
    obtain ⟨-, a1⟩ := jb (by decide) ha
    obtain ⟨r1, e1, b1, -, -, l1⟩ := jG hl
    obtain ⟨x2, r2, t2, e2, p2, l2, a2, n2, b2⟩ := IH.un r1 ts2 _ l1 (by unfold LIMR; omega) (by omega) a1
    obtain ⟨x, r', en, px, bn, ln⟩ := vR (km 7 [x2]) r.from_ l2 (by omega)
    refine ⟨x, r', t2, ?_, px, ln, a2, by rw [List.length_cons]; omega, by rw [List.length_cons]; omega⟩
    rw [exN, if_pos (by rw [hl.1]; exact h19)]
    simp only [e1, e2, en, Option.bind_some, Option.map_some]
  rw [if_neg h19] at ha
  obtain ⟨k', ts2', e', -, hbg2, ha⟩ := yD (by decide) (by decide) ha
  injection e' with e1 e2
  subst e1 e2
  rw [gru82 _ hbg2] at ha
  have hat : jZ k.t = true := by
    have h2 : 82 = k.t \/ jZ k.t = true := by simpa [jD, jL] using hbg2
    rcases h2 with e | e
    · exfalso; rw [<- e] at h58; omega
    · exact e
  have hc := atomic_lt hat
  by_cases hlit : k.t = 2 \/ k.t = 46 \/ k.t = 47 \/ k.t = 3 \/ k.t = 48 \/ k.t = 1
  · obtain ⟨q1, q2, q3, q4⟩ := lit_atom _ hlit
    rw [q1] at ha
    obtain ⟨-, a1⟩ := jb q4 ha
    obtain ⟨n, hn⟩ := hl.lit q2
    obtain ⟨r1, e1, b1, -, -, l1⟩ := jG hl
    obtain ⟨x, r', en, px, bn, ln⟩ := vR n r.from_ l1 (by omega)
    refine ⟨x, r', ts2, ?_, px, ln, a1, by rw [List.length_cons]; omega, by rw [List.length_cons]; omega⟩
    rw [exN, if_neg (by rw [hl.1]; exact h19), if_pos (by rw [hl.1]; exact q2)]
    simp only [hn, e1, en, Option.bind_some, Option.map_some]
  have hlitT : litT r.t = false := by rw [hl.1]; exact decide_eq_false hlit
  by_cases h6 : k.t = 6
  · rw [show jz k.t = [6, 69, 7] by rw [h6]; rfl] at ha
    obtain ⟨-, a1⟩ := jb (by decide) ha
    obtain ⟨r1, e1, b1, -, -, l1⟩ := jG hl
    obtain ⟨x2, r2, t2, e2, p2, l2, a2, n2, b2⟩ := IH.ex r1 ts2 _ l1 (by unfold LIMR; omega) (by omega) a1
    obtain ⟨k3, t3, rfl, -, a3⟩ := jY (by decide) a2
    rw [List.length_cons] at n2 b2
    obtain ⟨r3, e3, b3, -, -, l3⟩ := jG l2
    refine ⟨x2, r3, t3, ?_, p2, l3, a3, by rw [List.length_cons]; omega, by rw [List.length_cons]; omega⟩
    rw [exN, if_neg (by rw [hl.1]; exact h19), if_neg (by rw [hlitT]; decide), if_pos (by rw [hl.1]; exact h6)]
    simp only [e1, e2, e3, Option.bind_some]
  by_cases h4 : k.t = 4
  · rw [show jz k.t = [4, 83, 5] by rw [h4]; rfl] at ha
    obtain ⟨-, a1⟩ := jb (by decide) ha
    obtain ⟨r1, e1, b1, -, -, l1⟩ := jG hl
    obtain ⟨ks, r2, t2, e2, l2, a2, n2, b2⟩ := IH.ls 5 [83, 5] [] r1 ts2 st (.inl rfl) .set (by rw [List.length_nil]; omega) l1 (by unfold LIMR; omega) (by omega) a1
    obtain ⟨x, r', en, px, bn, ln⟩ := vR (km 6 ks) r.from_ l2 (by omega)
    refine ⟨x, r', t2, ?_, px, ln, a2, by rw [List.length_cons]; omega, by rw [List.length_cons]; omega⟩
    rw [exN, if_neg (by rw [hl.1]; exact h19), if_neg (by rw [hlitT]; decide), if_neg (by rw [hl.1]; exact h6), if_pos (by rw [hl.1]; exact h4)]
    simp only [e1, e2, en, Option.bind_some, Option.map_some]
  by_cases hnm : k.t = 49 \/ k.t = 52 \/ k.t = 31
  · obtain ⟨q1, q2, q3, q4, q5, q6, q7⟩ := name_atom _ hnm
    rw [q1] at ha
    obtain ⟨-, a1⟩ := jb q6 ha
    obtain ⟨r1, e1, b1, -, -, l1⟩ := jG hl
    obtain ⟨k2, t2, rfl, -, a2⟩ := jY (by decide) a1
    obtain ⟨r2, e2, b2, -, -, l2⟩ := jG l1
    obtain ⟨k3, t3, rfl, -, a3⟩ := jY (by decide) a2
    obtain ⟨r3, e3, b3, -, -, l3⟩ := jG l2
    obtain ⟨k4, t4, rfl, -, a4⟩ := jY (by decide) a3
    obtain ⟨r4, e4, b4, -, -, l4⟩ := jG l3
    simp only [List.length_cons] at hb
    obtain ⟨x, r', en, px, bn, ln⟩ := vR ⟨vM r.t, ⟨(jy src r2).toArray⟩, 0, 0, ⟨#[]⟩, [], []⟩ r.from_ l4 (by omega)
    refine ⟨x, r', t4, ?_, px, ln, a4, by simp only [List.length_cons]; omega, by simp only [List.length_cons]; omega⟩
    rw [exN, if_neg (by rw [hl.1]; exact h19), if_neg (by rw [hlitT]; decide), if_neg (by rw [hl.1]; exact h6), if_neg (by rw [hl.1]; exact h4), if_neg (by rw [hl.1]; exact fun e => e q7)]
    simp only [e1, e2, Option.bind_some]
    rw [if_pos (by rw [hl.1]; exact hnm), nameN]
    simp only [e3, e4, en, Option.bind_some, Option.map_some]
  · obtain ⟨L, q1, q2, q3, q4, q5, q6, q7, q8⟩ := lst_of k.t (by omega)
    rw [q1] at ha
    obtain ⟨-, a1⟩ := jb h58 ha
    obtain ⟨r1, e1, b1, -, -, l1⟩ := jG hl
    obtain ⟨k2, t2, rfl, -, a2⟩ := jY (by decide) a1
    obtain ⟨r2, e2, b2, -, -, l2⟩ := jG l1
    simp only [List.length_cons] at hb hf
    obtain ⟨ks, r3, t3, e3, l3, a3, n3, b3⟩ := IH.ls 7 L [] r2 t2 st (.inr rfl) q2 (by rw [List.length_nil]; omega) l2 (by unfold LIMR; omega) (by omega) a2
    obtain ⟨x, r', en, px, bn, ln⟩ := vR (km (vM r.t) ks) r.from_ l3 (by omega)
    refine ⟨x, r', t3, ?_, px, ln, a3, by simp only [List.length_cons]; omega, by simp only [List.length_cons]; omega⟩
    rw [exN, if_neg (by rw [hl.1]; exact h19), if_neg (by rw [hlitT]; decide), if_neg (by rw [hl.1]; exact h6), if_neg (by rw [hl.1]; exact h4), if_neg (by rw [hl.1]; exact fun e => e q8)]
    simp only [e1, e2, Option.bind_some]
    rw [if_neg (by rw [hl.1]; exact hnm)]
    simp only [e3, en, Option.bind_some, Option.map_some]
end
theorem acc_some {n : Nat} {st : List Nat} {ts : List Tk} (h : Acc (n :: st) ts) : 0 < ts.length := by
  cases h with
  | tak => simp
theorem ok_all (src : List UInt8) : ∀ f, AllOk src f
  | 0 => ⟨fun r ts st _ _ h _ => by omega, fun l s k hm r ts st _ _ h ha => by
      have := acc_some ha
      omega, fun l s b u hm root r ts st _ _ _ h _ => by omega, fun l s k hm op root r c ts st _ _ h _ => by rw [List.length_cons] at h; omega, fun r ts st _ _ h _ => by omega, fun last L kids r ts st _ _ _ _ _ h _ => by omega⟩
  | f + 1 => ⟨ok_ex (ok_all src f), ok_row (ok_all src f), ok_more (ok_all src f), ok_two (ok_all src f), ok_un (ok_all src f), ok_ls (ok_all src f)⟩
end Go.Proofs.YtmmjcbbogokmfaaGreatDoor
