import Derived.Test.YtnaolhjbapgjgaaGreatMg35
set_option maxRecDepth 100000
set_option maxHeartbeats 3200000
namespace Go.Proofs.YtnaolhjbapgjgaaGreat
open Go.RowKit
section
variable {bs : List UInt8}
theorem rowN_con {size : Int} {s : Rs} {r : List UInt8 × Way × Rs} (h : rowN bs size s = some r) : Con bs s r.2.2 (rowB r.1 r.2.1) /\ r.2.1.a = size := by
  unfold rowN at h
  have h1 := ptkN_con (bs := bs) s
  split at h
  · split at h
    · cases h
    · rename_i n hn
      have h2 := bytesN_con (bs := bs) 65536 (ptkN bs s).2.2
      split at h
      · cases h
        have h3 := digsN_con (bs := bs) n (jf bs 65536 (ptkN bs s).2.2).2
        exact ⟨h1.trans (h2.1.trans h3.1), rfl⟩
      · cases h
  · cases h
theorem rowsGo_con {size : Int} : ∀ (k : Nat) (s : Rs) (es : List (List UInt8)) (ps : List Way) (t : List (List UInt8) × List Way × Rs), rowsGo bs size k s es ps = some t ->
    ∃ ne np, t.1 = es ++ ne /\ t.2.1 = ps ++ np /\ ne.length = k /\ np.length = k /\ Con bs s t.2.2 (List.zipWith rowB ne np).flatten /\ ∀ p ∈ np, p.a = size := by
  intro k
  induction k with
  | zero =>
    intro s es ps t h
    rw [rowsGo] at h
    cases h
    exact ⟨[], [], by simp, by simp, rfl, rfl, fun hz => ⟨hz, by simp, fun h => h⟩, fun p hp => by cases hp⟩
  | succ k ih =>
    intro s es ps t h
    rw [rowsGo] at h
    cases hr : rowN bs size s with
    | none => rw [hr] at h; cases h
    | some r =>
      rw [hr] at h
      simp only [Option.bind_some] at h
      obtain ⟨ne, np, a1, a2, a3, a4, a5, a6⟩ := ih _ _ _ _ h
      obtain ⟨b1, b2⟩ := rowN_con hr
      refine ⟨r.1 :: ne, r.2.1 :: np, by rw [a1]; simp, by rw [a2]; simp, by simp [a3], by simp [a4], ?_, ?_⟩
      · rw [List.zipWith_cons_cons, List.flatten_cons]
        exact b1.trans a5
      · intro p hp
        rcases List.mem_cons.1 hp with rfl | hp
        · exact b2
        · exact a6 p hp
theorem decPie_back {x : Pie} (h : decPie bs = some x) : pieceB x = some bs := by
  unfold decPie at h
  cases hb : kt bs 2097152 51 with
  | none => rw [hb] at h; cases h
  | some s =>
    rw [hb] at h
    simp only [Option.bind_some] at h
    obtain ⟨hc, hw, _⟩ := begunN_con hb
    unfold pieN at h
    have h1 := pnameN_con (bs := bs) s
    generalize pnameN bs s = t1 at *
    unfold pieN2 at h
    have h2 := ptkN_con (bs := bs) t1.2
    generalize ptkN bs t1.2 = t2 at *
    unfold pieN3 at h
    have h3 := yG (bs := bs) t2.2.2
    generalize digN bs t2.2.2 = t3 at *
    unfold pieN4 at h
    have h4 := ptkN_con (bs := bs) t3.2
    generalize ptkN bs t3.2 = t4 at *
    have h5 := kU (bs := bs) 4 t4.2.2
    generalize tkN bs 4 t4.2.2 = t5 at *
    unfold pieMid at h
    split at h
    · rename_i hcond
      cases hr : rowsGo bs t4.1 t5.1 t5.2 [] [] with
      | none => rw [hr] at h; cases h
      | some t =>
        rw [hr] at h
        simp only [Option.bind_some] at h
        obtain ⟨ne, np, a1, a2, a3, a4, a5, a6⟩ := rowsGo_con _ _ _ _ _ hr
        rw [List.nil_append] at a1 a2
        unfold pieEnd at h
        split at h
        · rename_i hd
          cases h
          have hall := (hc.trans (h1.trans ((h2.trans h3).trans (h4.trans h5)))).trans a5
          have hbs := hall.done hd.1
          have hs0 : size0W t.2.1 = t4.1 := by
            rw [a2]
            cases np with
            | nil => simp at a4; omega
            | cons p np => exact a6 p List.mem_cons_self
          have hok : pieOk ⟨t1.1, t2.1, t3.1, t.1, t.2.1⟩ = true := decide_eq_true ⟨by simp only; rw [a1, a3]; omega, by simp only; rw [a1, a2, a3, a4], hd.2⟩
          rw [pieceB, if_pos hok, pieHead]
          simp only
          rw [hs0, a1, a2, a3, <- hbs]
        · cases h
    · cases h
theorem restN_con (s : Rs) (hs : s.at_ <= bs.length) : Con bs s (js bs s).2 (js bs s).1 /\ ((js bs s).2.why = 0 -> jo bs (js bs s).2 = 0) := by
  have h := rawN_con (bs := bs) ((bs.length - s.at_ : Nat) : Int) s
  refine ⟨h.1, fun hz => ?_⟩
  have hz' : (rawN bs ((bs.length - s.at_ : Nat) : Int) s).2.why = 0 := hz
  have h0 := (h.1 hz').1
  unfold js rawN at *
  rw [if_neg (by omega), if_neg (by omega)] at *
  unfold jo
  simp only [Int.toNat_natCast]
  rw [if_neg (by omega)]
theorem ansHap_con (s : Rs) : ∃ e, Con bs s (ansHap bs s).2 e /\ ((ansHap bs s).2.why = 0 -> ((happB (ansHap bs s).1.hap).map fun x => be8 (ansHap bs s).1.number ++ x) = some e) := by
  unfold ansHap
  have h1 := numN_con (bs := bs) s
  generalize numN bs s = t1 at *
  have h2 := kU (bs := bs) 2 t1.2
  have hlt := kE bs 2 t1.2
  generalize tkN bs 2 t1.2 = t2 at *
  obtain ⟨new, e5, l5, h5, k5⟩ := hapsGo_con (bs := bs) t2.1 t2.2 []
  generalize vL bs t2.1 t2.2 [] = t5 at *
  rw [List.nil_append] at e5
  refine ⟨_, h1.trans (h2.trans h5), fun hz => ?_⟩
  simp only at hz ⊢
  rw [e5, happB, if_pos ⟨by omega, k5 hz⟩, l5]
  rfl
theorem ansN_back {op : Nat} {s : Rs} {x : Rep × Rs} (h : ansN bs op s = some x) (hz : x.2.why = 0) (hs : s.at_ <= bs.length) : x.1.err = 0 /\ ∃ e, repB op x.1 = some e /\ Con bs s x.2 e := by
  unfold ansN at h
  unfold repB
  by_cases h1 : op = 1 \/ op = 2
  · rw [if_pos h1] at h ⊢
    cases h
    obtain ⟨e, a, b⟩ := ansHap_con (bs := bs) s
    exact ⟨rfl, e, b hz, a⟩
  rw [if_neg h1] at h ⊢
  by_cases h3 : op = 3
  · rw [if_pos h3] at h ⊢
    cases h
    obtain ⟨e, a, b⟩ := toldN_con (bs := bs) s
    exact ⟨rfl, e, b hz, a⟩
  rw [if_neg h3] at h ⊢
  by_cases h4 : op = 4
  · rw [if_pos h4] at h ⊢
    cases h
    exact ⟨rfl, _, rfl, (restN_con s hs).1⟩
  rw [if_neg h4] at h ⊢
  by_cases h5 : op = 5
  · rw [if_pos h5] at h ⊢
    cases h
    exact ⟨rfl, _, rfl, numN_con s⟩
  rw [if_neg h5] at h ⊢
  by_cases h6 : op = 6
  · rw [if_pos h6] at h ⊢
    cases hd : ke (js bs s).1 with
    | none => rw [hd] at h; cases h
    | some y =>
      rw [hd] at h
      cases h
      exact ⟨rfl, _, decNote_back hd, (restN_con s hs).1⟩
  rw [if_neg h6] at h ⊢
  by_cases h7 : op = 7
  · rw [if_pos h7] at h ⊢
    have hf := flagN_con (bs := bs) s
    split at h
    · rename_i hb
      cases hd : ke (js bs (kO bs s).2).1 with
      | none => rw [hd] at h; cases h
      | some y =>
        rw [hd] at h
        cases h
        have hz' : (js bs (kO bs s).2).2.why = 0 := hz
        have hbk := decNote_back hd
        have hr := rawN_con (bs := bs) ((bs.length - (kO bs s).2.at_ : Nat) : Int) (kO bs s).2
        have hpos : 0 < y.2.length := by
          unfold noteB at hbk
          split at hbk
          · omega
          · cases hbk
        refine ⟨rfl, 1 :: (js bs (kO bs s).2).1, ?_, ?_⟩
        · rw [pubB, if_pos (.inl hpos)]
          simp only
          rw [hbk]
          rfl
        · rw [hb] at hf
          have := hf.trans hr.1
          exact this
    · rename_i hb
      cases h
      have hb' : (kO bs s).1 = false := by simpa using hb
      rw [hb'] at hf
      exact ⟨rfl, [0], by show pubB zeroRep.head zeroRep.signs = some [0]; decide, hf⟩
  rw [if_neg h7] at h ⊢
  by_cases h8 : op = 8
  · rw [if_pos h8] at h ⊢
    cases hd : decInc (js bs s).1 with
    | none => rw [hd] at h; cases h
    | some y =>
      rw [hd] at h
      cases h
      exact ⟨rfl, _, decInc_back hd, (restN_con s hs).1⟩
  rw [if_neg h8] at h ⊢
  by_cases h9 : op = 9
  · rw [if_pos h9] at h ⊢
    cases hd : decCon (js bs s).1 with
    | none => rw [hd] at h; cases h
    | some y =>
      rw [hd] at h
      cases h
      exact ⟨rfl, _, decCon_back hd, (restN_con s hs).1⟩
  rw [if_neg h9] at h ⊢
  by_cases h10 : op = 10
  · rw [if_pos h10] at h ⊢
    cases hd : decIdx (js bs s).1 with
    | none => rw [hd] at h; cases h
    | some y =>
      rw [hd] at h
      cases h
      exact ⟨rfl, _, decIdx_back hd, (restN_con s hs).1⟩
  rw [if_neg h10] at h ⊢
  by_cases h11 : op = 11
  · rw [if_pos h11] at h ⊢
    cases hd : decPie (js bs s).1 with
    | none => rw [hd] at h; cases h
    | some y =>
      rw [hd] at h
      cases h
      exact ⟨rfl, _, decPie_back hd, (restN_con s hs).1⟩
  rw [if_neg h11] at h ⊢
  cases h
  exact ⟨rfl, [], rfl, fun h => ⟨h, by simp, fun h => h⟩⟩
theorem repEnd_some {p y : Rep} {s : Rs} (h : repEnd bs p s = some y) : p = y /\ jo bs s = 0 := by
  unfold repEnd at h
  split at h
  · cases h; exact ⟨rfl, by assumption⟩
  · cases h
theorem decRep_back {op : Int} {y : Rep} (h : decRep op bs = some y) : encRep op y = some bs := by
  unfold decRep at h
  split at h
  · rename_i hop
    have h1 := kU (bs := bs) 2 ⟨0, 0⟩
    have hlt := kE bs 2 ⟨0, 0⟩
    generalize tkN bs 2 ⟨0, 0⟩ = t at *
    have key : ∀ e, bodyB op.toNat y = some e -> be 2 y.err.toNat ++ e = bs -> 0 <= y.err -> y.err <= 65535 -> encRep op y = some bs := by
      intro e he hbs ha hb
      rw [encRep, if_pos ⟨hop.1, hop.2.1, ha, hb⟩, he]
      simp only [Option.bind_some]
      have := congrArg List.length hbs
      rw [List.length_append, jC] at this
      rw [if_pos (by omega), hbs]
    unfold repMid at h
    split at h
    · cases h
    · rename_i hw
      have hw' : t.2.why = 0 := by simpa using hw
      have hat := (h1 hw').2.2 (Nat.zero_le _)
      split at h
      · rename_i h0
        cases hx : ansN bs op.toNat t.2 with
        | none => rw [hx] at h; cases h
        | some x =>
          rw [hx] at h
          simp only [Option.bind_some] at h
          obtain ⟨rfl, hd⟩ := repEnd_some h
          obtain ⟨he, e, hB, hC⟩ := ansN_back hx (done_ok hd) hat
          have hbs := (h1.trans hC).done hd
          rw [h0] at hbs
          exact key e (by rw [bodyB, if_pos he]; exact hB) (by rw [he]; exact hbs.symm) (by omega) (by omega)
      · rename_i h0
        split at h
        · rename_i hpl
          have h2 := kU (bs := bs) 4 t.2
          have l2 := kE bs 4 t.2
          generalize tkN bs 4 t.2 = a at *
          have h3 := kU (bs := bs) 4 a.2
          have l3 := kE bs 4 a.2
          generalize tkN bs 4 a.2 = b at *
          have h4 := kU (bs := bs) 4 b.2
          have l4 := kE bs 4 b.2
          generalize tkN bs 4 b.2 = c at *
          obtain ⟨rfl, hd⟩ := repEnd_some h
          have hbs := (h1.trans (h2.trans (h3.trans h4))).done hd
          rw [p256_4] at l2 l3 l4
          refine key (be 4 a.1 ++ (be 4 b.1 ++ be 4 c.1)) ?_ hbs.symm (by simp only; omega) (by simp only; omega)
          rw [bodyB]
          simp only
          rw [if_neg (by omega), if_pos hpl, placeB, if_pos (by simp; omega)]
          simp
        · rename_i hpl
          obtain ⟨rfl, hd⟩ := repEnd_some h
          have hbs := h1.done hd
          refine key [] ?_ (by rw [List.append_nil]; exact hbs.symm) (by simp only; omega) (by simp only; omega)
          rw [bodyB]
          simp only
          rw [if_neg (by omega), if_neg hpl]
  · cases h
end
theorem betGo_log (F : Nat) : ∀ (k f T L n : Nat), L < F -> F <= T -> T - L <= 2 ^ k -> T < 18446744073709551616 -> (betGo F f T L n).1 <= n + k := by
  intro k
  induction k with
  | zero =>
    intro f T L n h1 h2 h3 _
    rw [Nat.pow_zero] at h3
    rw [betGo_end F f T L n (by omega)]
    exact Nat.le_refl n
  | succ k ih =>
    intro f T L n h1 h2 h3 h4
    cases f with
    | zero => simp only [betGo]; omega
    | succ f =>
      rw [betGo]
      split
      · simp only; omega
      · rename_i hne
        obtain ⟨s1, s2, s3⟩ := bitLen_spec (T - L - 1) (T - L - 1) (Nat.le_refl _) (by omega) (by omega)
        obtain ⟨b, hb⟩ : ∃ b, Lib.bitLen (T - L - 1) = b + 1 := ⟨Lib.bitLen (T - L - 1) - 1, by omega⟩
        rw [hb, Nat.add_sub_cancel] at s2
        rw [hb, Nat.pow_succ] at s3
        rw [hb, Nat.add_sub_cancel]
        have hlt : 2 ^ b < 2 ^ (k + 1) := by omega
        have hbk : b < k + 1 := (Nat.pow_lt_pow_iff_right (by decide)).1 hlt
        have hle : 2 ^ b <= 2 ^ k := Nat.pow_le_pow_right (by decide) (by omega)
        have hpos : 0 < 2 ^ b := Nat.pow_pos (by decide)
        split
        · have := ih f (L + 2 ^ b) L (n + 1) h1 (by omega) (by omega) (by omega)
          omega
        · have := ih f T (L + 2 ^ b) (n + 1) (by omega) h2 (by omega) h4
          omega
def Small (f : Int -> Int -> Option Nat) : Prop := ∀ a b n, f a b = some n -> (0 <= a /\ a <= 1099511627776) /\ (0 <= b /\ b <= 1099511627776) /\ n <= 41
theorem small_bes : Small besN := by
  intro a b n h
  unfold besN at h
  split at h
  · injection h with h
    have := besGo_le a.toNat b.toNat 41 0 0
    omega
  · cases h
theorem small_bet : Small betN := by
  intro a b n h
  unfold betN at h
  split at h
  · split at h
    · injection h with h; omega
    · injection h with h
      have := betGo_log a.toNat 40 b.toNat b.toNat 0 0 (by omega) (by omega) (by rw [show (2 : Nat) ^ 40 = 1099511627776 from by decide]; omega) (by omega)
      unfold betEnd at h
      split at h <;> omega
  · cases h
section
variable {bs : List UInt8} {p : Nat}
theorem be8_in {n : Int} (h : 0 <= n /\ n <= 9223372036854775807) : be8 n = be 8 n.toNat := by
  unfold be8
  rw [show (n % 18446744073709551616).toNat = n.toNat by omega]
theorem At.tk8 {n : Int} (h : At bs p (be8 n)) (hn : 0 <= n /\ n <= 9223372036854775807) : tkN bs 8 ⟨p, 0⟩ = (n.toNat, ⟨p + 8, 0⟩) := by
  rw [be8_in hn] at h
  exact h.tk (by rw [p256_8]; omega)
theorem At.ptk {n : Int} (h : At bs p (be8 n)) (hn : 0 <= n /\ n <= 1099511627776) : ptkN bs ⟨p, 0⟩ = (n, true, ⟨p + 8, 0⟩) := by
  unfold ptkN
  rw [h.tk8 (by omega)]
  simp only
  rw [i64_small _ (by omega), decide_eq_true (by omega), show ((n.toNat : Nat) : Int) = n by omega]
theorem At.begun {kind most : Nat} {e : List UInt8} (h : At bs 0 (be 1 kind ++ e)) (hk : kind < 256) (hm : bs.length <= most) : kt bs most kind = some ⟨1, 0⟩ := by
  unfold kt
  have h1 := h.fst.tk (by omega)
  rw [if_neg (by omega), h1, if_pos ⟨rfl, rfl⟩]
theorem done_at (h : p = bs.length) : jo bs ⟨p, 0⟩ = 0 := by
  subst h
  simp [jo]
theorem At.all (e : List UInt8) : At e 0 e := ⟨[], [], by simp, rfl⟩
theorem wayN_fwd {kind most : Nat} {f : Int -> Int -> Option Nat} {a b : Int} {ds : List (List UInt8)} (hf : Small f) (hk : kind < 256) (hm : 2000 <= most) (hd : Dgs ds) (h : wayB kind (f a b) a b ds = some bs) :
    (kt bs most kind).bind (wayN bs f) = some ⟨a, b, ds⟩ := by
  unfold wayB at h
  split at h
  · rename_i hfs
    injection h with h
    obtain ⟨ha, hb, hn⟩ := hf a b _ hfs
    have hA := At.all bs
    rw [<- h] at hA
    have hlen : bs.length = 1 + (8 + (8 + ds.length * 32)) := by rw [<- h]; simp only [List.length_append, jC, jG, hd.flat]
    rw [h] at hA
    have hA' : At bs 0 (be 1 kind ++ (be8 a ++ (be8 b ++ ds.flatten))) := by rw [h]; exact hA
    have h1 := hA'.snd' (q := 1) (by rw [jC])
    have h2 := h1.snd' (q := 1 + 8) (by rw [jG])
    have h3 := h2.snd' (q := 1 + 8 + 8) (by rw [jG])
    rw [hA'.begun hk (by omega)]
    simp only [Option.bind_some]
    unfold wayN
    rw [h1.fst.ptk ha]
    simp only
    rw [h2.fst.ptk hb]
    simp only
    rw [if_pos ⟨trivial, trivial⟩, hfs]
    simp only
    unfold wayEnd
    rw [if_neg (by simp), h3.digs hd]
    simp only
    rw [if_pos (done_at (by omega))]
  · cases h
theorem decInc_fwd {x : Way} (hd : Dgs x.ds) (h : incB x.a x.b x.ds = some bs) : decInc bs = some x := wayN_fwd small_bes (by decide) (by decide) hd h
theorem decCon_fwd {x : Way} (hd : Dgs x.ds) (h : conB x.a x.b x.ds = some bs) : decCon bs = some x := wayN_fwd small_bet (by decide) (by decide) hd h
theorem At.pname {s : ByteArray} (h : At bs p (lp 1 (sb s))) (hs : s.size <= 255) : pnameN bs ⟨p, 0⟩ = (s, ⟨p + (1 + s.size), 0⟩) := by
  unfold pnameN
  have e : lp 1 (sb s) = be 1 s.size ++ sb s := by rw [lp, jF]
  rw [e] at h
  have h1 := h.fst.tk (by omega)
  have h2 := (h.snd' (q := p + 1) (by rw [jC])).raw
  rw [jF] at h2
  rw [h1]
  simp only
  rw [h2]
  simp only [mk_sb, Nat.add_assoc]
theorem decIdx_fwd {x : Idx} (hok : x.Ok) (h : idxB x = some bs) : decIdx bs = some x := by
  unfold idxB at h
  split at h
  · rename_i hi
    have hA := At.all bs
    injection h with h
    have hA' : At bs 0 (be 1 50 ++ (lp 1 (sb x.case_) ++ ([if x.found = true then 1 else 0] ++ vf x))) := by rw [h]; exact hA
    have hi' := hi
    unfold idxOk at hi'
    simp only [Bool.and_eq_true, decide_eq_true_eq] at hi'
    obtain ⟨hE, hN, hO⟩ := hi'
    have hnm : x.case_.size <= 64 := by
      unfold vU at hN
      simp only [Bool.and_eq_true, decide_eq_true_eq] at hN
      exact hN.1
    have hones : x.way.length <= 256 := by
      rw [<- hO]
      have := onesN_le x.bitmap
      rw [hok.bitmap] at this
      omega
    have hlen : bs.length <= 9000 := by
      rw [<- h]
      simp only [List.length_append, jC, jL, jF, List.length_singleton, vf, hok.way.flat, hok.bitmap]
      have : (if x.found = true then be8 x.count ++ x.chain else []).length <= 40 := by
        split
        · rw [List.length_append, jG, hok.chain]; omega
        · simp
      omega
    have h1 := hA'.snd' (q := 1) (by rw [jC])
    have h2 := h1.snd' (q := 1 + (1 + x.case_.size)) (by rw [jL, jF])
    have h3 := h2.snd' (q := 1 + (1 + x.case_.size) + 1) (by rfl)
    have hend : ∀ q, At bs q (x.bitmap ++ x.way.flatten) -> q + 32 + 32 * x.way.length = bs.length -> idxEnd bs x.case_ x.found x.count x.chain ⟨q, 0⟩ = some x := by
      intro q hq hql
      have d1 := hq.fst.dig hok.bitmap
      have d2 := (hq.snd' (q := q + 32) (by rw [hok.bitmap])).digs hok.way
      unfold idxEnd
      rw [d1]
      simp only
      rw [hO, d2]
      simp only
      rw [if_pos ⟨done_at hql, hi⟩]
    unfold decIdx
    rw [hA'.begun (by decide) hlen]
    simp only [Option.bind_some]
    unfold idxN
    rw [h1.fst.pname (by omega)]
    simp only
    rw [h2.fst.flag]
    unfold idxMid
    simp only
    cases hf : x.found with
    | true =>
      have eT : vf x = be8 x.count ++ (x.chain ++ (x.bitmap ++ x.way.flatten)) := by rw [vf, hf]; simp
      rw [if_pos rfl]
      rw [eT] at h3
      unfold entryOk at hE
      rw [hf, if_pos rfl, decide_eq_true_eq] at hE
      have h4 := h3.snd' (q := 1 + (1 + x.case_.size) + 1 + 8) (by rw [jG])
      have h5 := h4.snd' (q := 1 + (1 + x.case_.size) + 1 + 8 + 32) (by rw [hok.chain])
      rw [h3.fst.ptk (by omega)]
      simp only
      rw [if_pos trivial, h4.fst.dig hok.chain]
      simp only
      rw [<- hf]
      refine hend _ h5 ?_
      rw [<- h, eT]
      simp only [List.length_append, jC, jL, jF, List.length_singleton, hok.way.flat, hok.bitmap, hok.chain, jG]
      omega
    | false =>
      have eT : vf x = x.bitmap ++ x.way.flatten := by rw [vf, hf]; simp
      rw [if_neg (by decide)]
      rw [eT] at h3
      unfold entryOk at hE
      rw [hf, if_neg (by decide), decide_eq_true_eq] at hE
      have := hend _ h3 (by
        rw [<- h, eT]
        simp only [List.length_append, jC, jL, jF, List.length_singleton, hok.way.flat, hok.bitmap]
        omega)
      rw [hf, hE.1, hE.2] at this
      exact this
  · cases h
end
theorem sgn_ext {a b : Sgn} (h1 : a.key = b.key) (h2 : a.tag = b.tag) : a = b := by
  obtain ⟨k, t, _, _⟩ := a
  obtain ⟨k', t', _, _⟩ := b
  simp only at h1 h2
  subst h1 h2
  rfl
section
variable {bs : List UInt8}
theorem At.sgn {p : Nat} {x : Sgn} (h : At bs p (yK x)) : sgnN bs ⟨p, 0⟩ = (x, ⟨p + 64, 0⟩) := by
  unfold yK at h
  have h1 := h.fst.dig x.hk
  have h2 := (h.snd' (q := p + 32) (by rw [x.hk])).dig x.ht
  have e1 : (sgnN bs ⟨p, 0⟩).1 = x := sgn_ext (by simp only [sgnN]; rw [h1]) (by simp only [sgnN]; rw [h1]; simp only; rw [h2])
  have e2 : (sgnN bs ⟨p, 0⟩).2 = ⟨p + 64, 0⟩ := by simp only [sgnN]; rw [h1]; simp only; rw [h2]
  rw [<- e1, <- e2]
theorem signsGo_at : ∀ (l : List Sgn) (p : Nat) (acc : List Sgn), At bs p (l.flatMap yK) -> vJ bs l.length ⟨p, 0⟩ acc = (acc ++ l, ⟨p + l.length * 64, 0⟩)
  | [], p, acc, _ => by simp [vJ]
  | x :: l, p, acc, h => by
    rw [List.flatMap_cons] at h
    have h1 := h.fst.sgn
    have ih := signsGo_at l (p + 64) (acc ++ [x]) (h.snd' (by rw [yK, List.length_append, x.hk, x.ht]))
    rw [List.length_cons, vJ, h1]
    simp only
    rw [ih]
    simp only [List.append_assoc, List.singleton_append, Prod.mk.injEq, true_and, Rs.mk.injEq, and_true]
    omega
theorem At.head {p : Nat} {h : Hd} (hA : At bs p (headB h)) (hok : h.Ok) (hh : headOk h = true) : htakeN bs ⟨p, 0⟩ = (some h, ⟨p + 113, 0⟩) := by
  unfold headB at hA
  have hb := of_decide_eq_true hh
  have a1 := hA.snd' (q := p + 1) (by rw [jC])
  have a2 := a1.snd' (q := p + 1 + 32) (by rw [hok.log])
  have a3 := a2.snd' (q := p + 1 + 32 + 8) (by rw [jG])
  have a4 := a3.snd' (q := p + 1 + 32 + 8 + 32) (by rw [hok.root])
  have a5 := a4.snd' (q := p + 1 + 32 + 8 + 32 + 32) (by rw [hok.index])
  unfold htakeN
  rw [hA.fst.tk (by decide)]
  unfold htkN
  simp only
  rw [a1.fst.dig hok.log]
  simp only
  rw [a2.fst.tk8 (by omega)]
  simp only
  rw [a3.fst.dig hok.root]
  simp only
  rw [a4.fst.dig hok.index]
  simp only
  rw [a5.tk8 (by omega)]
  simp only
  rw [if_pos ⟨trivial, trivial, by omega, by omega⟩]
  rw [show ((h.size.toNat : Nat) : Int) = h.size by omega, show ((h.clock.toNat : Nat) : Int) = h.clock by omega]
theorem decNote_fwd {h : Hd} {l : List Sgn} (hok : h.Ok) (hn : noteB h l = some bs) : ke bs = some (h, sortS l) := by
  unfold noteB at hn
  split at hn
  · rename_i hc
    injection hn with hn
    have hA := At.all bs
    have hl : (sortS l).length = l.length := (sortS_perm l).length_eq
    have hA' : At bs 0 (be 1 33 ++ (headB h ++ (be 1 l.length ++ (sortS l).flatMap yK))) := by rw [hn]; exact hA
    have hhl : (headB h).length = 113 := by simp only [headB, List.length_append, jC, jG, hok.log, hok.root, hok.index]
    have a1 := hA'.snd' (q := 1) (by rw [jC])
    have a2 := a1.snd' (q := 1 + 113) (by rw [hhl])
    have a3 := a2.snd' (q := 1 + 113 + 1) (by rw [jC])
    have hlen : bs.length = 1 + (113 + (1 + l.length * 64)) := by rw [<- hn]; simp only [List.length_append, jC, hhl, signB_len, hl]
    unfold ke
    rw [hA'.fst.tk (by decide)]
    simp only [Nat.zero_add]
    rw [a1.fst.head hok hc.1]
    unfold noteN
    simp only
    rw [a2.fst.tk (by omega)]
    simp only
    have hg := signsGo_at (sortS l) _ [] a3
    rw [hl, List.nil_append] at hg
    rw [if_pos ⟨trivial, hc.2.1, hc.2.2.1⟩, hg]
    unfold noteEnd
    simp only
    rw [if_pos ⟨done_at (by omega), hc.2.2.2⟩]
  · cases hn
theorem wordsGo_at : ∀ (l : List ByteArray) (p : Nat) (acc : List ByteArray), okT l = true -> At bs p (lps4 l) -> (kv bs l.length ⟨p, 0⟩ acc).2 = ⟨p + (lps4 l).length, 0⟩
  | [], p, acc, _, _ => by simp [kv, lps4]
  | x :: l, p, acc, ho, h => by
    have e : lps4 (x :: l) = lp 4 (sb x) ++ lps4 l := by simp [lps4]
    rw [e] at h
    unfold okT at ho
    rw [List.all_cons, Bool.and_eq_true, decide_eq_true_eq] at ho
    have h1 := h.fst.word ho.1
    have ih := wordsGo_at l (p + (4 + x.size)) (acc ++ [x]) ho.2 (h.snd' (by rw [jb]))
    rw [List.length_cons, kv, h1]
    simp only
    rw [ih, e, List.length_append, jb, Nat.add_assoc]
theorem names_some {l : List ByteArray} {e : List UInt8} (h : vO l = some e) : e = namesL l /\ l.length <= 255 /\ okT l = true := by
  unfold vO at h
  split at h
  · rename_i hc
    injection h with h
    exact ⟨h.symm, hc.1, hc.2⟩
  · cases h
theorem listedN_at {l : List ByteArray} {p : Nat} (hl : l.length <= 255) (ho : okT l = true) (h : At bs p (namesL l)) : (kF bs ⟨p, 0⟩).2 = ⟨p + (namesL l).length, 0⟩ := by
  unfold namesL at h
  have h1 := h.fst.tk (by omega)
  have h2 := wordsGo_at l (p + 1) [] ho (h.snd' (by rw [jC]))
  unfold kF
  rw [h1]
  simp only
  rw [h2, namesL, List.length_append, jC, Nat.add_assoc]
theorem bindsGo_at : ∀ (l : List (ByteArray × Val)) (p : Nat) (acc : List (ByteArray × Val)), l.all okBind = true -> At bs p (l.flatMap yH) -> (vD bs l.length ⟨p, 0⟩ acc).2 = ⟨p + (l.flatMap yH).length, 0⟩
  | [], p, acc, _, _ => by simp [vD]
  | x :: l, p, acc, ho, h => by
    rw [List.flatMap_cons, yH, List.append_assoc] at h
    rw [List.all_cons, Bool.and_eq_true, okBind, decide_eq_true_eq] at ho
    have h1 := h.fst.word ho.1.1
    have h' := h.snd' (q := p + (4 + x.1.size)) (by rw [jb])
    have h2 := h'.fst.val ho.1.2
    have ih := bindsGo_at l (p + (4 + x.1.size) + (valB x.2).length) (acc ++ [(x.1, cV x.2)]) ho.2 (h'.snd' rfl)
    rw [List.length_cons, vD, h1]
    simp only
    rw [h2]
    simp only
    rw [ih, List.flatMap_cons, yH]
    simp only [List.length_append, jb, Nat.add_assoc]
theorem toldN_at {c : Cas} {e : List UInt8} {p : Nat} (hc : c.chain.length = 32) (he : caseB c = some e) (h : At bs p e) : (toldN bs ⟨p, 0⟩).2 = ⟨p + e.length, 0⟩ := by
  unfold caseB at he
  split at he
  · rename_i hok
    unfold three at he
    cases h1 : vO c.open_ with
    | none => rw [h1] at he; cases he
    | some e1 =>
      cases h2 : vO c.closed with
      | none => rw [h1, h2] at he; cases he
      | some e2 =>
        cases h3 : vO c.reached with
        | none => rw [h1, h2, h3] at he; cases he
        | some e3 =>
          rw [h1, h2, h3] at he
          simp only [Option.bind_some, Option.map_some, Option.some.injEq] at he
          obtain ⟨r1, l1, o1⟩ := names_some h1
          obtain ⟨r2, l2, o2⟩ := names_some h2
          obtain ⟨r3, l3, o3⟩ := names_some h3
          subst r1 r2 r3
          subst he
          unfold caseHead at h
          simp only [List.append_assoc] at h
          have a1 := h.snd' (q := p + (4 + c.type_.size)) (by rw [jb])
          have a2 := a1.snd' (q := p + (4 + c.type_.size) + 8) (by rw [jG])
          have a3 := a2.snd' (q := p + (4 + c.type_.size) + 8 + 32) (by rw [hc])
          have a4 := a3.snd' (q := p + (4 + c.type_.size) + 8 + 32 + 1) (by rw [jC])
          have a5 := a4.snd' (q := p + (4 + c.type_.size) + 8 + 32 + 1 + (c.values.flatMap yH).length) rfl
          have a6 := a5.snd' (q := p + (4 + c.type_.size) + 8 + 32 + 1 + (c.values.flatMap yH).length + (namesL c.open_).length) rfl
          have a7 := a6.snd' (q := p + (4 + c.type_.size) + 8 + 32 + 1 + (c.values.flatMap yH).length + (namesL c.open_).length + (namesL c.closed).length) rfl
          unfold toldN
          rw [h.fst.word hok.1]
          simp only
          rw [a1.fst.num]
          simp only
          rw [a2.fst.dig hc]
          unfold toldMid
          simp only
          rw [a3.fst.tk (by omega)]
          unfold toldEnd
          simp only
          rw [bindsGo_at c.values _ [] hok.2.2 a4.fst, listedN_at l1 o1 a5.fst, listedN_at l2 o2 a6.fst, listedN_at l3 o3 a7]
          simp only [caseHead, List.length_append, jb, jG, jC, hc, Nat.add_assoc]
  · cases he
theorem hapsGo_at : ∀ (l : List MHap) (p : Nat) (acc : List MHap), okH l = true -> At bs p (l.flatMap hapB) -> (vL bs l.length ⟨p, 0⟩ acc).2 = ⟨p + (l.flatMap hapB).length, 0⟩
  | [], p, acc, _, _ => by simp [vL]
  | x :: l, p, acc, ho, h => by
    rw [List.flatMap_cons, hapB, List.append_assoc] at h
    unfold okH at ho
    rw [List.all_cons, Bool.and_eq_true, decide_eq_true_eq] at ho
    have h1 := h.fst.tk (by omega)
    have h' := h.snd' (q := p + 1) (by rw [jC])
    have h2 := h'.fst.word ho.1.2.2
    have ih := hapsGo_at l (p + 1 + (4 + x.name.size)) (acc ++ [⟨(x.op.toNat : Nat), x.name⟩]) ho.2 (h'.snd' (by rw [jb]))
    rw [List.length_cons, vL, h1]
    simp only
    rw [h2]
    simp only
    rw [ih, List.flatMap_cons, hapB]
    simp only [List.length_append, jC, jb, Nat.add_assoc]
theorem ansHap_at {n : Int} {l : List MHap} {e : List UInt8} {p : Nat} (he : ((happB l).map fun x => be8 n ++ x) = some e) (h : At bs p e) : (ansHap bs ⟨p, 0⟩).2 = ⟨p + e.length, 0⟩ := by
  cases hb : happB l with
  | none => rw [hb] at he; cases he
  | some x =>
    rw [hb] at he
    simp only [Option.map_some, Option.some.injEq] at he
    subst he
    unfold happB at hb
    split at hb
    · rename_i hc
      injection hb with hb
      subst hb
      have h' := h.snd' (q := p + 8) (by rw [jG])
      have h'' := h'.snd' (q := p + 8 + 2) (by rw [jC])
      unfold ansHap
      simp only
      rw [h.fst.num]
      simp only
      rw [h'.fst.tk (by rw [p256_2]; omega)]
      simp only
      rw [hapsGo_at l _ [] hc.2 h'']
      simp only [List.length_append, jG, jC, Nat.add_assoc]
    · cases hb
end
end Go.Proofs.YtnaolhjbapgjgaaGreat
