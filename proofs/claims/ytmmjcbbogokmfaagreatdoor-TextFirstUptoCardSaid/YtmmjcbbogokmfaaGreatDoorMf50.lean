import Derived.Test.YtmmjcbbogokmfaaGreatDoorMf01
import Derived.Test.YtmmjcbbogokmfaaGreatDoorMf05
import Derived.Test.YtmmjcbbogokmfaaGreatDoorMf49
set_option maxRecDepth 100000
set_option maxHeartbeats 25600000
namespace Go.Proofs.YtmmjcbbogokmfaaGreatDoor
open Go.RowKit
def ParW (w : World) (l : List UInt8) (e : Ending) (w' : World) : Prop := ∃ nm ta aA an ac gA gn gc mA mn mc pA pn pc nA nn nc oA on oc, e = .returned (.tuple #[.agg #[.string nm, .int .i64 ta, .slice aA an ac, .slice gA gn gc, .slice mA mn mc, .slice pA pn pc, .slice nA nn nc, .slice oA on oc], .int .i64 (yI l : Int), .int .i64 (parE l : Int)]) /\ Old w w'
theorem par9_any (w : World) (hg : Sg w) (h8 : 8 <= w.heap.size) (A : Option Addr) (n c : Nat) (l : List UInt8) (hr : Rd w 1 A n (l.map bv)) : Calls Tryz.prog 26 #[.slice A n c] w (ParW w l) := by
  have hn : l.length = n := by simpa using hr.1
  by_cases hl : l.length <= 60000
  · unfold ParW yI parE parsesN
    rw [if_pos hl, if_pos hl]
    cases hb : jq l with
    | error k => exact (parse_bad w hg h8 A n c l hr hl k hb).mono fun e w' ⟨he, ho⟩ => ⟨_, _, _, _, _, _, _, _, _, _, _, _, _, _, _, _, _, _, _, _, he, ho⟩
    | ok m =>
      simp only
      by_cases hm : m.stack = []
      · rw [if_pos hm]
        obtain ⟨r, hk⟩ := read_all hb hm hl
        exact (parse_ok w hg h8 A n c l hr hl m hb hm _ r hk).mono fun e w' ⟨g, s, he, _, ho, _⟩ => ⟨_, _, _, _, _, _, _, _, _, _, _, _, _, _, _, _, _, _, _, _, he, ho⟩
      · rw [if_neg hm]
        exact (parse_short w hg h8 A n c l hr hl m hb hm).mono fun e w' ⟨he, ho⟩ => ⟨_, _, _, _, _, _, _, _, _, _, _, _, _, _, _, _, _, _, _, _, he, ho⟩
  · unfold ParW
    rw [(par_long hl).1, (par_long hl).2.1]
    exact (parse_long w A n c (by omega)).mono fun e w' ⟨he, ho⟩ => ⟨_, _, _, _, _, _, _, _, _, _, _, _, _, _, _, _, _, _, _, _, he, ho⟩
theorem take_rd {W : World} {A : Option Addr} {n k : Nat} {l : List UInt8} (h : Rd W 1 A n (l.map bv)) (hk : k <= n) : Rd W 1 A k ((l.take k).map bv) := by
  have h1 := h.take_ hk
  rw [Nat.mul_one, <- List.map_take] at h1
  exact h1
section
variable (w : World) (hg : Sg w) (h8 : 8 <= w.heap.size) (B : Option Addr) (d : Nat) (l : List UInt8) (hr : Rd w 1 B l.length (l.map bv)) (hl : l.length <= 100000000)
include hg h8 hr hl
theorem first_long (hx : ¬ l.length <= 60000) : Calls Tryz.prog 5 #[.slice B l.length d] w fun e w' => e = .returned (.bool true) /\ Old w w' := by
  obtain ⟨i0, hi, hz0, hz1, hz2⟩ := info_parts Tryz.infoB
  have Hr := jJ0 hr
  have Hone := jJ0 (vQ l)
  have J63 := jJ0 (show 0 + l.length <= maxLen by unfold maxLen; omega)
  have J47 := jJ0 (show (0 + l.length) * 1 <= 140737488355328 by omega)
  have HP := jJ0 (fun W (hO : Old w W) A c (hx : Rd W 1 A l.length (l.map bv)) => par9_any W (hg.old hO) (Nat.le_trans h8 hO.size) A l.length c l hx)
  have HF := jJ0 (fun W (hO : Old w W) A c (hx : Rd W 1 A l.length (l.map bv)) => fin9_any W (hg.old hO) (Nat.le_trans h8 hO.size) A l.length c l hx)
  have HK := jJ0 (fun W (hO : Old w W) => known_any W (hg.old hO) (Nat.le_trans h8 hO.size))
  obtain ⟨e1, e2, e3, e4⟩ := par_long hx
  unfold ParW at HP
  unfold FinW at HF
  rw [e1, e2] at HP
  rw [e3, e4] at HF
  have b1 : (60000 : Int) < (l.length : Int) := by omega
  clear hg h8 hr hl hx e1 e2 e3 e4
  go_enter Tryz.func5, Tryz.ntmps5
  go_wp2_with (first | (go_at_call 12; refine (HK.out _ HO3.out).mono ?_; rintro e wk ⟨rfl, ho⟩; have HOK := jJ0 (HO3.out.trans ho (fun _ _ e => e)); clear ho) | (go_at_call 27; refine (HF.out _ HO2.out _ _ ((Rd.of_own HOwn.out).old O12.out)).mono ?_; rintro e w3 ⟨A3, c3, rfl, hx, hn3, ho⟩; have HO3 := jJ0 (HO2.out.trans ho (fun _ _ e => e)); clear ho hx hn3) | (go_at_call 26; refine (HP.out _ HO1.out _ _ (Rd.of_own HOwn.out)).mono ?_; rintro e w2 ⟨nm, ta, aA, an, ac, gA, gn, gc, mA, mn, mc, pA, pn, pc, nA, nn, nc, oA, on, oc, rfl, ho⟩; have HO2 := jJ0 ((HO1.out.trans ho (fun _ _ e => e)).alloc (.cells #[.string nm, .int .i64 ta, .slice aA an ac, .slice gA gn gc, .slice mA mn mc, .slice pA pn pc, .slice nA nn nc, .slice oA on oc] 29)); have O12 := jJ0 (ho.alloc (.cells #[.string nm, .int .i64 ta, .slice aA an ac, .slice gA gn gc, .slice mA mn mc, .slice pA pn pc, .slice nA nn nc, .slice oA on oc] 29) : Old wa _); clear ho) | (at_builtin; refine jF _ rfl (.const (.slice none 0 0)) (.tmp 17) 33 rfl w.heap.size 5 i0 (.int .u8 0) 1 1 Tryz.underlying33 hi hz0 hz1 hz2 rfl (by decide) (.slice none 0 0) 0 [] rfl (World.ownsRow_nil _ _ _ _) B l.length d (l.map bv) rfl Hr.out Hone.out J63.out J47.out (Nat.le_refl _) ?_; intro Ab cb wa hown hgrow hat; rw [Nat.zero_add, List.nil_append] at hown; rw [Nat.zero_add]; have HOwn := jJ0 hown; have HO1 := jJ0 (Kp.grown (Kp.refl _ _) hgrow (fun _ e _ => by cases e) : Old w wa); have hcap := own_cap hown; clear hown hgrow hat) | fail)
  go_ret
  exact ⟨rfl, HOK.out⟩
theorem first_type (hx : l.length <= 60000) (h0 : parE l = 0) : Calls Tryz.prog 5 #[.slice B l.length d] w fun e w' => e = .returned (.bool true) /\ Old w w' := by
  obtain ⟨i0, hi, hz0, hz1, hz2⟩ := info_parts Tryz.infoB
  have Hr := jJ0 hr
  have Hone := jJ0 (vQ l)
  have J63 := jJ0 (show 0 + l.length <= maxLen by unfold maxLen; omega)
  have J47 := jJ0 (show (0 + l.length) * 1 <= 140737488355328 by omega)
  have HP := jJ0 (fun W (hO : Old w W) A c (hx : Rd W 1 A l.length (l.map bv)) => par9_any W (hg.old hO) (Nat.le_trans h8 hO.size) A l.length c l hx)
  have HF := jJ0 (fun W (hO : Old w W) A c (hx : Rd W 1 A l.length (l.map bv)) => fin9_any W (hg.old hO) (Nat.le_trans h8 hO.size) A l.length c l hx)
  have HK := jJ0 (fun W (hO : Old w W) => known_any W (hg.old hO) (Nat.le_trans h8 hO.size))
  obtain ⟨e2, e3, e4⟩ := par_ok hx h0
  unfold ParW at HP
  unfold FinW at HF
  rw [h0, e2] at HP
  rw [e3, e4] at HF
  have b1 : ¬ (60000 : Int) < (l.length : Int) := by omega
  clear hg h8 hr hl hx h0 e2 e3 e4
  go_enter Tryz.func5, Tryz.ntmps5
  go_wp2_with (first | (go_at_call 12; refine (HK.out _ HO3.out).mono ?_; rintro e wk ⟨rfl, ho⟩; have HOK := jJ0 (HO3.out.trans ho (fun _ _ e => e)); clear ho) | (go_at_call 27; refine (HF.out _ HO2.out _ _ ((Rd.of_own HOwn.out).old O12.out)).mono ?_; rintro e w3 ⟨A3, c3, rfl, hx, hn3, ho⟩; have HO3 := jJ0 (HO2.out.trans ho (fun _ _ e => e)); clear ho hx hn3) | (go_at_call 26; refine (HP.out _ HO1.out _ _ (Rd.of_own HOwn.out)).mono ?_; rintro e w2 ⟨nm, ta, aA, an, ac, gA, gn, gc, mA, mn, mc, pA, pn, pc, nA, nn, nc, oA, on, oc, rfl, ho⟩; have HO2 := jJ0 ((HO1.out.trans ho (fun _ _ e => e)).alloc (.cells #[.string nm, .int .i64 ta, .slice aA an ac, .slice gA gn gc, .slice mA mn mc, .slice pA pn pc, .slice nA nn nc, .slice oA on oc] 29)); have O12 := jJ0 (ho.alloc (.cells #[.string nm, .int .i64 ta, .slice aA an ac, .slice gA gn gc, .slice mA mn mc, .slice pA pn pc, .slice nA nn nc, .slice oA on oc] 29) : Old wa _); clear ho) | (at_builtin; refine jF _ rfl (.const (.slice none 0 0)) (.tmp 17) 33 rfl w.heap.size 5 i0 (.int .u8 0) 1 1 Tryz.underlying33 hi hz0 hz1 hz2 rfl (by decide) (.slice none 0 0) 0 [] rfl (World.ownsRow_nil _ _ _ _) B l.length d (l.map bv) rfl Hr.out Hone.out J63.out J47.out (Nat.le_refl _) ?_; intro Ab cb wa hown hgrow hat; rw [Nat.zero_add, List.nil_append] at hown; rw [Nat.zero_add]; have HOwn := jJ0 hown; have HO1 := jJ0 (Kp.grown (Kp.refl _ _) hgrow (fun _ e _ => by cases e) : Old w wa); have hcap := own_cap hown; clear hown hgrow hat) | fail)
  go_ret
  exact ⟨rfl, HOK.out⟩
theorem first_bad (hx : l.length <= 60000) (h0 : parE l ≠ 0) : Calls Tryz.prog 5 #[.slice B l.length d] w fun e w' => e = .returned (.bool true) /\ Old w w' := by
  obtain ⟨i0, hi, hz0, hz1, hz2⟩ := info_parts Tryz.infoB
  have Hr := jJ0 hr
  have Hone := jJ0 (vQ l)
  have J63 := jJ0 (show 0 + l.length <= maxLen by unfold maxLen; omega)
  have J47 := jJ0 (show (0 + l.length) * 1 <= 140737488355328 by omega)
  have HP := jJ0 (fun W (hO : Old w W) A c (hx : Rd W 1 A l.length (l.map bv)) => par9_any W (hg.old hO) (Nat.le_trans h8 hO.size) A l.length c l hx)
  have HK := jJ0 (fun W (hO : Old w W) => known_any W (hg.old hO) (Nat.le_trans h8 hO.size))
  obtain ⟨e1, e2, e3, e4, e5, e6⟩ := par_bad hx h0
  unfold ParW at HP
  rw [e1] at HP
  generalize yI l = k at *
  have HKL := jJ0 e2
  have HFP := jJ0 (fun W (hO : Old w W) A c (hx : Rd W 1 A l.length (l.map bv)) => fin9_any W (hg.old hO) (Nat.le_trans h8 hO.size) A k c (l.take k) (take_rd hx e2))
  have HTk := jJ0 (fun W A (hx : Rd W 1 A l.length (l.map bv)) => take_rd hx e2)
  have hE9 := finB_len (l.take k)
  have hP9 : (l.take k).length = k := by rw [List.length_take]; omega
  have HPA := jJ0 (fun W (hO : Old w W) A c (hx : Rd W 1 A (k + (finB (l.take k)).length) ((l.take k ++ finB (l.take k)).map bv)) => par9_any W (hg.old hO) (Nat.le_trans h8 hO.size) A (k + (finB (l.take k)).length) c _ hx)
  have HFQ := jJ0 (fun (hk : k < l.length) W (hO : Old w W) A c (hx : Rd W 1 A l.length (l.map bv)) => fin9_any W (hg.old hO) (Nat.le_trans h8 hO.size) A (k + 1) c (l.take (k + 1)) (take_rd hx hk))
  unfold FinW at HFP HFQ
  unfold ParW at HPA
  rw [e3] at HFP
  have HoneP := jJ0 (vQ (l.take k))
  have hlA : (l.take k ++ finB (l.take k)).length = k + (finB (l.take k)).length := by rw [List.length_append, hP9]
  have hpl := fun h => (par_long (l := l.take k ++ finB (l.take k)) h).1
  rw [hlA] at e5 hpl
  generalize hE : finB (l.take k) = E at *
  generalize hPP : l.take k = P at *
  have HoneE := jJ0 (vQ E)
  have HPE := jJ0 (show P.map bv ++ E.map bv = (P ++ E).map bv from List.map_append.symm)
  have K63 := jJ0 (show 0 + k <= maxLen by unfold maxLen; omega)
  have K47 := jJ0 (show (0 + k) * 1 <= 140737488355328 by omega)
  have M63 := jJ0 (show k + E.length <= maxLen by unfold maxLen; omega)
  have M47 := jJ0 (show (k + E.length) * 1 <= 140737488355328 by omega)
  have b1 : ¬ (60000 : Int) < (l.length : Int) := by omega
  have b2 : ¬ (k : Int) < 0 := by omega
  have b3 : ¬ (l.length : Int) < (k : Int) := by omega
  have HD := jJ0 (show (parE (P ++ E) = 0 \/ (parE (P ++ E) = 6 /\ 60000 < k + E.length)) from by
    rcases Nat.lt_or_ge 60000 (k + E.length) with h | h
    · exact .inr ⟨hpl (by omega), h⟩
    · exact .inl (e5 h))
  have HE0 := jJ0 (show ((E.length : Int) == 0) = true /\ k < l.length \/ ((E.length : Int) == 0) = false from by
    by_cases h : E = []
    · exact .inl ⟨by rw [h]; rfl, by have := e4 h; omega⟩
    · exact .inr (beq_eq_false_iff_ne.2 (by have := List.length_pos_iff.2 h; omega)))
  have HQ := jJ0 e6
  clear hg h8 hr hl hx h0 e1 e2 e3 e4 e5 e6 hpl hlA hE hPP hE9 hP9
  generalize parE (P ++ E) = fE at *
  generalize yI (P ++ E) = fA at *
  by_cases hkl : k < l.length
  · have HFQ2 := jJ0 (HFQ.out hkl)
    rw [(HQ.out hkl).1, (HQ.out hkl).2] at HFQ2
    have hsl2 := fun A c (hc : k + 1 <= c) W => cut_h (P := Tryz.prog) Tryz.elemB Tryz.sizeEB A l.length c (k + 1) .i64 ((k : Int) + 1) (by omega) hc W
    have g1 : IntKind.i64.wrap ((k : Int) + 1) = (k : Int) + 1 := IntWalk.i64_in _ (by omega)
    have b4 : ((k : Int) == (l.length : Int)) = false := beq_eq_false_iff_ne.2 (by omega)
    have HK1 := jJ0 (show k + 1 <= l.length from hkl)
    have HS2 := jJ0 hsl2
    clear HFQ HQ hkl hsl2
    rcases HD.out with hd | ⟨hd, hb⟩
    · subst hd
      rcases HE0.out with ⟨hz, _⟩ | hz
      all_goals
        go_enter Tryz.func5, Tryz.ntmps5
        go_wp2_with (first | (go_at_call 12; refine (HK.out _ HO7.out).mono ?_; rintro e wk ⟨rfl, ho⟩; have HOK := jJ0 (HO7.out.trans ho (fun _ _ e => e)); clear ho) | (go_at_call 27; refine (HFQ2.out _ HO6.out _ _ ((Rd.of_own HOwn.out).old O16.out)).mono ?_; rintro e w7 ⟨A7, c7, rfl, hx, hn7, ho⟩; have HO7 := jJ0 (HO6.out.trans ho (fun _ _ e => e)); clear ho hx hn7) | (go_at_call 26; refine (HPA.out _ HO5.out _ _ (Rd.of_own HOw5.out)).mono ?_; rintro e w6 ⟨nm2, ta2, aA2, an2, ac2, gA2, gn2, gc2, mA2, mn2, mc2, pA2, pn2, pc2, nA2, nn2, nc2, oA2, on2, oc2, rfl, ho⟩; have HO6 := jJ0 ((HO5.out.trans ho (fun _ _ e => e)).alloc (.cells #[.string nm2, .int .i64 ta2, .slice aA2 an2 ac2, .slice gA2 gn2 gc2, .slice mA2 mn2 mc2, .slice pA2 pn2 pc2, .slice nA2 nn2 nc2, .slice oA2 on2 oc2] 29)); have O16 := jJ0 ((O15.out.trans ho (fun _ _ e => e)).alloc (.cells #[.string nm2, .int .i64 ta2, .slice aA2 an2 ac2, .slice gA2 gn2 gc2, .slice mA2 mn2 mc2, .slice pA2 pn2 pc2, .slice nA2 nn2 nc2, .slice oA2 on2 oc2] 29)); clear ho) | (at_builtin; refine jF _ rfl (.tmp 106) (.tmp 107) 33 rfl wa.heap.size 5 i0 (.int .u8 0) 1 1 Tryz.underlying33 hi hz0 hz1 hz2 rfl (by decide) (.slice A4 k c4) k (P.map bv) rfl HOw4.out A3 E.length c3 (E.map bv) rfl HX4.out HoneE.out M63.out M47.out O14.out.size ?_; intro A5 c5 w5 hown hgrow hat; rw [jA] at hgrow; rw [HPE.out] at hown; have HOw5 := jJ0 hown; have HO5 := jJ0 (Kp.grown HO4.out hgrow (fun b e hb => by have := (vE HOw4.out e).1; have := HO1.out.size; omega) : Old w w5); have O15 := jJ0 (Kp.grown O14.out hgrow (fun b e hb => by have := (vE HOw4.out e).1; omega) : Old wa w5); clear hown hgrow hat) | (at_builtin; refine jF _ rfl (.const (.slice none 0 0)) (.tmp 105) 33 rfl wa.heap.size 5 i0 (.int .u8 0) 1 1 Tryz.underlying33 hi hz0 hz1 hz2 rfl (by decide) (.slice none 0 0) 0 [] rfl (World.ownsRow_nil _ _ _ _) Ab k cb (P.map bv) rfl (HTk.out _ _ ((Rd.of_own HOwn.out).old O13.out)) HoneP.out K63.out K47.out O13.out.size ?_; intro A4 c4 w4 hown hgrow hat; rw [Nat.zero_add, List.nil_append] at hown; rw [Nat.zero_add]; have HOw4 := jJ0 hown; have o34 : Old w3 w4 := Kp.grown (Kp.refl _ _) hgrow (fun _ e _ => by cases e); have HO4 := jJ0 (HO3.out.trans o34 (fun _ _ e => e)); have O14 := jJ0 (O13.out.trans o34 (fun _ _ e => e)); have HX4 := jJ0 (HX3.out.old o34); clear hown hgrow hat o34) | (go_at_call 27; refine (HFP.out _ HO2.out _ _ ((Rd.of_own HOwn.out).old O12.out)).mono ?_; rintro e w3 ⟨A3, c3, rfl, hx, hn3, ho⟩; have HO3 := jJ0 (HO2.out.trans ho (fun _ _ e => e)); have O13 := jJ0 (O12.out.trans ho (fun _ _ e => e)); have HX3 := jJ0 hx; clear ho hx hn3) | (go_at_call 26; refine (HP.out _ HO1.out _ _ (Rd.of_own HOwn.out)).mono ?_; rintro e w2 ⟨nm, ta, aA, an, ac, gA, gn, gc, mA, mn, mc, pA, pn, pc, nA, nn, nc, oA, on, oc, rfl, ho⟩; have HO2 := jJ0 ((HO1.out.trans ho (fun _ _ e => e)).alloc (.cells #[.string nm, .int .i64 ta, .slice aA an ac, .slice gA gn gc, .slice mA mn mc, .slice pA pn pc, .slice nA nn nc, .slice oA on oc] 29)); have O12 := jJ0 (ho.alloc (.cells #[.string nm, .int .i64 ta, .slice aA an ac, .slice gA gn gc, .slice mA mn mc, .slice pA pn pc, .slice nA nn nc, .slice oA on oc] 29) : Old wa _); clear ho) | (at_builtin; refine jF _ rfl (.const (.slice none 0 0)) (.tmp 17) 33 rfl w.heap.size 5 i0 (.int .u8 0) 1 1 Tryz.underlying33 hi hz0 hz1 hz2 rfl (by decide) (.slice none 0 0) 0 [] rfl (World.ownsRow_nil _ _ _ _) B l.length d (l.map bv) rfl Hr.out Hone.out J63.out J47.out (Nat.le_refl _) ?_; intro Ab cb wa hown hgrow hat; rw [Nat.zero_add, List.nil_append] at hown; rw [Nat.zero_add]; have HOwn := jJ0 hown; have HO1 := jJ0 (Kp.grown (Kp.refl _ _) hgrow (fun _ e _ => by cases e) : Old w wa); have hcap := own_cap hown; have hsl1 := fun W => cut_h (P := Tryz.prog) Tryz.elemB Tryz.sizeEB Ab l.length cb k .i64 (k : Int) rfl (Nat.le_trans HKL.out hcap) W; have hsl2 := fun W => HS2.out Ab cb (Nat.le_trans HK1.out hcap) W; have HCap := jJ0 hcap; clear hown hgrow hat hcap) | fail)
        go_ret
        exact ⟨rfl, HOK.out⟩
    · subst hd
      have b5 : ¬ (k : Int) + (E.length : Int) <= 60000 := by omega
      rcases HE0.out with ⟨hz, _⟩ | hz
      all_goals
        go_enter Tryz.func5, Tryz.ntmps5
        go_wp2_with (first | (go_at_call 12; refine (HK.out _ HO7.out).mono ?_; rintro e wk ⟨rfl, ho⟩; have HOK := jJ0 (HO7.out.trans ho (fun _ _ e => e)); clear ho) | (go_at_call 27; refine (HFQ2.out _ HO6.out _ _ ((Rd.of_own HOwn.out).old O16.out)).mono ?_; rintro e w7 ⟨A7, c7, rfl, hx, hn7, ho⟩; have HO7 := jJ0 (HO6.out.trans ho (fun _ _ e => e)); clear ho hx hn7) | (go_at_call 26; refine (HPA.out _ HO5.out _ _ (Rd.of_own HOw5.out)).mono ?_; rintro e w6 ⟨nm2, ta2, aA2, an2, ac2, gA2, gn2, gc2, mA2, mn2, mc2, pA2, pn2, pc2, nA2, nn2, nc2, oA2, on2, oc2, rfl, ho⟩; have HO6 := jJ0 ((HO5.out.trans ho (fun _ _ e => e)).alloc (.cells #[.string nm2, .int .i64 ta2, .slice aA2 an2 ac2, .slice gA2 gn2 gc2, .slice mA2 mn2 mc2, .slice pA2 pn2 pc2, .slice nA2 nn2 nc2, .slice oA2 on2 oc2] 29)); have O16 := jJ0 ((O15.out.trans ho (fun _ _ e => e)).alloc (.cells #[.string nm2, .int .i64 ta2, .slice aA2 an2 ac2, .slice gA2 gn2 gc2, .slice mA2 mn2 mc2, .slice pA2 pn2 pc2, .slice nA2 nn2 nc2, .slice oA2 on2 oc2] 29)); clear ho) | (at_builtin; refine jF _ rfl (.tmp 106) (.tmp 107) 33 rfl wa.heap.size 5 i0 (.int .u8 0) 1 1 Tryz.underlying33 hi hz0 hz1 hz2 rfl (by decide) (.slice A4 k c4) k (P.map bv) rfl HOw4.out A3 E.length c3 (E.map bv) rfl HX4.out HoneE.out M63.out M47.out O14.out.size ?_; intro A5 c5 w5 hown hgrow hat; rw [jA] at hgrow; rw [HPE.out] at hown; have HOw5 := jJ0 hown; have HO5 := jJ0 (Kp.grown HO4.out hgrow (fun b e hb => by have := (vE HOw4.out e).1; have := HO1.out.size; omega) : Old w w5); have O15 := jJ0 (Kp.grown O14.out hgrow (fun b e hb => by have := (vE HOw4.out e).1; omega) : Old wa w5); clear hown hgrow hat) | (at_builtin; refine jF _ rfl (.const (.slice none 0 0)) (.tmp 105) 33 rfl wa.heap.size 5 i0 (.int .u8 0) 1 1 Tryz.underlying33 hi hz0 hz1 hz2 rfl (by decide) (.slice none 0 0) 0 [] rfl (World.ownsRow_nil _ _ _ _) Ab k cb (P.map bv) rfl (HTk.out _ _ ((Rd.of_own HOwn.out).old O13.out)) HoneP.out K63.out K47.out O13.out.size ?_; intro A4 c4 w4 hown hgrow hat; rw [Nat.zero_add, List.nil_append] at hown; rw [Nat.zero_add]; have HOw4 := jJ0 hown; have o34 : Old w3 w4 := Kp.grown (Kp.refl _ _) hgrow (fun _ e _ => by cases e); have HO4 := jJ0 (HO3.out.trans o34 (fun _ _ e => e)); have O14 := jJ0 (O13.out.trans o34 (fun _ _ e => e)); have HX4 := jJ0 (HX3.out.old o34); clear hown hgrow hat o34) | (go_at_call 27; refine (HFP.out _ HO2.out _ _ ((Rd.of_own HOwn.out).old O12.out)).mono ?_; rintro e w3 ⟨A3, c3, rfl, hx, hn3, ho⟩; have HO3 := jJ0 (HO2.out.trans ho (fun _ _ e => e)); have O13 := jJ0 (O12.out.trans ho (fun _ _ e => e)); have HX3 := jJ0 hx; clear ho hx hn3) | (go_at_call 26; refine (HP.out _ HO1.out _ _ (Rd.of_own HOwn.out)).mono ?_; rintro e w2 ⟨nm, ta, aA, an, ac, gA, gn, gc, mA, mn, mc, pA, pn, pc, nA, nn, nc, oA, on, oc, rfl, ho⟩; have HO2 := jJ0 ((HO1.out.trans ho (fun _ _ e => e)).alloc (.cells #[.string nm, .int .i64 ta, .slice aA an ac, .slice gA gn gc, .slice mA mn mc, .slice pA pn pc, .slice nA nn nc, .slice oA on oc] 29)); have O12 := jJ0 (ho.alloc (.cells #[.string nm, .int .i64 ta, .slice aA an ac, .slice gA gn gc, .slice mA mn mc, .slice pA pn pc, .slice nA nn nc, .slice oA on oc] 29) : Old wa _); clear ho) | (at_builtin; refine jF _ rfl (.const (.slice none 0 0)) (.tmp 17) 33 rfl w.heap.size 5 i0 (.int .u8 0) 1 1 Tryz.underlying33 hi hz0 hz1 hz2 rfl (by decide) (.slice none 0 0) 0 [] rfl (World.ownsRow_nil _ _ _ _) B l.length d (l.map bv) rfl Hr.out Hone.out J63.out J47.out (Nat.le_refl _) ?_; intro Ab cb wa hown hgrow hat; rw [Nat.zero_add, List.nil_append] at hown; rw [Nat.zero_add]; have HOwn := jJ0 hown; have HO1 := jJ0 (Kp.grown (Kp.refl _ _) hgrow (fun _ e _ => by cases e) : Old w wa); have hcap := own_cap hown; have hsl1 := fun W => cut_h (P := Tryz.prog) Tryz.elemB Tryz.sizeEB Ab l.length cb k .i64 (k : Int) rfl (Nat.le_trans HKL.out hcap) W; have hsl2 := fun W => HS2.out Ab cb (Nat.le_trans HK1.out hcap) W; have HCap := jJ0 hcap; clear hown hgrow hat hcap) | fail)
        go_ret
        exact ⟨rfl, HOK.out⟩
  · have b4 : ((k : Int) == (l.length : Int)) = true := beq_iff_eq.2 (by have := HKL.out; omega)
    have hz : ((E.length : Int) == 0) = false := HE0.out.elim (fun h => absurd h.2 hkl) id
    clear HFQ HQ hkl
    rcases HD.out with hd | ⟨hd, hb⟩
    · subst hd
      go_enter Tryz.func5, Tryz.ntmps5
      go_wp2_with (first | (go_at_call 12; refine (HK.out _ HO6.out).mono ?_; rintro e wk ⟨rfl, ho⟩; have HOK := jJ0 (HO6.out.trans ho (fun _ _ e => e)); clear ho) | (go_at_call 26; refine (HPA.out _ HO5.out _ _ (Rd.of_own HOw5.out)).mono ?_; rintro e w6 ⟨nm2, ta2, aA2, an2, ac2, gA2, gn2, gc2, mA2, mn2, mc2, pA2, pn2, pc2, nA2, nn2, nc2, oA2, on2, oc2, rfl, ho⟩; have HO6 := jJ0 ((HO5.out.trans ho (fun _ _ e => e)).alloc (.cells #[.string nm2, .int .i64 ta2, .slice aA2 an2 ac2, .slice gA2 gn2 gc2, .slice mA2 mn2 mc2, .slice pA2 pn2 pc2, .slice nA2 nn2 nc2, .slice oA2 on2 oc2] 29)); have O16 := jJ0 ((O15.out.trans ho (fun _ _ e => e)).alloc (.cells #[.string nm2, .int .i64 ta2, .slice aA2 an2 ac2, .slice gA2 gn2 gc2, .slice mA2 mn2 mc2, .slice pA2 pn2 pc2, .slice nA2 nn2 nc2, .slice oA2 on2 oc2] 29)); clear ho) | (at_builtin; refine jF _ rfl (.tmp 106) (.tmp 107) 33 rfl wa.heap.size 5 i0 (.int .u8 0) 1 1 Tryz.underlying33 hi hz0 hz1 hz2 rfl (by decide) (.slice A4 k c4) k (P.map bv) rfl HOw4.out A3 E.length c3 (E.map bv) rfl HX4.out HoneE.out M63.out M47.out O14.out.size ?_; intro A5 c5 w5 hown hgrow hat; rw [jA] at hgrow; rw [HPE.out] at hown; have HOw5 := jJ0 hown; have HO5 := jJ0 (Kp.grown HO4.out hgrow (fun b e hb => by have := (vE HOw4.out e).1; have := HO1.out.size; omega) : Old w w5); have O15 := jJ0 (Kp.grown O14.out hgrow (fun b e hb => by have := (vE HOw4.out e).1; omega) : Old wa w5); clear hown hgrow hat) | (at_builtin; refine jF _ rfl (.const (.slice none 0 0)) (.tmp 105) 33 rfl wa.heap.size 5 i0 (.int .u8 0) 1 1 Tryz.underlying33 hi hz0 hz1 hz2 rfl (by decide) (.slice none 0 0) 0 [] rfl (World.ownsRow_nil _ _ _ _) Ab k cb (P.map bv) rfl (HTk.out _ _ ((Rd.of_own HOwn.out).old O13.out)) HoneP.out K63.out K47.out O13.out.size ?_; intro A4 c4 w4 hown hgrow hat; rw [Nat.zero_add, List.nil_append] at hown; rw [Nat.zero_add]; have HOw4 := jJ0 hown; have o34 : Old w3 w4 := Kp.grown (Kp.refl _ _) hgrow (fun _ e _ => by cases e); have HO4 := jJ0 (HO3.out.trans o34 (fun _ _ e => e)); have O14 := jJ0 (O13.out.trans o34 (fun _ _ e => e)); have HX4 := jJ0 (HX3.out.old o34); clear hown hgrow hat o34) | (go_at_call 27; refine (HFP.out _ HO2.out _ _ ((Rd.of_own HOwn.out).old O12.out)).mono ?_; rintro e w3 ⟨A3, c3, rfl, hx, hn3, ho⟩; have HO3 := jJ0 (HO2.out.trans ho (fun _ _ e => e)); have O13 := jJ0 (O12.out.trans ho (fun _ _ e => e)); have HX3 := jJ0 hx; clear ho hx hn3) | (go_at_call 26; refine (HP.out _ HO1.out _ _ (Rd.of_own HOwn.out)).mono ?_; rintro e w2 ⟨nm, ta, aA, an, ac, gA, gn, gc, mA, mn, mc, pA, pn, pc, nA, nn, nc, oA, on, oc, rfl, ho⟩; have HO2 := jJ0 ((HO1.out.trans ho (fun _ _ e => e)).alloc (.cells #[.string nm, .int .i64 ta, .slice aA an ac, .slice gA gn gc, .slice mA mn mc, .slice pA pn pc, .slice nA nn nc, .slice oA on oc] 29)); have O12 := jJ0 (ho.alloc (.cells #[.string nm, .int .i64 ta, .slice aA an ac, .slice gA gn gc, .slice mA mn mc, .slice pA pn pc, .slice nA nn nc, .slice oA on oc] 29) : Old wa _); clear ho) | (at_builtin; refine jF _ rfl (.const (.slice none 0 0)) (.tmp 17) 33 rfl w.heap.size 5 i0 (.int .u8 0) 1 1 Tryz.underlying33 hi hz0 hz1 hz2 rfl (by decide) (.slice none 0 0) 0 [] rfl (World.ownsRow_nil _ _ _ _) B l.length d (l.map bv) rfl Hr.out Hone.out J63.out J47.out (Nat.le_refl _) ?_; intro Ab cb wa hown hgrow hat; rw [Nat.zero_add, List.nil_append] at hown; rw [Nat.zero_add]; have HOwn := jJ0 hown; have HO1 := jJ0 (Kp.grown (Kp.refl _ _) hgrow (fun _ e _ => by cases e) : Old w wa); have hcap := own_cap hown; have hsl1 := fun W => cut_h (P := Tryz.prog) Tryz.elemB Tryz.sizeEB Ab l.length cb k .i64 (k : Int) rfl (Nat.le_trans HKL.out hcap) W; have HCap := jJ0 hcap; clear hown hgrow hat hcap) | fail)
      go_ret
      exact ⟨rfl, HOK.out⟩
    · subst hd
      have b5 : ¬ (k : Int) + (E.length : Int) <= 60000 := by omega
      go_enter Tryz.func5, Tryz.ntmps5
      go_wp2_with (first | (go_at_call 12; refine (HK.out _ HO6.out).mono ?_; rintro e wk ⟨rfl, ho⟩; have HOK := jJ0 (HO6.out.trans ho (fun _ _ e => e)); clear ho) | (go_at_call 26; refine (HPA.out _ HO5.out _ _ (Rd.of_own HOw5.out)).mono ?_; rintro e w6 ⟨nm2, ta2, aA2, an2, ac2, gA2, gn2, gc2, mA2, mn2, mc2, pA2, pn2, pc2, nA2, nn2, nc2, oA2, on2, oc2, rfl, ho⟩; have HO6 := jJ0 ((HO5.out.trans ho (fun _ _ e => e)).alloc (.cells #[.string nm2, .int .i64 ta2, .slice aA2 an2 ac2, .slice gA2 gn2 gc2, .slice mA2 mn2 mc2, .slice pA2 pn2 pc2, .slice nA2 nn2 nc2, .slice oA2 on2 oc2] 29)); have O16 := jJ0 ((O15.out.trans ho (fun _ _ e => e)).alloc (.cells #[.string nm2, .int .i64 ta2, .slice aA2 an2 ac2, .slice gA2 gn2 gc2, .slice mA2 mn2 mc2, .slice pA2 pn2 pc2, .slice nA2 nn2 nc2, .slice oA2 on2 oc2] 29)); clear ho) | (at_builtin; refine jF _ rfl (.tmp 106) (.tmp 107) 33 rfl wa.heap.size 5 i0 (.int .u8 0) 1 1 Tryz.underlying33 hi hz0 hz1 hz2 rfl (by decide) (.slice A4 k c4) k (P.map bv) rfl HOw4.out A3 E.length c3 (E.map bv) rfl HX4.out HoneE.out M63.out M47.out O14.out.size ?_; intro A5 c5 w5 hown hgrow hat; rw [jA] at hgrow; rw [HPE.out] at hown; have HOw5 := jJ0 hown; have HO5 := jJ0 (Kp.grown HO4.out hgrow (fun b e hb => by have := (vE HOw4.out e).1; have := HO1.out.size; omega) : Old w w5); have O15 := jJ0 (Kp.grown O14.out hgrow (fun b e hb => by have := (vE HOw4.out e).1; omega) : Old wa w5); clear hown hgrow hat) | (at_builtin; refine jF _ rfl (.const (.slice none 0 0)) (.tmp 105) 33 rfl wa.heap.size 5 i0 (.int .u8 0) 1 1 Tryz.underlying33 hi hz0 hz1 hz2 rfl (by decide) (.slice none 0 0) 0 [] rfl (World.ownsRow_nil _ _ _ _) Ab k cb (P.map bv) rfl (HTk.out _ _ ((Rd.of_own HOwn.out).old O13.out)) HoneP.out K63.out K47.out O13.out.size ?_; intro A4 c4 w4 hown hgrow hat; rw [Nat.zero_add, List.nil_append] at hown; rw [Nat.zero_add]; have HOw4 := jJ0 hown; have o34 : Old w3 w4 := Kp.grown (Kp.refl _ _) hgrow (fun _ e _ => by cases e); have HO4 := jJ0 (HO3.out.trans o34 (fun _ _ e => e)); have O14 := jJ0 (O13.out.trans o34 (fun _ _ e => e)); have HX4 := jJ0 (HX3.out.old o34); clear hown hgrow hat o34) | (go_at_call 27; refine (HFP.out _ HO2.out _ _ ((Rd.of_own HOwn.out).old O12.out)).mono ?_; rintro e w3 ⟨A3, c3, rfl, hx, hn3, ho⟩; have HO3 := jJ0 (HO2.out.trans ho (fun _ _ e => e)); have O13 := jJ0 (O12.out.trans ho (fun _ _ e => e)); have HX3 := jJ0 hx; clear ho hx hn3) | (go_at_call 26; refine (HP.out _ HO1.out _ _ (Rd.of_own HOwn.out)).mono ?_; rintro e w2 ⟨nm, ta, aA, an, ac, gA, gn, gc, mA, mn, mc, pA, pn, pc, nA, nn, nc, oA, on, oc, rfl, ho⟩; have HO2 := jJ0 ((HO1.out.trans ho (fun _ _ e => e)).alloc (.cells #[.string nm, .int .i64 ta, .slice aA an ac, .slice gA gn gc, .slice mA mn mc, .slice pA pn pc, .slice nA nn nc, .slice oA on oc] 29)); have O12 := jJ0 (ho.alloc (.cells #[.string nm, .int .i64 ta, .slice aA an ac, .slice gA gn gc, .slice mA mn mc, .slice pA pn pc, .slice nA nn nc, .slice oA on oc] 29) : Old wa _); clear ho) | (at_builtin; refine jF _ rfl (.const (.slice none 0 0)) (.tmp 17) 33 rfl w.heap.size 5 i0 (.int .u8 0) 1 1 Tryz.underlying33 hi hz0 hz1 hz2 rfl (by decide) (.slice none 0 0) 0 [] rfl (World.ownsRow_nil _ _ _ _) B l.length d (l.map bv) rfl Hr.out Hone.out J63.out J47.out (Nat.le_refl _) ?_; intro Ab cb wa hown hgrow hat; rw [Nat.zero_add, List.nil_append] at hown; rw [Nat.zero_add]; have HOwn := jJ0 hown; have HO1 := jJ0 (Kp.grown (Kp.refl _ _) hgrow (fun _ e _ => by cases e) : Old w wa); have hcap := own_cap hown; have hsl1 := fun W => cut_h (P := Tryz.prog) Tryz.elemB Tryz.sizeEB Ab l.length cb k .i64 (k : Int) rfl (Nat.le_trans HKL.out hcap) W; have HCap := jJ0 hcap; clear hown hgrow hat hcap) | fail)
      go_ret
      exact ⟨rfl, HOK.out⟩
end
theorem first9_any (w : World) (hg : Sg w) (h8 : 8 <= w.heap.size) (B : Option Addr) (d : Nat) (l : List UInt8) (hr : Rd w 1 B l.length (l.map bv)) (hl : l.length <= 100000000) : Calls Tryz.prog 5 #[.slice B l.length d] w fun e w' => e = .returned (.bool true) /\ Old w w' := by
  by_cases hx : l.length <= 60000
  · by_cases h0 : parE l = 0
    · exact first_type w hg h8 B d l hr hl hx h0
    · exact first_bad w hg h8 B d l hr hl hx h0
  · exact first_long w hg h8 B d l hr hl hx
end Go.Proofs.YtmmjcbbogokmfaaGreatDoor
