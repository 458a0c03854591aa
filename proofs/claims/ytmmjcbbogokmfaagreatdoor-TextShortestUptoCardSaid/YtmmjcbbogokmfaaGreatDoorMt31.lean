import Derived.Test.YtmmjcbbogokmfaaGreatDoorMt01
import Derived.Test.YtmmjcbbogokmfaaGreatDoorMt30
set_option maxRecDepth 100000
set_option maxHeartbeats 25600000
namespace Go.Proofs.YtmmjcbbogokmfaaGreatDoor
open Go.RowKit
theorem nodeN_turnO {n : Nd} {at_ : Nat} {r r' : Rdr} {x : Int} (op : Int) (h : vX n at_ r = some (x, r')) : vX (kt op []) at_ r = some (x, { r' with tree := { r'.tree with nodes := r.tree.nodes ++ [kt op []] } }) /\ r'.tree.nodes = r.tree.nodes ++ [n] /\ x = (r.tree.nodes.length : Int) /\ r.tree.nodes.length < 1000000 := by
  unfold vX at h ⊢
  split at h
  case isFalse => cases h
  rename_i hlt
  injection h with h
  injection h with h1 h2
  rw [if_pos hlt]
  subst h1 h2
  exact ⟨rfl, rfl, rfl, hlt.1⟩
theorem un_has49 (src : ByteArray) (f : Nat) (w : World) (g : Nat) (r : Rdr) (s : Sl) (k : Int × List Int × Rdr) (h : St w g src r s) (ht : r.t = 49) (hk : exN (sb src) (f + 1) .unary r = some k) :
    Calls Tryz.prog 228 #[.pointer (some ⟨g, 0, none⟩)] w (Ex w g src s k.2.2 (iv k.1)) := by
  rw [exN, if_neg (by rw [ht]; decide), if_neg (by rw [ht]; decide), if_neg (by rw [ht]; decide), if_neg (by rw [ht]; decide), if_neg (by rw [ht]; decide)] at hk
  have hc2 := h.box.c2
  have HS := jJ0 h
  obtain ⟨r1, hn1, hk⟩ := Option.bind_eq_some_iff.1 hk
  obtain ⟨r2, hn2, hk⟩ := Option.bind_eq_some_iff.1 hk
  rw [if_pos (by rw [ht]; decide)] at hk
  obtain ⟨⟨nm, na, r3⟩, hm, hk⟩ := Option.bind_eq_some_iff.1 hk
  obtain ⟨r4, hn4, hk⟩ := Option.bind_eq_some_iff.1 hk
  obtain ⟨x, hx, hk⟩ := Option.map_eq_some_iff.1 hk
  subst hk
  obtain ⟨x, r'⟩ := x
  rw [ht] at hx
  obtain ⟨h1, h2, h3, h4⟩ := nodeN_turnO (vQ 49) hx
  have K1 := jJ0 (show jW (sb src) 19 r = some (false, r) by rw [jW, if_neg (by rw [ht]; decide)])
  have HT := jJ0 ht
  have N1 := jJ0 hn1
  have N2 := jJ0 hn2
  have NM := jJ0 hm
  have N4 := jJ0 hn4
  have HB := jJ0 h1
  have HN := jJ0 h2
  generalize hq : r4.tree.nodes.length = q at *
  subst h3
  clear h hn1 hn2 hm hn4 hx ht h1 h2
  have f1 : (0 : Int) <= (q : Int) := by omega
  have f2 : (q : Int).toNat = q := by omega
  have f3 : (q : Int) < (q : Int) + 1 := by omega
  unfold iv
  go_enter Tryz.func228, Tryz.ntmps228
  go_wp2_with (first | (go_at_call 167; refine (jP _ g src _ _ s 19 _ HS.out K1.out).mono ?_; rintro e w1 ⟨rfl, hX⟩; have H1 := jJ0 hX; have hc2 := hX.1.box.c2; have hc3 := hX.1.box.c3; rw [HT.out] at hc3; clear hX) | fail)
  go_quiet (fail)
  go_wp2_with (first | (go_at_call 135; first | (refine (jN _ g src _ _ s (H1.out.1.drewN _) N1.out).mono ?_; rintro e w2 ⟨rfl, hX⟩; have H2 := jJ0 hX; clear hX) | (refine (jN _ g src _ _ _ H2.out.1 N2.out).mono ?_; rintro e w3 ⟨rfl, hX⟩; have H3 := jJ0 hX; clear hX) | (refine (jN _ g src _ _ _ H4.out.1 N4.out).mono ?_; rintro e w5 ⟨rfl, hX⟩; have H5 := jJ0 hX; clear hX)) | (go_at_call 136; refine (vg _ g src _ _ _ _ _ H3.out.1 NM.out).mono ?_; rintro e w4 ⟨rfl, hX⟩; have H4 := jJ0 hX; clear hX; unfold iv) | (go_at_call 238; refine (call49 _).mono ?_; rintro e w5 ⟨rfl, rfl⟩; unfold iv) | (go_at_call 201; refine (kK _ g src _ _ s (vQ 49) _ _ none 0 [] H5.out.1 Rd.none_ (fun h0 => absurd h0 (Nat.lt_irrefl 0)) HB.out).mono ?_; rintro e w6 ⟨rfl, s6, hY, hYf⟩; obtain ⟨kk, ns, xx, ps, hxn, hns, hLN, hc11⟩ := hY.lastC rfl hq; have d1 := (hLN.cell 1 rfl).1; have z1 := (hLN.cell 1 rfl).2; have HLN := jJ0 hLN; have HF := jJ0 hYf; clear hLN hY hYf; unfold iv) | fail)
  go_ret
  have HD := jJ0 ((HLN.out.set_ 1 (.string nm)).lit hns HN.out rfl rfl xx.vA xx.vc (by simp only [ndC, hxn]; rfl))
  exact ⟨rfl, s6, HD.out.1, ((((((H1.out.2.trans (Fr.of_old s ((Kp.refl _ _).drewN _))).trans H2.out.2).trans H3.out.2).trans H4.out.2).trans H5.out.2).trans HF.out).trans HD.out.2⟩
theorem un_has52 (src : ByteArray) (f : Nat) (w : World) (g : Nat) (r : Rdr) (s : Sl) (k : Int × List Int × Rdr) (h : St w g src r s) (ht : r.t = 52) (hk : exN (sb src) (f + 1) .unary r = some k) :
    Calls Tryz.prog 228 #[.pointer (some ⟨g, 0, none⟩)] w (Ex w g src s k.2.2 (iv k.1)) := by
  rw [exN, if_neg (by rw [ht]; decide), if_neg (by rw [ht]; decide), if_neg (by rw [ht]; decide), if_neg (by rw [ht]; decide), if_neg (by rw [ht]; decide)] at hk
  have hc2 := h.box.c2
  have HS := jJ0 h
  obtain ⟨r1, hn1, hk⟩ := Option.bind_eq_some_iff.1 hk
  obtain ⟨r2, hn2, hk⟩ := Option.bind_eq_some_iff.1 hk
  rw [if_pos (by rw [ht]; decide)] at hk
  obtain ⟨⟨nm, na, r3⟩, hm, hk⟩ := Option.bind_eq_some_iff.1 hk
  obtain ⟨r4, hn4, hk⟩ := Option.bind_eq_some_iff.1 hk
  obtain ⟨x, hx, hk⟩ := Option.map_eq_some_iff.1 hk
  subst hk
  obtain ⟨x, r'⟩ := x
  rw [ht] at hx
  obtain ⟨h1, h2, h3, h4⟩ := nodeN_turnO (vQ 52) hx
  have K1 := jJ0 (show jW (sb src) 19 r = some (false, r) by rw [jW, if_neg (by rw [ht]; decide)])
  have HT := jJ0 ht
  have N1 := jJ0 hn1
  have N2 := jJ0 hn2
  have NM := jJ0 hm
  have N4 := jJ0 hn4
  have HB := jJ0 h1
  have HN := jJ0 h2
  generalize hq : r4.tree.nodes.length = q at *
  subst h3
  clear h hn1 hn2 hm hn4 hx ht h1 h2
  have f1 : (0 : Int) <= (q : Int) := by omega
  have f2 : (q : Int).toNat = q := by omega
  have f3 : (q : Int) < (q : Int) + 1 := by omega
  unfold iv
  go_enter Tryz.func228, Tryz.ntmps228
  go_wp2_with (first | (go_at_call 167; refine (jP _ g src _ _ s 19 _ HS.out K1.out).mono ?_; rintro e w1 ⟨rfl, hX⟩; have H1 := jJ0 hX; have hc2 := hX.1.box.c2; have hc3 := hX.1.box.c3; rw [HT.out] at hc3; clear hX) | fail)
  go_quiet (fail)
  go_wp2_with (first | (go_at_call 135; first | (refine (jN _ g src _ _ s (H1.out.1.drewN _) N1.out).mono ?_; rintro e w2 ⟨rfl, hX⟩; have H2 := jJ0 hX; clear hX) | (refine (jN _ g src _ _ _ H2.out.1 N2.out).mono ?_; rintro e w3 ⟨rfl, hX⟩; have H3 := jJ0 hX; clear hX) | (refine (jN _ g src _ _ _ H4.out.1 N4.out).mono ?_; rintro e w5 ⟨rfl, hX⟩; have H5 := jJ0 hX; clear hX)) | (go_at_call 136; refine (vg _ g src _ _ _ _ _ H3.out.1 NM.out).mono ?_; rintro e w4 ⟨rfl, hX⟩; have H4 := jJ0 hX; clear hX; unfold iv) | (go_at_call 238; refine (call52 _).mono ?_; rintro e w5 ⟨rfl, rfl⟩; unfold iv) | (go_at_call 201; refine (kK _ g src _ _ s (vQ 52) _ _ none 0 [] H5.out.1 Rd.none_ (fun h0 => absurd h0 (Nat.lt_irrefl 0)) HB.out).mono ?_; rintro e w6 ⟨rfl, s6, hY, hYf⟩; obtain ⟨kk, ns, xx, ps, hxn, hns, hLN, hc11⟩ := hY.lastC rfl hq; have d1 := (hLN.cell 1 rfl).1; have z1 := (hLN.cell 1 rfl).2; have HLN := jJ0 hLN; have HF := jJ0 hYf; clear hLN hY hYf; unfold iv) | fail)
  go_ret
  have HD := jJ0 ((HLN.out.set_ 1 (.string nm)).lit hns HN.out rfl rfl xx.vA xx.vc (by simp only [ndC, hxn]; rfl))
  exact ⟨rfl, s6, HD.out.1, ((((((H1.out.2.trans (Fr.of_old s ((Kp.refl _ _).drewN _))).trans H2.out.2).trans H3.out.2).trans H4.out.2).trans H5.out.2).trans HF.out).trans HD.out.2⟩
theorem un_has31 (src : ByteArray) (f : Nat) (w : World) (g : Nat) (r : Rdr) (s : Sl) (k : Int × List Int × Rdr) (h : St w g src r s) (ht : r.t = 31) (hk : exN (sb src) (f + 1) .unary r = some k) :
    Calls Tryz.prog 228 #[.pointer (some ⟨g, 0, none⟩)] w (Ex w g src s k.2.2 (iv k.1)) := by
  rw [exN, if_neg (by rw [ht]; decide), if_neg (by rw [ht]; decide), if_neg (by rw [ht]; decide), if_neg (by rw [ht]; decide), if_neg (by rw [ht]; decide)] at hk
  have hc2 := h.box.c2
  have HS := jJ0 h
  obtain ⟨r1, hn1, hk⟩ := Option.bind_eq_some_iff.1 hk
  obtain ⟨r2, hn2, hk⟩ := Option.bind_eq_some_iff.1 hk
  rw [if_pos (by rw [ht]; decide)] at hk
  obtain ⟨⟨nm, na, r3⟩, hm, hk⟩ := Option.bind_eq_some_iff.1 hk
  obtain ⟨r4, hn4, hk⟩ := Option.bind_eq_some_iff.1 hk
  obtain ⟨x, hx, hk⟩ := Option.map_eq_some_iff.1 hk
  subst hk
  obtain ⟨x, r'⟩ := x
  rw [ht] at hx
  obtain ⟨h1, h2, h3, h4⟩ := nodeN_turnO (vQ 31) hx
  have K1 := jJ0 (show jW (sb src) 19 r = some (false, r) by rw [jW, if_neg (by rw [ht]; decide)])
  have HT := jJ0 ht
  have N1 := jJ0 hn1
  have N2 := jJ0 hn2
  have NM := jJ0 hm
  have N4 := jJ0 hn4
  have HB := jJ0 h1
  have HN := jJ0 h2
  generalize hq : r4.tree.nodes.length = q at *
  subst h3
  clear h hn1 hn2 hm hn4 hx ht h1 h2
  have f1 : (0 : Int) <= (q : Int) := by omega
  have f2 : (q : Int).toNat = q := by omega
  have f3 : (q : Int) < (q : Int) + 1 := by omega
  unfold iv
  go_enter Tryz.func228, Tryz.ntmps228
  go_wp2_with (first | (go_at_call 167; refine (jP _ g src _ _ s 19 _ HS.out K1.out).mono ?_; rintro e w1 ⟨rfl, hX⟩; have H1 := jJ0 hX; have hc2 := hX.1.box.c2; have hc3 := hX.1.box.c3; rw [HT.out] at hc3; clear hX) | fail)
  go_quiet (fail)
  go_wp2_with (first | (go_at_call 135; first | (refine (jN _ g src _ _ s (H1.out.1.drewN _) N1.out).mono ?_; rintro e w2 ⟨rfl, hX⟩; have H2 := jJ0 hX; clear hX) | (refine (jN _ g src _ _ _ H2.out.1 N2.out).mono ?_; rintro e w3 ⟨rfl, hX⟩; have H3 := jJ0 hX; clear hX) | (refine (jN _ g src _ _ _ H4.out.1 N4.out).mono ?_; rintro e w5 ⟨rfl, hX⟩; have H5 := jJ0 hX; clear hX)) | (go_at_call 136; refine (vg _ g src _ _ _ _ _ H3.out.1 NM.out).mono ?_; rintro e w4 ⟨rfl, hX⟩; have H4 := jJ0 hX; clear hX; unfold iv) | (go_at_call 238; refine (call31 _).mono ?_; rintro e w5 ⟨rfl, rfl⟩; unfold iv) | (go_at_call 201; refine (kK _ g src _ _ s (vQ 31) _ _ none 0 [] H5.out.1 Rd.none_ (fun h0 => absurd h0 (Nat.lt_irrefl 0)) HB.out).mono ?_; rintro e w6 ⟨rfl, s6, hY, hYf⟩; obtain ⟨kk, ns, xx, ps, hxn, hns, hLN, hc11⟩ := hY.lastC rfl hq; have d1 := (hLN.cell 1 rfl).1; have z1 := (hLN.cell 1 rfl).2; have HLN := jJ0 hLN; have HF := jJ0 hYf; clear hLN hY hYf; unfold iv) | fail)
  go_ret
  have HD := jJ0 ((HLN.out.set_ 1 (.string nm)).lit hns HN.out rfl rfl xx.vA xx.vc (by simp only [ndC, hxn]; rfl))
  exact ⟨rfl, s6, HD.out.1, ((((((H1.out.2.trans (Fr.of_old s ((Kp.refl _ _).drewN _))).trans H2.out.2).trans H3.out.2).trans H4.out.2).trans H5.out.2).trans HF.out).trans HD.out.2⟩
theorem un_call50 (src : ByteArray) (f : Nat) (IH : ExAll src f) (w : World) (g : Nat) (r : Rdr) (s : Sl) (k : Int × List Int × Rdr) (h : St w g src r s) (ht : r.t = 50) (hk : exN (sb src) (f + 1) .unary r = some k) :
    Calls Tryz.prog 228 #[.pointer (some ⟨g, 0, none⟩)] w (Ex w g src s k.2.2 (iv k.1)) := by
  rw [exN, if_neg (by rw [ht]; decide), if_neg (by rw [ht]; decide), if_neg (by rw [ht]; decide), if_neg (by rw [ht]; decide), if_neg (by rw [ht]; decide)] at hk
  have hc2 := h.box.c2
  have HS := jJ0 h
  have HI := jJ0 IH
  obtain ⟨r1, hn1, hk⟩ := Option.bind_eq_some_iff.1 hk
  obtain ⟨r2, hn2, hk⟩ := Option.bind_eq_some_iff.1 hk
  rw [if_neg (by rw [ht]; decide)] at hk
  obtain ⟨q, hq, hk⟩ := Option.bind_eq_some_iff.1 hk
  obtain ⟨x, hx, hk⟩ := Option.map_eq_some_iff.1 hk
  subst hk
  obtain ⟨x, r'⟩ := x
  rw [ht] at hx
  have K1 := jJ0 (show jW (sb src) 19 r = some (false, r) by rw [jW, if_neg (by rw [ht]; decide)])
  have HT := jJ0 ht
  have N1 := jJ0 hn1
  have N2 := jJ0 hn2
  have E1 := jJ0 hq
  have NX := jJ0 hx
  clear h IH hn1 hn2 hq hx ht
  unfold iv
  go_enter Tryz.func228, Tryz.ntmps228
  go_wp2_with (first | (go_at_call 167; refine (jP _ g src _ _ s 19 _ HS.out K1.out).mono ?_; rintro e w1 ⟨rfl, hX⟩; have H1 := jJ0 hX; have hc2 := hX.1.box.c2; have hc3 := hX.1.box.c3; rw [HT.out] at hc3; clear hX) | fail)
  go_quiet (fail)
  go_wp2_with (first | (go_at_call 135; first | (refine (jN _ g src _ _ s (H1.out.1.drewN _) N1.out).mono ?_; rintro e w2 ⟨rfl, hX⟩; have H2 := jJ0 hX; clear hX) | (refine (jN _ g src _ _ _ H2.out.1 N2.out).mono ?_; rintro e w3 ⟨rfl, hX⟩; have H3 := jJ0 hX; clear hX)) | (go_at_call 237; refine (HI.out.ls 7 _ g _ _ _ H3.out.1 E1.out).mono ?_; rintro e w4 ⟨A4, c4, s4, rfl, hX⟩; have H4 := jJ0 hX; clear hX) | (go_at_call 238; refine (call50 _).mono ?_; rintro e w5 ⟨rfl, rfl⟩; unfold iv) | (go_at_call 201; refine (kK _ g src _ _ _ (vQ 50) _ _ A4 c4 q.2.1 H4.out.2.2.1 H4.out.1 H4.out.2.1 NX.out).mono ?_; rintro e w6 ⟨rfl, s6, hX⟩; have H6 := jJ0 hX; clear hX; unfold iv) | fail)
  go_ret
  exact ⟨rfl, s6, H6.out.1, ((((H1.out.2.trans (Fr.of_old s ((Kp.refl _ _).drewN _))).trans H2.out.2).trans H3.out.2).trans H4.out.2.2.2).trans H6.out.2⟩
theorem un_call51 (src : ByteArray) (f : Nat) (IH : ExAll src f) (w : World) (g : Nat) (r : Rdr) (s : Sl) (k : Int × List Int × Rdr) (h : St w g src r s) (ht : r.t = 51) (hk : exN (sb src) (f + 1) .unary r = some k) :
    Calls Tryz.prog 228 #[.pointer (some ⟨g, 0, none⟩)] w (Ex w g src s k.2.2 (iv k.1)) := by
  rw [exN, if_neg (by rw [ht]; decide), if_neg (by rw [ht]; decide), if_neg (by rw [ht]; decide), if_neg (by rw [ht]; decide), if_neg (by rw [ht]; decide)] at hk
  have hc2 := h.box.c2
  have HS := jJ0 h
  have HI := jJ0 IH
  obtain ⟨r1, hn1, hk⟩ := Option.bind_eq_some_iff.1 hk
  obtain ⟨r2, hn2, hk⟩ := Option.bind_eq_some_iff.1 hk
  rw [if_neg (by rw [ht]; decide)] at hk
  obtain ⟨q, hq, hk⟩ := Option.bind_eq_some_iff.1 hk
  obtain ⟨x, hx, hk⟩ := Option.map_eq_some_iff.1 hk
  subst hk
  obtain ⟨x, r'⟩ := x
  rw [ht] at hx
  have K1 := jJ0 (show jW (sb src) 19 r = some (false, r) by rw [jW, if_neg (by rw [ht]; decide)])
  have HT := jJ0 ht
  have N1 := jJ0 hn1
  have N2 := jJ0 hn2
  have E1 := jJ0 hq
  have NX := jJ0 hx
  clear h IH hn1 hn2 hq hx ht
  unfold iv
  go_enter Tryz.func228, Tryz.ntmps228
  go_wp2_with (first | (go_at_call 167; refine (jP _ g src _ _ s 19 _ HS.out K1.out).mono ?_; rintro e w1 ⟨rfl, hX⟩; have H1 := jJ0 hX; have hc2 := hX.1.box.c2; have hc3 := hX.1.box.c3; rw [HT.out] at hc3; clear hX) | fail)
  go_quiet (fail)
  go_wp2_with (first | (go_at_call 135; first | (refine (jN _ g src _ _ s (H1.out.1.drewN _) N1.out).mono ?_; rintro e w2 ⟨rfl, hX⟩; have H2 := jJ0 hX; clear hX) | (refine (jN _ g src _ _ _ H2.out.1 N2.out).mono ?_; rintro e w3 ⟨rfl, hX⟩; have H3 := jJ0 hX; clear hX)) | (go_at_call 237; refine (HI.out.ls 7 _ g _ _ _ H3.out.1 E1.out).mono ?_; rintro e w4 ⟨A4, c4, s4, rfl, hX⟩; have H4 := jJ0 hX; clear hX) | (go_at_call 238; refine (call51 _).mono ?_; rintro e w5 ⟨rfl, rfl⟩; unfold iv) | (go_at_call 201; refine (kK _ g src _ _ _ (vQ 51) _ _ A4 c4 q.2.1 H4.out.2.2.1 H4.out.1 H4.out.2.1 NX.out).mono ?_; rintro e w6 ⟨rfl, s6, hX⟩; have H6 := jJ0 hX; clear hX; unfold iv) | fail)
  go_ret
  exact ⟨rfl, s6, H6.out.1, ((((H1.out.2.trans (Fr.of_old s ((Kp.refl _ _).drewN _))).trans H2.out.2).trans H3.out.2).trans H4.out.2.2.2).trans H6.out.2⟩
theorem un_call53 (src : ByteArray) (f : Nat) (IH : ExAll src f) (w : World) (g : Nat) (r : Rdr) (s : Sl) (k : Int × List Int × Rdr) (h : St w g src r s) (ht : r.t = 53) (hk : exN (sb src) (f + 1) .unary r = some k) :
    Calls Tryz.prog 228 #[.pointer (some ⟨g, 0, none⟩)] w (Ex w g src s k.2.2 (iv k.1)) := by
  rw [exN, if_neg (by rw [ht]; decide), if_neg (by rw [ht]; decide), if_neg (by rw [ht]; decide), if_neg (by rw [ht]; decide), if_neg (by rw [ht]; decide)] at hk
  have hc2 := h.box.c2
  have HS := jJ0 h
  have HI := jJ0 IH
  obtain ⟨r1, hn1, hk⟩ := Option.bind_eq_some_iff.1 hk
  obtain ⟨r2, hn2, hk⟩ := Option.bind_eq_some_iff.1 hk
  rw [if_neg (by rw [ht]; decide)] at hk
  obtain ⟨q, hq, hk⟩ := Option.bind_eq_some_iff.1 hk
  obtain ⟨x, hx, hk⟩ := Option.map_eq_some_iff.1 hk
  subst hk
  obtain ⟨x, r'⟩ := x
  rw [ht] at hx
  have K1 := jJ0 (show jW (sb src) 19 r = some (false, r) by rw [jW, if_neg (by rw [ht]; decide)])
  have HT := jJ0 ht
  have N1 := jJ0 hn1
  have N2 := jJ0 hn2
  have E1 := jJ0 hq
  have NX := jJ0 hx
  clear h IH hn1 hn2 hq hx ht
  unfold iv
  go_enter Tryz.func228, Tryz.ntmps228
  go_wp2_with (first | (go_at_call 167; refine (jP _ g src _ _ s 19 _ HS.out K1.out).mono ?_; rintro e w1 ⟨rfl, hX⟩; have H1 := jJ0 hX; have hc2 := hX.1.box.c2; have hc3 := hX.1.box.c3; rw [HT.out] at hc3; clear hX) | fail)
  go_quiet (fail)
  go_wp2_with (first | (go_at_call 135; first | (refine (jN _ g src _ _ s (H1.out.1.drewN _) N1.out).mono ?_; rintro e w2 ⟨rfl, hX⟩; have H2 := jJ0 hX; clear hX) | (refine (jN _ g src _ _ _ H2.out.1 N2.out).mono ?_; rintro e w3 ⟨rfl, hX⟩; have H3 := jJ0 hX; clear hX)) | (go_at_call 237; refine (HI.out.ls 7 _ g _ _ _ H3.out.1 E1.out).mono ?_; rintro e w4 ⟨A4, c4, s4, rfl, hX⟩; have H4 := jJ0 hX; clear hX) | (go_at_call 238; refine (call53 _).mono ?_; rintro e w5 ⟨rfl, rfl⟩; unfold iv) | (go_at_call 201; refine (kK _ g src _ _ _ (vQ 53) _ _ A4 c4 q.2.1 H4.out.2.2.1 H4.out.1 H4.out.2.1 NX.out).mono ?_; rintro e w6 ⟨rfl, s6, hX⟩; have H6 := jJ0 hX; clear hX; unfold iv) | fail)
  go_ret
  exact ⟨rfl, s6, H6.out.1, ((((H1.out.2.trans (Fr.of_old s ((Kp.refl _ _).drewN _))).trans H2.out.2).trans H3.out.2).trans H4.out.2.2.2).trans H6.out.2⟩
theorem un_call54 (src : ByteArray) (f : Nat) (IH : ExAll src f) (w : World) (g : Nat) (r : Rdr) (s : Sl) (k : Int × List Int × Rdr) (h : St w g src r s) (ht : r.t = 54) (hk : exN (sb src) (f + 1) .unary r = some k) :
    Calls Tryz.prog 228 #[.pointer (some ⟨g, 0, none⟩)] w (Ex w g src s k.2.2 (iv k.1)) := by
  rw [exN, if_neg (by rw [ht]; decide), if_neg (by rw [ht]; decide), if_neg (by rw [ht]; decide), if_neg (by rw [ht]; decide), if_neg (by rw [ht]; decide)] at hk
  have hc2 := h.box.c2
  have HS := jJ0 h
  have HI := jJ0 IH
  obtain ⟨r1, hn1, hk⟩ := Option.bind_eq_some_iff.1 hk
  obtain ⟨r2, hn2, hk⟩ := Option.bind_eq_some_iff.1 hk
  rw [if_neg (by rw [ht]; decide)] at hk
  obtain ⟨q, hq, hk⟩ := Option.bind_eq_some_iff.1 hk
  obtain ⟨x, hx, hk⟩ := Option.map_eq_some_iff.1 hk
  subst hk
  obtain ⟨x, r'⟩ := x
  rw [ht] at hx
  have K1 := jJ0 (show jW (sb src) 19 r = some (false, r) by rw [jW, if_neg (by rw [ht]; decide)])
  have HT := jJ0 ht
  have N1 := jJ0 hn1
  have N2 := jJ0 hn2
  have E1 := jJ0 hq
  have NX := jJ0 hx
  clear h IH hn1 hn2 hq hx ht
  unfold iv
  go_enter Tryz.func228, Tryz.ntmps228
  go_wp2_with (first | (go_at_call 167; refine (jP _ g src _ _ s 19 _ HS.out K1.out).mono ?_; rintro e w1 ⟨rfl, hX⟩; have H1 := jJ0 hX; have hc2 := hX.1.box.c2; have hc3 := hX.1.box.c3; rw [HT.out] at hc3; clear hX) | fail)
  go_quiet (fail)
  go_wp2_with (first | (go_at_call 135; first | (refine (jN _ g src _ _ s (H1.out.1.drewN _) N1.out).mono ?_; rintro e w2 ⟨rfl, hX⟩; have H2 := jJ0 hX; clear hX) | (refine (jN _ g src _ _ _ H2.out.1 N2.out).mono ?_; rintro e w3 ⟨rfl, hX⟩; have H3 := jJ0 hX; clear hX)) | (go_at_call 237; refine (HI.out.ls 7 _ g _ _ _ H3.out.1 E1.out).mono ?_; rintro e w4 ⟨A4, c4, s4, rfl, hX⟩; have H4 := jJ0 hX; clear hX) | (go_at_call 238; refine (call54 _).mono ?_; rintro e w5 ⟨rfl, rfl⟩; unfold iv) | (go_at_call 201; refine (kK _ g src _ _ _ (vQ 54) _ _ A4 c4 q.2.1 H4.out.2.2.1 H4.out.1 H4.out.2.1 NX.out).mono ?_; rintro e w6 ⟨rfl, s6, hX⟩; have H6 := jJ0 hX; clear hX; unfold iv) | fail)
  go_ret
  exact ⟨rfl, s6, H6.out.1, ((((H1.out.2.trans (Fr.of_old s ((Kp.refl _ _).drewN _))).trans H2.out.2).trans H3.out.2).trans H4.out.2.2.2).trans H6.out.2⟩
theorem un_call55 (src : ByteArray) (f : Nat) (IH : ExAll src f) (w : World) (g : Nat) (r : Rdr) (s : Sl) (k : Int × List Int × Rdr) (h : St w g src r s) (ht : r.t = 55) (hk : exN (sb src) (f + 1) .unary r = some k) :
    Calls Tryz.prog 228 #[.pointer (some ⟨g, 0, none⟩)] w (Ex w g src s k.2.2 (iv k.1)) := by
  rw [exN, if_neg (by rw [ht]; decide), if_neg (by rw [ht]; decide), if_neg (by rw [ht]; decide), if_neg (by rw [ht]; decide), if_neg (by rw [ht]; decide)] at hk
  have hc2 := h.box.c2
  have HS := jJ0 h
  have HI := jJ0 IH
  obtain ⟨r1, hn1, hk⟩ := Option.bind_eq_some_iff.1 hk
  obtain ⟨r2, hn2, hk⟩ := Option.bind_eq_some_iff.1 hk
  rw [if_neg (by rw [ht]; decide)] at hk
  obtain ⟨q, hq, hk⟩ := Option.bind_eq_some_iff.1 hk
  obtain ⟨x, hx, hk⟩ := Option.map_eq_some_iff.1 hk
  subst hk
  obtain ⟨x, r'⟩ := x
  rw [ht] at hx
  have K1 := jJ0 (show jW (sb src) 19 r = some (false, r) by rw [jW, if_neg (by rw [ht]; decide)])
  have HT := jJ0 ht
  have N1 := jJ0 hn1
  have N2 := jJ0 hn2
  have E1 := jJ0 hq
  have NX := jJ0 hx
  clear h IH hn1 hn2 hq hx ht
  unfold iv
  go_enter Tryz.func228, Tryz.ntmps228
  go_wp2_with (first | (go_at_call 167; refine (jP _ g src _ _ s 19 _ HS.out K1.out).mono ?_; rintro e w1 ⟨rfl, hX⟩; have H1 := jJ0 hX; have hc2 := hX.1.box.c2; have hc3 := hX.1.box.c3; rw [HT.out] at hc3; clear hX) | fail)
  go_quiet (fail)
  go_wp2_with (first | (go_at_call 135; first | (refine (jN _ g src _ _ s (H1.out.1.drewN _) N1.out).mono ?_; rintro e w2 ⟨rfl, hX⟩; have H2 := jJ0 hX; clear hX) | (refine (jN _ g src _ _ _ H2.out.1 N2.out).mono ?_; rintro e w3 ⟨rfl, hX⟩; have H3 := jJ0 hX; clear hX)) | (go_at_call 237; refine (HI.out.ls 7 _ g _ _ _ H3.out.1 E1.out).mono ?_; rintro e w4 ⟨A4, c4, s4, rfl, hX⟩; have H4 := jJ0 hX; clear hX) | (go_at_call 238; refine (call55 _).mono ?_; rintro e w5 ⟨rfl, rfl⟩; unfold iv) | (go_at_call 201; refine (kK _ g src _ _ _ (vQ 55) _ _ A4 c4 q.2.1 H4.out.2.2.1 H4.out.1 H4.out.2.1 NX.out).mono ?_; rintro e w6 ⟨rfl, s6, hX⟩; have H6 := jJ0 hX; clear hX; unfold iv) | fail)
  go_ret
  exact ⟨rfl, s6, H6.out.1, ((((H1.out.2.trans (Fr.of_old s ((Kp.refl _ _).drewN _))).trans H2.out.2).trans H3.out.2).trans H4.out.2.2.2).trans H6.out.2⟩
theorem un_call56 (src : ByteArray) (f : Nat) (IH : ExAll src f) (w : World) (g : Nat) (r : Rdr) (s : Sl) (k : Int × List Int × Rdr) (h : St w g src r s) (ht : r.t = 56) (hk : exN (sb src) (f + 1) .unary r = some k) :
    Calls Tryz.prog 228 #[.pointer (some ⟨g, 0, none⟩)] w (Ex w g src s k.2.2 (iv k.1)) := by
  rw [exN, if_neg (by rw [ht]; decide), if_neg (by rw [ht]; decide), if_neg (by rw [ht]; decide), if_neg (by rw [ht]; decide), if_neg (by rw [ht]; decide)] at hk
  have hc2 := h.box.c2
  have HS := jJ0 h
  have HI := jJ0 IH
  obtain ⟨r1, hn1, hk⟩ := Option.bind_eq_some_iff.1 hk
  obtain ⟨r2, hn2, hk⟩ := Option.bind_eq_some_iff.1 hk
  rw [if_neg (by rw [ht]; decide)] at hk
  obtain ⟨q, hq, hk⟩ := Option.bind_eq_some_iff.1 hk
  obtain ⟨x, hx, hk⟩ := Option.map_eq_some_iff.1 hk
  subst hk
  obtain ⟨x, r'⟩ := x
  rw [ht] at hx
  have K1 := jJ0 (show jW (sb src) 19 r = some (false, r) by rw [jW, if_neg (by rw [ht]; decide)])
  have HT := jJ0 ht
  have N1 := jJ0 hn1
  have N2 := jJ0 hn2
  have E1 := jJ0 hq
  have NX := jJ0 hx
  clear h IH hn1 hn2 hq hx ht
  unfold iv
  go_enter Tryz.func228, Tryz.ntmps228
  go_wp2_with (first | (go_at_call 167; refine (jP _ g src _ _ s 19 _ HS.out K1.out).mono ?_; rintro e w1 ⟨rfl, hX⟩; have H1 := jJ0 hX; have hc2 := hX.1.box.c2; have hc3 := hX.1.box.c3; rw [HT.out] at hc3; clear hX) | fail)
  go_quiet (fail)
  go_wp2_with (first | (go_at_call 135; first | (refine (jN _ g src _ _ s (H1.out.1.drewN _) N1.out).mono ?_; rintro e w2 ⟨rfl, hX⟩; have H2 := jJ0 hX; clear hX) | (refine (jN _ g src _ _ _ H2.out.1 N2.out).mono ?_; rintro e w3 ⟨rfl, hX⟩; have H3 := jJ0 hX; clear hX)) | (go_at_call 237; refine (HI.out.ls 7 _ g _ _ _ H3.out.1 E1.out).mono ?_; rintro e w4 ⟨A4, c4, s4, rfl, hX⟩; have H4 := jJ0 hX; clear hX) | (go_at_call 238; refine (call56 _).mono ?_; rintro e w5 ⟨rfl, rfl⟩; unfold iv) | (go_at_call 201; refine (kK _ g src _ _ _ (vQ 56) _ _ A4 c4 q.2.1 H4.out.2.2.1 H4.out.1 H4.out.2.1 NX.out).mono ?_; rintro e w6 ⟨rfl, s6, hX⟩; have H6 := jJ0 hX; clear hX; unfold iv) | fail)
  go_ret
  exact ⟨rfl, s6, H6.out.1, ((((H1.out.2.trans (Fr.of_old s ((Kp.refl _ _).drewN _))).trans H2.out.2).trans H3.out.2).trans H4.out.2.2.2).trans H6.out.2⟩
theorem un_call57 (src : ByteArray) (f : Nat) (IH : ExAll src f) (w : World) (g : Nat) (r : Rdr) (s : Sl) (k : Int × List Int × Rdr) (h : St w g src r s) (ht : r.t = 57) (hk : exN (sb src) (f + 1) .unary r = some k) :
    Calls Tryz.prog 228 #[.pointer (some ⟨g, 0, none⟩)] w (Ex w g src s k.2.2 (iv k.1)) := by
  rw [exN, if_neg (by rw [ht]; decide), if_neg (by rw [ht]; decide), if_neg (by rw [ht]; decide), if_neg (by rw [ht]; decide), if_neg (by rw [ht]; decide)] at hk
  have hc2 := h.box.c2
  have HS := jJ0 h
  have HI := jJ0 IH
  obtain ⟨r1, hn1, hk⟩ := Option.bind_eq_some_iff.1 hk
  obtain ⟨r2, hn2, hk⟩ := Option.bind_eq_some_iff.1 hk
  rw [if_neg (by rw [ht]; decide)] at hk
  obtain ⟨q, hq, hk⟩ := Option.bind_eq_some_iff.1 hk
  obtain ⟨x, hx, hk⟩ := Option.map_eq_some_iff.1 hk
  subst hk
  obtain ⟨x, r'⟩ := x
  rw [ht] at hx
  have K1 := jJ0 (show jW (sb src) 19 r = some (false, r) by rw [jW, if_neg (by rw [ht]; decide)])
  have HT := jJ0 ht
  have N1 := jJ0 hn1
  have N2 := jJ0 hn2
  have E1 := jJ0 hq
  have NX := jJ0 hx
  clear h IH hn1 hn2 hq hx ht
  unfold iv
  go_enter Tryz.func228, Tryz.ntmps228
  go_wp2_with (first | (go_at_call 167; refine (jP _ g src _ _ s 19 _ HS.out K1.out).mono ?_; rintro e w1 ⟨rfl, hX⟩; have H1 := jJ0 hX; have hc2 := hX.1.box.c2; have hc3 := hX.1.box.c3; rw [HT.out] at hc3; clear hX) | fail)
  go_quiet (fail)
  go_wp2_with (first | (go_at_call 135; first | (refine (jN _ g src _ _ s (H1.out.1.drewN _) N1.out).mono ?_; rintro e w2 ⟨rfl, hX⟩; have H2 := jJ0 hX; clear hX) | (refine (jN _ g src _ _ _ H2.out.1 N2.out).mono ?_; rintro e w3 ⟨rfl, hX⟩; have H3 := jJ0 hX; clear hX)) | (go_at_call 237; refine (HI.out.ls 7 _ g _ _ _ H3.out.1 E1.out).mono ?_; rintro e w4 ⟨A4, c4, s4, rfl, hX⟩; have H4 := jJ0 hX; clear hX) | (go_at_call 238; refine (call57 _).mono ?_; rintro e w5 ⟨rfl, rfl⟩; unfold iv) | (go_at_call 201; refine (kK _ g src _ _ _ (vQ 57) _ _ A4 c4 q.2.1 H4.out.2.2.1 H4.out.1 H4.out.2.1 NX.out).mono ?_; rintro e w6 ⟨rfl, s6, hX⟩; have H6 := jJ0 hX; clear hX; unfold iv) | fail)
  go_ret
  exact ⟨rfl, s6, H6.out.1, ((((H1.out.2.trans (Fr.of_old s ((Kp.refl _ _).drewN _))).trans H2.out.2).trans H3.out.2).trans H4.out.2.2.2).trans H6.out.2⟩
theorem un_step (src : ByteArray) (f : Nat) (IH : ExAll src f) (w : World) (g : Nat) (r : Rdr) (s : Sl) (k : Int × List Int × Rdr) (h : St w g src r s) (hk : exN (sb src) (f + 1) .unary r = some k) :
    Calls Tryz.prog 228 #[.pointer (some ⟨g, 0, none⟩)] w (Ex w g src s k.2.2 (iv k.1)) := by
  by_cases h19 : r.t = 19
  · exact un_minus src f IH w g r s k h h19 hk
  by_cases hl : litT r.t = true
  · have ht := of_decide_eq_true hl
    rcases ht with e | e | e | e | e | e
    · exact un_lit2 src f w g r s k h e hk
    · exact un_lit46 src f w g r s k h e hk
    · exact un_lit47 src f w g r s k h e hk
    · exact un_lit3 src f w g r s k h e hk
    · exact un_lit48 src f w g r s k h e hk
    · exact un_lit1 src f w g r s k h e hk
  by_cases h6 : r.t = 6
  · exact un_left src f IH w g r s k h h6 hk
  by_cases h4 : r.t = 4
  · exact un_open src f IH w g r s k h h4 hk
  have hk2 := hk
  rw [exN, if_neg h19, if_neg hl, if_neg h6, if_neg h4] at hk2
  split at hk2
  · cases hk2
  rename_i hc
  have hc := Classical.not_not.1 hc
  have : r.t = 31 \/ r.t = 49 \/ r.t = 50 \/ r.t = 51 \/ r.t = 52 \/ r.t = 53 \/ r.t = 54 \/ r.t = 55 \/ r.t = 56 \/ r.t = 57 := by omega
  rcases this with e | e | e | e | e | e | e | e | e | e
  · exact un_has31 src f w g r s k h e hk
  · exact un_has49 src f w g r s k h e hk
  · exact un_call50 src f IH w g r s k h e hk
  · exact un_call51 src f IH w g r s k h e hk
  · exact un_has52 src f w g r s k h e hk
  · exact un_call53 src f IH w g r s k h e hk
  · exact un_call54 src f IH w g r s k h e hk
  · exact un_call55 src f IH w g r s k h e hk
  · exact un_call56 src f IH w g r s k h e hk
  · exact un_call57 src f IH w g r s k h e hk
end Go.Proofs.YtmmjcbbogokmfaaGreatDoor
