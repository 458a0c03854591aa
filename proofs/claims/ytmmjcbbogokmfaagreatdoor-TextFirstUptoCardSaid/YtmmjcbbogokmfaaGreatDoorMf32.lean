import Derived.Test.YtmmjcbbogokmfaaGreatDoorMf01
import Derived.Test.YtmmjcbbogokmfaaGreatDoorMf31
set_option maxRecDepth 100000
set_option maxHeartbeats 25600000
namespace Go.Proofs.YtmmjcbbogokmfaaGreatDoor
open Go.RowKit
theorem un_minus (src : ByteArray) (f : Nat) (IH : ExAll src f) (w : World) (g : Nat) (r : Rdr) (s : Sl) (k : Int × List Int × Rdr) (h : St w g src r s) (ht : r.t = 19) (hk : exN (sb src) (f + 1) .unary r = some k) :
    Calls Tryz.prog 228 #[.pointer (some ⟨g, 0, none⟩)] w (Ex w g src s k.2.2 (iv k.1)) := by
  rw [exN, if_pos ht] at hk
  have hc2 := h.box.c2
  have HS := jJ0 h
  have HI := jJ0 IH
  obtain ⟨r1, hn1, hk⟩ := Option.bind_eq_some_iff.1 hk
  obtain ⟨q, hq, hk⟩ := Option.bind_eq_some_iff.1 hk
  obtain ⟨x, hx, hk⟩ := Option.map_eq_some_iff.1 hk
  subst hk
  obtain ⟨x, r'⟩ := x
  have K1 := jJ0 (show jR (sb src) 19 r = some (true, r1) by rw [jR, if_pos ht, hn1]; rfl)
  have E1 := jJ0 hq
  have NX := jJ0 hx
  clear h IH hn1 hq hx ht
  unfold iv
  go_enter Tryz.func228, Tryz.ntmps228
  go_wp2_with (first | (go_at_call 167; refine (jM _ g src _ _ s 19 _ HS.out K1.out).mono ?_; rintro e w1 ⟨rfl, hX⟩; have H1 := jJ0 hX; clear hX) | (go_at_call 228; refine (HI.out.un _ g _ _ _ H1.out.1 E1.out).mono ?_; rintro e w2 ⟨rfl, s2, hX⟩; have H2 := jJ0 hX; clear hX; unfold iv) | (go_at_call 201; refine (node_kids _ g src _ _ _ 7 _ _ [q.1] H2.out.1 NX.out).mono ?_; rintro e w3 ⟨rfl, s3, hX⟩; have H3 := jJ0 hX; clear hX; unfold iv) | fail)
  go_ret
  exact ⟨rfl, s3, H3.out.1, (H1.out.2.trans H2.out.2).trans H3.out.2⟩
theorem un_lit2 (src : ByteArray) (f : Nat) (w : World) (g : Nat) (r : Rdr) (s : Sl) (k : Int × List Int × Rdr) (h : St w g src r s) (ht : r.t = 2) (hk : exN (sb src) (f + 1) .unary r = some k) :
    Calls Tryz.prog 228 #[.pointer (some ⟨g, 0, none⟩)] w (Ex w g src s k.2.2 (iv k.1)) := by
  have hlit : litT r.t = true := by rw [ht]; decide
  rw [exN, if_neg (by rw [ht]; decide), if_pos hlit] at hk
  have hc2 := h.box.c2
  have HS := jJ0 h
  obtain ⟨n, hnd, hk⟩ := Option.bind_eq_some_iff.1 hk
  obtain ⟨r1, hn1, hk⟩ := Option.bind_eq_some_iff.1 hk
  obtain ⟨x, hx, hk⟩ := Option.map_eq_some_iff.1 hk
  subst hk
  obtain ⟨x, r'⟩ := x
  have K1 := jJ0 (show jR (sb src) 19 r = some (false, r) by rw [jR, if_neg (by rw [ht]; decide)])
  have HT := jJ0 ht
  have HL := jJ0 (fun W s2 (hS : St W g src r s2) => vK W g src r r1 r' s2 n x r.from_ hS hlit hnd hn1 hx)
  clear h hn1 hnd hx ht hlit
  unfold iv at *
  go_enter Tryz.func228, Tryz.ntmps228
  go_wp2_with (first | (go_at_call 167; refine (jM _ g src _ _ s 19 _ HS.out K1.out).mono ?_; rintro e w1 ⟨rfl, hX⟩; have H1 := jJ0 hX; have hc2 := hX.1.box.c2; have hc3 := hX.1.box.c3; rw [HT.out] at hc3; clear hX) | fail)
  go_quiet (fail)
  go_wp2_with (first | (go_at_call 236; refine (HL.out _ _ (H1.out.1.drewN _)).mono ?_; rintro e w2 ⟨rfl, s2, hX⟩; have H2 := jJ0 hX; clear hX) | fail)
  go_ret
  exact ⟨rfl, s2, H2.out.1, (H1.out.2.trans (Fr.of_old s ((Kp.refl _ _).drewN _))).trans H2.out.2⟩
theorem un_lit46 (src : ByteArray) (f : Nat) (w : World) (g : Nat) (r : Rdr) (s : Sl) (k : Int × List Int × Rdr) (h : St w g src r s) (ht : r.t = 46) (hk : exN (sb src) (f + 1) .unary r = some k) :
    Calls Tryz.prog 228 #[.pointer (some ⟨g, 0, none⟩)] w (Ex w g src s k.2.2 (iv k.1)) := by
  have hlit : litT r.t = true := by rw [ht]; decide
  rw [exN, if_neg (by rw [ht]; decide), if_pos hlit] at hk
  have hc2 := h.box.c2
  have HS := jJ0 h
  obtain ⟨n, hnd, hk⟩ := Option.bind_eq_some_iff.1 hk
  obtain ⟨r1, hn1, hk⟩ := Option.bind_eq_some_iff.1 hk
  obtain ⟨x, hx, hk⟩ := Option.map_eq_some_iff.1 hk
  subst hk
  obtain ⟨x, r'⟩ := x
  have K1 := jJ0 (show jR (sb src) 19 r = some (false, r) by rw [jR, if_neg (by rw [ht]; decide)])
  have HT := jJ0 ht
  have HL := jJ0 (fun W s2 (hS : St W g src r s2) => vK W g src r r1 r' s2 n x r.from_ hS hlit hnd hn1 hx)
  clear h hn1 hnd hx ht hlit
  unfold iv at *
  go_enter Tryz.func228, Tryz.ntmps228
  go_wp2_with (first | (go_at_call 167; refine (jM _ g src _ _ s 19 _ HS.out K1.out).mono ?_; rintro e w1 ⟨rfl, hX⟩; have H1 := jJ0 hX; have hc2 := hX.1.box.c2; have hc3 := hX.1.box.c3; rw [HT.out] at hc3; clear hX) | fail)
  go_quiet (fail)
  go_wp2_with (first | (go_at_call 236; refine (HL.out _ _ (H1.out.1.drewN _)).mono ?_; rintro e w2 ⟨rfl, s2, hX⟩; have H2 := jJ0 hX; clear hX) | fail)
  go_ret
  exact ⟨rfl, s2, H2.out.1, (H1.out.2.trans (Fr.of_old s ((Kp.refl _ _).drewN _))).trans H2.out.2⟩
theorem un_lit47 (src : ByteArray) (f : Nat) (w : World) (g : Nat) (r : Rdr) (s : Sl) (k : Int × List Int × Rdr) (h : St w g src r s) (ht : r.t = 47) (hk : exN (sb src) (f + 1) .unary r = some k) :
    Calls Tryz.prog 228 #[.pointer (some ⟨g, 0, none⟩)] w (Ex w g src s k.2.2 (iv k.1)) := by
  have hlit : litT r.t = true := by rw [ht]; decide
  rw [exN, if_neg (by rw [ht]; decide), if_pos hlit] at hk
  have hc2 := h.box.c2
  have HS := jJ0 h
  obtain ⟨n, hnd, hk⟩ := Option.bind_eq_some_iff.1 hk
  obtain ⟨r1, hn1, hk⟩ := Option.bind_eq_some_iff.1 hk
  obtain ⟨x, hx, hk⟩ := Option.map_eq_some_iff.1 hk
  subst hk
  obtain ⟨x, r'⟩ := x
  have K1 := jJ0 (show jR (sb src) 19 r = some (false, r) by rw [jR, if_neg (by rw [ht]; decide)])
  have HT := jJ0 ht
  have HL := jJ0 (fun W s2 (hS : St W g src r s2) => vK W g src r r1 r' s2 n x r.from_ hS hlit hnd hn1 hx)
  clear h hn1 hnd hx ht hlit
  unfold iv at *
  go_enter Tryz.func228, Tryz.ntmps228
  go_wp2_with (first | (go_at_call 167; refine (jM _ g src _ _ s 19 _ HS.out K1.out).mono ?_; rintro e w1 ⟨rfl, hX⟩; have H1 := jJ0 hX; have hc2 := hX.1.box.c2; have hc3 := hX.1.box.c3; rw [HT.out] at hc3; clear hX) | fail)
  go_quiet (fail)
  go_wp2_with (first | (go_at_call 236; refine (HL.out _ _ (H1.out.1.drewN _)).mono ?_; rintro e w2 ⟨rfl, s2, hX⟩; have H2 := jJ0 hX; clear hX) | fail)
  go_ret
  exact ⟨rfl, s2, H2.out.1, (H1.out.2.trans (Fr.of_old s ((Kp.refl _ _).drewN _))).trans H2.out.2⟩
theorem un_lit3 (src : ByteArray) (f : Nat) (w : World) (g : Nat) (r : Rdr) (s : Sl) (k : Int × List Int × Rdr) (h : St w g src r s) (ht : r.t = 3) (hk : exN (sb src) (f + 1) .unary r = some k) :
    Calls Tryz.prog 228 #[.pointer (some ⟨g, 0, none⟩)] w (Ex w g src s k.2.2 (iv k.1)) := by
  have hlit : litT r.t = true := by rw [ht]; decide
  rw [exN, if_neg (by rw [ht]; decide), if_pos hlit] at hk
  have hc2 := h.box.c2
  have HS := jJ0 h
  obtain ⟨n, hnd, hk⟩ := Option.bind_eq_some_iff.1 hk
  obtain ⟨r1, hn1, hk⟩ := Option.bind_eq_some_iff.1 hk
  obtain ⟨x, hx, hk⟩ := Option.map_eq_some_iff.1 hk
  subst hk
  obtain ⟨x, r'⟩ := x
  have K1 := jJ0 (show jR (sb src) 19 r = some (false, r) by rw [jR, if_neg (by rw [ht]; decide)])
  have HT := jJ0 ht
  have HL := jJ0 (fun W s2 (hS : St W g src r s2) => vK W g src r r1 r' s2 n x r.from_ hS hlit hnd hn1 hx)
  clear h hn1 hnd hx ht hlit
  unfold iv at *
  go_enter Tryz.func228, Tryz.ntmps228
  go_wp2_with (first | (go_at_call 167; refine (jM _ g src _ _ s 19 _ HS.out K1.out).mono ?_; rintro e w1 ⟨rfl, hX⟩; have H1 := jJ0 hX; have hc2 := hX.1.box.c2; have hc3 := hX.1.box.c3; rw [HT.out] at hc3; clear hX) | fail)
  go_quiet (fail)
  go_wp2_with (first | (go_at_call 236; refine (HL.out _ _ (H1.out.1.drewN _)).mono ?_; rintro e w2 ⟨rfl, s2, hX⟩; have H2 := jJ0 hX; clear hX) | fail)
  go_ret
  exact ⟨rfl, s2, H2.out.1, (H1.out.2.trans (Fr.of_old s ((Kp.refl _ _).drewN _))).trans H2.out.2⟩
theorem un_lit48 (src : ByteArray) (f : Nat) (w : World) (g : Nat) (r : Rdr) (s : Sl) (k : Int × List Int × Rdr) (h : St w g src r s) (ht : r.t = 48) (hk : exN (sb src) (f + 1) .unary r = some k) :
    Calls Tryz.prog 228 #[.pointer (some ⟨g, 0, none⟩)] w (Ex w g src s k.2.2 (iv k.1)) := by
  have hlit : litT r.t = true := by rw [ht]; decide
  rw [exN, if_neg (by rw [ht]; decide), if_pos hlit] at hk
  have hc2 := h.box.c2
  have HS := jJ0 h
  obtain ⟨n, hnd, hk⟩ := Option.bind_eq_some_iff.1 hk
  obtain ⟨r1, hn1, hk⟩ := Option.bind_eq_some_iff.1 hk
  obtain ⟨x, hx, hk⟩ := Option.map_eq_some_iff.1 hk
  subst hk
  obtain ⟨x, r'⟩ := x
  have K1 := jJ0 (show jR (sb src) 19 r = some (false, r) by rw [jR, if_neg (by rw [ht]; decide)])
  have HT := jJ0 ht
  have HL := jJ0 (fun W s2 (hS : St W g src r s2) => vK W g src r r1 r' s2 n x r.from_ hS hlit hnd hn1 hx)
  clear h hn1 hnd hx ht hlit
  unfold iv at *
  go_enter Tryz.func228, Tryz.ntmps228
  go_wp2_with (first | (go_at_call 167; refine (jM _ g src _ _ s 19 _ HS.out K1.out).mono ?_; rintro e w1 ⟨rfl, hX⟩; have H1 := jJ0 hX; have hc2 := hX.1.box.c2; have hc3 := hX.1.box.c3; rw [HT.out] at hc3; clear hX) | fail)
  go_quiet (fail)
  go_wp2_with (first | (go_at_call 236; refine (HL.out _ _ (H1.out.1.drewN _)).mono ?_; rintro e w2 ⟨rfl, s2, hX⟩; have H2 := jJ0 hX; clear hX) | fail)
  go_ret
  exact ⟨rfl, s2, H2.out.1, (H1.out.2.trans (Fr.of_old s ((Kp.refl _ _).drewN _))).trans H2.out.2⟩
theorem un_lit1 (src : ByteArray) (f : Nat) (w : World) (g : Nat) (r : Rdr) (s : Sl) (k : Int × List Int × Rdr) (h : St w g src r s) (ht : r.t = 1) (hk : exN (sb src) (f + 1) .unary r = some k) :
    Calls Tryz.prog 228 #[.pointer (some ⟨g, 0, none⟩)] w (Ex w g src s k.2.2 (iv k.1)) := by
  have hlit : litT r.t = true := by rw [ht]; decide
  rw [exN, if_neg (by rw [ht]; decide), if_pos hlit] at hk
  have hc2 := h.box.c2
  have HS := jJ0 h
  obtain ⟨n, hnd, hk⟩ := Option.bind_eq_some_iff.1 hk
  obtain ⟨r1, hn1, hk⟩ := Option.bind_eq_some_iff.1 hk
  obtain ⟨x, hx, hk⟩ := Option.map_eq_some_iff.1 hk
  subst hk
  obtain ⟨x, r'⟩ := x
  have K1 := jJ0 (show jR (sb src) 19 r = some (false, r) by rw [jR, if_neg (by rw [ht]; decide)])
  have HT := jJ0 ht
  have HL := jJ0 (fun W s2 (hS : St W g src r s2) => vK W g src r r1 r' s2 n x r.from_ hS hlit hnd hn1 hx)
  clear h hn1 hnd hx ht hlit
  unfold iv at *
  go_enter Tryz.func228, Tryz.ntmps228
  go_wp2_with (first | (go_at_call 167; refine (jM _ g src _ _ s 19 _ HS.out K1.out).mono ?_; rintro e w1 ⟨rfl, hX⟩; have H1 := jJ0 hX; have hc2 := hX.1.box.c2; have hc3 := hX.1.box.c3; rw [HT.out] at hc3; clear hX) | fail)
  go_quiet (fail)
  go_wp2_with (first | (go_at_call 236; refine (HL.out _ _ (H1.out.1.drewN _)).mono ?_; rintro e w2 ⟨rfl, s2, hX⟩; have H2 := jJ0 hX; clear hX) | fail)
  go_ret
  exact ⟨rfl, s2, H2.out.1, (H1.out.2.trans (Fr.of_old s ((Kp.refl _ _).drewN _))).trans H2.out.2⟩
theorem un_left (src : ByteArray) (f : Nat) (IH : ExAll src f) (w : World) (g : Nat) (r : Rdr) (s : Sl) (k : Int × List Int × Rdr) (h : St w g src r s) (ht : r.t = 6) (hk : exN (sb src) (f + 1) .unary r = some k) :
    Calls Tryz.prog 228 #[.pointer (some ⟨g, 0, none⟩)] w (Ex w g src s k.2.2 (iv k.1)) := by
  rw [exN, if_neg (by rw [ht]; decide), if_neg (by rw [ht]; decide), if_pos ht] at hk
  have hc2 := h.box.c2
  have HS := jJ0 h
  have HI := jJ0 IH
  obtain ⟨r1, hn1, hk⟩ := Option.bind_eq_some_iff.1 hk
  obtain ⟨q, hq, hk⟩ := Option.bind_eq_some_iff.1 hk
  obtain ⟨r2, hn2, hk⟩ := Option.bind_eq_some_iff.1 hk
  injection hk with hk
  subst hk
  have K1 := jJ0 (show jR (sb src) 19 r = some (false, r) by rw [jR, if_neg (by rw [ht]; decide)])
  have HT := jJ0 ht
  have N1 := jJ0 hn1
  have N2 := jJ0 hn2
  have E1 := jJ0 hq
  clear h IH hn1 hq hn2 ht
  unfold iv
  go_enter Tryz.func228, Tryz.ntmps228
  go_wp2_with (first | (go_at_call 167; refine (jM _ g src _ _ s 19 _ HS.out K1.out).mono ?_; rintro e w1 ⟨rfl, hX⟩; have H1 := jJ0 hX; have hc2 := hX.1.box.c2; have hc3 := hX.1.box.c3; rw [HT.out] at hc3; clear hX) | fail)
  go_quiet (fail)
  go_wp2_with (first | (go_at_call 135; first | (refine (jK _ g src _ _ s (H1.out.1.drewN _) N1.out).mono ?_; rintro e w2 ⟨rfl, hX⟩; have H2 := jJ0 hX; clear hX) | (refine (jK _ g src _ _ _ H3.out.1 N2.out).mono ?_; rintro e w4 ⟨rfl, hX⟩; have H4 := jJ0 hX; clear hX)) | (go_at_call 172; refine (HI.out.ex _ g _ _ _ H2.out.1 E1.out).mono ?_; rintro e w3 ⟨rfl, s3, hX⟩; have H3 := jJ0 hX; clear hX; unfold iv) | fail)
  go_ret
  exact ⟨rfl, s3, H4.out.1, (((H1.out.2.trans (Fr.of_old s ((Kp.refl _ _).drewN _))).trans H2.out.2).trans H3.out.2).trans H4.out.2⟩
theorem un_open (src : ByteArray) (f : Nat) (IH : ExAll src f) (w : World) (g : Nat) (r : Rdr) (s : Sl) (k : Int × List Int × Rdr) (h : St w g src r s) (ht : r.t = 4) (hk : exN (sb src) (f + 1) .unary r = some k) :
    Calls Tryz.prog 228 #[.pointer (some ⟨g, 0, none⟩)] w (Ex w g src s k.2.2 (iv k.1)) := by
  rw [exN, if_neg (by rw [ht]; decide), if_neg (by rw [ht]; decide), if_neg (by rw [ht]; decide), if_pos ht] at hk
  have hc2 := h.box.c2
  have HS := jJ0 h
  have HI := jJ0 IH
  obtain ⟨r1, hn1, hk⟩ := Option.bind_eq_some_iff.1 hk
  obtain ⟨q, hq, hk⟩ := Option.bind_eq_some_iff.1 hk
  obtain ⟨x, hx, hk⟩ := Option.map_eq_some_iff.1 hk
  subst hk
  obtain ⟨x, r'⟩ := x
  have K1 := jJ0 (show jR (sb src) 19 r = some (false, r) by rw [jR, if_neg (by rw [ht]; decide)])
  have HT := jJ0 ht
  have N1 := jJ0 hn1
  have E1 := jJ0 hq
  have NX := jJ0 hx
  clear h IH hn1 hq hx ht
  unfold iv
  go_enter Tryz.func228, Tryz.ntmps228
  go_wp2_with (first | (go_at_call 167; refine (jM _ g src _ _ s 19 _ HS.out K1.out).mono ?_; rintro e w1 ⟨rfl, hX⟩; have H1 := jJ0 hX; have hc2 := hX.1.box.c2; have hc3 := hX.1.box.c3; rw [HT.out] at hc3; clear hX) | fail)
  go_quiet (fail)
  go_wp2_with (first | (go_at_call 135; refine (jK _ g src _ _ s (H1.out.1.drewN _) N1.out).mono ?_; rintro e w2 ⟨rfl, hX⟩; have H2 := jJ0 hX; clear hX) | (go_at_call 237; refine (HI.out.ls 5 _ g _ _ _ H2.out.1 E1.out).mono ?_; rintro e w3 ⟨A3, c3, s3, rfl, hX⟩; have H3 := jJ0 hX; clear hX) | (go_at_call 201; refine (kD _ g src _ _ _ 6 _ _ A3 c3 q.2.1 H3.out.2.2.1 H3.out.1 H3.out.2.1 NX.out).mono ?_; rintro e w4 ⟨rfl, s4, hX⟩; have H4 := jJ0 hX; clear hX; unfold iv) | fail)
  go_ret
  exact ⟨rfl, s4, H4.out.1, (((H1.out.2.trans (Fr.of_old s ((Kp.refl _ _).drewN _))).trans H2.out.2).trans H3.out.2.2.2).trans H4.out.2⟩
end Go.Proofs.YtmmjcbbogokmfaaGreatDoor
