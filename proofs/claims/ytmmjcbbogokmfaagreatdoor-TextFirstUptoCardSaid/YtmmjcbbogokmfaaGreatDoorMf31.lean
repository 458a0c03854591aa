import Derived.Test.YtmmjcbbogokmfaaGreatDoorMf01
import Derived.Test.YtmmjcbbogokmfaaGreatDoorMf28
import Derived.Test.YtmmjcbbogokmfaaGreatDoorMf30
import Derived.Shelf.Strconv.AtoiAll
set_option maxRecDepth 100000
set_option maxHeartbeats 25600000
namespace Go.Proofs.YtmmjcbbogokmfaaGreatDoor
open Go.RowKit
theorem atoi_any (w : World) (s : ByteArray) (h : jX (sb s) = true) (hne : sb s ≠ []) (hs : s.size <= 1000000) :
    Calls Tryz.prog 243 #[.string s] w fun e w' => e = .returned (.tuple #[.int .i64 (decN (sb s) 0 : Nat), .nilIface]) /\ Old w w' :=
  Calls.mono (Any.strconv_Atoi_ok Tryz.atoiL s (by omega) _ (dec_atoi h hne) w) fun e w' ⟨he, hw⟩ => ⟨he, by
    rcases hw with rfl | ⟨t, rfl⟩
    · exact Kp.refl _ _
    · exact Kp.of_below (Lib.bytesWorld_below _ _ _)⟩
theorem lexeme_le {w : World} {g : Nat} {src : ByteArray} {r : Rdr} {s : Sl} (h : St w g src r s) : (jy (sb src) r).length <= 1000000 := by
  unfold jy
  rw [List.length_drop, List.length_take, jB]
  have := h.small
  omega
theorem lit_int (w : World) (g : Nat) (src : ByteArray) (r r1 r' : Rdr) (s : Sl) (x : Int) (at_ : Nat) (h : St w g src r s) (ht : r.t = 2) (h0 : jy (sb src) r ≠ []) (hd : jX (jy (sb src) r) = true) (hn : jt (sb src) r = some r1)
    (hx : vS ⟨1, ⟨#[]⟩, 1, (decN (jy (sb src) r) 0 : Nat), ⟨#[]⟩, [], []⟩ at_ r1 = some (x, r')) :
    Calls Tryz.prog 236 #[.pointer (some ⟨g, 0, none⟩), iv (at_ : Int)] w (Ex w g src s r' (iv x)) := by
  have hc3 := h.box.c3
  rw [ht] at hc3
  have HS := jJ0 h
  have HN := jJ0 hn
  have HL := jJ0 (fun n => vv (w.drewN n) g src r s (h.drewN n))
  obtain ⟨h1, h2, h3, h4⟩ := vi hx
  have hln := lexeme_le h
  generalize jy (sb src) r = lx at *
  have HA := jJ0 (fun W => atoi_any W ⟨lx.toArray⟩ (by rw [vq]; exact hd) (by rw [vq]; exact h0) (by rw [<- jB, vq]; exact hln))
  rw [vq] at HA
  generalize decN lx 0 = nv at *
  have HB := jJ0 h1
  have HT := jJ0 h2
  generalize hq : r1.tree.nodes.length = q at *
  subst h3
  clear h hn hx h1 h2 ht h0 hd hln
  unfold iv
  have f1 : (0 : Int) <= (q : Int) := by omega
  have f2 : (q : Int).toNat = q := by omega
  have f3 : (q : Int) < (q : Int) + 1 := by omega
  go_enter Tryz.func236, Tryz.ntmps236
  go_wp2
  go_quiet ((go_at_call 165; exact Calls.quiet_of (HL.out _)))
  go_wp2_with (first | (go_at_call 135; refine (jK _ g src _ _ s (HS.out.drewN _) HN.out).mono ?_; rintro e w1 ⟨rfl, hX⟩; have HX := jJ0 hX; clear hX) | (go_at_call 201; refine (kD _ g src _ _ s 4 _ _ none 0 [] HX.out.1 Rd.none_ (fun h0 => absurd h0 (Nat.lt_irrefl 0)) HB.out).mono ?_; rintro e w2 ⟨rfl, s2, hY, hYf⟩; obtain ⟨k, ns, xx, ps, hxn, hns, hLN, hc11⟩ := hY.lastC rfl hq; have d0 : w2.cell? ⟨k, q * 7, none⟩ = _ := (hLN.cell 0 rfl).1; have z0 : w2.frozen? ⟨k, q * 7, none⟩ = false := (hLN.cell 0 rfl).2; have d2 := (hLN.cell 2 rfl).1; have z2 := (hLN.cell 2 rfl).2; have d3 := (hLN.cell 3 rfl).1; have z3 := (hLN.cell 3 rfl).2; have d4 := (hLN.cell 4 rfl).1; have z4 := (hLN.cell 4 rfl).2; have d5 := (hLN.cell 5 rfl).1; have z5 := (hLN.cell 5 rfl).2; have HLN := jJ0 hLN; have HF := jJ0 hYf; clear hLN hY hYf; unfold iv) | (go_at_call 243; refine (HA.out _).mono ?_; rintro e w3 ⟨rfl, hO⟩; have HLN3 := jJ0 (HLN.out.old hO); have d0 : w3.cell? ⟨k, q * 7, none⟩ = _ := (HLN3.out.cell 0 rfl).1; have z0 : w3.frozen? ⟨k, q * 7, none⟩ = false := (HLN3.out.cell 0 rfl).2; have d2 := (HLN3.out.cell 2 rfl).1; have z2 := (HLN3.out.cell 2 rfl).2; have d3 := (HLN3.out.cell 3 rfl).1; have z3 := (HLN3.out.cell 3 rfl).2; have d4 := (HLN3.out.cell 4 rfl).1; have z4 := (HLN3.out.cell 4 rfl).2; have d5 := (HLN3.out.cell 5 rfl).1; have z5 := (HLN3.out.cell 5 rfl).2; clear hO) | fail)
  go_ret
  have HD := jJ0 ((((((HLN3.out.set_ 0 (.int .i64 1)).set_ 2 (.int .i64 1)).set_ 3 (.int .i64 (nv : Int))).set_ 4 (.string ⟨#[]⟩)).set_ 5 (.slice none 0 0)).lit hns HT.out rfl rfl none 0 (by simp only [ndC, hxn]; rfl))
  exact ⟨rfl, s2, HD.out.1, (((Fr.of_old s ((Kp.refl _ _).drewN _)).trans HX.out.2).trans HF.out).trans HD.out.2⟩
theorem lit_text (w : World) (g : Nat) (src : ByteArray) (r r1 r' : Rdr) (s : Sl) (x : Int) (at_ : Nat) (h : St w g src r s) (ht : r.t = 3) (v : List UInt8) (h0 : 2 <= (jy (sb src) r).length) (hd : meantN ((jy (sb src) r).length + 1) (((jy (sb src) r).drop 1).take ((jy (sb src) r).length - 2)) = some v) (hn : jt (sb src) r = some r1)
    (hx : vS ⟨3, ⟨#[]⟩, 3, 0, ⟨v.toArray⟩, [], []⟩ at_ r1 = some (x, r')) :
    Calls Tryz.prog 236 #[.pointer (some ⟨g, 0, none⟩), iv (at_ : Int)] w (Ex w g src s r' (iv x)) := by
  have hc3 := h.box.c3
  rw [ht] at hc3
  have HS := jJ0 h
  have HN := jJ0 hn
  have HL := jJ0 (fun n => vv (w.drewN n) g src r s (h.drewN n))
  obtain ⟨h1, h2, h3, h4⟩ := vi hx
  have hln := lexeme_le h
  generalize jy (sb src) r = lx at *
  obtain ⟨nl, hnl⟩ : ∃ n, lx.length = n + 2 := ⟨lx.length - 2, by omega⟩
  have hsz : (⟨lx.toArray⟩ : ByteArray).size = nl + 2 := by rw [<- jB, vq, hnl]
  rw [hnl, Nat.add_sub_cancel] at hd
  have HA := jJ0 (fun W => meant_any W ((⟨lx.toArray⟩ : ByteArray).extract 1 (nl + 1)) v _ (by rw [jn, vq, Nat.add_sub_cancel]; exact hd) (by rw [<- jB, jn, List.length_take, List.length_drop, vq]; omega))
  have HB := jJ0 h1
  have HT := jJ0 h2
  generalize hq : r1.tree.nodes.length = q at *
  subst h3
  have f4 : ((nl : Int) + 2 - 1) = (nl : Int) + 1 := by omega
  have f5 : IntKind.i64.wrap ((nl : Int) + 1) = (nl : Int) + 1 := IntWalk.i64_in _ (by omega)
  have f6 : (0 : Int) <= (nl : Int) + 1 := by omega
  have f7 : ((nl : Int) + 1).toNat = nl + 1 := by omega
  have f8 : (nl : Int) + 1 <= (nl : Int) + 2 := by omega
  have f9 : (1 : Int) <= (nl : Int) + 1 := by omega
  clear h hn hx h1 h2 ht h0 hd hln hnl
  unfold iv
  have f1 : (0 : Int) <= (q : Int) := by omega
  have f2 : (q : Int).toNat = q := by omega
  have f3 : (q : Int) < (q : Int) + 1 := by omega
  go_enter Tryz.func236, Tryz.ntmps236
  go_wp2
  go_quiet ((go_at_call 165; exact Calls.quiet_of (HL.out _)))
  go_wp2_with (first | (go_at_call 135; refine (jK _ g src _ _ s (HS.out.drewN _) HN.out).mono ?_; rintro e w1 ⟨rfl, hX⟩; have HX := jJ0 hX; clear hX) | (go_at_call 201; refine (kD _ g src _ _ s 4 _ _ none 0 [] HX.out.1 Rd.none_ (fun h0 => absurd h0 (Nat.lt_irrefl 0)) HB.out).mono ?_; rintro e w2 ⟨rfl, s2, hY, hYf⟩; obtain ⟨k, ns, xx, ps, hxn, hns, hLN, hc11⟩ := hY.lastC rfl hq; have d0 : w2.cell? ⟨k, q * 7, none⟩ = _ := (hLN.cell 0 rfl).1; have z0 : w2.frozen? ⟨k, q * 7, none⟩ = false := (hLN.cell 0 rfl).2; have d2 := (hLN.cell 2 rfl).1; have z2 := (hLN.cell 2 rfl).2; have d3 := (hLN.cell 3 rfl).1; have z3 := (hLN.cell 3 rfl).2; have d4 := (hLN.cell 4 rfl).1; have z4 := (hLN.cell 4 rfl).2; have d5 := (hLN.cell 5 rfl).1; have z5 := (hLN.cell 5 rfl).2; have HLN := jJ0 hLN; have HF := jJ0 hYf; clear hLN hY hYf; unfold iv) | (go_at_call 244; refine (HA.out _).mono ?_; rintro e w3 ⟨rfl, hO⟩; have HLN3 := jJ0 (HLN.out.old hO); have d0 : w3.cell? ⟨k, q * 7, none⟩ = _ := (HLN3.out.cell 0 rfl).1; have z0 : w3.frozen? ⟨k, q * 7, none⟩ = false := (HLN3.out.cell 0 rfl).2; have d2 := (HLN3.out.cell 2 rfl).1; have z2 := (HLN3.out.cell 2 rfl).2; have d3 := (HLN3.out.cell 3 rfl).1; have z3 := (HLN3.out.cell 3 rfl).2; have d4 := (HLN3.out.cell 4 rfl).1; have z4 := (HLN3.out.cell 4 rfl).2; have d5 := (HLN3.out.cell 5 rfl).1; have z5 := (HLN3.out.cell 5 rfl).2; clear hO) | fail)
  go_ret
  have HD := jJ0 ((((((HLN3.out.set_ 0 (.int .i64 3)).set_ 2 (.int .i64 3)).set_ 3 (.int .i64 0)).set_ 4 (.string ⟨v.toArray⟩)).set_ 5 (.slice none 0 0)).lit hns HT.out rfl rfl none 0 (by simp only [ndC, hxn]; rfl))
  exact ⟨rfl, s2, HD.out.1, (((Fr.of_old s ((Kp.refl _ _).drewN _)).trans HX.out.2).trans HF.out).trans HD.out.2⟩
theorem lit_nothing (w : World) (g : Nat) (src : ByteArray) (r r1 r' : Rdr) (s : Sl) (x : Int) (at_ : Nat) (h : St w g src r s) (ht : r.t = 48) (hn : jt (sb src) r = some r1)
    (hx : vS (km 4 []) at_ r1 = some (x, r')) :
    Calls Tryz.prog 236 #[.pointer (some ⟨g, 0, none⟩), iv (at_ : Int)] w (Ex w g src s r' (iv x)) := by
  have hc3 := h.box.c3
  rw [ht] at hc3
  have HS := jJ0 h
  have HN := jJ0 hn
  have HL := jJ0 (fun n => vv (w.drewN n) g src r s (h.drewN n))
  obtain ⟨h1, h2, h3, h4⟩ := vi hx
  generalize jy (sb src) r = lx at *
  have HB := jJ0 h1
  have HT := jJ0 h2
  generalize hq : r1.tree.nodes.length = q at *
  subst h3
  clear h hn hx h1 h2 ht
  unfold iv
  have f1 : (0 : Int) <= (q : Int) := by omega
  have f2 : (q : Int).toNat = q := by omega
  have f3 : (q : Int) < (q : Int) + 1 := by omega
  go_enter Tryz.func236, Tryz.ntmps236
  go_wp2
  go_quiet ((go_at_call 165; exact Calls.quiet_of (HL.out _)))
  go_wp2_with (first | (go_at_call 135; refine (jK _ g src _ _ s (HS.out.drewN _) HN.out).mono ?_; rintro e w1 ⟨rfl, hX⟩; have HX := jJ0 hX; clear hX) | (go_at_call 201; refine (kD _ g src _ _ s 4 _ _ none 0 [] HX.out.1 Rd.none_ (fun h0 => absurd h0 (Nat.lt_irrefl 0)) HB.out).mono ?_; rintro e w2 ⟨rfl, s2, hY, hYf⟩; obtain ⟨k, ns, xx, ps, hxn, hns, hLN, hc11⟩ := hY.lastC rfl hq; have d0 : w2.cell? ⟨k, q * 7, none⟩ = _ := (hLN.cell 0 rfl).1; have z0 : w2.frozen? ⟨k, q * 7, none⟩ = false := (hLN.cell 0 rfl).2; have d1 := (hLN.cell 1 rfl).1; have z1 := (hLN.cell 1 rfl).2; have HLN := jJ0 hLN; have HF := jJ0 hYf; clear hLN hY hYf; unfold iv) | fail)
  go_ret
  have HD := jJ0 (HLN.out.lit hns HT.out rfl rfl xx.vA xx.vc (by simp only [ndC, hxn]))
  exact ⟨rfl, s2, HD.out.1, (((Fr.of_old s ((Kp.refl _ _).drewN _)).trans HX.out.2).trans HF.out).trans HD.out.2⟩
theorem vK (w : World) (g : Nat) (src : ByteArray) (r r1 r' : Rdr) (s : Sl) (n : Nd) (x : Int) (at_ : Nat) (h : St w g src r s) (hl : litT r.t = true) (hd : vT r.t (jy (sb src) r) = some n) (hn : jt (sb src) r = some r1)
    (hx : vS n at_ r1 = some (x, r')) : Calls Tryz.prog 236 #[.pointer (some ⟨g, 0, none⟩), iv (at_ : Int)] w (Ex w g src s r' (iv x)) := by
  have ht := of_decide_eq_true hl
  unfold vT at hd
  by_cases h2 : r.t = 2
  · rw [if_pos h2] at hd
    split at hd
    case isFalse => cases hd
    rename_i hi
    injection hd with hd
    subst hd
    exact lit_int w g src r r1 r' s x at_ h h2 hi.2 hi.1 hn hx
  rw [if_neg h2] at hd
  by_cases h46 : r.t = 46 \/ r.t = 47
  · rw [if_pos h46] at hd
    injection hd with hd
    subst hd
    rcases h46 with e | e
    · rw [e] at hx; exact lit_bool46 w g src r r1 r' s x at_ h e hn hx
    · rw [e] at hx; exact lit_bool47 w g src r r1 r' s x at_ h e hn hx
  rw [if_neg h46] at hd
  by_cases h3 : r.t = 3
  · rw [if_pos h3] at hd
    split at hd
    case isFalse => cases hd
    rename_i h2l
    obtain ⟨v, hv, hd⟩ := Option.map_eq_some_iff.1 hd
    subst hd
    exact lit_text w g src r r1 r' s x at_ h h3 v h2l hv hn hx
  rw [if_neg h3] at hd
  by_cases h1 : r.t = 1
  · rw [if_pos h1] at hd
    injection hd with hd
    subst hd
    exact lit_name w g src r r1 r' s x at_ h h1 hn hx
  rw [if_neg h1] at hd
  injection hd with hd
  subst hd
  exact lit_nothing w g src r r1 r' s x at_ h (by omega) hn hx
theorem node_kids (w : World) (g : Nat) (src : ByteArray) (r r' : Rdr) (s : Sl) (op x : Int) (at_ : Nat) (kids : List Int) (h : St w g src r s) (hn : vS (km op kids) at_ r = some (x, r')) :
    Calls Tryz.prog 201 #[.pointer (some ⟨g, 0, none⟩), iv op, iv (at_ : Int), .slice (some ⟨w.heap.size, 0, none⟩) kids.length kids.length] (w.alloc (.cells (kids.map iv).toArray 3)) (Ex w g src s r' (iv x)) := by
  have ho := (Kp.refl NoX w).alloc (.cells (kids.map iv).toArray 3)
  have hr := Rd.row_new w 3 1 kids.length (kids.map iv) (by simp)
  refine (kD _ g src r r' s op x at_ _ kids.length kids (h.old ho) hr (fun _ ad e hx => ?_) hn).mono (fun _ _ hX => Ex.of (Fr.of_old s ho) hX)
  injection e with e
  subst e
  have : w.heap.size < w.heap.size := hx.elim (fun e => (h.ox8 _ e).2) (fun e => h.zlt _ e)
  exact Nat.lt_irrefl _ this
def ExL (w : World) (g : Nat) (src : ByteArray) (s : Sl) (r' : Rdr) (kids : List Int) (e : Ending) (w' : World) : Prop :=
  ∃ A c s', e = .returned (.slice A kids.length c) /\ Rd w' 1 A kids.length (kids.map iv) /\ Av (AX g s') kids.length A /\ St w' g src r' s' /\ Fr g s s' w w'
def lvls : List Nat := [43, 44, 45, 18, 20, 19]
structure ExAll (src : ByteArray) (f : Nat) : Prop where
  ex : ∀ (w : World) (g : Nat) (r : Rdr) (s : Sl) (k : Int × List Int × Rdr), St w g src r s -> exN (sb src) f .expr r = some k -> Calls Tryz.prog 172 #[.pointer (some ⟨g, 0, none⟩)] w (Ex w g src s k.2.2 (iv k.1))
  row : ∀ (l : Nat), l ∈ lvls -> ∀ (w : World) (g : Nat) (r : Rdr) (s : Sl) (k : Int × List Int × Rdr), St w g src r s -> exN (sb src) f (.row l) r = some k -> Calls Tryz.prog 200 #[.pointer (some ⟨g, 0, none⟩), .int .u8 (l : Int)] w (Ex w g src s k.2.2 (iv k.1))
  two : ∀ (op root : Int) (l : Nat), l ∈ lvls -> ∀ (w : World) (g : Nat) (r : Rdr) (s : Sl) (k : Int × List Int × Rdr), St w g src r s -> exN (sb src) f (.two op root l) r = some k -> Calls Tryz.prog 227 #[.pointer (some ⟨g, 0, none⟩), iv op, iv root, .int .u8 (l : Int)] w (Ex w g src s k.2.2 (iv k.1))
  un : ∀ (w : World) (g : Nat) (r : Rdr) (s : Sl) (k : Int × List Int × Rdr), St w g src r s -> exN (sb src) f .unary r = some k -> Calls Tryz.prog 228 #[.pointer (some ⟨g, 0, none⟩)] w (Ex w g src s k.2.2 (iv k.1))
  ls : ∀ (last : Nat) (w : World) (g : Nat) (r : Rdr) (s : Sl) (k : Int × List Int × Rdr), St w g src r s -> exN (sb src) f (.list last []) r = some k -> Calls Tryz.prog 237 #[.pointer (some ⟨g, 0, none⟩), .int .u8 (last : Int)] w (ExL w g src s k.2.2 k.2.1)
theorem ex_step (src : ByteArray) (f : Nat) (IH : ExAll src f) (w : World) (g : Nat) (r : Rdr) (s : Sl) (k : Int × List Int × Rdr) (h : St w g src r s) (hk : exN (sb src) (f + 1) .expr r = some k) :
    Calls Tryz.prog 172 #[.pointer (some ⟨g, 0, none⟩)] w (Ex w g src s k.2.2 (iv k.1)) := by
  rw [exN] at hk
  have hc2 := h.box.c2
  have hc3 := h.box.c3
  have HS := jJ0 h
  have HI := jJ0 IH
  by_cases ht : r.t = 40
  · rw [if_neg (fun e => e ht)] at hk
    obtain ⟨r1, hn1, hk⟩ := Option.bind_eq_some_iff.1 hk
    obtain ⟨c, hc, hk⟩ := Option.bind_eq_some_iff.1 hk
    obtain ⟨r2, hn2, hk⟩ := Option.bind_eq_some_iff.1 hk
    obtain ⟨a, ha, hk⟩ := Option.bind_eq_some_iff.1 hk
    obtain ⟨r3, hn3, hk⟩ := Option.bind_eq_some_iff.1 hk
    obtain ⟨b, hb, hk⟩ := Option.bind_eq_some_iff.1 hk
    obtain ⟨x, hx, hk⟩ := Option.map_eq_some_iff.1 hk
    subst hk
    obtain ⟨x, r'⟩ := x
    have N1 := jJ0 hn1
    have N2 := jJ0 hn2
    have N3 := jJ0 hn3
    have E1 := jJ0 hc
    have E2 := jJ0 ha
    have E3 := jJ0 hb
    have NX := jJ0 hx
    rw [ht] at hc3
    clear h IH hn1 hc hn2 ha hn3 hb hx ht
    simp only
    go_enter Tryz.func172, Tryz.ntmps172
    go_wp2_with (first | (go_at_call 135; first | (refine (jK _ g src _ _ s HS.out N1.out).mono ?_; rintro e w1 ⟨rfl, hX⟩; have H1 := jJ0 hX; clear hX) | (refine (jK _ g src _ _ _ H2.out.1 N2.out).mono ?_; rintro e w3 ⟨rfl, hX⟩; have H3 := jJ0 hX; clear hX) | (refine (jK _ g src _ _ _ H4.out.1 N3.out).mono ?_; rintro e w5 ⟨rfl, hX⟩; have H5 := jJ0 hX; clear hX)) | (go_at_call 172; first | (refine (HI.out.ex _ g _ _ _ H1.out.1 E1.out).mono ?_; rintro e w2 ⟨rfl, s2, hX⟩; have H2 := jJ0 hX; clear hX; unfold iv) | (refine (HI.out.ex _ g _ _ _ H3.out.1 E2.out).mono ?_; rintro e w4 ⟨rfl, s4, hX⟩; have H4 := jJ0 hX; clear hX; unfold iv) | (refine (HI.out.ex _ g _ _ _ H5.out.1 E3.out).mono ?_; rintro e w6 ⟨rfl, s6, hX⟩; have H6 := jJ0 hX; clear hX; unfold iv)) | (go_at_call 201; refine (node_kids _ g src _ _ _ 23 _ _ [c.1, a.1, b.1] H6.out.1 NX.out).mono ?_; rintro e w7 ⟨rfl, s7, hX⟩; have H7 := jJ0 hX; clear hX; unfold iv) | fail)
    go_ret
    exact ⟨rfl, s7, H7.out.1, (((((H1.out.2.trans H2.out.2).trans H3.out.2).trans H4.out.2).trans H5.out.2).trans H6.out.2).trans H7.out.2⟩
  · rw [if_pos ht] at hk
    have E1 := jJ0 hk
    have e40 : ((r.t : Int) != 40) = true := by rw [bne, beq_eq_false_iff_ne.2 (show (r.t : Int) ≠ 40 by omega)]; rfl
    clear h hk ht
    go_enter Tryz.func172, Tryz.ntmps172
    go_wp2_with (first | (go_at_call 200; refine (HI.out.row 43 (by decide) _ g _ _ _ HS.out E1.out).mono ?_; rintro e w2 ⟨rfl, s2, hX⟩; have H2 := jJ0 hX; clear hX; unfold iv) | fail)
    go_ret
    exact ⟨rfl, s2, H2.out⟩
theorem two_step (src : ByteArray) (f : Nat) (IH : ExAll src f) (op root : Int) (l : Nat) (hl : l ∈ lvls) (w : World) (g : Nat) (r : Rdr) (s : Sl) (k : Int × List Int × Rdr) (h : St w g src r s) (hk : exN (sb src) (f + 1) (.two op root l) r = some k) :
    Calls Tryz.prog 227 #[.pointer (some ⟨g, 0, none⟩), iv op, iv root, .int .u8 (l : Int)] w (Ex w g src s k.2.2 (iv k.1)) := by
  rw [exN] at hk
  have hc2 := h.box.c2
  have HS := jJ0 h
  have HI := jJ0 IH
  have HL := jJ0 hl
  obtain ⟨r1, hn1, hk⟩ := Option.bind_eq_some_iff.1 hk
  obtain ⟨q, hq, hk⟩ := Option.bind_eq_some_iff.1 hk
  obtain ⟨x, hx, hk⟩ := Option.map_eq_some_iff.1 hk
  subst hk
  obtain ⟨x, r'⟩ := x
  have N1 := jJ0 hn1
  have E1 := jJ0 hq
  have NX := jJ0 hx
  clear h IH hn1 hq hx hl
  unfold iv
  go_enter Tryz.func227, Tryz.ntmps227
  go_wp2_with (first | (go_at_call 135; refine (jK _ g src _ _ s HS.out N1.out).mono ?_; rintro e w1 ⟨rfl, hX⟩; have H1 := jJ0 hX; clear hX) | (go_at_call 200; refine (HI.out.row _ HL.out _ g _ _ _ H1.out.1 E1.out).mono ?_; rintro e w2 ⟨rfl, s2, hX⟩; have H2 := jJ0 hX; clear hX; unfold iv) | (go_at_call 201; refine (node_kids _ g src _ _ _ op _ _ [root, q.1] H2.out.1 NX.out).mono ?_; rintro e w3 ⟨rfl, s3, hX⟩; have H3 := jJ0 hX; clear hX; unfold iv) | fail)
  go_ret
  exact ⟨rfl, s3, H3.out.1, (H1.out.2.trans H2.out.2).trans H3.out.2⟩
theorem call49 (w : World) : Calls Tryz.prog 238 #[.int .u8 49] w fun e w' => e = .returned (iv (vM 49)) /\ w = w' := by
  go_enter Tryz.func238, Tryz.ntmps238
  go_wp2
  go_ret
  exact ⟨rfl, rfl⟩
theorem call52 (w : World) : Calls Tryz.prog 238 #[.int .u8 52] w fun e w' => e = .returned (iv (vM 52)) /\ w = w' := by
  go_enter Tryz.func238, Tryz.ntmps238
  go_wp2
  go_ret
  exact ⟨rfl, rfl⟩
theorem call31 (w : World) : Calls Tryz.prog 238 #[.int .u8 31] w fun e w' => e = .returned (iv (vM 31)) /\ w = w' := by
  go_enter Tryz.func238, Tryz.ntmps238
  go_wp2
  go_ret
  exact ⟨rfl, rfl⟩
theorem call50 (w : World) : Calls Tryz.prog 238 #[.int .u8 50] w fun e w' => e = .returned (iv (vM 50)) /\ w = w' := by
  go_enter Tryz.func238, Tryz.ntmps238
  go_wp2
  go_ret
  exact ⟨rfl, rfl⟩
theorem call51 (w : World) : Calls Tryz.prog 238 #[.int .u8 51] w fun e w' => e = .returned (iv (vM 51)) /\ w = w' := by
  go_enter Tryz.func238, Tryz.ntmps238
  go_wp2
  go_ret
  exact ⟨rfl, rfl⟩
theorem call53 (w : World) : Calls Tryz.prog 238 #[.int .u8 53] w fun e w' => e = .returned (iv (vM 53)) /\ w = w' := by
  go_enter Tryz.func238, Tryz.ntmps238
  go_wp2
  go_ret
  exact ⟨rfl, rfl⟩
theorem call54 (w : World) : Calls Tryz.prog 238 #[.int .u8 54] w fun e w' => e = .returned (iv (vM 54)) /\ w = w' := by
  go_enter Tryz.func238, Tryz.ntmps238
  go_wp2
  go_ret
  exact ⟨rfl, rfl⟩
theorem call55 (w : World) : Calls Tryz.prog 238 #[.int .u8 55] w fun e w' => e = .returned (iv (vM 55)) /\ w = w' := by
  go_enter Tryz.func238, Tryz.ntmps238
  go_wp2
  go_ret
  exact ⟨rfl, rfl⟩
theorem call56 (w : World) : Calls Tryz.prog 238 #[.int .u8 56] w fun e w' => e = .returned (iv (vM 56)) /\ w = w' := by
  go_enter Tryz.func238, Tryz.ntmps238
  go_wp2
  go_ret
  exact ⟨rfl, rfl⟩
theorem call57 (w : World) : Calls Tryz.prog 238 #[.int .u8 57] w fun e w' => e = .returned (iv (vM 57)) /\ w = w' := by
  go_enter Tryz.func238, Tryz.ntmps238
  go_wp2
  go_ret
  exact ⟨rfl, rfl⟩
def zA (s : Sl) (A : Option Addr) : Nat -> Prop := fun b => s.z b \/ A.map (·.block) = some b
structure LsSt (src : ByteArray) (w : World) (g : Nat) (last : Nat) (s : Sl) (k : Int × List Int × Rdr) (f : Nat) (A : Option Addr) (c : Nat) (kids : List Int) (r : Rdr) (s' : Sl) (W : World) : Prop where
  st : St W g src r s'
  z : s'.z = zA s A
  kp : Kp (OX g s) w W
  ox : ∀ b, b < w.heap.size -> OX g s' b -> OX g s b
  own : W.ownsRow w.heap.size 3 1 (.slice A kids.length c) kids.length (kids.map iv)
  ex : exN (sb src) f (.list last kids) r = some k
theorem LsSt.start {src : ByteArray} {w : World} {g last : Nat} {s : Sl} {k : Int × List Int × Rdr} {f : Nat} {r : Rdr} (h : St w g src r s) (he : exN (sb src) f (.list last []) r = some k) : LsSt src w g last s k f none 0 [] r { s with z := zA s none } w :=
  ⟨h.zgrow (Kp.refl NoX w) (fun _ e => e.elim) _ (fun b hb => hb.elim (fun e => ⟨.inl e, h.zlt b e⟩) (fun e => by cases e)), rfl, Kp.refl _ _, fun _ _ e => e, World.ownsRow_nil _ _ _ _, he⟩
theorem LsSt.grow {src : ByteArray} {w W W1 W2 W3 : World} {g last : Nat} {s s' : Sl} {k : Int × List Int × Rdr} {f f' : Nat} {A A' : Option Addr} {c c' : Nat} {kids : List Int} {r r1 : Rdr} {x : Int} {s1 : Sl} (h : LsSt src w g last s k f A c kids r s' W)
    (h1 : St W1 g src r1 s1) (f1 : Fr g s' s1 W W1) (he : exN (sb src) f' (.list last (kids ++ [x])) r1 = some k) (ho : Old W1 W2) (hg : W2.grownBy W3 (A.map (·.block))) (ha : A'.map (·.block) = A.map (·.block) \/ A'.map (·.block) = some W2.heap.size)
    (hown : W3.ownsRow w.heap.size 3 1 (.slice A' (kids.length + 1) c') (kids.length + 1) (kids.map iv ++ [iv x])) : LsSt src w g last s k f' A' c' (kids ++ [x]) r1 { s1 with z := zA s A' } W3 := by
  have hk2 : Kp (fun b => A.map (·.block) = some b) W1 W3 := Kp.grown (ho.mono (fun _ _ e => e.elim)) hg (fun _ e _ => e)
  have hz1 : s1.z = zA s A := f1.z.trans h.z
  have hw : w.heap.size <= W1.heap.size := Nat.le_trans h.kp.size f1.kp.size
  refine ⟨h1.zgrow hk2 (fun b e => by rw [hz1]; exact .inr e) _ (fun b hb => ?_), rfl, (h.kp.trans f1.kp h.ox).trans hk2 (fun b hb e => ?_), fun b hb e => h.ox b hb (f1.own b (Nat.lt_of_lt_of_le hb h.kp.size) e), by rw [List.length_append, List.map_append]; exact hown, he⟩
  · rcases hb with e | e
    · have e2 : s1.z b := by rw [hz1]; exact .inl e
      exact ⟨.inl e2, Nat.lt_of_lt_of_le (h1.zlt b e2) hk2.size⟩
    · refine ⟨?_, (vE hown e).2⟩
      rcases ha with ha | ha
      · left; rw [hz1]; right; rw [<- ha]; exact e
      · right; rw [ha] at e; injection e with e; rw [<- e]; exact ho.size
  · have := (vE h.own e).1
    omega
theorem LsSt.done {src : ByteArray} {w W W' : World} {g last : Nat} {s s' : Sl} {k : Int × List Int × Rdr} {f : Nat} {A : Option Addr} {c : Nat} {kids : List Int} {r r1 : Rdr} (h : LsSt src w g last s k f A c kids r s' W) (h0 : ∀ b, s.z b -> b < w.heap.size)
    (h1 : St W' g src r1 s') (f1 : Fr g s' s' W W') : ExL w g src s r1 kids (.returned (.slice A kids.length c)) W' := by
  have ho := jU h.own f1.kp (fun b e hx => h.st.zno b hx (by rw [h.z]; right; rw [<- jA]; exact e))
  have hw : w.heap.size <= W'.heap.size := Nat.le_trans h.kp.size f1.kp.size
  refine ⟨A, c, { s' with z := s.z }, rfl, Rd.of_own ho, fun hn ad ea hx => ?_, h1.zgrow (Kp.refl NoX W') (fun _ e => e.elim) _ (fun b e => ⟨.inl (by rw [h.z]; exact .inl e), Nat.lt_of_lt_of_le (h0 b e) hw⟩), ⟨h.kp.trans f1.kp h.ox, fun b hb e => h.ox b hb e, rfl⟩⟩
  have hb : A.map (·.block) = some ad.block := by rw [ea]; rfl
  rcases hx with hx | hx
  · exact h.st.zno _ hx (by rw [h.z]; exact .inr hb)
  · have := (vE h.own hb).1
    have := h0 _ hx
    omega
def LsRel (src : ByteArray) (w : World) (g : Nat) (last : Nat) (s : Sl) (k : Int × List Int × Rdr) (F f : Nat) (kv : Value) (W : World) : Prop := f <= F /\ ∃ A c kids r' s', kv = .slice A kids.length c /\ LsSt src w g last s k f A c kids r' s' W
theorem list_step (src : ByteArray) (f : Nat) (IH : ∀ m, m <= f -> ExAll src m) (last : Nat) (w : World) (g : Nat) (r : Rdr) (s : Sl) (k : Int × List Int × Rdr) (h : St w g src r s) (hk : exN (sb src) (f + 1) (.list last []) r = some k) :
    Calls Tryz.prog 237 #[.pointer (some ⟨g, 0, none⟩), .int .u8 (last : Int)] w (ExL w g src s k.2.2 k.2.1) := by
  have H0 := jJ0 (show LsRel src w g last s k (f + 1) (f + 1) (.slice none 0 0) w from ⟨Nat.le_refl _, none, 0, [], r, _, rfl, LsSt.start h hk⟩)
  have HI := jJ0 IH
  have HZ := jJ0 h.zlt
  obtain ⟨i1, hj, hy0, hy1, hy2⟩ := info_parts Tryz.infoInt
  clear h hk IH
  go_enter Tryz.func237, Tryz.ntmps237
  go_wp2
  go_loopw [5] (fun kv wr => ∃ n, LsRel src w g last s k (f + 1) n kv wr) (fun kv wr => least (fun n => LsRel src w g last s k (f + 1) n kv wr))
  case atStart => exact ⟨_, H0.out⟩
  case round =>
    clear H0
    obtain ⟨n, ⟨hn, A, c, kids, r', s', rfl, hst⟩, hmin⟩ := vz hrel
    have hc3 := hst.st.box.c3
    have Hst := jJ0 hst
    have Hmin := jJ0 hmin
    cases n with
    | zero => exact absurd hst.ex (by simp [exN])
    | succ m =>
      have hex := hst.ex
      rw [exN] at hex
      by_cases ht : r'.t = last
      · rw [if_pos ht] at hex
        obtain ⟨r1, hn1, he⟩ := Option.bind_eq_some_iff.1 hex
        injection he with he
        have N1 := jJ0 hn1
        have He := jJ0 he
        have e1 : ((r'.t : Int) != (last : Int)) = false := by rw [bne, beq_iff_eq.2 (show (r'.t : Int) = (last : Int) by omega)]; rfl
        clear hst hmin hrel hex hn1 he ht
        go_wp2_with (first | (go_at_call 135; refine (jK _ g src _ _ _ Hst.out.st N1.out).mono ?_; rintro e w1 ⟨rfl, hX⟩; have H1 := jJ0 hX; clear hX) | fail)
        go_ret
        rw [<- He.out]
        exact Hst.out.done HZ.out H1.out.1 H1.out.2
      · rw [if_neg ht] at hex
        split at hex
        case isFalse => cases hex
        rename_i hlt
        obtain ⟨⟨b, r2⟩, hk2, hex⟩ := Option.bind_eq_some_iff.1 hex
        obtain ⟨q, hq, hex⟩ := Option.bind_eq_some_iff.1 hex
        have K1 := jJ0 hk2
        have E1 := jJ0 hq
        have EX := jJ0 hex
        have HIm := jJ0 (HI.out m (by omega))
        have H63 := jJ0 (show kids.length + 1 <= maxLen by unfold maxLen; omega)
        have H47 := jJ0 (show (kids.length + 1) * 8 <= 140737488355328 by omega)
        have e1 : ((r'.t : Int) != (last : Int)) = true := by rw [bne, beq_eq_false_iff_ne.2 (show (r'.t : Int) ≠ (last : Int) by omega)]; rfl
        clear hst hmin hrel hex hk2 hq ht hlt
        go_wp2_with (first | (go_at_call 167; refine (jM _ g src _ _ _ 8 _ Hst.out.st K1.out).mono ?_; rintro e w1 ⟨rfl, hX⟩; have H1 := jJ0 hX; clear hX) | (go_at_call 172; refine (HIm.out.ex _ g _ _ _ H1.out.1 E1.out).mono ?_; rintro e w2 ⟨rfl, s2, hX⟩; have H2 := jJ0 hX; clear hX; unfold iv) | (at_builtin; refine jF _ rfl (.tmp 14) (.tmp 17) 27 rfl w.heap.size 3 i1 _ 1 8 Tryz.underlying27 hj hy0 hy1 hy2 rfl (by decide) (.slice A kids.length c) kids.length (kids.map iv) rfl (jU (jU (jU Hst.out.own H1.out.2.kp (fun b e hx => Hst.out.st.zno b hx (by rw [Hst.out.z]; right; rw [<- jA]; exact e))) H2.out.2.kp (fun b e hx => H1.out.1.zno b hx (by rw [Hst.out.z]; right; rw [<- jA]; exact e))) ((Kp.refl NoX _).alloc _) (fun _ _ e => e)) _ 1 1 [iv q.1] rfl (Rd.one_new _ _ _) (kW _ rfl) H63.out H47.out (Nat.le_trans (Nat.le_trans (Nat.le_trans Hst.out.kp.size H1.out.2.kp.size) H2.out.2.kp.size) ((Kp.refl NoX _).alloc _).size) ?_; intro A1 c1 w3 hown hgrow hat; rw [jA] at hgrow hat; have HG := jJ0 (Hst.out.grow H2.out.1 (H1.out.2.trans H2.out.2) EX.out ((Kp.refl NoX _).alloc _) hgrow hat hown); clear hown hgrow hat) | fail)
        have HL : LsRel src w g last s k (f + 1) m (.slice A1 (kids.length + 1) c1) w3 := ⟨by omega, A1, c1, kids ++ [q.1], _, _, by rw [List.length_append]; rfl, HG.out⟩
        exact ⟨⟨m, HL⟩, by rw [Hmin.out]; exact kV HL (Nat.lt_succ_self m)⟩
end Go.Proofs.YtmmjcbbogokmfaaGreatDoor
