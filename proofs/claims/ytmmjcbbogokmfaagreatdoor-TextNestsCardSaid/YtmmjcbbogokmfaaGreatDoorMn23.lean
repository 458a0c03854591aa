import Derived.Test.YtmmjcbbogokmfaaGreatDoorMn22
/- Contract of strconv.Atoi at a short row of digits. -/
namespace Go.Proofs.YtmmjcbbogokmfaaGreatDoor
open Go.RowKit

set_option maxRecDepth 100000 in
set_option maxHeartbeats 1600000 in
theorem atoi_in (w : World) (s : ByteArray) (h0 : 0 < s.size) (h19 : s.size < 19) (hd : (sb s).all digC = true) :
    Calls Tryz.prog 251 #[.string s] w fun e w' => e = .returned (.tuple #[.int .i64 (decN (sb s) 0 : Nat), .nilIface]) ∧ Old w w' := by
  have HD := Lib.hid (show ∀ k, (hk : k < s.size) → 48 ≤ s[k].toNat ∧ s[k].toNat ≤ 57 from fun k hk => by
    have h1 := sb_drop s k hk
    have h2 : s[k] ∈ sb s := List.mem_of_mem_drop (i := k) (by rw [h1]; exact List.mem_cons_self)
    have := List.all_eq_true.1 hd _ h2
    exact of_decide_eq_true this)
  have hc0 := HD.out 0 h0
  have e45 : ((s[0].toNat : Int) == 45) = false := beq_eq_false_iff_ne.2 (by omega)
  have e43 : ((s[0].toNat : Int) == 43) = false := beq_eq_false_iff_ne.2 (by omega)
  have f1 : (0 : Int) < (s.size : Int) := by omega
  have f2 : (s.size : Int) < 19 := by omega
  clear hd
  go_enter Tryz.func251, Tryz.ntmps251
  go_wp2_with (first | (with_reducible refine at_conv 9 33 ?_; refine wpList_conv_sb _ Tryz.underlying9 Tryz.underlying33 Tryz.underlying5 s rfl ?_; intro A1 c1 w1 hrd1 ho1 hav1) | fail)
  have HR := Lib.hid hrd1
  have HO := Lib.hid ho1
  clear hrd1 ho1 hav1
  go_loopw [49, 6] (fun i n wr => ∃ j nj : Nat, j ≤ s.size ∧ i = .int .i64 (j : Int) ∧ n = .int .i64 (nj : Int) ∧ decN (sb s) 0 = decN ((sb s).drop j) nj ∧ nj + 1 ≤ 10 ^ j ∧ wr = w1) (fun i _ _ => s.size - (intOf i).toNat)
  case atStart => exact ⟨0, 0, by omega, rfl, rfl, rfl, by omega, rfl⟩
  case round =>
    obtain ⟨j, nj, hj, rfl, rfl, hdec, hnj, rfl⟩ := hrel
    by_cases hlt : j < s.size
    · obtain ⟨b, o, u, hA, hu, hc⟩ := HR.out.at_ hlt
      subst hA
      have hdr := sb_drop s j hlt
      rw [List.getElem?_map] at hu
      obtain ⟨b1, hb1, hu⟩ := Option.map_eq_some_iff.1 hu
      have hb2 : b1 = s[j] := by
        have h2 := congrArg List.head? hdr
        rw [List.head?_drop, List.head?_cons, hb1] at h2
        injection h2
      subst hb2
      subst hu
      obtain ⟨d, hd, hd9⟩ : ∃ d, s[j].toNat = d + 48 ∧ d ≤ 9 := ⟨s[j].toNat - 48, by have := HD.out j hlt; omega, by have := HD.out j hlt; omega⟩
      rw [hdr, decN, hd, Nat.add_sub_cancel] at hdec
      rw [bv, hd] at hc
      have h18 : 10 ^ j ≤ 10 ^ 17 := Nat.pow_le_pow_right (by decide) (by omega)
      have hn18 : nj < 100000000000000000 := by
        have e : (10 : Nat) ^ 17 = 100000000000000000 := by decide
        omega
      have hnx : 10 * nj + d + 1 ≤ 10 ^ (j + 1) := by rw [Nat.pow_succ]; omega
      have Hdec := Lib.hid hdec
      have Hnx := Lib.hid hnx
      clear hdec hnx h18 hdr hd hnj hb1 hu
      have b1 : (0 : Int) ≤ (j : Int) := by omega
      have b2 : (j : Int).toNat = j := by omega
      have b3 : (j : Int) < (s.size : Int) := by omega
      have b4 : IntKind.i64.wrap ((j : Int) + 1) = (j : Int) + 1 := IntWalk.i64_in _ (by omega)
      have b5 : IntKind.u8.wrap (((d + 48 : Nat) : Int) - 48) = (d : Int) := by rw [show ((d + 48 : Nat) : Int) - 48 = (d : Int) by omega]; exact IntWalk.u8_in _ (by omega)
      have b6 : ¬ (9 : Int) < (d : Int) := by omega
      have b7 : IntKind.i64.wrap ((nj : Int) * 10) = (nj : Int) * 10 := IntWalk.i64_in _ (by omega)
      have b8 : IntKind.i64.wrap ((nj : Int) * 10 + (d : Int)) = (nj : Int) * 10 + (d : Int) := IntWalk.i64_in _ (by omega)
      go_wp2
      exact ⟨⟨j + 1, 10 * nj + d, by omega, by rw [show ((j + 1 : Nat) : Int) = (j : Int) + 1 by omega], by rw [show ((10 * nj + d : Nat) : Int) = (nj : Int) * 10 + (d : Int) by omega], Hdec.out, Hnx.out, True.intro⟩, by simp only [intOf]; omega⟩
    · obtain rfl : j = s.size := by omega
      rw [List.drop_eq_nil_of_le (by rw [sb_length]; exact Nat.le_refl _), decN] at hdec
      have Hdec := Lib.hid hdec
      clear hdec
      go_wp2
      go_ret2
      exact ⟨by rw [Hdec.out]; rfl, HO.out⟩
set_option maxRecDepth 100000 in
set_option maxHeartbeats 800000 in
theorem atoi_any (w : World) (s : ByteArray) (h0 : 0 < s.size) (h19 : s.size < 19) (hd : (sb s).all digC = true) :
    Calls Tryz.prog 243 #[.string s] w fun e w' => e = .returned (.tuple #[.int .i64 (decN (sb s) 0 : Nat), .nilIface]) ∧ Old w w' := by
  have H := Lib.hid (atoi_in w s h0 h19 hd)
  clear h0 h19 hd
  go_enter Tryz.func243, Tryz.ntmps243
  go_wp2_with (go_at_call 251; refine H.out.mono ?_; rintro e w1 ⟨rfl, hO⟩)
  go_ret2
  exact ⟨rfl, hO⟩
set_option maxRecDepth 100000 in
set_option maxHeartbeats 3200000 in
theorem lit_int (w : World) (g : Nat) (src : ByteArray) (r r1 r' : Rdr) (s : Sl) (x : Int) (at_ : Nat) (h : St w g src r s) (ht : r.t = 2) (h0 : lexeme (sb src) r ≠ []) (h18 : (lexeme (sb src) r).length ≤ 18) (hd : (lexeme (sb src) r).all digC = true) (hn : nextN (sb src) r = some r1)
    (hx : nodeN ⟨1, ⟨#[]⟩, 1, (decN (lexeme (sb src) r) 0 : Nat), ⟨#[]⟩, [], []⟩ at_ r1 = some (x, r')) :
    Calls Tryz.prog 236 #[.pointer (some ⟨g, 0, none⟩), iv (at_ : Int)] w (Ex w g src s r' (iv x)) := by
  have hc3 := h.box.c3
  rw [ht] at hc3
  have HS := Lib.hid h
  have HN := Lib.hid hn
  have HL := Lib.hid (fun n => lexeme_st (w.drewN n) g src r s (h.drewN n))
  obtain ⟨h1, h2, h3, h4⟩ := nodeN_turn hx
  generalize lexeme (sb src) r = lx at *
  have HA := Lib.hid (fun W => atoi_any W ⟨lx.toArray⟩ (by rw [← sb_length, sb_mk]; exact List.length_pos_iff.2 h0) (by rw [← sb_length, sb_mk]; omega) (by rw [sb_mk]; exact hd))
  rw [sb_mk] at HA
  generalize decN lx 0 = nv at *
  have HB := Lib.hid h1
  have HT := Lib.hid h2
  generalize hq : r1.tree.nodes.length = q at *
  subst h3
  clear h hn hx h1 h2 ht h0 h18 hd
  unfold iv
  have f1 : (0 : Int) ≤ (q : Int) := by omega
  have f2 : (q : Int).toNat = q := by omega
  have f3 : (q : Int) < (q : Int) + 1 := by omega
  go_enter Tryz.func236, Tryz.ntmps236
  go_wp2
  go_quiet ((go_at_call 165; exact Calls.quiet_of (HL.out _)))
  go_wp2_with (first | (go_at_call 135; refine (next_st _ g src _ _ s (HS.out.drewN _) HN.out).mono ?_; rintro e w1 ⟨rfl, hX⟩; have HX := Lib.hid hX; clear hX) | (go_at_call 201; refine (node_any _ g src _ _ s 4 _ _ none 0 [] HX.out.1 Rd.none_ (fun h0 => absurd h0 (Nat.lt_irrefl 0)) HB.out).mono ?_; rintro e w2 ⟨rfl, s2, hY, hYf⟩; obtain ⟨k, ns, xx, ps, hxn, hns, hLN, hc11⟩ := hY.lastC rfl hq; have d0 : w2.cell? ⟨k, q * 7, none⟩ = _ := (hLN.cell 0 rfl).1; have z0 : w2.frozen? ⟨k, q * 7, none⟩ = false := (hLN.cell 0 rfl).2; have d2 := (hLN.cell 2 rfl).1; have z2 := (hLN.cell 2 rfl).2; have d3 := (hLN.cell 3 rfl).1; have z3 := (hLN.cell 3 rfl).2; have d4 := (hLN.cell 4 rfl).1; have z4 := (hLN.cell 4 rfl).2; have d5 := (hLN.cell 5 rfl).1; have z5 := (hLN.cell 5 rfl).2; have HLN := Lib.hid hLN; have HF := Lib.hid hYf; clear hLN hY hYf; unfold iv) | (go_at_call 243; refine (HA.out _).mono ?_; rintro e w3 ⟨rfl, hO⟩; have HLN3 := Lib.hid (HLN.out.old hO); have d0 : w3.cell? ⟨k, q * 7, none⟩ = _ := (HLN3.out.cell 0 rfl).1; have z0 : w3.frozen? ⟨k, q * 7, none⟩ = false := (HLN3.out.cell 0 rfl).2; have d2 := (HLN3.out.cell 2 rfl).1; have z2 := (HLN3.out.cell 2 rfl).2; have d3 := (HLN3.out.cell 3 rfl).1; have z3 := (HLN3.out.cell 3 rfl).2; have d4 := (HLN3.out.cell 4 rfl).1; have z4 := (HLN3.out.cell 4 rfl).2; have d5 := (HLN3.out.cell 5 rfl).1; have z5 := (HLN3.out.cell 5 rfl).2; clear hO) | fail)
  go_ret
  have HD := Lib.hid ((((((HLN3.out.set_ 0 (.int .i64 1)).set_ 2 (.int .i64 1)).set_ 3 (.int .i64 (nv : Int))).set_ 4 (.string ⟨#[]⟩)).set_ 5 (.slice none 0 0)).lit hns HT.out rfl rfl none 0 (by simp only [ndC, hxn]; rfl))
  exact ⟨rfl, s2, HD.out.1, (((Fr.of_old s ((Kp.refl _ _).drewN _)).trans HX.out.2).trans HF.out).trans HD.out.2⟩
set_option maxRecDepth 100000 in
set_option maxHeartbeats 3200000 in
theorem lit_nothing (w : World) (g : Nat) (src : ByteArray) (r r1 r' : Rdr) (s : Sl) (x : Int) (at_ : Nat) (h : St w g src r s) (ht : r.t = 48) (hn : nextN (sb src) r = some r1)
    (hx : nodeN (bareNd 4 []) at_ r1 = some (x, r')) :
    Calls Tryz.prog 236 #[.pointer (some ⟨g, 0, none⟩), iv (at_ : Int)] w (Ex w g src s r' (iv x)) := by
  have hc3 := h.box.c3
  rw [ht] at hc3
  have HS := Lib.hid h
  have HN := Lib.hid hn
  have HL := Lib.hid (fun n => lexeme_st (w.drewN n) g src r s (h.drewN n))
  obtain ⟨h1, h2, h3, h4⟩ := nodeN_turn hx
  generalize lexeme (sb src) r = lx at *
  have HB := Lib.hid h1
  have HT := Lib.hid h2
  generalize hq : r1.tree.nodes.length = q at *
  subst h3
  clear h hn hx h1 h2 ht
  unfold iv
  have f1 : (0 : Int) ≤ (q : Int) := by omega
  have f2 : (q : Int).toNat = q := by omega
  have f3 : (q : Int) < (q : Int) + 1 := by omega
  go_enter Tryz.func236, Tryz.ntmps236
  go_wp2
  go_quiet ((go_at_call 165; exact Calls.quiet_of (HL.out _)))
  go_wp2_with (first | (go_at_call 135; refine (next_st _ g src _ _ s (HS.out.drewN _) HN.out).mono ?_; rintro e w1 ⟨rfl, hX⟩; have HX := Lib.hid hX; clear hX) | (go_at_call 201; refine (node_any _ g src _ _ s 4 _ _ none 0 [] HX.out.1 Rd.none_ (fun h0 => absurd h0 (Nat.lt_irrefl 0)) HB.out).mono ?_; rintro e w2 ⟨rfl, s2, hY, hYf⟩; obtain ⟨k, ns, xx, ps, hxn, hns, hLN, hc11⟩ := hY.lastC rfl hq; have d0 : w2.cell? ⟨k, q * 7, none⟩ = _ := (hLN.cell 0 rfl).1; have z0 : w2.frozen? ⟨k, q * 7, none⟩ = false := (hLN.cell 0 rfl).2; have d1 := (hLN.cell 1 rfl).1; have z1 := (hLN.cell 1 rfl).2; have HLN := Lib.hid hLN; have HF := Lib.hid hYf; clear hLN hY hYf; unfold iv) | fail)
  go_ret
  have HD := Lib.hid (HLN.out.lit hns HT.out rfl rfl xx.vA xx.vc (by simp only [ndC, hxn]))
  exact ⟨rfl, s2, HD.out.1, (((Fr.of_old s ((Kp.refl _ _).drewN _)).trans HX.out.2).trans HF.out).trans HD.out.2⟩
end Go.Proofs.YtmmjcbbogokmfaaGreatDoor

/- Contract of the reader's literal, any; what the expressions' contracts say together. -/
namespace Go.Proofs.YtmmjcbbogokmfaaGreatDoor
open Go.RowKit

theorem literal_any (w : World) (g : Nat) (src : ByteArray) (r r1 r' : Rdr) (s : Sl) (n : Nd) (x : Int) (at_ : Nat) (h : St w g src r s) (hl : litT r.t = true) (hd : literalNd r.t (lexeme (sb src) r) = some n) (hn : nextN (sb src) r = some r1)
    (hx : nodeN n at_ r1 = some (x, r')) : Calls Tryz.prog 236 #[.pointer (some ⟨g, 0, none⟩), iv (at_ : Int)] w (Ex w g src s r' (iv x)) := by
  have ht := of_decide_eq_true hl
  unfold literalNd at hd
  by_cases h2 : r.t = 2
  · rw [if_pos h2] at hd
    split at hd
    case isFalse => cases hd
    rename_i hi
    injection hd with hd
    subst hd
    obtain ⟨i1, i2, i3⟩ := hi
    exact lit_int w g src r r1 r' s x at_ h h2 i2 i3 (by unfold startsIntB at i1; exact (Bool.and_eq_true _ _ ▸ i1).1) hn hx
  rw [if_neg h2] at hd
  by_cases h46 : r.t = 46 ∨ r.t = 47
  · rw [if_pos h46] at hd
    injection hd with hd
    subst hd
    rcases h46 with e | e
    · rw [e] at hx; exact lit_bool46 w g src r r1 r' s x at_ h e hn hx
    · rw [e] at hx; exact lit_bool47 w g src r r1 r' s x at_ h e hn hx
  rw [if_neg h46] at hd
  by_cases h3 : r.t = 3
  · rw [if_pos h3] at hd; cases hd
  rw [if_neg h3] at hd
  by_cases h1 : r.t = 1
  · rw [if_pos h1] at hd
    injection hd with hd
    subst hd
    exact lit_name w g src r r1 r' s x at_ h h1 hn hx
  rw [if_neg h1] at hd
  injection hd with hd
  subst hd
  exact lit_nothing w g src r r1 r' s x at_ h (by omega) hn hx
/-- a node of kids in a row just laid out -/
theorem node_kids (w : World) (g : Nat) (src : ByteArray) (r r' : Rdr) (s : Sl) (op x : Int) (at_ : Nat) (kids : List Int) (h : St w g src r s) (hn : nodeN (bareNd op kids) at_ r = some (x, r')) :
    Calls Tryz.prog 201 #[.pointer (some ⟨g, 0, none⟩), iv op, iv (at_ : Int), .slice (some ⟨w.heap.size, 0, none⟩) kids.length kids.length] (w.alloc (.cells (kids.map iv).toArray 3)) (Ex w g src s r' (iv x)) := by
  have ho := (Kp.refl NoX w).alloc (.cells (kids.map iv).toArray 3)
  have hr := Rd.row_new w 3 1 kids.length (kids.map iv) (by simp)
  refine (node_any _ g src r r' s op x at_ _ kids.length kids (h.old ho) hr (fun _ ad e hx => ?_) hn).mono (fun _ _ hX => Ex.of (Fr.of_old s ho) hX)
  injection e with e
  subst e
  have : w.heap.size < w.heap.size := hx.elim (fun e => (h.ox8 _ e).2) (fun e => h.zlt _ e)
  exact Nat.lt_irrefl _ this
/-- a row of kids is told -/
def ExL (w : World) (g : Nat) (src : ByteArray) (s : Sl) (r' : Rdr) (kids : List Int) (e : Ending) (w' : World) : Prop :=
  ∃ A c s', e = .returned (.slice A kids.length c) ∧ Rd w' 1 A kids.length (kids.map iv) ∧ Av (AX g s') kids.length A ∧ St w' g src r' s' ∧ Fr g s s' w w'
def lvls : List Nat := [43, 44, 45, 18, 20, 19]
/-- the expressions' contracts, at one fuel -/
structure ExAll (src : ByteArray) (f : Nat) : Prop where
  ex : ∀ (w : World) (g : Nat) (r : Rdr) (s : Sl) (k : Int × List Int × Rdr), St w g src r s → exN (sb src) f .expr r = some k → Calls Tryz.prog 172 #[.pointer (some ⟨g, 0, none⟩)] w (Ex w g src s k.2.2 (iv k.1))
  row : ∀ (l : Nat), l ∈ lvls → ∀ (w : World) (g : Nat) (r : Rdr) (s : Sl) (k : Int × List Int × Rdr), St w g src r s → exN (sb src) f (.row l) r = some k → Calls Tryz.prog 200 #[.pointer (some ⟨g, 0, none⟩), .int .u8 (l : Int)] w (Ex w g src s k.2.2 (iv k.1))
  two : ∀ (op root : Int) (l : Nat), l ∈ lvls → ∀ (w : World) (g : Nat) (r : Rdr) (s : Sl) (k : Int × List Int × Rdr), St w g src r s → exN (sb src) f (.two op root l) r = some k → Calls Tryz.prog 227 #[.pointer (some ⟨g, 0, none⟩), iv op, iv root, .int .u8 (l : Int)] w (Ex w g src s k.2.2 (iv k.1))
  un : ∀ (w : World) (g : Nat) (r : Rdr) (s : Sl) (k : Int × List Int × Rdr), St w g src r s → exN (sb src) f .unary r = some k → Calls Tryz.prog 228 #[.pointer (some ⟨g, 0, none⟩)] w (Ex w g src s k.2.2 (iv k.1))
  ls : ∀ (last : Nat) (w : World) (g : Nat) (r : Rdr) (s : Sl) (k : Int × List Int × Rdr), St w g src r s → exN (sb src) f (.list last []) r = some k → Calls Tryz.prog 237 #[.pointer (some ⟨g, 0, none⟩), .int .u8 (last : Int)] w (ExL w g src s k.2.2 k.2.1)
set_option maxRecDepth 100000 in
set_option maxHeartbeats 1600000 in
theorem ex_step (src : ByteArray) (f : Nat) (IH : ExAll src f) (w : World) (g : Nat) (r : Rdr) (s : Sl) (k : Int × List Int × Rdr) (h : St w g src r s) (hk : exN (sb src) (f + 1) .expr r = some k) :
    Calls Tryz.prog 172 #[.pointer (some ⟨g, 0, none⟩)] w (Ex w g src s k.2.2 (iv k.1)) := by
  rw [exN] at hk
  have hc2 := h.box.c2
  have hc3 := h.box.c3
  have HS := Lib.hid h
  have HI := Lib.hid IH
  by_cases ht : r.t = 40
  · rw [if_neg (fun e => e ht)] at hk
    obtain ⟨r1, hn1, hk⟩ := Option.bind_eq_some_iff.1 hk
    obtain ⟨c, hc, hk⟩ := Option.bind_eq_some_iff.1 hk
    obtain ⟨r2, hn2, hk⟩ := Option.bind_eq_some_iff.1 hk
    obtain ⟨a, ha, hk⟩ := Option.bind_eq_some_iff.1 hk
    obtain ⟨r3, hn3, hk⟩ := Option.bind_eq_some_iff.1 hk
    obtain ⟨b, hb, hk⟩ := Option.bind_eq_some_iff.1 hk
    obtain ⟨x, hx, hk⟩ := Option.map_eq_some_iff.1 hk
    subst hk
    obtain ⟨x, r'⟩ := x
    have N1 := Lib.hid hn1
    have N2 := Lib.hid hn2
    have N3 := Lib.hid hn3
    have E1 := Lib.hid hc
    have E2 := Lib.hid ha
    have E3 := Lib.hid hb
    have NX := Lib.hid hx
    rw [ht] at hc3
    clear h IH hn1 hc hn2 ha hn3 hb hx ht
    simp only
    go_enter Tryz.func172, Tryz.ntmps172
    go_wp2_with (first | (go_at_call 135; first | (refine (next_st _ g src _ _ s HS.out N1.out).mono ?_; rintro e w1 ⟨rfl, hX⟩; have H1 := Lib.hid hX; clear hX) | (refine (next_st _ g src _ _ _ H2.out.1 N2.out).mono ?_; rintro e w3 ⟨rfl, hX⟩; have H3 := Lib.hid hX; clear hX) | (refine (next_st _ g src _ _ _ H4.out.1 N3.out).mono ?_; rintro e w5 ⟨rfl, hX⟩; have H5 := Lib.hid hX; clear hX)) | (go_at_call 172; first | (refine (HI.out.ex _ g _ _ _ H1.out.1 E1.out).mono ?_; rintro e w2 ⟨rfl, s2, hX⟩; have H2 := Lib.hid hX; clear hX; unfold iv) | (refine (HI.out.ex _ g _ _ _ H3.out.1 E2.out).mono ?_; rintro e w4 ⟨rfl, s4, hX⟩; have H4 := Lib.hid hX; clear hX; unfold iv) | (refine (HI.out.ex _ g _ _ _ H5.out.1 E3.out).mono ?_; rintro e w6 ⟨rfl, s6, hX⟩; have H6 := Lib.hid hX; clear hX; unfold iv)) | (go_at_call 201; refine (node_kids _ g src _ _ _ 23 _ _ [c.1, a.1, b.1] H6.out.1 NX.out).mono ?_; rintro e w7 ⟨rfl, s7, hX⟩; have H7 := Lib.hid hX; clear hX; unfold iv) | fail)
    go_ret
    exact ⟨rfl, s7, H7.out.1, (((((H1.out.2.trans H2.out.2).trans H3.out.2).trans H4.out.2).trans H5.out.2).trans H6.out.2).trans H7.out.2⟩
  · rw [if_pos ht] at hk
    have E1 := Lib.hid hk
    have e40 : ((r.t : Int) != 40) = true := by rw [bne, beq_eq_false_iff_ne.2 (show (r.t : Int) ≠ 40 by omega)]; rfl
    clear h hk ht
    go_enter Tryz.func172, Tryz.ntmps172
    go_wp2_with (first | (go_at_call 200; refine (HI.out.row 43 (by decide) _ g _ _ _ HS.out E1.out).mono ?_; rintro e w2 ⟨rfl, s2, hX⟩; have H2 := Lib.hid hX; clear hX; unfold iv) | fail)
    go_ret
    exact ⟨rfl, s2, H2.out⟩
end Go.Proofs.YtmmjcbbogokmfaaGreatDoor

/- Contracts of the reader's two, list, call; unary's ways. -/
namespace Go.Proofs.YtmmjcbbogokmfaaGreatDoor
open Go.RowKit

set_option maxRecDepth 100000 in
set_option maxHeartbeats 1600000 in
theorem two_step (src : ByteArray) (f : Nat) (IH : ExAll src f) (op root : Int) (l : Nat) (hl : l ∈ lvls) (w : World) (g : Nat) (r : Rdr) (s : Sl) (k : Int × List Int × Rdr) (h : St w g src r s) (hk : exN (sb src) (f + 1) (.two op root l) r = some k) :
    Calls Tryz.prog 227 #[.pointer (some ⟨g, 0, none⟩), iv op, iv root, .int .u8 (l : Int)] w (Ex w g src s k.2.2 (iv k.1)) := by
  rw [exN] at hk
  have hc2 := h.box.c2
  have HS := Lib.hid h
  have HI := Lib.hid IH
  have HL := Lib.hid hl
  obtain ⟨r1, hn1, hk⟩ := Option.bind_eq_some_iff.1 hk
  obtain ⟨q, hq, hk⟩ := Option.bind_eq_some_iff.1 hk
  obtain ⟨x, hx, hk⟩ := Option.map_eq_some_iff.1 hk
  subst hk
  obtain ⟨x, r'⟩ := x
  have N1 := Lib.hid hn1
  have E1 := Lib.hid hq
  have NX := Lib.hid hx
  clear h IH hn1 hq hx hl
  unfold iv
  go_enter Tryz.func227, Tryz.ntmps227
  go_wp2_with (first | (go_at_call 135; refine (next_st _ g src _ _ s HS.out N1.out).mono ?_; rintro e w1 ⟨rfl, hX⟩; have H1 := Lib.hid hX; clear hX) | (go_at_call 200; refine (HI.out.row _ HL.out _ g _ _ _ H1.out.1 E1.out).mono ?_; rintro e w2 ⟨rfl, s2, hX⟩; have H2 := Lib.hid hX; clear hX; unfold iv) | (go_at_call 201; refine (node_kids _ g src _ _ _ op _ _ [root, q.1] H2.out.1 NX.out).mono ?_; rintro e w3 ⟨rfl, s3, hX⟩; have H3 := Lib.hid hX; clear hX; unfold iv) | fail)
  go_ret
  exact ⟨rfl, s3, H3.out.1, (H1.out.2.trans H2.out.2).trans H3.out.2⟩
theorem call49 (w : World) : Calls Tryz.prog 238 #[.int .u8 49] w fun e w' => e = .returned (iv (callN 49)) ∧ w = w' := by
  go_enter Tryz.func238, Tryz.ntmps238
  go_wp2
  go_ret
  exact ⟨rfl, rfl⟩
theorem call52 (w : World) : Calls Tryz.prog 238 #[.int .u8 52] w fun e w' => e = .returned (iv (callN 52)) ∧ w = w' := by
  go_enter Tryz.func238, Tryz.ntmps238
  go_wp2
  go_ret
  exact ⟨rfl, rfl⟩
theorem call31 (w : World) : Calls Tryz.prog 238 #[.int .u8 31] w fun e w' => e = .returned (iv (callN 31)) ∧ w = w' := by
  go_enter Tryz.func238, Tryz.ntmps238
  go_wp2
  go_ret
  exact ⟨rfl, rfl⟩
theorem call50 (w : World) : Calls Tryz.prog 238 #[.int .u8 50] w fun e w' => e = .returned (iv (callN 50)) ∧ w = w' := by
  go_enter Tryz.func238, Tryz.ntmps238
  go_wp2
  go_ret
  exact ⟨rfl, rfl⟩
theorem call51 (w : World) : Calls Tryz.prog 238 #[.int .u8 51] w fun e w' => e = .returned (iv (callN 51)) ∧ w = w' := by
  go_enter Tryz.func238, Tryz.ntmps238
  go_wp2
  go_ret
  exact ⟨rfl, rfl⟩
theorem call53 (w : World) : Calls Tryz.prog 238 #[.int .u8 53] w fun e w' => e = .returned (iv (callN 53)) ∧ w = w' := by
  go_enter Tryz.func238, Tryz.ntmps238
  go_wp2
  go_ret
  exact ⟨rfl, rfl⟩
theorem call54 (w : World) : Calls Tryz.prog 238 #[.int .u8 54] w fun e w' => e = .returned (iv (callN 54)) ∧ w = w' := by
  go_enter Tryz.func238, Tryz.ntmps238
  go_wp2
  go_ret
  exact ⟨rfl, rfl⟩
theorem call55 (w : World) : Calls Tryz.prog 238 #[.int .u8 55] w fun e w' => e = .returned (iv (callN 55)) ∧ w = w' := by
  go_enter Tryz.func238, Tryz.ntmps238
  go_wp2
  go_ret
  exact ⟨rfl, rfl⟩
theorem call56 (w : World) : Calls Tryz.prog 238 #[.int .u8 56] w fun e w' => e = .returned (iv (callN 56)) ∧ w = w' := by
  go_enter Tryz.func238, Tryz.ntmps238
  go_wp2
  go_ret
  exact ⟨rfl, rfl⟩
theorem call57 (w : World) : Calls Tryz.prog 238 #[.int .u8 57] w fun e w' => e = .returned (iv (callN 57)) ∧ w = w' := by
  go_enter Tryz.func238, Tryz.ntmps238
  go_wp2
  go_ret
  exact ⟨rfl, rfl⟩
/-- what is kept for a row of one's own, besides -/
def zA (s : Sl) (A : Option Addr) : Nat → Prop := fun b => s.z b ∨ A.map (·.block) = some b
/-- kids are read, one behind the other -/
structure LsSt (src : ByteArray) (w : World) (g : Nat) (last : Nat) (s : Sl) (k : Int × List Int × Rdr) (f : Nat) (A : Option Addr) (c : Nat) (kids : List Int) (r : Rdr) (s' : Sl) (W : World) : Prop where
  st : St W g src r s'
  z : s'.z = zA s A
  kp : Kp (OX g s) w W
  ox : ∀ b, b < w.heap.size → OX g s' b → OX g s b
  own : W.ownsRow w.heap.size 3 1 (.slice A kids.length c) kids.length (kids.map iv)
  ex : exN (sb src) f (.list last kids) r = some k
theorem LsSt.start {src : ByteArray} {w : World} {g last : Nat} {s : Sl} {k : Int × List Int × Rdr} {f : Nat} {r : Rdr} (h : St w g src r s) (he : exN (sb src) f (.list last []) r = some k) : LsSt src w g last s k f none 0 [] r { s with z := zA s none } w :=
  ⟨h.zgrow (Kp.refl NoX w) (fun _ e => e.elim) _ (fun b hb => hb.elim (fun e => ⟨.inl e, h.zlt b e⟩) (fun e => by cases e)), rfl, Kp.refl _ _, fun _ _ e => e, World.ownsRow_nil _ _ _ _, he⟩
theorem LsSt.grow {src : ByteArray} {w W W1 W2 W3 : World} {g last : Nat} {s s' : Sl} {k : Int × List Int × Rdr} {f f' : Nat} {A A' : Option Addr} {c c' : Nat} {kids : List Int} {r r1 : Rdr} {x : Int} {s1 : Sl} (h : LsSt src w g last s k f A c kids r s' W)
    (h1 : St W1 g src r1 s1) (f1 : Fr g s' s1 W W1) (he : exN (sb src) f' (.list last (kids ++ [x])) r1 = some k) (ho : Old W1 W2) (hg : W2.grownBy W3 (A.map (·.block))) (ha : A'.map (·.block) = A.map (·.block) ∨ A'.map (·.block) = some W2.heap.size)
    (hown : W3.ownsRow w.heap.size 3 1 (.slice A' (kids.length + 1) c') (kids.length + 1) (kids.map iv ++ [iv x])) : LsSt src w g last s k f' A' c' (kids ++ [x]) r1 { s1 with z := zA s A' } W3 := by
  have hk2 : Kp (fun b => A.map (·.block) = some b) W1 W3 := Kp.grown (ho.mono (fun _ _ e => e.elim)) hg (fun _ e _ => e)
  have hz1 : s1.z = zA s A := f1.z.trans h.z
  have hw : w.heap.size ≤ W1.heap.size := Nat.le_trans h.kp.size f1.kp.size
  refine ⟨h1.zgrow hk2 (fun b e => by rw [hz1]; exact .inr e) _ (fun b hb => ?_), rfl, (h.kp.trans f1.kp h.ox).trans hk2 (fun b hb e => ?_), fun b hb e => h.ox b hb (f1.own b (Nat.lt_of_lt_of_le hb h.kp.size) e), by rw [List.length_append, List.map_append]; exact hown, he⟩
  · rcases hb with e | e
    · have e2 : s1.z b := by rw [hz1]; exact .inl e
      exact ⟨.inl e2, Nat.lt_of_lt_of_le (h1.zlt b e2) hk2.size⟩
    · refine ⟨?_, (own_ge hown e).2⟩
      rcases ha with ha | ha
      · left; rw [hz1]; right; rw [← ha]; exact e
      · right; rw [ha] at e; injection e with e; rw [← e]; exact ho.size
  · have := (own_ge h.own e).1
    omega
theorem LsSt.done {src : ByteArray} {w W W' : World} {g last : Nat} {s s' : Sl} {k : Int × List Int × Rdr} {f : Nat} {A : Option Addr} {c : Nat} {kids : List Int} {r r1 : Rdr} (h : LsSt src w g last s k f A c kids r s' W) (h0 : ∀ b, s.z b → b < w.heap.size)
    (h1 : St W' g src r1 s') (f1 : Fr g s' s' W W') : ExL w g src s r1 kids (.returned (.slice A kids.length c)) W' := by
  have ho := own_kp h.own f1.kp (fun b e hx => h.st.zno b hx (by rw [h.z]; right; rw [← ownBlock_slice]; exact e))
  have hw : w.heap.size ≤ W'.heap.size := Nat.le_trans h.kp.size f1.kp.size
  refine ⟨A, c, { s' with z := s.z }, rfl, Rd.of_own ho, fun hn ad ea hx => ?_, h1.zgrow (Kp.refl NoX W') (fun _ e => e.elim) _ (fun b e => ⟨.inl (by rw [h.z]; exact .inl e), Nat.lt_of_lt_of_le (h0 b e) hw⟩), ⟨h.kp.trans f1.kp h.ox, fun b hb e => h.ox b hb e, rfl⟩⟩
  have hb : A.map (·.block) = some ad.block := by rw [ea]; rfl
  rcases hx with hx | hx
  · exact h.st.zno _ hx (by rw [h.z]; exact .inr hb)
  · have := (own_ge h.own hb).1
    have := h0 _ hx
    omega
def LsRel (src : ByteArray) (w : World) (g : Nat) (last : Nat) (s : Sl) (k : Int × List Int × Rdr) (F f : Nat) (kv : Value) (W : World) : Prop := f ≤ F ∧ ∃ A c kids r' s', kv = .slice A kids.length c ∧ LsSt src w g last s k f A c kids r' s' W
set_option maxRecDepth 100000 in
set_option maxHeartbeats 1600000 in
theorem list_step (src : ByteArray) (f : Nat) (IH : ∀ m, m ≤ f → ExAll src m) (last : Nat) (w : World) (g : Nat) (r : Rdr) (s : Sl) (k : Int × List Int × Rdr) (h : St w g src r s) (hk : exN (sb src) (f + 1) (.list last []) r = some k) :
    Calls Tryz.prog 237 #[.pointer (some ⟨g, 0, none⟩), .int .u8 (last : Int)] w (ExL w g src s k.2.2 k.2.1) := by
  have H0 := Lib.hid (show LsRel src w g last s k (f + 1) (f + 1) (.slice none 0 0) w from ⟨Nat.le_refl _, none, 0, [], r, _, rfl, LsSt.start h hk⟩)
  have HI := Lib.hid IH
  have HZ := Lib.hid h.zlt
  obtain ⟨i1, hj, hy0, hy1, hy2⟩ := info_parts Tryz.infoInt
  clear h hk IH
  go_enter Tryz.func237, Tryz.ntmps237
  go_wp2
  go_loopw [5] (fun kv wr => ∃ n, LsRel src w g last s k (f + 1) n kv wr) (fun kv wr => least (fun n => LsRel src w g last s k (f + 1) n kv wr))
  case atStart => exact ⟨_, H0.out⟩
  case round =>
    clear H0
    obtain ⟨n, ⟨hn, A, c, kids, r', s', rfl, hst⟩, hmin⟩ := least_of hrel
    have hc3 := hst.st.box.c3
    have Hst := Lib.hid hst
    have Hmin := Lib.hid hmin
    cases n with
    | zero => exact absurd hst.ex (by simp [exN])
    | succ m =>
      have hex := hst.ex
      rw [exN] at hex
      by_cases ht : r'.t = last
      · rw [if_pos ht] at hex
        obtain ⟨r1, hn1, he⟩ := Option.bind_eq_some_iff.1 hex
        injection he with he
        have N1 := Lib.hid hn1
        have He := Lib.hid he
        have e1 : ((r'.t : Int) != (last : Int)) = false := by rw [bne, beq_iff_eq.2 (show (r'.t : Int) = (last : Int) by omega)]; rfl
        clear hst hmin hrel hex hn1 he ht
        go_wp2_with (first | (go_at_call 135; refine (next_st _ g src _ _ _ Hst.out.st N1.out).mono ?_; rintro e w1 ⟨rfl, hX⟩; have H1 := Lib.hid hX; clear hX) | fail)
        go_ret
        rw [← He.out]
        exact Hst.out.done HZ.out H1.out.1 H1.out.2
      · rw [if_neg ht] at hex
        split at hex
        case isFalse => cases hex
        rename_i hlt
        obtain ⟨⟨b, r2⟩, hk2, hex⟩ := Option.bind_eq_some_iff.1 hex
        obtain ⟨q, hq, hex⟩ := Option.bind_eq_some_iff.1 hex
        have K1 := Lib.hid hk2
        have E1 := Lib.hid hq
        have EX := Lib.hid hex
        have HIm := Lib.hid (HI.out m (by omega))
        have H63 := Lib.hid (show kids.length + 1 ≤ maxLen by unfold maxLen; omega)
        have H47 := Lib.hid (show (kids.length + 1) * 8 ≤ 140737488355328 by omega)
        have e1 : ((r'.t : Int) != (last : Int)) = true := by rw [bne, beq_eq_false_iff_ne.2 (show (r'.t : Int) ≠ (last : Int) by omega)]; rfl
        clear hst hmin hrel hex hk2 hq ht hlt
        go_wp2_with (first | (go_at_call 167; refine (skip_any _ g src _ _ _ 8 _ Hst.out.st K1.out).mono ?_; rintro e w1 ⟨rfl, hX⟩; have H1 := Lib.hid hX; clear hX) | (go_at_call 172; refine (HIm.out.ex _ g _ _ _ H1.out.1 E1.out).mono ?_; rintro e w2 ⟨rfl, s2, hX⟩; have H2 := Lib.hid hX; clear hX; unfold iv) | (at_builtin; refine wpList_append_any _ rfl (.tmp 14) (.tmp 17) 27 rfl w.heap.size 3 i1 _ 1 8 Tryz.underlying27 hj hy0 hy1 hy2 rfl (by decide) (.slice A kids.length c) kids.length (kids.map iv) rfl (own_kp (own_kp (own_kp Hst.out.own H1.out.2.kp (fun b e hx => Hst.out.st.zno b hx (by rw [Hst.out.z]; right; rw [← ownBlock_slice]; exact e))) H2.out.2.kp (fun b e hx => H1.out.1.zno b hx (by rw [Hst.out.z]; right; rw [← ownBlock_slice]; exact e))) ((Kp.refl NoX _).alloc _) (fun _ _ e => e)) _ 1 1 [iv q.1] rfl (Rd.one_new _ _ _) (one_value _ rfl) H63.out H47.out (Nat.le_trans (Nat.le_trans (Nat.le_trans Hst.out.kp.size H1.out.2.kp.size) H2.out.2.kp.size) ((Kp.refl NoX _).alloc _).size) ?_; intro A1 c1 w3 hown hgrow hat; rw [ownBlock_slice] at hgrow hat; have HG := Lib.hid (Hst.out.grow H2.out.1 (H1.out.2.trans H2.out.2) EX.out ((Kp.refl NoX _).alloc _) hgrow hat hown); clear hown hgrow hat) | fail)
        have HL : LsRel src w g last s k (f + 1) m (.slice A1 (kids.length + 1) c1) w3 := ⟨by omega, A1, c1, kids ++ [q.1], _, _, by rw [List.length_append]; rfl, HG.out⟩
        exact ⟨⟨m, HL⟩, by rw [Hmin.out]; exact least_lt HL (Nat.lt_succ_self m)⟩
end Go.Proofs.YtmmjcbbogokmfaaGreatDoor
