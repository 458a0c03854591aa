import Derived.Test.YtnaolhjbapgjgaaMg23
/- Contract of docketref14.TakeValue: the other kinds; all. -/
namespace Go.Proofs.Ytnaolhjbapgjgaa
open Go.RowKit

theorem textAt_no (b : List UInt8) (m : Int) (p : Nat) (h : (textAt b m p).2.2 ≠ 0) : (textAt b m p).1 = [] := by
  revert h
  unfold textAt
  split
  · intro _; rfl
  split
  · intro _; rfl
  split
  · intro _; rfl
  · intro h; exact absurd rfl h
theorem textsN_few (b : List UInt8) : (textsN b 64 1024 ⟨0, 0⟩).1.length ≤ 1000000000000 := by
  simp only [textsN]
  split
  · simp
  split
  · simp
  split
  · simp
  split
  · simp
  · have h1 := textsGo_len b 1024 (ofBe ((b.drop 0).take 2)) (0 + 2) []
    have h2 := ofBe_take_lt (b.drop 0) 2
    simp only [List.length_nil] at h1
    simp only
    omega

set_option maxRecDepth 100000 in
set_option maxHeartbeats 3200000 in
theorem rtv_2 (w : World) (bb o c : Nat) (b : List UInt8) (hr : Rd w 1 (some ⟨bb, o, none⟩) b.length (b.map bv)) (hc : b.length ≤ c) (hlen : b.length ≤ 100000000000) (hb : 0 < b.length) (hk : (b.getD 0 0).toNat = 2) :
    Calls Try.prog 62 #[.slice (some ⟨bb, o, none⟩) b.length c] w (RtvPost w (takeVal b ⟨0, 0⟩)) := by
  have HT := Lib.hid (show takeVal b ⟨0, 0⟩ = lookV (sh 1 (kindV (b.drop 1) 2 ⟨0, 0⟩)) by
    rw [takeVal, tkN_first b hb]
    simp only [hk]
    have := kindV_sh b 1 hb 2 0 0
    rw [Nat.add_zero] at this
    rw [this])
  generalize takeVal b ⟨0, 0⟩ = TV at HT ⊢
  have hcell : w.cell? ⟨bb, o, none⟩ = some (.int .u8 2) := by
    obtain ⟨b', o', e, hc0⟩ := hr.byte (k := 0) hb
    injection e with e
    injection e with e1 e2
    subst e1 e2
    rw [hk, Nat.add_zero] at hc0
    exact hc0
  obtain ⟨m, hm⟩ : ∃ m, b.length = m + 1 := ⟨b.length - 1, by omega⟩
  have hcut := hr.cut (k := 1) (cap := c) hb hc
  rw [Nat.mul_one, ← List.map_drop] at hcut
  have hsl := fun W => cut_l (P := Try.prog) Try.elemBytes Try.sizeBytes (some ⟨bb, o, none⟩) b.length c 1 .i64 1 rfl (by omega) W
  rw [Nat.mul_one] at hsl
  generalize (if c = 1 then some (⟨bb, o, none⟩ : Addr) else (some (⟨bb, o, none⟩ : Addr)).map (·.add 1)) = AA at hcut hsl
  have hdl : b.length - 1 = (b.drop 1).length := by rw [List.length_drop]
  rw [hm, Nat.add_sub_cancel] at hcut hsl hdl
  rw [hm]
  have Hcut := Lib.hid hcut
  have Hdl := Lib.hid hdl
  have Hlen := Lib.hid (show m ≤ 100000000000 by omega)
  have Hc1 := Lib.hid (show m ≤ c - 1 by omega)
  generalize b.drop 1 = l at *
  have hbbl := cell_lt hcell
  clear hcut hdl hlen hk hr hb hm hc
  have hst0 : TvSt w w.heap.size (w.heap.size + 1) [.int .i64 2, .int .i64 0, .string ⟨#[]⟩, .slice none 0 0] [] none 0 ((w.alloc (.cells ([.int .i64 0, .int .i64 0, .string ⟨#[]⟩, .slice none 0 0] : List Value).toArray 25)).alloc (.cells ([.int .i64 2, .int .i64 0, .string ⟨#[]⟩, .slice none 0 0] : List Value).toArray 25)) := by
    have h1 := Blk.new (w.alloc (.cells ([.int .i64 0, .int .i64 0, .string ⟨#[]⟩, .slice none 0 0] : List Value).toArray 25)) 25 ([.int .i64 2, .int .i64 0, .string ⟨#[]⟩, .slice none 0 0] : List Value).toArray
    rw [show (w.alloc (.cells ([.int .i64 0, .int .i64 0, .string ⟨#[]⟩, .slice none 0 0] : List Value).toArray 25)).heap.size = w.heap.size + 1 by simp] at h1
    exact ⟨h1, (Blk.new w _ _).alloc _, Rd.none_, (fun h => absurd h (by simp)), Nat.le_refl _, Nat.zero_le _, ((Kp.refl NoX w).alloc _).alloc _, rfl, rfl⟩
  have Hst := Lib.hid hst0
  clear hst0
  have HK0 := Lib.hid (show kindV l 2 ⟨0, 0⟩ = (⟨2, if (flagN l ⟨0, 0⟩).1 = true then 1 else 0, ByteArray.empty, []⟩, (flagN l ⟨0, 0⟩).2) by simp [kindV])
  have Hq0 := Lib.hid (show (flagN l ⟨0, 0⟩).2.at_ ≤ 100 by simp only [flagN]; split <;> (try split) <;> simp)
  have HC := Lib.hid (fun W (h : Old w W) => rtf_any W AA (c - 1) m l (Hcut.out.old h) Hdl.out)
  generalize flagN l ⟨0, 0⟩ = TK at HK0 HC Hq0
  obtain ⟨u, q, y⟩ := TK
  simp only at HK0 HC Hq0
  go_enter Try.func62, Try.ntmps62
  go_wp2_with fail
  generalize (w.alloc _).alloc _ = W0 at *
  refine (HC.out W0 Hst.out.old).mono ?_
  rintro e w3 ⟨rfl, rfl⟩
  have Hq := Hq0
  have c0 := Hst.out.boxV.at_ 0 (v := .int .i64 2) rfl
  have c1 := Hst.out.boxV.at_ 1 (v := .int .i64 0) rfl
  have z1 := Hst.out.boxV.frozen 1
  have Hn := Lib.hid (show y = 0 → (q : Int) = (q : Int) from fun _ => rfl)
  cases u
  · have HK : Hid (kindV l 2 ⟨0, 0⟩ = (⟨2, 0, ⟨#[]⟩, []⟩, ⟨q, y⟩)) := HK0
    go_upto_region 19 with (fail)
    clear c0 c1 z1 HC hsl hcell
    by_cases hy : y = 0
    · subst hy
      have HT2 := Lib.hid (show TV = if rightE ⟨2, 0, ⟨#[]⟩, []⟩ ≠ 0 then (zeroVal, ⟨1 + q, 8⟩) else (⟨2, 0, ⟨#[]⟩, []⟩, ⟨1 + q, 0⟩) by
        rw [HT.out, HK.out]
        exact lookV_ok _ q)
      have eq1 : IntKind.i64.wrap (1 + (q : Int)) = 1 + (q : Int) := IntWalk.i64_in _ (by have := Hq.out; omega)
      have Hz1 := Lib.hid (rright_any ⟨2, 0, ⟨#[]⟩, []⟩ none 0 _ Hst.out.rd Hst.out.big)
      go_wp2_with (first | refine wpList_load_mid rfl 25 (.tmp 5) rfl (w.heap.size + 1) 0 rfl [.int .i64 2, .int .i64 0, .string ⟨#[]⟩, .slice none 0 0] _ Hst.out.boxV.range Try.underlying25 rfl Try.sizeValue ?_ | fail)
      refine Hz1.out.mono ?_
      rintro e w5 ⟨rfl, ho5⟩
      have Hst := Lib.hid (Hst.out.still ho5)
      clear ho5 Hz1
      by_cases hR : rightE ⟨2, 0, ⟨#[]⟩, []⟩ = 0
      · rw [hR]
        have HT3 := Lib.hid (HT2.out.trans (if_neg (fun h => h hR)))
        have Hz := Lib.hid (Hst.out.told [.int .i64 2, .int .i64 0, .string ⟨#[]⟩, .slice none 0 0] rfl)
        go_wp2_with (first | refine wpList_load_mid rfl 25 (.tmp 5) rfl (w.heap.size + 1) 0 rfl [.int .i64 2, .int .i64 0, .string ⟨#[]⟩, .slice none 0 0] _ Hst.out.boxV.range Try.underlying25 rfl Try.sizeValue ?_ | refine wpList_store_mid rfl 25 (.tmp 2) (.tmp 81) rfl w.heap.size 0 _ rfl rfl (Hst.out.boxR.there 0 4 (by decide)) Try.sizeValue (all_one rfl) ?_ | fail)
        refine ret_cell_tmp2 (g := w.heap.size) (cs := List.toArray [.int .i64 2, .int .i64 0, .string ⟨#[]⟩, .slice none 0 0]) rfl rfl Hz.out.1 Try.underlying25 rfl (by kernel_rfl) rfl ?_
        rw [HT3.out]
        exact ⟨none, 0, 1 + (q : Int), 0, rfl, (fun _ => ⟨rfl, by simp⟩), (fun h => absurd rfl h), Hz.out.2.2, (fun hn ad e h => Hst.out.av hn ad e (Nat.lt_of_lt_of_le h (Nat.le_add_right _ _))), Hst.out.cap, Hz.out.2.1⟩
      · have hRb : (rightE ⟨2, 0, ⟨#[]⟩, []⟩ != 0) = true := bne_iff_ne.2 hR
        have HT3 := Lib.hid (HT2.out.trans (if_pos hR))
        have Hz := Lib.hid (Hst.out.told zero4 rfl)
        generalize rightE ⟨2, 0, ⟨#[]⟩, []⟩ = R at *
        go_wp2_with (first | refine wpList_store_mid rfl 25 (.tmp 2) (.tmp 78) rfl w.heap.size 0 _ rfl rfl (Hst.out.boxR.there 0 4 (by decide)) Try.sizeValue (all_one rfl) ?_ | fail)
        refine ret_cell_tmp2 (g := w.heap.size) (cs := zero4.toArray) rfl rfl Hz.out.1 Try.underlying25 rfl (by kernel_rfl) rfl ?_
        rw [HT3.out]
        exact .bad _ 8 rfl (by simp) (by decide) Hz.out.2.1
    · have hyb : (y != 0) = true := bne_iff_ne.2 hy
      have HT2 := Lib.hid (show TV = (zeroVal, ⟨1 + q, y⟩) by
        rw [HT.out, HK.out]
        exact lookV_no _ q y hy)
      have Hy := Lib.hid hy
      have Hz := Lib.hid (Hst.out.told zero4 rfl)
      clear hy
      go_wp2_with (first | refine wpList_store_mid rfl 25 (.tmp 2) (.tmp 73) rfl w.heap.size 0 _ rfl rfl (Hst.out.boxR.there 0 4 (by decide)) Try.sizeValue (all_one rfl) ?_ | fail)
      refine ret_cell_tmp2 (g := w.heap.size) (cs := zero4.toArray) rfl rfl Hz.out.1 Try.underlying25 rfl (by kernel_rfl) rfl ?_
      rw [HT2.out]
      exact .bad _ y rfl Hy.out Hy.out Hz.out.2.1
  · have HK : Hid (kindV l 2 ⟨0, 0⟩ = (⟨2, 1, ⟨#[]⟩, []⟩, ⟨q, y⟩)) := HK0
    go_upto_region 19 with (fail)
    have Hst := Lib.hid (show TvSt w w.heap.size (w.heap.size + 1) [.int .i64 2, .int .i64 1, .string ⟨#[]⟩, .slice none 0 0] [] none 0 (W0.setCell ⟨w.heap.size + 1, 1, none⟩ (.int .i64 1)) from Hst.out.set 1 (.int .i64 1))
    clear c0 c1 z1 HC hsl hcell
    generalize W0.setCell _ _ = W1 at *
    by_cases hy : y = 0
    · subst hy
      have HT2 := Lib.hid (show TV = if rightE ⟨2, 1, ⟨#[]⟩, []⟩ ≠ 0 then (zeroVal, ⟨1 + q, 8⟩) else (⟨2, 1, ⟨#[]⟩, []⟩, ⟨1 + q, 0⟩) by
        rw [HT.out, HK.out]
        exact lookV_ok _ q)
      have eq1 : IntKind.i64.wrap (1 + (q : Int)) = 1 + (q : Int) := IntWalk.i64_in _ (by have := Hq.out; omega)
      have Hz1 := Lib.hid (rright_any ⟨2, 1, ⟨#[]⟩, []⟩ none 0 _ Hst.out.rd Hst.out.big)
      go_wp2_with (first | refine wpList_load_mid rfl 25 (.tmp 5) rfl (w.heap.size + 1) 0 rfl [.int .i64 2, .int .i64 1, .string ⟨#[]⟩, .slice none 0 0] _ Hst.out.boxV.range Try.underlying25 rfl Try.sizeValue ?_ | fail)
      refine Hz1.out.mono ?_
      rintro e w5 ⟨rfl, ho5⟩
      have Hst := Lib.hid (Hst.out.still ho5)
      clear ho5 Hz1
      by_cases hR : rightE ⟨2, 1, ⟨#[]⟩, []⟩ = 0
      · rw [hR]
        have HT3 := Lib.hid (HT2.out.trans (if_neg (fun h => h hR)))
        have Hz := Lib.hid (Hst.out.told [.int .i64 2, .int .i64 1, .string ⟨#[]⟩, .slice none 0 0] rfl)
        go_wp2_with (first | refine wpList_load_mid rfl 25 (.tmp 5) rfl (w.heap.size + 1) 0 rfl [.int .i64 2, .int .i64 1, .string ⟨#[]⟩, .slice none 0 0] _ Hst.out.boxV.range Try.underlying25 rfl Try.sizeValue ?_ | refine wpList_store_mid rfl 25 (.tmp 2) (.tmp 81) rfl w.heap.size 0 _ rfl rfl (Hst.out.boxR.there 0 4 (by decide)) Try.sizeValue (all_one rfl) ?_ | fail)
        refine ret_cell_tmp2 (g := w.heap.size) (cs := List.toArray [.int .i64 2, .int .i64 1, .string ⟨#[]⟩, .slice none 0 0]) rfl rfl Hz.out.1 Try.underlying25 rfl (by kernel_rfl) rfl ?_
        rw [HT3.out]
        exact ⟨none, 0, 1 + (q : Int), 0, rfl, (fun _ => ⟨rfl, by simp⟩), (fun h => absurd rfl h), Hz.out.2.2, (fun hn ad e h => Hst.out.av hn ad e (Nat.lt_of_lt_of_le h (Nat.le_add_right _ _))), Hst.out.cap, Hz.out.2.1⟩
      · have hRb : (rightE ⟨2, 1, ⟨#[]⟩, []⟩ != 0) = true := bne_iff_ne.2 hR
        have HT3 := Lib.hid (HT2.out.trans (if_pos hR))
        have Hz := Lib.hid (Hst.out.told zero4 rfl)
        generalize rightE ⟨2, 1, ⟨#[]⟩, []⟩ = R at *
        go_wp2_with (first | refine wpList_store_mid rfl 25 (.tmp 2) (.tmp 78) rfl w.heap.size 0 _ rfl rfl (Hst.out.boxR.there 0 4 (by decide)) Try.sizeValue (all_one rfl) ?_ | fail)
        refine ret_cell_tmp2 (g := w.heap.size) (cs := zero4.toArray) rfl rfl Hz.out.1 Try.underlying25 rfl (by kernel_rfl) rfl ?_
        rw [HT3.out]
        exact .bad _ 8 rfl (by simp) (by decide) Hz.out.2.1
    · have hyb : (y != 0) = true := bne_iff_ne.2 hy
      have HT2 := Lib.hid (show TV = (zeroVal, ⟨1 + q, y⟩) by
        rw [HT.out, HK.out]
        exact lookV_no _ q y hy)
      have Hy := Lib.hid hy
      have Hz := Lib.hid (Hst.out.told zero4 rfl)
      clear hy
      go_wp2_with (first | refine wpList_store_mid rfl 25 (.tmp 2) (.tmp 73) rfl w.heap.size 0 _ rfl rfl (Hst.out.boxR.there 0 4 (by decide)) Try.sizeValue (all_one rfl) ?_ | fail)
      refine ret_cell_tmp2 (g := w.heap.size) (cs := zero4.toArray) rfl rfl Hz.out.1 Try.underlying25 rfl (by kernel_rfl) rfl ?_
      rw [HT2.out]
      exact .bad _ y rfl Hy.out Hy.out Hz.out.2.1

set_option maxRecDepth 100000 in
set_option maxHeartbeats 3200000 in
theorem rtv_3 (w : World) (bb o c : Nat) (b : List UInt8) (hr : Rd w 1 (some ⟨bb, o, none⟩) b.length (b.map bv)) (hc : b.length ≤ c) (hlen : b.length ≤ 100000000000) (hb : 0 < b.length) (hk : (b.getD 0 0).toNat = 3) :
    Calls Try.prog 62 #[.slice (some ⟨bb, o, none⟩) b.length c] w (RtvPost w (takeVal b ⟨0, 0⟩)) := by
  have HT := Lib.hid (show takeVal b ⟨0, 0⟩ = lookV (sh 1 (kindV (b.drop 1) 3 ⟨0, 0⟩)) by
    rw [takeVal, tkN_first b hb]
    simp only [hk]
    have := kindV_sh b 1 hb 3 0 0
    rw [Nat.add_zero] at this
    rw [this])
  generalize takeVal b ⟨0, 0⟩ = TV at HT ⊢
  have hcell : w.cell? ⟨bb, o, none⟩ = some (.int .u8 3) := by
    obtain ⟨b', o', e, hc0⟩ := hr.byte (k := 0) hb
    injection e with e
    injection e with e1 e2
    subst e1 e2
    rw [hk, Nat.add_zero] at hc0
    exact hc0
  obtain ⟨m, hm⟩ : ∃ m, b.length = m + 1 := ⟨b.length - 1, by omega⟩
  have hcut := hr.cut (k := 1) (cap := c) hb hc
  rw [Nat.mul_one, ← List.map_drop] at hcut
  have hsl := fun W => cut_l (P := Try.prog) Try.elemBytes Try.sizeBytes (some ⟨bb, o, none⟩) b.length c 1 .i64 1 rfl (by omega) W
  rw [Nat.mul_one] at hsl
  generalize (if c = 1 then some (⟨bb, o, none⟩ : Addr) else (some (⟨bb, o, none⟩ : Addr)).map (·.add 1)) = AA at hcut hsl
  have hdl : b.length - 1 = (b.drop 1).length := by rw [List.length_drop]
  rw [hm, Nat.add_sub_cancel] at hcut hsl hdl
  rw [hm]
  have Hcut := Lib.hid hcut
  have Hdl := Lib.hid hdl
  have Hlen := Lib.hid (show m ≤ 100000000000 by omega)
  have Hc1 := Lib.hid (show m ≤ c - 1 by omega)
  generalize b.drop 1 = l at *
  have hbbl := cell_lt hcell
  clear hcut hdl hlen hk hr hb hm hc
  have hst0 : TvSt w w.heap.size (w.heap.size + 1) [.int .i64 3, .int .i64 0, .string ⟨#[]⟩, .slice none 0 0] [] none 0 ((w.alloc (.cells ([.int .i64 0, .int .i64 0, .string ⟨#[]⟩, .slice none 0 0] : List Value).toArray 25)).alloc (.cells ([.int .i64 3, .int .i64 0, .string ⟨#[]⟩, .slice none 0 0] : List Value).toArray 25)) := by
    have h1 := Blk.new (w.alloc (.cells ([.int .i64 0, .int .i64 0, .string ⟨#[]⟩, .slice none 0 0] : List Value).toArray 25)) 25 ([.int .i64 3, .int .i64 0, .string ⟨#[]⟩, .slice none 0 0] : List Value).toArray
    rw [show (w.alloc (.cells ([.int .i64 0, .int .i64 0, .string ⟨#[]⟩, .slice none 0 0] : List Value).toArray 25)).heap.size = w.heap.size + 1 by simp] at h1
    exact ⟨h1, (Blk.new w _ _).alloc _, Rd.none_, (fun h => absurd h (by simp)), Nat.le_refl _, Nat.zero_le _, ((Kp.refl NoX w).alloc _).alloc _, rfl, rfl⟩
  have Hst := Lib.hid hst0
  clear hst0
  have HK0 := Lib.hid (show kindV l 3 ⟨0, 0⟩ = (⟨3, 0, ⟨(textAt l 1024 0).1.toArray⟩, []⟩, ⟨if (textAt l 1024 0).2.2 ≠ 0 then 0 else (textAt l 1024 0).2.1, (textAt l 1024 0).2.2⟩) by
    simp only [kindV, textN]
    by_cases h : (textAt l 1024 0).2.2 = 0
    · simp [h]
    · have h1 : (textAt l 1024 0).1 = [] := textAt_no _ _ _ h
      simp [h, h1])
  have Hq0 := Lib.hid (textAt_le l 1024 0 (Nat.zero_le _))
  have HC := Lib.hid (fun W (h : Old w W) => rtt_any W AA (c - 1) m 1024 l (Hcut.out.old h) Hdl.out Hc1.out Hlen.out (by decide) (by decide))
  generalize textAt l 1024 0 = TK at HK0 HC Hq0
  obtain ⟨u, q0, y⟩ := TK
  simp only at HK0 HC Hq0
  generalize (⟨u.toArray⟩ : ByteArray) = tx at *
  go_enter Try.func62, Try.ntmps62
  go_wp2_with fail
  generalize (w.alloc _).alloc _ = W0 at *
  refine (HC.out W0 Hst.out.old).mono ?_
  rintro e w3 ⟨n, rfl, hn, ho3⟩
  have Hst := Lib.hid (Hst.out.still ho3)
  have Hn := Lib.hid (show y = 0 → n = ((if y ≠ 0 then 0 else q0 : Nat) : Int) from fun h => by rw [hn h, if_neg (fun h' => h' h)])
  have Hq := Lib.hid (show (if y ≠ 0 then 0 else q0 : Nat) ≤ 100000000000 by have := Hq0.out; have := Hlen.out; have := Hdl.out; split <;> omega)
  have HK : Hid (kindV l 3 ⟨0, 0⟩ = (⟨3, 0, tx, []⟩, ⟨if y ≠ 0 then 0 else q0, y⟩)) := HK0
  generalize (if y ≠ 0 then 0 else q0 : Nat) = q at *
  clear hn ho3 HK0 Hq0
  have c0 := Hst.out.boxV.at_ 0 (v := .int .i64 3) rfl
  have c2 := Hst.out.boxV.at_ 2 (v := .string ⟨#[]⟩) rfl
  have z2 := Hst.out.boxV.frozen 2
  go_upto_region 19 with (fail)
  have Hst := Lib.hid (show TvSt w w.heap.size (w.heap.size + 1) [.int .i64 3, .int .i64 0, .string tx, .slice none 0 0] [] none 0 (w3.setCell ⟨w.heap.size + 1, 2, none⟩ (.string tx)) from Hst.out.set 2 (.string tx))
  clear c0 c2 z2 HC hsl hcell
  generalize w3.setCell _ _ = W1 at *
  by_cases hy : y = 0
  · subst hy
    obtain rfl := Hn.out rfl
    have HT2 := Lib.hid (show TV = if rightE ⟨3, 0, tx, []⟩ ≠ 0 then (zeroVal, ⟨1 + q, 8⟩) else (⟨3, 0, tx, []⟩, ⟨1 + q, 0⟩) by
      rw [HT.out, HK.out]
      exact lookV_ok _ q)
    have eq1 : IntKind.i64.wrap (1 + (q : Int)) = 1 + (q : Int) := IntWalk.i64_in _ (by have := Hq.out; omega)
    have Hz1 := Lib.hid (rright_any ⟨3, 0, tx, []⟩ none 0 _ Hst.out.rd Hst.out.big)
    go_wp2_with (first | refine wpList_load_mid rfl 25 (.tmp 5) rfl (w.heap.size + 1) 0 rfl [.int .i64 3, .int .i64 0, .string tx, .slice none 0 0] _ Hst.out.boxV.range Try.underlying25 rfl Try.sizeValue ?_ | fail)
    refine Hz1.out.mono ?_
    rintro e w5 ⟨rfl, ho5⟩
    have Hst := Lib.hid (Hst.out.still ho5)
    clear ho5 Hz1
    by_cases hR : rightE ⟨3, 0, tx, []⟩ = 0
    · rw [hR]
      have HT3 := Lib.hid (HT2.out.trans (if_neg (fun h => h hR)))
      have Hz := Lib.hid (Hst.out.told [.int .i64 3, .int .i64 0, .string tx, .slice none 0 0] rfl)
      go_wp2_with (first | refine wpList_load_mid rfl 25 (.tmp 5) rfl (w.heap.size + 1) 0 rfl [.int .i64 3, .int .i64 0, .string tx, .slice none 0 0] _ Hst.out.boxV.range Try.underlying25 rfl Try.sizeValue ?_ | refine wpList_store_mid rfl 25 (.tmp 2) (.tmp 81) rfl w.heap.size 0 _ rfl rfl (Hst.out.boxR.there 0 4 (by decide)) Try.sizeValue (all_one rfl) ?_ | fail)
      refine ret_cell_tmp2 (g := w.heap.size) (cs := List.toArray [.int .i64 3, .int .i64 0, .string tx, .slice none 0 0]) rfl rfl Hz.out.1 Try.underlying25 rfl (by kernel_rfl) rfl ?_
      rw [HT3.out]
      exact ⟨none, 0, 1 + (q : Int), 0, rfl, (fun _ => ⟨rfl, by simp⟩), (fun h => absurd rfl h), Hz.out.2.2, (fun hn ad e h => Hst.out.av hn ad e (Nat.lt_of_lt_of_le h (Nat.le_add_right _ _))), Hst.out.cap, Hz.out.2.1⟩
    · have hRb : (rightE ⟨3, 0, tx, []⟩ != 0) = true := bne_iff_ne.2 hR
      have HT3 := Lib.hid (HT2.out.trans (if_pos hR))
      have Hz := Lib.hid (Hst.out.told zero4 rfl)
      generalize rightE ⟨3, 0, tx, []⟩ = R at *
      go_wp2_with (first | refine wpList_store_mid rfl 25 (.tmp 2) (.tmp 78) rfl w.heap.size 0 _ rfl rfl (Hst.out.boxR.there 0 4 (by decide)) Try.sizeValue (all_one rfl) ?_ | fail)
      refine ret_cell_tmp2 (g := w.heap.size) (cs := zero4.toArray) rfl rfl Hz.out.1 Try.underlying25 rfl (by kernel_rfl) rfl ?_
      rw [HT3.out]
      exact .bad _ 8 rfl (by simp) (by decide) Hz.out.2.1
  · have hyb : (y != 0) = true := bne_iff_ne.2 hy
    have HT2 := Lib.hid (show TV = (zeroVal, ⟨1 + q, y⟩) by
      rw [HT.out, HK.out]
      exact lookV_no _ q y hy)
    have Hy := Lib.hid hy
    have Hz := Lib.hid (Hst.out.told zero4 rfl)
    clear hy
    go_wp2_with (first | refine wpList_store_mid rfl 25 (.tmp 2) (.tmp 73) rfl w.heap.size 0 _ rfl rfl (Hst.out.boxR.there 0 4 (by decide)) Try.sizeValue (all_one rfl) ?_ | fail)
    refine ret_cell_tmp2 (g := w.heap.size) (cs := zero4.toArray) rfl rfl Hz.out.1 Try.underlying25 rfl (by kernel_rfl) rfl ?_
    rw [HT2.out]
    exact .bad _ y rfl Hy.out Hy.out Hz.out.2.1

set_option maxRecDepth 100000 in
set_option maxHeartbeats 3200000 in
theorem rtv_5 (w : World) (bb o c : Nat) (b : List UInt8) (hr : Rd w 1 (some ⟨bb, o, none⟩) b.length (b.map bv)) (hc : b.length ≤ c) (hlen : b.length ≤ 100000000000) (hb : 0 < b.length) (hk : (b.getD 0 0).toNat = 5) :
    Calls Try.prog 62 #[.slice (some ⟨bb, o, none⟩) b.length c] w (RtvPost w (takeVal b ⟨0, 0⟩)) := by
  have HT := Lib.hid (show takeVal b ⟨0, 0⟩ = lookV (sh 1 (kindV (b.drop 1) 5 ⟨0, 0⟩)) by
    rw [takeVal, tkN_first b hb]
    simp only [hk]
    have := kindV_sh b 1 hb 5 0 0
    rw [Nat.add_zero] at this
    rw [this])
  generalize takeVal b ⟨0, 0⟩ = TV at HT ⊢
  have hcell : w.cell? ⟨bb, o, none⟩ = some (.int .u8 5) := by
    obtain ⟨b', o', e, hc0⟩ := hr.byte (k := 0) hb
    injection e with e
    injection e with e1 e2
    subst e1 e2
    rw [hk, Nat.add_zero] at hc0
    exact hc0
  obtain ⟨m, hm⟩ : ∃ m, b.length = m + 1 := ⟨b.length - 1, by omega⟩
  have hcut := hr.cut (k := 1) (cap := c) hb hc
  rw [Nat.mul_one, ← List.map_drop] at hcut
  have hsl := fun W => cut_l (P := Try.prog) Try.elemBytes Try.sizeBytes (some ⟨bb, o, none⟩) b.length c 1 .i64 1 rfl (by omega) W
  rw [Nat.mul_one] at hsl
  generalize (if c = 1 then some (⟨bb, o, none⟩ : Addr) else (some (⟨bb, o, none⟩ : Addr)).map (·.add 1)) = AA at hcut hsl
  have hdl : b.length - 1 = (b.drop 1).length := by rw [List.length_drop]
  rw [hm, Nat.add_sub_cancel] at hcut hsl hdl
  rw [hm]
  have Hcut := Lib.hid hcut
  have Hdl := Lib.hid hdl
  have Hlen := Lib.hid (show m ≤ 100000000000 by omega)
  have Hc1 := Lib.hid (show m ≤ c - 1 by omega)
  generalize b.drop 1 = l at *
  have hbbl := cell_lt hcell
  clear hcut hdl hlen hk hr hb hm hc
  have hst0 : TvSt w w.heap.size (w.heap.size + 1) [.int .i64 5, .int .i64 0, .string ⟨#[]⟩, .slice none 0 0] [] none 0 ((w.alloc (.cells ([.int .i64 0, .int .i64 0, .string ⟨#[]⟩, .slice none 0 0] : List Value).toArray 25)).alloc (.cells ([.int .i64 5, .int .i64 0, .string ⟨#[]⟩, .slice none 0 0] : List Value).toArray 25)) := by
    have h1 := Blk.new (w.alloc (.cells ([.int .i64 0, .int .i64 0, .string ⟨#[]⟩, .slice none 0 0] : List Value).toArray 25)) 25 ([.int .i64 5, .int .i64 0, .string ⟨#[]⟩, .slice none 0 0] : List Value).toArray
    rw [show (w.alloc (.cells ([.int .i64 0, .int .i64 0, .string ⟨#[]⟩, .slice none 0 0] : List Value).toArray 25)).heap.size = w.heap.size + 1 by simp] at h1
    exact ⟨h1, (Blk.new w _ _).alloc _, Rd.none_, (fun h => absurd h (by simp)), Nat.le_refl _, Nat.zero_le _, ((Kp.refl NoX w).alloc _).alloc _, rfl, rfl⟩
  have Hst := Lib.hid hst0
  clear hst0
  have HK0 := Lib.hid (show kindV l 5 ⟨0, 0⟩ = (⟨5, 0, ByteArray.empty, (textsN l 64 1024 ⟨0, 0⟩).1⟩, (textsN l 64 1024 ⟨0, 0⟩).2) by simp [kindV])
  have Hq0 := Lib.hid (show (textsN l 64 1024 ⟨0, 0⟩).2.why = 0 → (textsN l 64 1024 ⟨0, 0⟩).2.at_ ≤ l.length from fun h => ((textsN_con (bs := l) 64 1024 ⟨0, 0⟩) h).2.2 (Nat.zero_le _))
  have Hs0 := Lib.hid (show (textsN l 64 1024 ⟨0, 0⟩).1.length ≤ 1000000000000 from textsN_few l)
  have HC := Lib.hid (fun W (h : Old w W) => Hdl.out ▸ rtx_any W AA (c - 1) l (Hdl.out ▸ Hcut.out.old h) (Hdl.out ▸ Hc1.out) (Hdl.out ▸ Hlen.out))
  unfold TxPost at HC
  generalize textsN l 64 1024 ⟨0, 0⟩ = TK at HK0 HC Hq0 Hs0
  obtain ⟨s, q, y⟩ := TK
  simp only at HK0 HC Hq0 Hs0
  go_enter Try.func62, Try.ntmps62
  go_wp2_with fail
  have hWs : (((w.alloc (.cells #[.int .i64 0, .int .i64 0, .string ⟨#[]⟩, .slice none 0 0] 25)).alloc (.cells #[.int .i64 5, .int .i64 0, .string ⟨#[]⟩, .slice none 0 0] 25))).heap.size = w.heap.size + 2 := by simp
  generalize (w.alloc _).alloc _ = W0 at *
  refine (HC.out W0 Hst.out.old).mono ?_
  rintro e w3 ⟨sA, sc, n, rfl, hn, hrd, hav, hcp, ho3⟩
  rw [hWs] at hav
  have Hst := Lib.hid (Hst.out.still ho3)
  have Hn := Lib.hid hn
  have Hp := Lib.hid (show Rd w3 1 sA s.length (s.map sv) ∧ Av (fun k => k < w.heap.size + 2) s.length sA ∧ s.length ≤ sc from ⟨hrd, hav, hcp⟩)
  have HK : Hid (kindV l 5 ⟨0, 0⟩ = (⟨5, 0, ⟨#[]⟩, s⟩, ⟨q, y⟩)) := HK0
  have Hqq := Lib.hid (show y = 0 → q ≤ 100000000000 from fun h => by have := Hq0.out h; have := Hlen.out; have := Hdl.out; omega)
  clear hn ho3 HK0 Hq0 hrd hav hcp hWs
  have c0 := Hst.out.boxV.at_ 0 (v := .int .i64 5) rfl
  have c3 := Hst.out.boxV.at_ 3 (v := .slice none 0 0) rfl
  have z3 := Hst.out.boxV.frozen 3
  go_upto_region 19 with (fail)
  have Hst := Lib.hid (show TvSt w w.heap.size (w.heap.size + 1) [.int .i64 5, .int .i64 0, .string ⟨#[]⟩, .slice sA s.length sc] s sA sc (w3.setCell ⟨w.heap.size + 1, 3, none⟩ (.slice sA s.length sc)) from
    Hst.out.put ((Kp.refl (fun k => k = w.heap.size + 1) w3).setCell (p := ⟨w.heap.size + 1, 3, none⟩) (fun _ => rfl) _) (by have := Hst.out.boxV.set_ 3 (.slice sA s.length sc); rw [List.setIfInBounds_toArray] at this; exact this)
      (Hp.out.1.kp ((Kp.refl (fun k => k = w.heap.size + 1) w3).setCell (p := ⟨w.heap.size + 1, 3, none⟩) (fun _ => rfl) _) (fun hn ad e hx => Hp.out.2.1 hn ad e (by have h2 : ad.block = w.heap.size + 1 := hx; omega))) Hp.out.2.1 Hp.out.2.2 Hs0.out)
  clear c0 c3 z3 HC hsl hcell
  generalize w3.setCell _ _ = W1 at *
  by_cases hy : y = 0
  · subst hy
    obtain rfl := Hn.out rfl
    have HT2 := Lib.hid (show TV = if rightE ⟨5, 0, ⟨#[]⟩, s⟩ ≠ 0 then (zeroVal, ⟨1 + q, 8⟩) else (⟨5, 0, ⟨#[]⟩, s⟩, ⟨1 + q, 0⟩) by
      rw [HT.out, HK.out]
      exact lookV_ok _ q)
    have eq1 : IntKind.i64.wrap (1 + (q : Int)) = 1 + (q : Int) := IntWalk.i64_in _ (by have := Hqq.out rfl; omega)
    have Hz1 := Lib.hid (rright_any ⟨5, 0, ⟨#[]⟩, s⟩ sA sc _ Hst.out.rd Hst.out.big)
    go_wp2_with (first | refine wpList_load_mid rfl 25 (.tmp 5) rfl (w.heap.size + 1) 0 rfl [.int .i64 5, .int .i64 0, .string ⟨#[]⟩, .slice sA s.length sc] _ Hst.out.boxV.range Try.underlying25 rfl Try.sizeValue ?_ | fail)
    refine Hz1.out.mono ?_
    rintro e w5 ⟨rfl, ho5⟩
    have Hst := Lib.hid (Hst.out.still ho5)
    clear ho5 Hz1
    by_cases hR : rightE ⟨5, 0, ⟨#[]⟩, s⟩ = 0
    · rw [hR]
      have HT3 := Lib.hid (HT2.out.trans (if_neg (fun h => h hR)))
      have Hz := Lib.hid (Hst.out.told [.int .i64 5, .int .i64 0, .string ⟨#[]⟩, .slice sA s.length sc] rfl)
      go_wp2_with (first | refine wpList_load_mid rfl 25 (.tmp 5) rfl (w.heap.size + 1) 0 rfl [.int .i64 5, .int .i64 0, .string ⟨#[]⟩, .slice sA s.length sc] _ Hst.out.boxV.range Try.underlying25 rfl Try.sizeValue ?_ | refine wpList_store_mid rfl 25 (.tmp 2) (.tmp 81) rfl w.heap.size 0 _ rfl rfl (Hst.out.boxR.there 0 4 (by decide)) Try.sizeValue (all_one rfl) ?_ | fail)
      refine ret_cell_tmp2 (g := w.heap.size) (cs := List.toArray [.int .i64 5, .int .i64 0, .string ⟨#[]⟩, .slice sA s.length sc]) rfl rfl Hz.out.1 Try.underlying25 rfl (by kernel_rfl) rfl ?_
      rw [HT3.out]
      exact ⟨sA, sc, 1 + (q : Int), 0, rfl, (fun _ => ⟨rfl, by simp⟩), (fun h => absurd rfl h), Hz.out.2.2, (fun hn ad e h => Hst.out.av hn ad e (Nat.lt_of_lt_of_le h (Nat.le_add_right _ _))), Hst.out.cap, Hz.out.2.1⟩
    · have hRb : (rightE ⟨5, 0, ⟨#[]⟩, s⟩ != 0) = true := bne_iff_ne.2 hR
      have HT3 := Lib.hid (HT2.out.trans (if_pos hR))
      have Hz := Lib.hid (Hst.out.told zero4 rfl)
      generalize rightE ⟨5, 0, ⟨#[]⟩, s⟩ = R at *
      go_wp2_with (first | refine wpList_store_mid rfl 25 (.tmp 2) (.tmp 78) rfl w.heap.size 0 _ rfl rfl (Hst.out.boxR.there 0 4 (by decide)) Try.sizeValue (all_one rfl) ?_ | fail)
      refine ret_cell_tmp2 (g := w.heap.size) (cs := zero4.toArray) rfl rfl Hz.out.1 Try.underlying25 rfl (by kernel_rfl) rfl ?_
      rw [HT3.out]
      exact .bad _ 8 rfl (by simp) (by decide) Hz.out.2.1
  · have hyb : (y != 0) = true := bne_iff_ne.2 hy
    have HT2 := Lib.hid (show TV = (zeroVal, ⟨1 + q, y⟩) by
      rw [HT.out, HK.out]
      exact lookV_no _ q y hy)
    have Hy := Lib.hid hy
    have Hz := Lib.hid (Hst.out.told zero4 rfl)
    clear hy
    go_wp2_with (first | refine wpList_store_mid rfl 25 (.tmp 2) (.tmp 73) rfl w.heap.size 0 _ rfl rfl (Hst.out.boxR.there 0 4 (by decide)) Try.sizeValue (all_one rfl) ?_ | fail)
    refine ret_cell_tmp2 (g := w.heap.size) (cs := zero4.toArray) rfl rfl Hz.out.1 Try.underlying25 rfl (by kernel_rfl) rfl ?_
    rw [HT2.out]
    exact .bad _ y rfl Hy.out Hy.out Hz.out.2.1

set_option maxRecDepth 100000 in
set_option maxHeartbeats 3200000 in
theorem rtv_far (w : World) (bb o c : Nat) (b : List UInt8) (k : Nat) (hr : Rd w 1 (some ⟨bb, o, none⟩) b.length (b.map bv)) (hc : b.length ≤ c) (hlen : b.length ≤ 100000000000) (hb : 0 < b.length) (hk : (b.getD 0 0).toNat = k) (hk2 : k = 0 ∨ 5 < k) :
    Calls Try.prog 62 #[.slice (some ⟨bb, o, none⟩) b.length c] w (RtvPost w (takeVal b ⟨0, 0⟩)) := by
  have HT := Lib.hid (show takeVal b ⟨0, 0⟩ = lookV (sh 1 (kindV (b.drop 1) k ⟨0, 0⟩)) by
    rw [takeVal, tkN_first b hb]
    simp only [hk]
    have := kindV_sh b 1 hb k 0 0
    rw [Nat.add_zero] at this
    rw [this])
  generalize takeVal b ⟨0, 0⟩ = TV at HT ⊢
  have hcell : w.cell? ⟨bb, o, none⟩ = some (.int .u8 (k : Int)) := by
    obtain ⟨b', o', e, hc0⟩ := hr.byte (k := 0) hb
    injection e with e
    injection e with e1 e2
    subst e1 e2
    rw [hk, Nat.add_zero] at hc0
    exact hc0
  obtain ⟨m, hm⟩ : ∃ m, b.length = m + 1 := ⟨b.length - 1, by omega⟩
  have hcut := hr.cut (k := 1) (cap := c) hb hc
  rw [Nat.mul_one, ← List.map_drop] at hcut
  have hsl := fun W => cut_l (P := Try.prog) Try.elemBytes Try.sizeBytes (some ⟨bb, o, none⟩) b.length c 1 .i64 1 rfl (by omega) W
  rw [Nat.mul_one] at hsl
  generalize (if c = 1 then some (⟨bb, o, none⟩ : Addr) else (some (⟨bb, o, none⟩ : Addr)).map (·.add 1)) = AA at hcut hsl
  have hdl : b.length - 1 = (b.drop 1).length := by rw [List.length_drop]
  rw [hm, Nat.add_sub_cancel] at hcut hsl hdl
  rw [hm]
  have Hcut := Lib.hid hcut
  have Hdl := Lib.hid hdl
  have Hlen := Lib.hid (show m ≤ 100000000000 by omega)
  have Hc1 := Lib.hid (show m ≤ c - 1 by omega)
  generalize b.drop 1 = l at *
  have hbbl := cell_lt hcell
  have Hk := Lib.hid hk
  clear hcut hdl hlen hk hr hb hm hc
  have hk256 : k < 256 := by rw [← Hk.out]; exact (b.getD 0 0).toNat_lt
  have hwk : IntKind.i64.wrap (k : Int) = (k : Int) := IntWalk.i64_in _ (by omega)
  have hwk2 : wrap64 (k : Int) = (k : Int) := by unfold wrap64; omega
  have n1 : ((k : Int) == 1) = false := beq_eq_false_iff_ne.2 (by omega)
  have n2 : ((k : Int) == 2) = false := beq_eq_false_iff_ne.2 (by omega)
  have n3 : ((k : Int) == 3) = false := beq_eq_false_iff_ne.2 (by omega)
  have n4 : ((k : Int) == 4) = false := beq_eq_false_iff_ne.2 (by omega)
  have n5 : ((k : Int) == 5) = false := beq_eq_false_iff_ne.2 (by omega)
  have HK := Lib.hid (show kindV l k ⟨0, 0⟩ = (⟨(k : Int), 0, ⟨#[]⟩, []⟩, ⟨0, 0⟩) by
    simp only [kindV]
    rw [if_neg (by omega), if_neg (by omega), if_neg (by omega), if_neg (by omega)]
    rfl)
  clear hk2 hk256
  have hst0 : TvSt w w.heap.size (w.heap.size + 1) [.int .i64 (k : Int), .int .i64 0, .string ⟨#[]⟩, .slice none 0 0] [] none 0 ((w.alloc (.cells ([.int .i64 0, .int .i64 0, .string ⟨#[]⟩, .slice none 0 0] : List Value).toArray 25)).alloc (.cells ([.int .i64 (k : Int), .int .i64 0, .string ⟨#[]⟩, .slice none 0 0] : List Value).toArray 25)) := by
    have h1 := Blk.new (w.alloc (.cells ([.int .i64 0, .int .i64 0, .string ⟨#[]⟩, .slice none 0 0] : List Value).toArray 25)) 25 ([.int .i64 (k : Int), .int .i64 0, .string ⟨#[]⟩, .slice none 0 0] : List Value).toArray
    rw [show (w.alloc (.cells ([.int .i64 0, .int .i64 0, .string ⟨#[]⟩, .slice none 0 0] : List Value).toArray 25)).heap.size = w.heap.size + 1 by simp] at h1
    exact ⟨h1, (Blk.new w _ _).alloc _, Rd.none_, (fun h => absurd h (by simp)), Nat.le_refl _, Nat.zero_le _, ((Kp.refl NoX w).alloc _).alloc _, rfl, rfl⟩
  have Hst := Lib.hid hst0
  clear hst0
  go_enter Try.func62, Try.ntmps62
  go_upto_region 6 with (fail)
  generalize (w.alloc _).alloc _ = W0 at *
  have c0 := Hst.out.boxV.at_ 0 (v := .int .i64 (k : Int)) rfl
  go_upto_region 19 with (fail)
  clear c0 hsl hcell n1 n2 n3 n4 n5
  have HT2 := Lib.hid (show TV = if rightE ⟨(k : Int), 0, ⟨#[]⟩, []⟩ ≠ 0 then (zeroVal, ⟨1 + 0, 8⟩) else (⟨(k : Int), 0, ⟨#[]⟩, []⟩, ⟨1 + 0, 0⟩) by
    rw [HT.out, HK.out]
    exact lookV_ok _ 0)
  have eq1 : IntKind.i64.wrap (1 + 0) = 1 + 0 := IntWalk.i64_in _ (by omega)
  have Hz1 := Lib.hid (rright_any ⟨(k : Int), 0, ⟨#[]⟩, []⟩ none 0 _ Hst.out.rd Hst.out.big)
  go_wp2_with (first | refine wpList_load_mid rfl 25 (.tmp 5) rfl (w.heap.size + 1) 0 rfl [.int .i64 (k : Int), .int .i64 0, .string ⟨#[]⟩, .slice none 0 0] _ Hst.out.boxV.range Try.underlying25 rfl Try.sizeValue ?_ | fail)
  refine Hz1.out.mono ?_
  rintro e w5 ⟨rfl, ho5⟩
  have Hst := Lib.hid (Hst.out.still ho5)
  clear ho5 Hz1
  by_cases hR : rightE ⟨(k : Int), 0, ⟨#[]⟩, []⟩ = 0
  · rw [hR]
    have HT3 := Lib.hid (HT2.out.trans (if_neg (fun h => h hR)))
    have Hz := Lib.hid (Hst.out.told [.int .i64 (k : Int), .int .i64 0, .string ⟨#[]⟩, .slice none 0 0] rfl)
    go_wp2_with (first | refine wpList_load_mid rfl 25 (.tmp 5) rfl (w.heap.size + 1) 0 rfl [.int .i64 (k : Int), .int .i64 0, .string ⟨#[]⟩, .slice none 0 0] _ Hst.out.boxV.range Try.underlying25 rfl Try.sizeValue ?_ | refine wpList_store_mid rfl 25 (.tmp 2) (.tmp 81) rfl w.heap.size 0 _ rfl rfl (Hst.out.boxR.there 0 4 (by decide)) Try.sizeValue (all_one rfl) ?_ | fail)
    refine ret_cell_tmp2 (g := w.heap.size) (cs := List.toArray [.int .i64 (k : Int), .int .i64 0, .string ⟨#[]⟩, .slice none 0 0]) rfl rfl Hz.out.1 Try.underlying25 rfl (by kernel_rfl) rfl ?_
    rw [HT3.out]
    exact ⟨none, 0, 1 + 0, 0, rfl, (fun _ => ⟨rfl, by simp⟩), (fun h => absurd rfl h), Hz.out.2.2, (fun hn ad e h => Hst.out.av hn ad e (Nat.lt_of_lt_of_le h (Nat.le_add_right _ _))), Hst.out.cap, Hz.out.2.1⟩
  · have hRb : (rightE ⟨(k : Int), 0, ⟨#[]⟩, []⟩ != 0) = true := bne_iff_ne.2 hR
    have HT3 := Lib.hid (HT2.out.trans (if_pos hR))
    have Hz := Lib.hid (Hst.out.told zero4 rfl)
    generalize rightE ⟨(k : Int), 0, ⟨#[]⟩, []⟩ = R at *
    go_wp2_with (first | refine wpList_store_mid rfl 25 (.tmp 2) (.tmp 78) rfl w.heap.size 0 _ rfl rfl (Hst.out.boxR.there 0 4 (by decide)) Try.sizeValue (all_one rfl) ?_ | fail)
    refine ret_cell_tmp2 (g := w.heap.size) (cs := zero4.toArray) rfl rfl Hz.out.1 Try.underlying25 rfl (by kernel_rfl) rfl ?_
    rw [HT3.out]
    exact .bad _ 8 rfl (by simp) (by decide) Hz.out.2.1

theorem rtv_any (w : World) (A : Option Addr) (c : Nat) (b : List UInt8) (hr : Rd w 1 A b.length (b.map bv)) (hc : b.length ≤ c) (hlen : b.length ≤ 100000000000) :
    Calls Try.prog 62 #[.slice A b.length c] w (RtvPost w (takeVal b ⟨0, 0⟩)) := by
  by_cases h0 : b.length = 0
  · have : b = [] := List.eq_nil_of_length_eq_zero h0
    subst this
    exact rtv_nil w A c
  have hb : 0 < b.length := by omega
  obtain ⟨bb, o, rfl, _⟩ := hr.byte (k := 0) hb
  by_cases hk2 : (b.getD 0 0).toNat = 0 ∨ 5 < (b.getD 0 0).toNat
  · exact rtv_far w bb o c b _ hr hc hlen hb rfl hk2
  have hk : (b.getD 0 0).toNat = 1 ∨ (b.getD 0 0).toNat = 2 ∨ (b.getD 0 0).toNat = 3 ∨ (b.getD 0 0).toNat = 4 ∨ (b.getD 0 0).toNat = 5 := by omega
  rcases hk with h | h | h | h | h
  · exact rtv_1 w bb o c b hr hc hlen hb h
  · exact rtv_2 w bb o c b hr hc hlen hb h
  · exact rtv_3 w bb o c b hr hc hlen hb h
  · exact rtv_4 w bb o c b hr hc hlen hb h
  · exact rtv_5 w bb o c b hr hc hlen hb h
end Go.Proofs.Ytnaolhjbapgjgaa
