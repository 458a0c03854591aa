import Derived.Test.YtnaolhjbapgjgaaMg35
import Derived.Deep.DeepCutAuto
/- Contract of docketref24.ReadRequest: op 1, do 3. -/
namespace Go.Proofs.Ytnaolhjbapgjgaa
open Go.RowKit

set_option maxRecDepth 100000 in
set_option maxHeartbeats 6400000 in
theorem read_1_3 (w : World) (A : Option Addr) (c : Nat) (bs : List UInt8) (hrd : Rd w 1 A bs.length (bs.map bv)) (hc : bs.length ≤ c) (hl : bs.length ≤ 2147483647) (hk : (lowL bs 1 ⟨0, false⟩).1 = 1) (hd : (lowL bs 1 (lowL bs 1 ⟨0, false⟩).2).1 = 3) :
    Calls Try.prog 24 #[.slice A bs.length c] w (ReadPost w (readReq bs)) := by
  have HT := Lib.hid (show readReq bs = backL bs (fldL bs 1 (lowL bs 1 ⟨0, false⟩).2) by rw [readReq, reqL, hk])
  generalize readReq bs = TV at HT ⊢
  have hlr0 : Lr ((w.alloc (.cells (List.toArray [.int .i64 0, .int .i64 0, .string ⟨#[]⟩, .string ⟨#[]⟩, .string ⟨#[]⟩, .int .i64 0, .int .i64 0, .string ⟨#[]⟩, .slice none 0 0, .slice none 0 0, .slice none 0 0, .int .i64 0, .string ⟨#[]⟩, .int .i64 0, .int .i64 0, .int .i64 0, .int .i64 0, .int .i64 0]) 31)).alloc (.cells #[.slice A bs.length c, .bool false] 81)) (w.heap.size + 1) bs ⟨0, false⟩ := by
    have h1 := Blk.new (w.alloc (.cells (List.toArray [.int .i64 0, .int .i64 0, .string ⟨#[]⟩, .string ⟨#[]⟩, .string ⟨#[]⟩, .int .i64 0, .int .i64 0, .string ⟨#[]⟩, .slice none 0 0, .slice none 0 0, .slice none 0 0, .int .i64 0, .string ⟨#[]⟩, .int .i64 0, .int .i64 0, .int .i64 0, .int .i64 0, .int .i64 0]) 31)) 81 #[.slice A bs.length c, .bool false]
    have e : (w.alloc (.cells (List.toArray [.int .i64 0, .int .i64 0, .string ⟨#[]⟩, .string ⟨#[]⟩, .string ⟨#[]⟩, .int .i64 0, .int .i64 0, .string ⟨#[]⟩, .slice none 0 0, .slice none 0 0, .slice none 0 0, .int .i64 0, .string ⟨#[]⟩, .int .i64 0, .int .i64 0, .int .i64 0, .int .i64 0, .int .i64 0]) 31)).heap.size = w.heap.size + 1 := by simp
    rw [e] at h1
    exact Lr.mk' h1 ((hrd.alloc _).alloc _) (fun hn ad e h => by have := hrd.lt (by decide) hn e; omega) hc (Nat.zero_le _) (by omega) rfl rfl
  have hR0 := (Blk.new w 31 (List.toArray [.int .i64 0, .int .i64 0, .string ⟨#[]⟩, .string ⟨#[]⟩, .string ⟨#[]⟩, .int .i64 0, .int .i64 0, .string ⟨#[]⟩, .slice none 0 0, .slice none 0 0, .slice none 0 0, .int .i64 0, .string ⟨#[]⟩, .int .i64 0, .int .i64 0, .int .i64 0, .int .i64 0, .int .i64 0])).alloc (.cells #[.slice A bs.length c, .bool false] 81)
  have ho0 : Old w _ := ((Kp.refl NoX w).alloc (.cells (List.toArray [.int .i64 0, .int .i64 0, .string ⟨#[]⟩, .string ⟨#[]⟩, .string ⟨#[]⟩, .int .i64 0, .int .i64 0, .string ⟨#[]⟩, .slice none 0 0, .slice none 0 0, .slice none 0 0, .int .i64 0, .string ⟨#[]⟩, .int .i64 0, .int .i64 0, .int .i64 0, .int .i64 0, .int .i64 0]) 31)).alloc (.cells #[.slice A bs.length c, .bool false] 81)
  have Hrd := Lib.hid hrd
  have Hl := Lib.hid hl
  have Hn := Lib.hid (low_num bs 1 ⟨0, false⟩ (by decide))
  have Hk := Lib.hid hk
  have Hd := Lib.hid hd
  clear hrd hk hl hc hd
  go_enter Try.func24, Try.ntmps24
  go_wp2_with fail
  generalize (w.alloc _).alloc _ = W0 at *
  refine (number_any W0 (w.heap.size + 1) bs 1 ⟨0, false⟩ hlr0 (by decide)).mono ?_
  rintro e w1 ⟨rfl, hL1, hk1⟩
  rw [Hn.out, Hk.out] at *
  simp only at hL1
  generalize (lowL bs 1 ⟨0, false⟩).2 = s1 at *
  have hD : RdSt w w.heap.size (w.heap.size + 1) w1.heap.size bs [.int .i64 1, .int .i64 0, .string ⟨#[]⟩, .string ⟨#[]⟩, .string ⟨#[]⟩, .int .i64 0, .int .i64 0, .string ⟨#[]⟩, .slice none 0 0, .slice none 0 0, .slice none 0 0, .int .i64 0, .string ⟨#[]⟩, .int .i64 0, .int .i64 0, .int .i64 0, .int .i64 0, .int .i64 0] s1 (w1.alloc (.cells (List.toArray [.int .i64 1, .int .i64 0, .string ⟨#[]⟩, .string ⟨#[]⟩, .string ⟨#[]⟩, .int .i64 0, .int .i64 0, .string ⟨#[]⟩, .slice none 0 0, .slice none 0 0, .slice none 0 0, .int .i64 0, .string ⟨#[]⟩, .int .i64 0, .int .i64 0, .int .i64 0, .int .i64 0, .int .i64 0]) 31)) :=
    ⟨Blk.new w1 _ _, (hR0.kp hk1 (fun e => by have : w.heap.size = w.heap.size + 1 := e; omega)).alloc _, hL1.old ((Kp.refl NoX w1).alloc _),
      (ho0.trans hk1 (fun b hb e => by have : b = w.heap.size + 1 := e; omega)).alloc _, rfl, Nat.lt_succ_self _, hL1.lt⟩
  have HD := Lib.hid hD
  clear hD hR0 ho0 hlr0 hL1 hk1
  go_upto_region 3 with (fail)
  generalize w1.alloc _ = w3 at *
  generalize w1.heap.size = Q at *
  have HT := Lib.hid (show TV = backL bs ({ zeroReq with op := 1, do_ := (opL bs 3 (lowL bs 1 s1).2).1 }, (opL bs 3 (lowL bs 1 s1).2).2) by
    rw [HT.out, fldL, if_pos (by simp), Hd.out]
    rfl)
  have Hn2 := Lib.hid (low_num bs 1 s1 (by decide))
  have c0 := HD.out.boxQ.at_ 0 (v := .int .i64 1) rfl
  go_wp2_with fail
  refine (number_any _ (w.heap.size + 1) bs 1 s1 HD.out.lr (by decide)).mono ?_
  rintro e v4 ⟨rfl, hr4, hk4⟩
  rw [Hn2.out, Hd.out] at *
  simp only at hr4
  have HD := Lib.hid (HD.out.step hr4 hk4)
  clear hr4 hk4 Hn2
  generalize (lowL bs 1 s1).2 = s2 at *
  have a1 := HD.out.boxQ.at_ 1 (v := .int .i64 0) rfl
  have z1 := HD.out.boxQ.frozen 1
  go_upto_region 7 with (fail)
  have HD := Lib.hid (show RdSt w w.heap.size (w.heap.size + 1) Q bs [.int .i64 1, .int .i64 3, .string ⟨#[]⟩, .string ⟨#[]⟩, .string ⟨#[]⟩, .int .i64 0, .int .i64 0, .string ⟨#[]⟩, .slice none 0 0, .slice none 0 0, .slice none 0 0, .int .i64 0, .string ⟨#[]⟩, .int .i64 0, .int .i64 0, .int .i64 0, .int .i64 0, .int .i64 0] s2 (v4.setCell ⟨Q, 1, none⟩ (.int .i64 3)) from HD.out.set 1 (.int .i64 3))
  clear a1 z1
  generalize v4.setCell _ _ = v5 at *
  clear c0
  have c1 := HD.out.boxQ.at_ 1 (v := .int .i64 3) rfl
  have HT := Lib.hid (show TV = backL bs ({ zeroReq with op := 1, do_ := { zeroOpn with op := 3, case_ := (textL bs s2).1, name := (textL bs (textL bs s2).2).1, value := (valueL bs (textL bs (textL bs s2).2).2).1 } }, (valueL bs (textL bs (textL bs s2).2).2).2) by
    rw [HT.out]
    rfl)
  go_wp2_with fail
  refine (btext_any _ (w.heap.size + 1) bs s2 HD.out.lr).mono ?_
  rintro e v6 ⟨rfl, hr6, hk6⟩
  have hzt1 := Lib.hid (textL_size bs s2 Hl.out)
  have HD := Lib.hid (HD.out.step hr6 hk6)
  clear hr6 hk6
  generalize (textL bs s2).2 = s3 at *
  generalize (textL bs s2).1 = t1 at *
  have a2 := HD.out.boxQ.at_ 2 (v := .string ⟨#[]⟩) rfl
  have z2 := HD.out.boxQ.frozen 2
  go_wp2_with fail
  have HD := Lib.hid (show RdSt w w.heap.size (w.heap.size + 1) Q bs [.int .i64 1, .int .i64 3, .string t1, .string ⟨#[]⟩, .string ⟨#[]⟩, .int .i64 0, .int .i64 0, .string ⟨#[]⟩, .slice none 0 0, .slice none 0 0, .slice none 0 0, .int .i64 0, .string ⟨#[]⟩, .int .i64 0, .int .i64 0, .int .i64 0, .int .i64 0, .int .i64 0] s3 (v6.setCell ⟨Q, 2, none⟩ (.string t1)) from HD.out.set 2 (.string t1))
  clear a2 z2
  generalize v6.setCell _ _ = v7 at *
  refine (btext_any _ (w.heap.size + 1) bs s3 HD.out.lr).mono ?_
  rintro e v8 ⟨rfl, hr8, hk8⟩
  have hzt2 := Lib.hid (textL_size bs s3 Hl.out)
  have HD := Lib.hid (HD.out.step hr8 hk8)
  clear hr8 hk8
  generalize (textL bs s3).2 = s4 at *
  generalize (textL bs s3).1 = t2 at *
  have a4 := HD.out.boxQ.at_ 4 (v := .string ⟨#[]⟩) rfl
  have z4 := HD.out.boxQ.frozen 4
  go_wp2_with fail
  have HD := Lib.hid (show RdSt w w.heap.size (w.heap.size + 1) Q bs [.int .i64 1, .int .i64 3, .string t1, .string ⟨#[]⟩, .string t2, .int .i64 0, .int .i64 0, .string ⟨#[]⟩, .slice none 0 0, .slice none 0 0, .slice none 0 0, .int .i64 0, .string ⟨#[]⟩, .int .i64 0, .int .i64 0, .int .i64 0, .int .i64 0, .int .i64 0] s4 (v8.setCell ⟨Q, 4, none⟩ (.string t2)) from HD.out.set 4 (.string t2))
  clear a4 z4
  generalize v8.setCell _ _ = v9 at *
  refine (bvalue_any _ (w.heap.size + 1) bs s4 HD.out.lr).mono ?_
  rintro e w6 ⟨A6, c6, rfl, hrd6, hav6, hcp6, hbg6, hr6, hk6⟩
  have Hlt6 := Lib.hid HD.out.boxQ.lt
  have HD := Lib.hid (HD.out.step hr6 hk6)
  have Hrd6 := Lib.hid hrd6
  have Hav6 := Lib.hid hav6
  have Hcp6 := Lib.hid hcp6
  have Hbg6 := Lib.hid hbg6
  clear hr6 hk6 hrd6 hav6 hcp6 hbg6
  generalize (valueL bs s4).2 = s5 at *
  generalize (valueL bs s4).1 = vv at *
  obtain ⟨vk, vn, vt, vs⟩ := vv
  unfold vV
  simp only at Hrd6 Hav6 Hcp6 Hbg6
  have Hkp := Lib.hid (Kp.setCells Q 5 [.int .i64 vk, .int .i64 vn, .string vt, .slice A6 vs.length c6] w6)
  go_upto_region 45 with (first | refine wpList_store_mid rfl 25 (.tmp 60) (.tmp 58) rfl Q 5 _ rfl rfl (HD.out.boxQ.there 5 4 (Nat.le_of_ble_eq_true rfl)) Try.sizeValue (all_one rfl) ?_ | fail)
  have HD2 : Hid (RdSt w w.heap.size (w.heap.size + 1) Q bs [.int .i64 1, .int .i64 3, .string t1, .string ⟨#[]⟩, .string t2, .int .i64 vk, .int .i64 vn, .string vt, .slice A6 vs.length c6, .slice none 0 0, .slice none 0 0, .int .i64 0, .string ⟨#[]⟩, .int .i64 0, .int .i64 0, .int .i64 0, .int .i64 0, .int .i64 0] s5 (w6.setCells Q 5 [.int .i64 vk, .int .i64 vn, .string vt, .slice A6 vs.length c6])) := Lib.hid (HD.out.put Hkp.out (Blk.setCells (pre := [.int .i64 1, .int .i64 3, .string t1, .string ⟨#[]⟩, .string t2]) (mid := [.int .i64 0, .int .i64 0, .string ⟨#[]⟩, .slice none 0 0]) (post := [.slice none 0 0, .slice none 0 0, .int .i64 0, .string ⟨#[]⟩, .int .i64 0, .int .i64 0, .int .i64 0, .int .i64 0, .int .i64 0]) HD.out.boxQ [.int .i64 vk, .int .i64 vn, .string vt, .slice A6 vs.length c6] rfl))
  have Hrd7 := Lib.hid (Hrd6.out.kp Hkp.out (fun hn ad e hx => Hav6.out hn ad e (by have h1 : ad.block = Q := hx; have := Hlt6.out; omega)))
  have Hav7 := Lib.hid (show Av (fun k => k ≤ w.heap.size + 1) vs.length A6 from fun hn ad e hx => Hav6.out hn ad e (by have h1 : ad.block ≤ w.heap.size + 1 := hx; have := Hlt6.out; have := HD.out.gt; omega))
  clear HD Hrd6 Hav6 Hlt6 Hkp
  have HD := HD2
  clear HD2
  generalize w6.setCells _ _ _ = v99 at *
  have HT := Lib.hid (show TV = backL bs (MReq.data (⟨1, (⟨3, t1, ⟨#[]⟩, t2, ⟨⟨vk, vn, vt, vs⟩, A6, c6⟩, [], none, 0, [], none, 0, 0⟩ : MOp), ⟨#[]⟩, 0, 0, 0, 0, 0⟩ : MReq), s5) from HT.out)
  clear c1
  have Hok := Lib.hid (show MOp.Ok v99 (fun k => k ≤ w.heap.size + 1) (⟨3, t1, ⟨#[]⟩, t2, ⟨⟨vk, vn, vt, vs⟩, A6, c6⟩, [], none, 0, [], none, 0, 0⟩ : MOp) from valOp_ok _ _ _ _ _ _ ⟨vk, vn, vt, vs⟩ A6 c6 _ Hrd7.out Hav7.out Hcp6.out Hbg6.out hzt1.out (Nat.zero_le _) hzt2.out)
  generalize s5 = sz at *
  generalize v99 = wz at *
  obtain ⟨p0, sh0⟩ := sz
  have d0 : wz.cell? ⟨w.heap.size + 1, 1, none⟩ = some (.bool sh0) := by
    obtain ⟨Ar, cr, hbr, _⟩ := HD.out.lr
    exact hbr.at_ 1 (v := .bool sh0) rfl
  cases sh0
  case true =>
    have HN := Lib.hid (show TV = none by rw [HT.out, backL, if_neg (by simp)])
    have Hz := Lib.hid (HD.out.told zeroReqC rfl)
    go_wp2_with (first | refine wpList_store_mid rfl 31 (.tmp 2) (.tmp 156) rfl w.heap.size 0 _ rfl rfl (HD.out.boxR.there 0 18 (by decide)) Try.sizeRequest (all_one rfl) ?_ | fail)
    refine ret_cell_tmp (g := w.heap.size) (cs := zeroReqC.toArray) rfl rfl Hz.out.1 Try.underlying31 rfl (by kernel_rfl) rfl ?_
    exact .inr ⟨HN.out, rfl, Hz.out.2.1⟩
  have Hmok := Lib.hid (show MReq.Ok wz (⟨1, (⟨3, t1, ⟨#[]⟩, t2, ⟨⟨vk, vn, vt, vs⟩, A6, c6⟩, [], none, 0, [], none, 0, 0⟩ : MOp), ⟨#[]⟩, 0, 0, 0, 0, 0⟩ : MReq) from ⟨Hok.out.weak (fun k e => e.elim), by exact Nat.zero_le _⟩)
  have HM := Lib.hid (rreq_any (⟨1, (⟨3, t1, ⟨#[]⟩, t2, ⟨⟨vk, vn, vt, vs⟩, A6, c6⟩, [], none, 0, [], none, 0, 0⟩ : MOp), ⟨#[]⟩, 0, 0, 0, 0, 0⟩ : MReq) wz Hmok.out)
  have Hraw := Lib.hid (Hrd.out.old HD.out.old)
  have HB := Lib.hid (show ∀ b : Bool, b = decide (encReq (MReq.data (⟨1, (⟨3, t1, ⟨#[]⟩, t2, ⟨⟨vk, vn, vt, vs⟩, A6, c6⟩, [], none, 0, [], none, 0, 0⟩ : MOp), ⟨#[]⟩, 0, 0, 0, 0, 0⟩ : MReq)) = some bs) → TV = if b = true then some (MReq.data (⟨1, (⟨3, t1, ⟨#[]⟩, t2, ⟨⟨vk, vn, vt, vs⟩, A6, c6⟩, [], none, 0, [], none, 0, 0⟩ : MOp), ⟨#[]⟩, 0, 0, 0, 0, 0⟩ : MReq)) else none from fun b hb => by
    rw [HT.out, backL, hb]
    simp)
  go_wp2_with (first | refine Try.load_wanted rfl 31 (.tmp 5) rfl Q 0 rfl [.int .i64 1, .int .i64 3, .string t1, .string ⟨#[]⟩, .string t2, .int .i64 vk, .int .i64 vn, .string vt, .slice A6 vs.length c6, .slice none 0 0, .slice none 0 0, .int .i64 0, .string ⟨#[]⟩, .int .i64 0, .int .i64 0, .int .i64 0, .int .i64 0, .int .i64 0] _ HD.out.boxQ.range Try.underlying31 rfl Try.sizeRequest ?_ | fail)
  refine HM.out.mono ?_
  clear d0 HM Hmok
  rintro e w5 (⟨le, Ae, ce, hle, hne, rfl, hrow, ho5⟩ | ⟨hno, rfl, ho5⟩)
  · obtain ⟨ge, rfl, hge⟩ := hrow.some_ hne
    have HD := Lib.hid (HD.out.still ho5)
    have Hok := Lib.hid (Hok.out.old ho5)
    have HS := Lib.hid (rsame_some w5 ge 0 A ce c le bs hrow.rd (Hraw.out.old ho5) (by have := encReq_le hle; omega))
    have HBB := Lib.hid (HB.out (decide (le = bs)) (by rw [hle]; simp))
    clear ho5 hrow hne hle HB Hraw
    generalize decide (le = bs) = bb at HS HBB
    go_wp2_with fail
    refine HS.out.mono ?_
    rintro e w6 ⟨rfl, ho6⟩
    have HD := Lib.hid (HD.out.still ho6)
    have Hok := Lib.hid (Hok.out.old ho6)
    clear ho6 HS
    cases bb
    · have Hz := Lib.hid (HD.out.told zeroReqC rfl)
      go_wp2_with (first | refine wpList_store_mid rfl 31 (.tmp 2) (.tmp 156) rfl w.heap.size 0 _ rfl rfl (HD.out.boxR.there 0 18 (by decide)) Try.sizeRequest (all_one rfl) ?_ | fail)
      refine ret_cell_tmp (g := w.heap.size) (cs := zeroReqC.toArray) rfl rfl Hz.out.1 Try.underlying31 rfl (by kernel_rfl) rfl ?_
      exact .inr ⟨HBB.out, rfl, Hz.out.2.1⟩
    · have Hz := Lib.hid (HD.out.told [.int .i64 1, .int .i64 3, .string t1, .string ⟨#[]⟩, .string t2, .int .i64 vk, .int .i64 vn, .string vt, .slice A6 vs.length c6, .slice none 0 0, .slice none 0 0, .int .i64 0, .string ⟨#[]⟩, .int .i64 0, .int .i64 0, .int .i64 0, .int .i64 0, .int .i64 0] rfl)
      go_wp2_with (first | refine wpList_load_mid rfl 31 (.tmp 5) rfl Q 0 rfl [.int .i64 1, .int .i64 3, .string t1, .string ⟨#[]⟩, .string t2, .int .i64 vk, .int .i64 vn, .string vt, .slice A6 vs.length c6, .slice none 0 0, .slice none 0 0, .int .i64 0, .string ⟨#[]⟩, .int .i64 0, .int .i64 0, .int .i64 0, .int .i64 0, .int .i64 0] _ HD.out.boxQ.range Try.underlying31 rfl Try.sizeRequest ?_ | refine wpList_store_mid rfl 31 (.tmp 2) (.tmp 157) rfl w.heap.size 0 _ rfl rfl (HD.out.boxR.there 0 18 (by decide)) Try.sizeRequest (all_one rfl) ?_ | fail)
      refine ret_cell_tmp (g := w.heap.size) (cs := List.toArray [.int .i64 1, .int .i64 3, .string t1, .string ⟨#[]⟩, .string t2, .int .i64 vk, .int .i64 vn, .string vt, .slice A6 vs.length c6, .slice none 0 0, .slice none 0 0, .int .i64 0, .string ⟨#[]⟩, .int .i64 0, .int .i64 0, .int .i64 0, .int .i64 0, .int .i64 0]) rfl rfl Hz.out.1 Try.underlying31 rfl (by kernel_rfl) rfl ?_
      refine .inl ⟨(⟨1, (⟨3, t1, ⟨#[]⟩, t2, ⟨⟨vk, vn, vt, vs⟩, A6, c6⟩, [], none, 0, [], none, 0, 0⟩ : MOp), ⟨#[]⟩, 0, 0, 0, 0, 0⟩ : MReq), HBB.out, rfl, ?_, ?_, Hz.out.2.1⟩
      · exact (Hok.out.sub Hz.out.2.2 (fun k e => by have h1 : k = w.heap.size := e; show k ≤ w.heap.size + 1; omega)).weak (fun k e => by have h1 : k < w.heap.size := e; show k ≤ w.heap.size + 1; omega)
      · exact Nat.zero_le _
  · have HD := Lib.hid (HD.out.still ho5)
    have HS := Lib.hid (rsame_nil w5 A c bs.length)
    have HBB := Lib.hid (HB.out false (by rw [hno]; simp))
    clear ho5 hno HB Hraw
    go_wp2_with fail
    refine HS.out.mono ?_
    rintro e w6 ⟨rfl, ho6⟩
    have HD := Lib.hid (HD.out.still ho6)
    clear ho6 HS
    have Hz := Lib.hid (HD.out.told zeroReqC rfl)
    go_wp2_with (first | refine wpList_store_mid rfl 31 (.tmp 2) (.tmp 156) rfl w.heap.size 0 _ rfl rfl (HD.out.boxR.there 0 18 (by decide)) Try.sizeRequest (all_one rfl) ?_ | fail)
    refine ret_cell_tmp (g := w.heap.size) (cs := zeroReqC.toArray) rfl rfl Hz.out.1 Try.underlying31 rfl (by kernel_rfl) rfl ?_
    exact .inr ⟨HBB.out, rfl, Hz.out.2.1⟩

end Go.Proofs.Ytnaolhjbapgjgaa

/- While the document reads a request's arguments. -/
namespace Go.Proofs.Ytnaolhjbapgjgaa
open Go.RowKit

theorem lowL_lt (bs : List UInt8) (s : Ls) : (lowL bs 1 s).1 < 256 := by
  have h1 := nextL_len bs 1 s
  have h2 := ofBe_lt (nextL bs 1 s).1
  have h3 : (256 : Nat) ^ (nextL bs 1 s).1.length ≤ 256 ^ 1 := Nat.pow_le_pow_right (by decide) h1
  simp only [lowL]
  omega
/-- the cells of a request so far whose operation calls an action -/
def callC (k : Int) (t1 t2 : ByteArray) (A : Option Addr) (j c : Nat) : List Value := [.int .i64 k, .int .i64 4, .string t1, .string ⟨#[]⟩, .string t2, .int .i64 0, .int .i64 0, .string ⟨#[]⟩, .slice none 0 0, .slice A j c, .slice none 0 0, .int .i64 0, .string ⟨#[]⟩, .int .i64 0, .int .i64 0, .int .i64 0, .int .i64 0, .int .i64 0]
structure RdLoop (w : World) (R g Q : Nat) (bs : List UInt8) (kk : Int) (t1 t2 : ByteArray) (wr : World) (j : Nat) (ms : List MVal) (A : Option Addr) (c : Nat) (s : Ls) : Prop where
  len : ms.length = j
  own : wr.ownsRow (Q + 1) 25 4 (.slice A j c) j (ms.flatMap MVal.cells)
  vals : ∀ v ∈ ms, MVal.Ok wr (fun b => b ≤ Q ∨ A.map (·.block) = some b) v
  st : RdSt w R g Q bs (callC kk t1 t2 A j c) s wr
section
variable {w : World} {R g Q : Nat} {bs : List UInt8} {kk : Int} {t1 t2 : ByteArray} {wr : World} {j : Nat} {ms : List MVal} {A : Option Addr} {c : Nat} {s : Ls}
theorem RdLoop.step {w5 : World} {sz : Ls} (h : RdLoop w R g Q bs kk t1 t2 wr j ms A c s) (hr : Lr w5 g bs sz) (hk : Kp (RX g) wr w5) : RdLoop w R g Q bs kk t1 t2 w5 j ms A c sz := by
  have hgt := h.st.gt
  exact ⟨h.len, own_kp h.own hk (fun b e e' => by
    have := (own_ge h.own (b := b) (by rw [← e, ownBlock_slice])).1
    have : b = g := e'
    omega), fun v hv => (h.vals v hv).sub hk (fun b e => .inl (by have : b = g := e; omega)), h.st.step hr hk⟩
theorem RdLoop.old {w5 : World} (h : RdLoop w R g Q bs kk t1 t2 wr j ms A c s) (hk : Old wr w5) : RdLoop w R g Q bs kk t1 t2 w5 j ms A c s :=
  h.step (h.st.lr.old hk) (hk.mono (fun _ _ f => f.elim))
theorem RdLoop.put {w7 : World} {v : MVal} {A' : Option Addr} {c' : Nat} (h : RdLoop w R g Q bs kk t1 t2 wr j ms A c s)
    (hv : MVal.Ok wr (fun b => b ≤ Q ∨ A.map (·.block) = some b) v) (hown : w7.ownsRow (Q + 1) 25 4 (.slice A' (j + 1) c') (j + 1) (ms.flatMap MVal.cells ++ v.cells))
    (hg : wr.grownBy w7 (Value.slice A j c).ownBlock) (ha : A'.map (·.block) = (Value.slice A j c).ownBlock ∨ A'.map (·.block) = some wr.heap.size) :
    RdLoop w R g Q bs kk t1 t2 (w7.setCell ⟨Q, 9, none⟩ (.slice A' (j + 1) c')) (j + 1) (ms ++ [v]) A' c' s := by
  rw [ownBlock_slice] at hg ha
  have hgt := h.st.gt
  have hlt := h.st.lt
  have hle := h.st.le
  have hkp : Kp (fun b => A.map (·.block) = some b) wr w7 := (Kp.refl _ wr).grown hg (fun b e _ => e)
  have hkz := hkp.mono (Y := fun b => b ≤ Q ∨ A.map (·.block) = some b) (fun b _ e => .inr e)
  have hkz2 := hkz.setCell (p := ⟨Q, 9, none⟩) (fun _ => .inl (Nat.le_refl _)) (.slice A' (j + 1) c')
  have hok : ∀ u, MVal.Ok wr (fun b => b ≤ Q ∨ A.map (·.block) = some b) u → MVal.Ok (w7.setCell ⟨Q, 9, none⟩ (.slice A' (j + 1) c')) (fun b => b ≤ Q ∨ A'.map (·.block) = some b) u := by
    intro u hu
    have h1 := hu.sub hkz2 (fun _ e => e)
    refine ⟨h1.rd, fun hn ad e hx => ?_, h1.cap, h1.big⟩
    have h2 := hu.av hn ad e
    have h3 := hu.rd.lt (by decide) hn e
    rcases hx with hx | hx
    · exact h2 (.inl hx)
    · rcases ha with ha | ha
      · exact h2 (.inr (ha ▸ hx))
      · rw [ha] at hx; injection hx with hx; omega
  have hst7 : RdSt w R g Q bs (callC kk t1 t2 A j c) s w7 :=
    ⟨h.st.boxQ.kp hkp (fun e => by have := (own_ge h.own e).1; omega), h.st.boxR.kp hkp (fun e => by have := (own_ge h.own e).1; omega), h.st.lr.kp hkp (fun k hk e => by have := (own_ge h.own e).1; omega),
      h.st.old.trans hkp (fun b hb e => by have := (own_ge h.own e).1; omega), h.st.le, h.st.lt, h.st.gt⟩
  refine ⟨by simp [h.len], ?_, ?_, hst7.set 9 (.slice A' (j + 1) c')⟩
  · rw [List.flatMap_append, List.flatMap_singleton]
    exact own_kp hown ((Kp.refl (fun b => b = Q) w7).setCell (p := ⟨Q, 9, none⟩) (fun _ => rfl) _) (fun b e e' => by
      have := (own_ge hown (b := b) (by rw [← e, ownBlock_slice])).1
      omega)
  · intro u hu
    rcases List.mem_append.1 hu with hu | hu
    · exact hok u (h.vals u hu)
    · rw [List.mem_singleton.1 hu]; exact hok v hv
theorem RdLoop.ok (h : RdLoop w R g Q bs kk t1 t2 wr j ms A c s) (ht1 : t1.size ≤ 2147483647) (ht2 : t2.size ≤ 2147483647) (hj : j ≤ 255) :
    MOp.Ok wr (fun k => k ≤ g) ⟨4, t1, ⟨#[]⟩, t2, ⟨⟨0, 0, ⟨#[]⟩, []⟩, none, 0⟩, ms, A, c, [], none, 0, 0⟩ := by
  have hgt := h.st.gt
  have hl := h.len
  subst hl
  exact ⟨zeroM_ok _ _ _ rfl, (fun v hv => (h.vals v hv).weak (fun k e => .inl (by have : k ≤ g := e; omega))), Rd.of_own h.own, (fun _ ad e hx => by have := (own_ge h.own (b := ad.block) (by rw [show A = some ad from e]; rfl)).1; have h2 : ad.block ≤ g := hx; omega), own_cap h.own, Rd.none_, (fun h => absurd h (by simp)), by simp only; omega, by simp, ht1, by simp only; exact Nat.zero_le _, ht2⟩
end
end Go.Proofs.Ytnaolhjbapgjgaa
