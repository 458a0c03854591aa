import Derived.Test.YtnaolhjbapgjgaaMg35
import Derived.Deep.DeepCutAuto
/- Contract of docketref24.ReadRequest: op 1, do 1. -/
namespace Go.Proofs.Ytnaolhjbapgjgaa
open Go.RowKit

set_option maxRecDepth 100000 in
set_option maxHeartbeats 6400000 in
theorem read_1_1 (w : World) (A : Option Addr) (c : Nat) (bs : List UInt8) (hrd : Rd w 1 A bs.length (bs.map bv)) (hc : bs.length ≤ c) (hl : bs.length ≤ 2147483647) (hk : (lowL bs 1 ⟨0, false⟩).1 = 1) (hd : (lowL bs 1 (lowL bs 1 ⟨0, false⟩).2).1 = 1) :
    Calls Try.prog 24 #[.slice A bs.length c] w (ReadPost w (readReq bs)) := by
  have HT := Lib.hid (show readReq bs = backL bs (fldL bs 1 (lowL bs 1 ⟨0, false⟩).2) by rw [readReq, reqL, hk])
  generalize readReq bs = TV at HT ⊢
  have hlr0 : Lr ((w.alloc (.cells (List.toArray [.int .i64 0, .int .i64 0, .string ⟨#[]⟩, .string ⟨#[]⟩, .string ⟨#[]⟩, .int .i64 0, .int .i64 0, .string ⟨#[]⟩, .slice none 0 0, .slice none 0 0, .slice none 0 0, .int .i64 0, .string ⟨#[]⟩, .int .i64 0, .int .i64 0, .int .i64 0, .int .i64 0, .int .i64 0]) 31)).alloc (.cells #[.slice A bs.length c, .bool false] 81)) (w.heap.size + 1) bs ⟨0, false⟩ := by
    have h1 := Blk.new (w.alloc (.cells (List.toArray [.int .i64 0, .int .i64 0, .string ⟨#[]⟩, .string ⟨#[]⟩, .string ⟨#[]⟩, .int .i64 0, .int .i64 0, .string ⟨#[]⟩, .slice none 0 0, .slice none 0 0, .slice none 0 0, .int .i64 0, .string ⟨#[]⟩, .int .i64 0, .int .i64 0, .int .i64 0, .int .i64 0, .int .i64 0]) 31)) 81 #[.slice A bs.length c, .bool false]
    have e : (w.alloc (.cells (List.toArray [.int .i64 0, .int .i64 0, .string ⟨#[]⟩, .string ⟨#[]⟩, .string ⟨#[]⟩, .int .i64 0, .int .i64 0, .string ⟨#[]⟩, .slice none 0 0, .slice none 0 0, .slice none 0 0, .int .i64 0, .string ⟨#[]⟩, .int .i64 0, .int .i64 0, .int .i64 0, .int .i64 0, .int .i64 0]) 31)).heap.size = w.heap.size + 1 := by simp
    rw [e] at h1
    exact Lr.mk' h1 ((hrd.alloc _).alloc _) (fun hn ad e h => by have := hrd.lt (by decide) hn e; omega) hc (Nat.zero_le _) (by omega) rfl rfl
  have hR0 := (Blk.new w 31 (List.toArray [.int .i64 0, .int .i64 0, .string ⟨#[]⟩, .string ⟨#[]⟩, .string ⟨#[]⟩, .int .i64 0, .int .i64 0, .string ⟨#[]⟩, .slice none 0 0, .slice none 0 0, .slice none 0 0, .int .i64 0, .string ⟨#[]⟩, .int .i64 0, .int .i64 0, .int .i64 0, .int .i64 0, .int .i64 0])).alloc (.cells #[.slice A bs.length c, .bool false] 81)
  have ho0 : Old w _ := ((Kp.refl NoX w).alloc (.cells (List.toArray [.int .i64 0, .int .i64 0, .string ⟨#[]⟩, .string ⟨#[]⟩, .string ⟨#[]⟩, .int .i64 0, .int .i64 0, .string ⟨#[]⟩, .slice none 0 0, .slice none 0 0, .slice none 0 0, .int .i64 0, .string ⟨#[]⟩, .int .i64 0, .int .i64 0, .int .i64 0, .int .i64 0, .int .i64 0]) 31)).alloc (.cells #[.slice A bs.length c, .bool false] 81)
  have Hrd := Lib.hid hrd
  have Hl := Lib.hid hl
  have Hn := Lib.hid (low_num bs 1 ⟨0, false⟩ (by decide))
  have Hk := Lib.hid hk
  have Hd := Lib.hid hd
  clear hrd hk hl hc hd
  go_enter Try.func24, Try.ntmps24
  go_wp2_with fail
  generalize (w.alloc _).alloc _ = W0 at *
  refine (number_any W0 (w.heap.size + 1) bs 1 ⟨0, false⟩ hlr0 (by decide)).mono ?_
  rintro e w1 ⟨rfl, hL1, hk1⟩
  rw [Hn.out, Hk.out] at *
  simp only at hL1
  generalize (lowL bs 1 ⟨0, false⟩).2 = s1 at *
  have hD : RdSt w w.heap.size (w.heap.size + 1) w1.heap.size bs [.int .i64 1, .int .i64 0, .string ⟨#[]⟩, .string ⟨#[]⟩, .string ⟨#[]⟩, .int .i64 0, .int .i64 0, .string ⟨#[]⟩, .slice none 0 0, .slice none 0 0, .slice none 0 0, .int .i64 0, .string ⟨#[]⟩, .int .i64 0, .int .i64 0, .int .i64 0, .int .i64 0, .int .i64 0] s1 (w1.alloc (.cells (List.toArray [.int .i64 1, .int .i64 0, .string ⟨#[]⟩, .string ⟨#[]⟩, .string ⟨#[]⟩, .int .i64 0, .int .i64 0, .string ⟨#[]⟩, .slice none 0 0, .slice none 0 0, .slice none 0 0, .int .i64 0, .string ⟨#[]⟩, .int .i64 0, .int .i64 0, .int .i64 0, .int .i64 0, .int .i64 0]) 31)) :=
    ⟨Blk.new w1 _ _, (hR0.kp hk1 (fun e => by have : w.heap.size = w.heap.size + 1 := e; omega)).alloc _, hL1.old ((Kp.refl NoX w1).alloc _),
      (ho0.trans hk1 (fun b hb e => by have : b = w.heap.size + 1 := e; omega)).alloc _, rfl, Nat.lt_succ_self _, hL1.lt⟩
  have HD := Lib.hid hD
  clear hD hR0 ho0 hlr0 hL1 hk1
  go_upto_region 3 with (fail)
  generalize w1.alloc _ = w3 at *
  generalize w1.heap.size = Q at *
  have HT := Lib.hid (show TV = backL bs ({ zeroReq with op := 1, do_ := (opL bs 1 (lowL bs 1 s1).2).1 }, (opL bs 1 (lowL bs 1 s1).2).2) by
    rw [HT.out, fldL, if_pos (by simp), Hd.out]
    rfl)
  have Hn2 := Lib.hid (low_num bs 1 s1 (by decide))
  have c0 := HD.out.boxQ.at_ 0 (v := .int .i64 1) rfl
  go_wp2_with fail
  refine (number_any _ (w.heap.size + 1) bs 1 s1 HD.out.lr (by decide)).mono ?_
  rintro e v4 ⟨rfl, hr4, hk4⟩
  rw [Hn2.out, Hd.out] at *
  simp only at hr4
  have HD := Lib.hid (HD.out.step hr4 hk4)
  clear hr4 hk4 Hn2
  generalize (lowL bs 1 s1).2 = s2 at *
  have a1 := HD.out.boxQ.at_ 1 (v := .int .i64 0) rfl
  have z1 := HD.out.boxQ.frozen 1
  go_upto_region 7 with (fail)
  have HD := Lib.hid (show RdSt w w.heap.size (w.heap.size + 1) Q bs [.int .i64 1, .int .i64 1, .string ⟨#[]⟩, .string ⟨#[]⟩, .string ⟨#[]⟩, .int .i64 0, .int .i64 0, .string ⟨#[]⟩, .slice none 0 0, .slice none 0 0, .slice none 0 0, .int .i64 0, .string ⟨#[]⟩, .int .i64 0, .int .i64 0, .int .i64 0, .int .i64 0, .int .i64 0] s2 (v4.setCell ⟨Q, 1, none⟩ (.int .i64 1)) from HD.out.set 1 (.int .i64 1))
  clear a1 z1
  generalize v4.setCell _ _ = v5 at *
  clear c0
  have c1 := HD.out.boxQ.at_ 1 (v := .int .i64 1) rfl
  have HT := Lib.hid (show TV = backL bs ({ zeroReq with op := 1, do_ := { zeroOpn with op := 1, type_ := (textL bs s2).1, source := sb (textL bs (textL bs s2).2).1 } }, (textL bs (textL bs s2).2).2) by
    rw [HT.out]
    rfl)
  go_wp2_with fail
  refine (btext_any _ (w.heap.size + 1) bs s2 HD.out.lr).mono ?_
  rintro e v6 ⟨rfl, hr6, hk6⟩
  have hzt1 := Lib.hid (textL_size bs s2 Hl.out)
  have HD := Lib.hid (HD.out.step hr6 hk6)
  clear hr6 hk6
  generalize (textL bs s2).2 = s3 at *
  generalize (textL bs s2).1 = t1 at *
  have a3 := HD.out.boxQ.at_ 3 (v := .string ⟨#[]⟩) rfl
  have z3 := HD.out.boxQ.frozen 3
  go_wp2_with fail
  have HD := Lib.hid (show RdSt w w.heap.size (w.heap.size + 1) Q bs [.int .i64 1, .int .i64 1, .string ⟨#[]⟩, .string t1, .string ⟨#[]⟩, .int .i64 0, .int .i64 0, .string ⟨#[]⟩, .slice none 0 0, .slice none 0 0, .slice none 0 0, .int .i64 0, .string ⟨#[]⟩, .int .i64 0, .int .i64 0, .int .i64 0, .int .i64 0, .int .i64 0] s3 (v6.setCell ⟨Q, 3, none⟩ (.string t1)) from HD.out.set 3 (.string t1))
  clear a3 z3
  generalize v6.setCell _ _ = v7 at *
  refine (btext_any _ (w.heap.size + 1) bs s3 HD.out.lr).mono ?_
  rintro e v8 ⟨rfl, hr8, hk8⟩
  have hzt2 := Lib.hid (textL_size bs s3 Hl.out)
  have HD := Lib.hid (HD.out.step hr8 hk8)
  clear hr8 hk8
  generalize (textL bs s3).2 = s4 at *
  generalize (textL bs s3).1 = t2 at *
  go_upto_region 45 with (first | (with_reducible refine at_conv 9 27 ?_; refine wpList_conv_sb _ Try.underlying9 Try.underlying27 Try.underlying5 t2 rfl ?_; intro A6 c6 w6 hrd6 ho6 hav6; have HD6 := Lib.hid (HD.out.still ho6); have a10 := HD6.out.boxQ.at_ 10 (v := .slice none 0 0) rfl; have z10 := HD6.out.boxQ.frozen 10) | fail)
  have Hlt6 := Lib.hid HD.out.boxQ.lt
  have Hav6 := Lib.hid hav6
  have Hrd6 := Lib.hid hrd6
  clear hav6 hrd6 ho6 HD
  have HD := Lib.hid (show RdSt w w.heap.size (w.heap.size + 1) Q bs [.int .i64 1, .int .i64 1, .string ⟨#[]⟩, .string t1, .string ⟨#[]⟩, .int .i64 0, .int .i64 0, .string ⟨#[]⟩, .slice none 0 0, .slice none 0 0, .slice A6 t2.size c6, .int .i64 0, .string ⟨#[]⟩, .int .i64 0, .int .i64 0, .int .i64 0, .int .i64 0, .int .i64 0] s4 (w6.setCell ⟨Q, 10, none⟩ (.slice A6 t2.size c6)) from HD6.out.set 10 (.slice A6 t2.size c6))
  have Hrd7 := Lib.hid (Hrd6.out.kp ((Kp.refl (fun k => k = Q) w6).setCell (p := ⟨Q, 10, none⟩) (fun _ => rfl) (.slice A6 t2.size c6)) (fun hn ad e hx => Hav6.out hn ad e (by have h1 : ad.block = Q := hx; have := Hlt6.out; omega)))
  have Hav7 := Lib.hid (show Av (fun k => k ≤ w.heap.size + 1) t2.size A6 from fun hn ad e hx => Hav6.out hn ad e (by have h1 : ad.block ≤ w.heap.size + 1 := hx; have := Hlt6.out; have := HD6.out.gt; omega))
  clear a10 z10 HD6 Hrd6 Hav6 Hlt6
  generalize w6.setCell _ _ = v99 at *
  have HT := Lib.hid (show TV = backL bs (MReq.data (⟨1, (⟨1, ⟨#[]⟩, t1, ⟨#[]⟩, ⟨⟨0, 0, ⟨#[]⟩, []⟩, none, 0⟩, [], none, 0, sb t2, A6, c6, 0⟩ : MOp), ⟨#[]⟩, 0, 0, 0, 0, 0⟩ : MReq), s4) from HT.out)
  clear c1
  have Hok := Lib.hid (show MOp.Ok v99 (fun k => k ≤ w.heap.size + 1) (⟨1, ⟨#[]⟩, t1, ⟨#[]⟩, ⟨⟨0, 0, ⟨#[]⟩, []⟩, none, 0⟩, [], none, 0, sb t2, A6, c6, 0⟩ : MOp) from srcOp_ok _ _ _ _ _ _ t2 A6 c6 _ Hrd7.out Hav7.out hzt2.out (Nat.zero_le _) hzt1.out (Nat.zero_le _))
  generalize s4 = sz at *
  generalize v99 = wz at *
  obtain ⟨p0, sh0⟩ := sz
  have d0 : wz.cell? ⟨w.heap.size + 1, 1, none⟩ = some (.bool sh0) := by
    obtain ⟨Ar, cr, hbr, _⟩ := HD.out.lr
    exact hbr.at_ 1 (v := .bool sh0) rfl
  cases sh0
  case true =>
    have HN := Lib.hid (show TV = none by rw [HT.out, backL, if_neg (by simp)])
    have Hz := Lib.hid (HD.out.told zeroReqC rfl)
    go_wp2_with (first | refine wpList_store_mid rfl 31 (.tmp 2) (.tmp 156) rfl w.heap.size 0 _ rfl rfl (HD.out.boxR.there 0 18 (by decide)) Try.sizeRequest (all_one rfl) ?_ | fail)
    refine ret_cell_tmp (g := w.heap.size) (cs := zeroReqC.toArray) rfl rfl Hz.out.1 Try.underlying31 rfl (by kernel_rfl) rfl ?_
    exact .inr ⟨HN.out, rfl, Hz.out.2.1⟩
  have Hmok := Lib.hid (show MReq.Ok wz (⟨1, (⟨1, ⟨#[]⟩, t1, ⟨#[]⟩, ⟨⟨0, 0, ⟨#[]⟩, []⟩, none, 0⟩, [], none, 0, sb t2, A6, c6, 0⟩ : MOp), ⟨#[]⟩, 0, 0, 0, 0, 0⟩ : MReq) from ⟨Hok.out.weak (fun k e => e.elim), by exact Nat.zero_le _⟩)
  have HM := Lib.hid (rreq_any (⟨1, (⟨1, ⟨#[]⟩, t1, ⟨#[]⟩, ⟨⟨0, 0, ⟨#[]⟩, []⟩, none, 0⟩, [], none, 0, sb t2, A6, c6, 0⟩ : MOp), ⟨#[]⟩, 0, 0, 0, 0, 0⟩ : MReq) wz Hmok.out)
  have Hraw := Lib.hid (Hrd.out.old HD.out.old)
  have HB := Lib.hid (show ∀ b : Bool, b = decide (encReq (MReq.data (⟨1, (⟨1, ⟨#[]⟩, t1, ⟨#[]⟩, ⟨⟨0, 0, ⟨#[]⟩, []⟩, none, 0⟩, [], none, 0, sb t2, A6, c6, 0⟩ : MOp), ⟨#[]⟩, 0, 0, 0, 0, 0⟩ : MReq)) = some bs) → TV = if b = true then some (MReq.data (⟨1, (⟨1, ⟨#[]⟩, t1, ⟨#[]⟩, ⟨⟨0, 0, ⟨#[]⟩, []⟩, none, 0⟩, [], none, 0, sb t2, A6, c6, 0⟩ : MOp), ⟨#[]⟩, 0, 0, 0, 0, 0⟩ : MReq)) else none from fun b hb => by
    rw [HT.out, backL, hb]
    simp)
  go_wp2_with (first | refine Try.load_wanted rfl 31 (.tmp 5) rfl Q 0 rfl [.int .i64 1, .int .i64 1, .string ⟨#[]⟩, .string t1, .string ⟨#[]⟩, .int .i64 0, .int .i64 0, .string ⟨#[]⟩, .slice none 0 0, .slice none 0 0, .slice A6 t2.size c6, .int .i64 0, .string ⟨#[]⟩, .int .i64 0, .int .i64 0, .int .i64 0, .int .i64 0, .int .i64 0] _ HD.out.boxQ.range Try.underlying31 rfl Try.sizeRequest ?_ | fail)
  refine HM.out.mono ?_
  clear d0 HM Hmok
  rintro e w5 (⟨le, Ae, ce, hle, hne, rfl, hrow, ho5⟩ | ⟨hno, rfl, ho5⟩)
  · obtain ⟨ge, rfl, hge⟩ := hrow.some_ hne
    have HD := Lib.hid (HD.out.still ho5)
    have Hok := Lib.hid (Hok.out.old ho5)
    have HS := Lib.hid (rsame_some w5 ge 0 A ce c le bs hrow.rd (Hraw.out.old ho5) (by have := encReq_le hle; omega))
    have HBB := Lib.hid (HB.out (decide (le = bs)) (by rw [hle]; simp))
    clear ho5 hrow hne hle HB Hraw
    generalize decide (le = bs) = bb at HS HBB
    go_wp2_with fail
    refine HS.out.mono ?_
    rintro e w6 ⟨rfl, ho6⟩
    have HD := Lib.hid (HD.out.still ho6)
    have Hok := Lib.hid (Hok.out.old ho6)
    clear ho6 HS
    cases bb
    · have Hz := Lib.hid (HD.out.told zeroReqC rfl)
      go_wp2_with (first | refine wpList_store_mid rfl 31 (.tmp 2) (.tmp 156) rfl w.heap.size 0 _ rfl rfl (HD.out.boxR.there 0 18 (by decide)) Try.sizeRequest (all_one rfl) ?_ | fail)
      refine ret_cell_tmp (g := w.heap.size) (cs := zeroReqC.toArray) rfl rfl Hz.out.1 Try.underlying31 rfl (by kernel_rfl) rfl ?_
      exact .inr ⟨HBB.out, rfl, Hz.out.2.1⟩
    · have Hz := Lib.hid (HD.out.told [.int .i64 1, .int .i64 1, .string ⟨#[]⟩, .string t1, .string ⟨#[]⟩, .int .i64 0, .int .i64 0, .string ⟨#[]⟩, .slice none 0 0, .slice none 0 0, .slice A6 t2.size c6, .int .i64 0, .string ⟨#[]⟩, .int .i64 0, .int .i64 0, .int .i64 0, .int .i64 0, .int .i64 0] rfl)
      go_wp2_with (first | refine wpList_load_mid rfl 31 (.tmp 5) rfl Q 0 rfl [.int .i64 1, .int .i64 1, .string ⟨#[]⟩, .string t1, .string ⟨#[]⟩, .int .i64 0, .int .i64 0, .string ⟨#[]⟩, .slice none 0 0, .slice none 0 0, .slice A6 t2.size c6, .int .i64 0, .string ⟨#[]⟩, .int .i64 0, .int .i64 0, .int .i64 0, .int .i64 0, .int .i64 0] _ HD.out.boxQ.range Try.underlying31 rfl Try.sizeRequest ?_ | refine wpList_store_mid rfl 31 (.tmp 2) (.tmp 157) rfl w.heap.size 0 _ rfl rfl (HD.out.boxR.there 0 18 (by decide)) Try.sizeRequest (all_one rfl) ?_ | fail)
      refine ret_cell_tmp (g := w.heap.size) (cs := List.toArray [.int .i64 1, .int .i64 1, .string ⟨#[]⟩, .string t1, .string ⟨#[]⟩, .int .i64 0, .int .i64 0, .string ⟨#[]⟩, .slice none 0 0, .slice none 0 0, .slice A6 t2.size c6, .int .i64 0, .string ⟨#[]⟩, .int .i64 0, .int .i64 0, .int .i64 0, .int .i64 0, .int .i64 0]) rfl rfl Hz.out.1 Try.underlying31 rfl (by kernel_rfl) rfl ?_
      refine .inl ⟨(⟨1, (⟨1, ⟨#[]⟩, t1, ⟨#[]⟩, ⟨⟨0, 0, ⟨#[]⟩, []⟩, none, 0⟩, [], none, 0, sb t2, A6, c6, 0⟩ : MOp), ⟨#[]⟩, 0, 0, 0, 0, 0⟩ : MReq), HBB.out, rfl, ?_, ?_, Hz.out.2.1⟩
      · exact (Hok.out.sub Hz.out.2.2 (fun k e => by have h1 : k = w.heap.size := e; show k ≤ w.heap.size + 1; omega)).weak (fun k e => by have h1 : k < w.heap.size := e; show k ≤ w.heap.size + 1; omega)
      · exact Nat.zero_le _
  · have HD := Lib.hid (HD.out.still ho5)
    have HS := Lib.hid (rsame_nil w5 A c bs.length)
    have HBB := Lib.hid (HB.out false (by rw [hno]; simp))
    clear ho5 hno HB Hraw
    go_wp2_with fail
    refine HS.out.mono ?_
    rintro e w6 ⟨rfl, ho6⟩
    have HD := Lib.hid (HD.out.still ho6)
    clear ho6 HS
    have Hz := Lib.hid (HD.out.told zeroReqC rfl)
    go_wp2_with (first | refine wpList_store_mid rfl 31 (.tmp 2) (.tmp 156) rfl w.heap.size 0 _ rfl rfl (HD.out.boxR.there 0 18 (by decide)) Try.sizeRequest (all_one rfl) ?_ | fail)
    refine ret_cell_tmp (g := w.heap.size) (cs := zeroReqC.toArray) rfl rfl Hz.out.1 Try.underlying31 rfl (by kernel_rfl) rfl ?_
    exact .inr ⟨HBB.out, rfl, Hz.out.2.1⟩

end Go.Proofs.Ytnaolhjbapgjgaa

/- Contract of docketref24.ReadRequest: op 1, do 2. -/
namespace Go.Proofs.Ytnaolhjbapgjgaa
open Go.RowKit

set_option maxRecDepth 100000 in
set_option maxHeartbeats 6400000 in
theorem read_1_2 (w : World) (A : Option Addr) (c : Nat) (bs : List UInt8) (hrd : Rd w 1 A bs.length (bs.map bv)) (hc : bs.length ≤ c) (hl : bs.length ≤ 2147483647) (hk : (lowL bs 1 ⟨0, false⟩).1 = 1) (hd : (lowL bs 1 (lowL bs 1 ⟨0, false⟩).2).1 = 2) :
    Calls Try.prog 24 #[.slice A bs.length c] w (ReadPost w (readReq bs)) := by
  have HT := Lib.hid (show readReq bs = backL bs (fldL bs 1 (lowL bs 1 ⟨0, false⟩).2) by rw [readReq, reqL, hk])
  generalize readReq bs = TV at HT ⊢
  have hlr0 : Lr ((w.alloc (.cells (List.toArray [.int .i64 0, .int .i64 0, .string ⟨#[]⟩, .string ⟨#[]⟩, .string ⟨#[]⟩, .int .i64 0, .int .i64 0, .string ⟨#[]⟩, .slice none 0 0, .slice none 0 0, .slice none 0 0, .int .i64 0, .string ⟨#[]⟩, .int .i64 0, .int .i64 0, .int .i64 0, .int .i64 0, .int .i64 0]) 31)).alloc (.cells #[.slice A bs.length c, .bool false] 81)) (w.heap.size + 1) bs ⟨0, false⟩ := by
    have h1 := Blk.new (w.alloc (.cells (List.toArray [.int .i64 0, .int .i64 0, .string ⟨#[]⟩, .string ⟨#[]⟩, .string ⟨#[]⟩, .int .i64 0, .int .i64 0, .string ⟨#[]⟩, .slice none 0 0, .slice none 0 0, .slice none 0 0, .int .i64 0, .string ⟨#[]⟩, .int .i64 0, .int .i64 0, .int .i64 0, .int .i64 0, .int .i64 0]) 31)) 81 #[.slice A bs.length c, .bool false]
    have e : (w.alloc (.cells (List.toArray [.int .i64 0, .int .i64 0, .string ⟨#[]⟩, .string ⟨#[]⟩, .string ⟨#[]⟩, .int .i64 0, .int .i64 0, .string ⟨#[]⟩, .slice none 0 0, .slice none 0 0, .slice none 0 0, .int .i64 0, .string ⟨#[]⟩, .int .i64 0, .int .i64 0, .int .i64 0, .int .i64 0, .int .i64 0]) 31)).heap.size = w.heap.size + 1 := by simp
    rw [e] at h1
    exact Lr.mk' h1 ((hrd.alloc _).alloc _) (fun hn ad e h => by have := hrd.lt (by decide) hn e; omega) hc (Nat.zero_le _) (by omega) rfl rfl
  have hR0 := (Blk.new w 31 (List.toArray [.int .i64 0, .int .i64 0, .string ⟨#[]⟩, .string ⟨#[]⟩, .string ⟨#[]⟩, .int .i64 0, .int .i64 0, .string ⟨#[]⟩, .slice none 0 0, .slice none 0 0, .slice none 0 0, .int .i64 0, .string ⟨#[]⟩, .int .i64 0, .int .i64 0, .int .i64 0, .int .i64 0, .int .i64 0])).alloc (.cells #[.slice A bs.length c, .bool false] 81)
  have ho0 : Old w _ := ((Kp.refl NoX w).alloc (.cells (List.toArray [.int .i64 0, .int .i64 0, .string ⟨#[]⟩, .string ⟨#[]⟩, .string ⟨#[]⟩, .int .i64 0, .int .i64 0, .string ⟨#[]⟩, .slice none 0 0, .slice none 0 0, .slice none 0 0, .int .i64 0, .string ⟨#[]⟩, .int .i64 0, .int .i64 0, .int .i64 0, .int .i64 0, .int .i64 0]) 31)).alloc (.cells #[.slice A bs.length c, .bool false] 81)
  have Hrd := Lib.hid hrd
  have Hl := Lib.hid hl
  have Hn := Lib.hid (low_num bs 1 ⟨0, false⟩ (by decide))
  have Hk := Lib.hid hk
  have Hd := Lib.hid hd
  clear hrd hk hl hc hd
  go_enter Try.func24, Try.ntmps24
  go_wp2_with fail
  generalize (w.alloc _).alloc _ = W0 at *
  refine (number_any W0 (w.heap.size + 1) bs 1 ⟨0, false⟩ hlr0 (by decide)).mono ?_
  rintro e w1 ⟨rfl, hL1, hk1⟩
  rw [Hn.out, Hk.out] at *
  simp only at hL1
  generalize (lowL bs 1 ⟨0, false⟩).2 = s1 at *
  have hD : RdSt w w.heap.size (w.heap.size + 1) w1.heap.size bs [.int .i64 1, .int .i64 0, .string ⟨#[]⟩, .string ⟨#[]⟩, .string ⟨#[]⟩, .int .i64 0, .int .i64 0, .string ⟨#[]⟩, .slice none 0 0, .slice none 0 0, .slice none 0 0, .int .i64 0, .string ⟨#[]⟩, .int .i64 0, .int .i64 0, .int .i64 0, .int .i64 0, .int .i64 0] s1 (w1.alloc (.cells (List.toArray [.int .i64 1, .int .i64 0, .string ⟨#[]⟩, .string ⟨#[]⟩, .string ⟨#[]⟩, .int .i64 0, .int .i64 0, .string ⟨#[]⟩, .slice none 0 0, .slice none 0 0, .slice none 0 0, .int .i64 0, .string ⟨#[]⟩, .int .i64 0, .int .i64 0, .int .i64 0, .int .i64 0, .int .i64 0]) 31)) :=
    ⟨Blk.new w1 _ _, (hR0.kp hk1 (fun e => by have : w.heap.size = w.heap.size + 1 := e; omega)).alloc _, hL1.old ((Kp.refl NoX w1).alloc _),
      (ho0.trans hk1 (fun b hb e => by have : b = w.heap.size + 1 := e; omega)).alloc _, rfl, Nat.lt_succ_self _, hL1.lt⟩
  have HD := Lib.hid hD
  clear hD hR0 ho0 hlr0 hL1 hk1
  go_upto_region 3 with (fail)
  generalize w1.alloc _ = w3 at *
  generalize w1.heap.size = Q at *
  have HT := Lib.hid (show TV = backL bs ({ zeroReq with op := 1, do_ := (opL bs 2 (lowL bs 1 s1).2).1 }, (opL bs 2 (lowL bs 1 s1).2).2) by
    rw [HT.out, fldL, if_pos (by simp), Hd.out]
    rfl)
  have Hn2 := Lib.hid (low_num bs 1 s1 (by decide))
  have c0 := HD.out.boxQ.at_ 0 (v := .int .i64 1) rfl
  go_wp2_with fail
  refine (number_any _ (w.heap.size + 1) bs 1 s1 HD.out.lr (by decide)).mono ?_
  rintro e v4 ⟨rfl, hr4, hk4⟩
  rw [Hn2.out, Hd.out] at *
  simp only at hr4
  have HD := Lib.hid (HD.out.step hr4 hk4)
  clear hr4 hk4 Hn2
  generalize (lowL bs 1 s1).2 = s2 at *
  have a1 := HD.out.boxQ.at_ 1 (v := .int .i64 0) rfl
  have z1 := HD.out.boxQ.frozen 1
  go_upto_region 7 with (fail)
  have HD := Lib.hid (show RdSt w w.heap.size (w.heap.size + 1) Q bs [.int .i64 1, .int .i64 2, .string ⟨#[]⟩, .string ⟨#[]⟩, .string ⟨#[]⟩, .int .i64 0, .int .i64 0, .string ⟨#[]⟩, .slice none 0 0, .slice none 0 0, .slice none 0 0, .int .i64 0, .string ⟨#[]⟩, .int .i64 0, .int .i64 0, .int .i64 0, .int .i64 0, .int .i64 0] s2 (v4.setCell ⟨Q, 1, none⟩ (.int .i64 2)) from HD.out.set 1 (.int .i64 2))
  clear a1 z1
  generalize v4.setCell _ _ = v5 at *
  clear c0
  have c1 := HD.out.boxQ.at_ 1 (v := .int .i64 2) rfl
  have HT := Lib.hid (show TV = backL bs (MReq.data (⟨1, (⟨2, (textL bs s2).1, (textL bs (textL bs s2).2).1, ⟨#[]⟩, ⟨⟨0, 0, ⟨#[]⟩, []⟩, none, 0⟩, [], none, 0, [], none, 0, 0⟩ : MOp), ⟨#[]⟩, 0, 0, 0, 0, 0⟩ : MReq), (textL bs (textL bs s2).2).2) by
    rw [HT.out]
    rfl)
  go_wp2_with fail
  refine (btext_any _ (w.heap.size + 1) bs s2 HD.out.lr).mono ?_
  rintro e v6 ⟨rfl, hr6, hk6⟩
  have hzt1 := Lib.hid (textL_size bs s2 Hl.out)
  have HD := Lib.hid (HD.out.step hr6 hk6)
  clear hr6 hk6
  generalize (textL bs s2).2 = s3 at *
  generalize (textL bs s2).1 = t1 at *
  have a2 := HD.out.boxQ.at_ 2 (v := .string ⟨#[]⟩) rfl
  have z2 := HD.out.boxQ.frozen 2
  go_wp2_with fail
  have HD := Lib.hid (show RdSt w w.heap.size (w.heap.size + 1) Q bs [.int .i64 1, .int .i64 2, .string t1, .string ⟨#[]⟩, .string ⟨#[]⟩, .int .i64 0, .int .i64 0, .string ⟨#[]⟩, .slice none 0 0, .slice none 0 0, .slice none 0 0, .int .i64 0, .string ⟨#[]⟩, .int .i64 0, .int .i64 0, .int .i64 0, .int .i64 0, .int .i64 0] s3 (v6.setCell ⟨Q, 2, none⟩ (.string t1)) from HD.out.set 2 (.string t1))
  clear a2 z2
  generalize v6.setCell _ _ = v7 at *
  refine (btext_any _ (w.heap.size + 1) bs s3 HD.out.lr).mono ?_
  rintro e v8 ⟨rfl, hr8, hk8⟩
  have hzt2 := Lib.hid (textL_size bs s3 Hl.out)
  have HD := Lib.hid (HD.out.step hr8 hk8)
  clear hr8 hk8
  generalize (textL bs s3).2 = s4 at *
  generalize (textL bs s3).1 = t2 at *
  have a3 := HD.out.boxQ.at_ 3 (v := .string ⟨#[]⟩) rfl
  have z3 := HD.out.boxQ.frozen 3
  go_upto_region 45 with (fail)
  have HD := Lib.hid (show RdSt w w.heap.size (w.heap.size + 1) Q bs [.int .i64 1, .int .i64 2, .string t1, .string t2, .string ⟨#[]⟩, .int .i64 0, .int .i64 0, .string ⟨#[]⟩, .slice none 0 0, .slice none 0 0, .slice none 0 0, .int .i64 0, .string ⟨#[]⟩, .int .i64 0, .int .i64 0, .int .i64 0, .int .i64 0, .int .i64 0] s4 (v8.setCell ⟨Q, 3, none⟩ (.string t2)) from HD.out.set 3 (.string t2))
  clear a3 z3
  generalize v8.setCell _ _ = v9 at *
  clear c1
  have Hok := Lib.hid (show MOp.Ok v9 (fun k => k ≤ w.heap.size + 1) (⟨2, t1, t2, ⟨#[]⟩, ⟨⟨0, 0, ⟨#[]⟩, []⟩, none, 0⟩, [], none, 0, [], none, 0, 0⟩ : MOp) from plainOp_ok _ _ _ _ _ _ _ hzt1.out hzt2.out (Nat.zero_le _))
  generalize s4 = sz at *
  generalize v9 = wz at *
  obtain ⟨p0, sh0⟩ := sz
  have d0 : wz.cell? ⟨w.heap.size + 1, 1, none⟩ = some (.bool sh0) := by
    obtain ⟨Ar, cr, hbr, _⟩ := HD.out.lr
    exact hbr.at_ 1 (v := .bool sh0) rfl
  cases sh0
  case true =>
    have HN := Lib.hid (show TV = none by rw [HT.out, backL, if_neg (by simp)])
    have Hz := Lib.hid (HD.out.told zeroReqC rfl)
    go_wp2_with (first | refine wpList_store_mid rfl 31 (.tmp 2) (.tmp 156) rfl w.heap.size 0 _ rfl rfl (HD.out.boxR.there 0 18 (by decide)) Try.sizeRequest (all_one rfl) ?_ | fail)
    refine ret_cell_tmp (g := w.heap.size) (cs := zeroReqC.toArray) rfl rfl Hz.out.1 Try.underlying31 rfl (by kernel_rfl) rfl ?_
    exact .inr ⟨HN.out, rfl, Hz.out.2.1⟩
  have Hmok := Lib.hid (show MReq.Ok wz (⟨1, (⟨2, t1, t2, ⟨#[]⟩, ⟨⟨0, 0, ⟨#[]⟩, []⟩, none, 0⟩, [], none, 0, [], none, 0, 0⟩ : MOp), ⟨#[]⟩, 0, 0, 0, 0, 0⟩ : MReq) from ⟨Hok.out.weak (fun k e => e.elim), by exact Nat.zero_le _⟩)
  have HM := Lib.hid (rreq_any (⟨1, (⟨2, t1, t2, ⟨#[]⟩, ⟨⟨0, 0, ⟨#[]⟩, []⟩, none, 0⟩, [], none, 0, [], none, 0, 0⟩ : MOp), ⟨#[]⟩, 0, 0, 0, 0, 0⟩ : MReq) wz Hmok.out)
  have Hraw := Lib.hid (Hrd.out.old HD.out.old)
  have HB := Lib.hid (show ∀ b : Bool, b = decide (encReq (MReq.data (⟨1, (⟨2, t1, t2, ⟨#[]⟩, ⟨⟨0, 0, ⟨#[]⟩, []⟩, none, 0⟩, [], none, 0, [], none, 0, 0⟩ : MOp), ⟨#[]⟩, 0, 0, 0, 0, 0⟩ : MReq)) = some bs) → TV = if b = true then some (MReq.data (⟨1, (⟨2, t1, t2, ⟨#[]⟩, ⟨⟨0, 0, ⟨#[]⟩, []⟩, none, 0⟩, [], none, 0, [], none, 0, 0⟩ : MOp), ⟨#[]⟩, 0, 0, 0, 0, 0⟩ : MReq)) else none from fun b hb => by
    rw [HT.out, backL, hb]
    simp)
  go_wp2_with (first | refine Try.load_wanted rfl 31 (.tmp 5) rfl Q 0 rfl [.int .i64 1, .int .i64 2, .string t1, .string t2, .string ⟨#[]⟩, .int .i64 0, .int .i64 0, .string ⟨#[]⟩, .slice none 0 0, .slice none 0 0, .slice none 0 0, .int .i64 0, .string ⟨#[]⟩, .int .i64 0, .int .i64 0, .int .i64 0, .int .i64 0, .int .i64 0] _ HD.out.boxQ.range Try.underlying31 rfl Try.sizeRequest ?_ | fail)
  refine HM.out.mono ?_
  clear d0 HM Hmok
  rintro e w5 (⟨le, Ae, ce, hle, hne, rfl, hrow, ho5⟩ | ⟨hno, rfl, ho5⟩)
  · obtain ⟨ge, rfl, hge⟩ := hrow.some_ hne
    have HD := Lib.hid (HD.out.still ho5)
    have Hok := Lib.hid (Hok.out.old ho5)
    have HS := Lib.hid (rsame_some w5 ge 0 A ce c le bs hrow.rd (Hraw.out.old ho5) (by have := encReq_le hle; omega))
    have HBB := Lib.hid (HB.out (decide (le = bs)) (by rw [hle]; simp))
    clear ho5 hrow hne hle HB Hraw
    generalize decide (le = bs) = bb at HS HBB
    go_wp2_with fail
    refine HS.out.mono ?_
    rintro e w6 ⟨rfl, ho6⟩
    have HD := Lib.hid (HD.out.still ho6)
    have Hok := Lib.hid (Hok.out.old ho6)
    clear ho6 HS
    cases bb
    · have Hz := Lib.hid (HD.out.told zeroReqC rfl)
      go_wp2_with (first | refine wpList_store_mid rfl 31 (.tmp 2) (.tmp 156) rfl w.heap.size 0 _ rfl rfl (HD.out.boxR.there 0 18 (by decide)) Try.sizeRequest (all_one rfl) ?_ | fail)
      refine ret_cell_tmp (g := w.heap.size) (cs := zeroReqC.toArray) rfl rfl Hz.out.1 Try.underlying31 rfl (by kernel_rfl) rfl ?_
      exact .inr ⟨HBB.out, rfl, Hz.out.2.1⟩
    · have Hz := Lib.hid (HD.out.told [.int .i64 1, .int .i64 2, .string t1, .string t2, .string ⟨#[]⟩, .int .i64 0, .int .i64 0, .string ⟨#[]⟩, .slice none 0 0, .slice none 0 0, .slice none 0 0, .int .i64 0, .string ⟨#[]⟩, .int .i64 0, .int .i64 0, .int .i64 0, .int .i64 0, .int .i64 0] rfl)
      go_wp2_with (first | refine wpList_load_mid rfl 31 (.tmp 5) rfl Q 0 rfl [.int .i64 1, .int .i64 2, .string t1, .string t2, .string ⟨#[]⟩, .int .i64 0, .int .i64 0, .string ⟨#[]⟩, .slice none 0 0, .slice none 0 0, .slice none 0 0, .int .i64 0, .string ⟨#[]⟩, .int .i64 0, .int .i64 0, .int .i64 0, .int .i64 0, .int .i64 0] _ HD.out.boxQ.range Try.underlying31 rfl Try.sizeRequest ?_ | refine wpList_store_mid rfl 31 (.tmp 2) (.tmp 157) rfl w.heap.size 0 _ rfl rfl (HD.out.boxR.there 0 18 (by decide)) Try.sizeRequest (all_one rfl) ?_ | fail)
      refine ret_cell_tmp (g := w.heap.size) (cs := List.toArray [.int .i64 1, .int .i64 2, .string t1, .string t2, .string ⟨#[]⟩, .int .i64 0, .int .i64 0, .string ⟨#[]⟩, .slice none 0 0, .slice none 0 0, .slice none 0 0, .int .i64 0, .string ⟨#[]⟩, .int .i64 0, .int .i64 0, .int .i64 0, .int .i64 0, .int .i64 0]) rfl rfl Hz.out.1 Try.underlying31 rfl (by kernel_rfl) rfl ?_
      refine .inl ⟨(⟨1, (⟨2, t1, t2, ⟨#[]⟩, ⟨⟨0, 0, ⟨#[]⟩, []⟩, none, 0⟩, [], none, 0, [], none, 0, 0⟩ : MOp), ⟨#[]⟩, 0, 0, 0, 0, 0⟩ : MReq), HBB.out, rfl, ?_, ?_, Hz.out.2.1⟩
      · exact (Hok.out.sub Hz.out.2.2 (fun k e => by have h1 : k = w.heap.size := e; show k ≤ w.heap.size + 1; omega)).weak (fun k e => by have h1 : k < w.heap.size := e; show k ≤ w.heap.size + 1; omega)
      · exact Nat.zero_le _
  · have HD := Lib.hid (HD.out.still ho5)
    have HS := Lib.hid (rsame_nil w5 A c bs.length)
    have HBB := Lib.hid (HB.out false (by rw [hno]; simp))
    clear ho5 hno HB Hraw
    go_wp2_with fail
    refine HS.out.mono ?_
    rintro e w6 ⟨rfl, ho6⟩
    have HD := Lib.hid (HD.out.still ho6)
    clear ho6 HS
    have Hz := Lib.hid (HD.out.told zeroReqC rfl)
    go_wp2_with (first | refine wpList_store_mid rfl 31 (.tmp 2) (.tmp 156) rfl w.heap.size 0 _ rfl rfl (HD.out.boxR.there 0 18 (by decide)) Try.sizeRequest (all_one rfl) ?_ | fail)
    refine ret_cell_tmp (g := w.heap.size) (cs := zeroReqC.toArray) rfl rfl Hz.out.1 Try.underlying31 rfl (by kernel_rfl) rfl ?_
    exact .inr ⟨HBB.out, rfl, Hz.out.2.1⟩

end Go.Proofs.Ytnaolhjbapgjgaa
