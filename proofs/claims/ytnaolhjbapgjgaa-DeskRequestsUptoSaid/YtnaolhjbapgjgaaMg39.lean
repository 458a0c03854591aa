import Derived.Test.YtnaolhjbapgjgaaMg35
import Derived.Deep.DeepCutAuto
/- Contract of docketref24.ReadRequest: op 1, do 5. -/
namespace Go.Proofs.Ytnaolhjbapgjgaa
open Go.RowKit

set_option maxRecDepth 100000 in
set_option maxHeartbeats 6400000 in
theorem read_1_5 (w : World) (A : Option Addr) (c : Nat) (bs : List UInt8) (hrd : Rd w 1 A bs.length (bs.map bv)) (hc : bs.length ≤ c) (hl : bs.length ≤ 2147483647) (hk : (lowL bs 1 ⟨0, false⟩).1 = 1) (hd : (lowL bs 1 (lowL bs 1 ⟨0, false⟩).2).1 = 5) :
    Calls Try.prog 24 #[.slice A bs.length c] w (ReadPost w (readReq bs)) := by
  have HT := Lib.hid (show readReq bs = backL bs (fldL bs 1 (lowL bs 1 ⟨0, false⟩).2) by rw [readReq, reqL, hk])
  generalize readReq bs = TV at HT ⊢
  have hlr0 : Lr ((w.alloc (.cells (List.toArray [.int .i64 0, .int .i64 0, .string ⟨#[]⟩, .string ⟨#[]⟩, .string ⟨#[]⟩, .int .i64 0, .int .i64 0, .string ⟨#[]⟩, .slice none 0 0, .slice none 0 0, .slice none 0 0, .int .i64 0, .string ⟨#[]⟩, .int .i64 0, .int .i64 0, .int .i64 0, .int .i64 0, .int .i64 0]) 31)).alloc (.cells #[.slice A bs.length c, .bool false] 81)) (w.heap.size + 1) bs ⟨0, false⟩ := by
    have h1 := Blk.new (w.alloc (.cells (List.toArray [.int .i64 0, .int .i64 0, .string ⟨#[]⟩, .string ⟨#[]⟩, .string ⟨#[]⟩, .int .i64 0, .int .i64 0, .string ⟨#[]⟩, .slice none 0 0, .slice none 0 0, .slice none 0 0, .int .i64 0, .string ⟨#[]⟩, .int .i64 0, .int .i64 0, .int .i64 0, .int .i64 0, .int .i64 0]) 31)) 81 #[.slice A bs.length c, .bool false]
    have e : (w.alloc (.cells (List.toArray [.int .i64 0, .int .i64 0, .string ⟨#[]⟩, .string ⟨#[]⟩, .string ⟨#[]⟩, .int .i64 0, .int .i64 0, .string ⟨#[]⟩, .slice none 0 0, .slice none 0 0, .slice none 0 0, .int .i64 0, .string ⟨#[]⟩, .int .i64 0, .int .i64 0, .int .i64 0, .int .i64 0, .int .i64 0]) 31)).heap.size = w.heap.size + 1 := by simp
    rw [e] at h1
    exact Lr.mk' h1 ((hrd.alloc _).alloc _) (fun hn ad e h => by have := hrd.lt (by decide) hn e; omega) hc (Nat.zero_le _) (by omega) rfl rfl
  have hR0 := (Blk.new w 31 (List.toArray [.int .i64 0, .int .i64 0, .string ⟨#[]⟩, .string ⟨#[]⟩, .string ⟨#[]⟩, .int .i64 0, .int .i64 0, .string ⟨#[]⟩, .slice none 0 0, .slice none 0 0, .slice none 0 0, .int .i64 0, .string ⟨#[]⟩, .int .i64 0, .int .i64 0, .int .i64 0, .int .i64 0, .int .i64 0])).alloc (.cells #[.slice A bs.length c, .bool false] 81)
  have ho0 : Old w _ := ((Kp.refl NoX w).alloc (.cells (List.toArray [.int .i64 0, .int .i64 0, .string ⟨#[]⟩, .string ⟨#[]⟩, .string ⟨#[]⟩, .int .i64 0, .int .i64 0, .string ⟨#[]⟩, .slice none 0 0, .slice none 0 0, .slice none 0 0, .int .i64 0, .string ⟨#[]⟩, .int .i64 0, .int .i64 0, .int .i64 0, .int .i64 0, .int .i64 0]) 31)).alloc (.cells #[.slice A bs.length c, .bool false] 81)
  have Hrd := Lib.hid hrd
  have Hl := Lib.hid hl
  have Hn := Lib.hid (low_num bs 1 ⟨0, false⟩ (by decide))
  have Hk := Lib.hid hk
  have Hd := Lib.hid hd
  clear hrd hk hl hc hd
  go_enter Try.func24, Try.ntmps24
  go_wp2_with fail
  generalize (w.alloc _).alloc _ = W0 at *
  refine (number_any W0 (w.heap.size + 1) bs 1 ⟨0, false⟩ hlr0 (by decide)).mono ?_
  rintro e w1 ⟨rfl, hL1, hk1⟩
  rw [Hn.out, Hk.out] at *
  simp only at hL1
  generalize (lowL bs 1 ⟨0, false⟩).2 = s1 at *
  have hD : RdSt w w.heap.size (w.heap.size + 1) w1.heap.size bs [.int .i64 1, .int .i64 0, .string ⟨#[]⟩, .string ⟨#[]⟩, .string ⟨#[]⟩, .int .i64 0, .int .i64 0, .string ⟨#[]⟩, .slice none 0 0, .slice none 0 0, .slice none 0 0, .int .i64 0, .string ⟨#[]⟩, .int .i64 0, .int .i64 0, .int .i64 0, .int .i64 0, .int .i64 0] s1 (w1.alloc (.cells (List.toArray [.int .i64 1, .int .i64 0, .string ⟨#[]⟩, .string ⟨#[]⟩, .string ⟨#[]⟩, .int .i64 0, .int .i64 0, .string ⟨#[]⟩, .slice none 0 0, .slice none 0 0, .slice none 0 0, .int .i64 0, .string ⟨#[]⟩, .int .i64 0, .int .i64 0, .int .i64 0, .int .i64 0, .int .i64 0]) 31)) :=
    ⟨Blk.new w1 _ _, (hR0.kp hk1 (fun e => by have : w.heap.size = w.heap.size + 1 := e; omega)).alloc _, hL1.old ((Kp.refl NoX w1).alloc _),
      (ho0.trans hk1 (fun b hb e => by have : b = w.heap.size + 1 := e; omega)).alloc _, rfl, Nat.lt_succ_self _, hL1.lt⟩
  have HD := Lib.hid hD
  clear hD hR0 ho0 hlr0 hL1 hk1
  go_upto_region 3 with (fail)
  generalize w1.alloc _ = w3 at *
  generalize w1.heap.size = Q at *
  have HT := Lib.hid (show TV = backL bs ({ zeroReq with op := 1, do_ := (opL bs 5 (lowL bs 1 s1).2).1 }, (opL bs 5 (lowL bs 1 s1).2).2) by
    rw [HT.out, fldL, if_pos (by simp), Hd.out]
    rfl)
  have Hn2 := Lib.hid (low_num bs 1 s1 (by decide))
  have c0 := HD.out.boxQ.at_ 0 (v := .int .i64 1) rfl
  go_wp2_with fail
  refine (number_any _ (w.heap.size + 1) bs 1 s1 HD.out.lr (by decide)).mono ?_
  rintro e v4 ⟨rfl, hr4, hk4⟩
  rw [Hn2.out, Hd.out] at *
  simp only at hr4
  have HD := Lib.hid (HD.out.step hr4 hk4)
  clear hr4 hk4 Hn2
  generalize (lowL bs 1 s1).2 = s2 at *
  have a1 := HD.out.boxQ.at_ 1 (v := .int .i64 0) rfl
  have z1 := HD.out.boxQ.frozen 1
  go_upto_region 7 with (fail)
  have HD := Lib.hid (show RdSt w w.heap.size (w.heap.size + 1) Q bs [.int .i64 1, .int .i64 5, .string ⟨#[]⟩, .string ⟨#[]⟩, .string ⟨#[]⟩, .int .i64 0, .int .i64 0, .string ⟨#[]⟩, .slice none 0 0, .slice none 0 0, .slice none 0 0, .int .i64 0, .string ⟨#[]⟩, .int .i64 0, .int .i64 0, .int .i64 0, .int .i64 0, .int .i64 0] s2 (v4.setCell ⟨Q, 1, none⟩ (.int .i64 5)) from HD.out.set 1 (.int .i64 5))
  clear a1 z1
  generalize v4.setCell _ _ = v5 at *
  clear c0
  have c1 := HD.out.boxQ.at_ 1 (v := .int .i64 5) rfl
  have HT := Lib.hid (show TV = backL bs (MReq.data (⟨1, (⟨5, ⟨#[]⟩, ⟨#[]⟩, ⟨#[]⟩, ⟨⟨0, 0, ⟨#[]⟩, []⟩, none, 0⟩, [], none, 0, [], none, 0, (numL bs 8 s2).1⟩ : MOp), ⟨#[]⟩, 0, 0, 0, 0, 0⟩ : MReq), (numL bs 8 s2).2) by
    rw [HT.out]
    rfl)
  go_wp2_with fail
  refine (number_any _ (w.heap.size + 1) bs 8 s2 HD.out.lr (by decide)).mono ?_
  rintro e v6 ⟨rfl, hr6, hk6⟩
  have HD := Lib.hid (HD.out.step hr6 hk6)
  clear hr6 hk6
  generalize (numL bs 8 s2).2 = s3 at *
  generalize (numL bs 8 s2).1 = n1 at *
  have a11 := HD.out.boxQ.at_ 11 (v := .int .i64 0) rfl
  have z11 := HD.out.boxQ.frozen 11
  go_upto_region 45 with (fail)
  have HD := Lib.hid (show RdSt w w.heap.size (w.heap.size + 1) Q bs [.int .i64 1, .int .i64 5, .string ⟨#[]⟩, .string ⟨#[]⟩, .string ⟨#[]⟩, .int .i64 0, .int .i64 0, .string ⟨#[]⟩, .slice none 0 0, .slice none 0 0, .slice none 0 0, .int .i64 n1, .string ⟨#[]⟩, .int .i64 0, .int .i64 0, .int .i64 0, .int .i64 0, .int .i64 0] s3 (v6.setCell ⟨Q, 11, none⟩ (.int .i64 n1)) from HD.out.set 11 (.int .i64 n1))
  clear a11 z11
  generalize v6.setCell _ _ = v7 at *
  clear c1
  have Hok := Lib.hid (show MOp.Ok v7 (fun k => k ≤ w.heap.size + 1) (⟨5, ⟨#[]⟩, ⟨#[]⟩, ⟨#[]⟩, ⟨⟨0, 0, ⟨#[]⟩, []⟩, none, 0⟩, [], none, 0, [], none, 0, n1⟩ : MOp) from plainOp_ok _ _ _ _ _ _ _ (Nat.zero_le _) (Nat.zero_le _) (Nat.zero_le _))
  generalize s3 = sz at *
  generalize v7 = wz at *
  obtain ⟨p0, sh0⟩ := sz
  have d0 : wz.cell? ⟨w.heap.size + 1, 1, none⟩ = some (.bool sh0) := by
    obtain ⟨Ar, cr, hbr, _⟩ := HD.out.lr
    exact hbr.at_ 1 (v := .bool sh0) rfl
  cases sh0
  case true =>
    have HN := Lib.hid (show TV = none by rw [HT.out, backL, if_neg (by simp)])
    have Hz := Lib.hid (HD.out.told zeroReqC rfl)
    go_wp2_with (first | refine wpList_store_mid rfl 31 (.tmp 2) (.tmp 156) rfl w.heap.size 0 _ rfl rfl (HD.out.boxR.there 0 18 (by decide)) Try.sizeRequest (all_one rfl) ?_ | fail)
    refine ret_cell_tmp (g := w.heap.size) (cs := zeroReqC.toArray) rfl rfl Hz.out.1 Try.underlying31 rfl (by kernel_rfl) rfl ?_
    exact .inr ⟨HN.out, rfl, Hz.out.2.1⟩
  have Hmok := Lib.hid (show MReq.Ok wz (⟨1, (⟨5, ⟨#[]⟩, ⟨#[]⟩, ⟨#[]⟩, ⟨⟨0, 0, ⟨#[]⟩, []⟩, none, 0⟩, [], none, 0, [], none, 0, n1⟩ : MOp), ⟨#[]⟩, 0, 0, 0, 0, 0⟩ : MReq) from ⟨Hok.out.weak (fun k e => e.elim), by exact Nat.zero_le _⟩)
  have HM := Lib.hid (rreq_any (⟨1, (⟨5, ⟨#[]⟩, ⟨#[]⟩, ⟨#[]⟩, ⟨⟨0, 0, ⟨#[]⟩, []⟩, none, 0⟩, [], none, 0, [], none, 0, n1⟩ : MOp), ⟨#[]⟩, 0, 0, 0, 0, 0⟩ : MReq) wz Hmok.out)
  have Hraw := Lib.hid (Hrd.out.old HD.out.old)
  have HB := Lib.hid (show ∀ b : Bool, b = decide (encReq (MReq.data (⟨1, (⟨5, ⟨#[]⟩, ⟨#[]⟩, ⟨#[]⟩, ⟨⟨0, 0, ⟨#[]⟩, []⟩, none, 0⟩, [], none, 0, [], none, 0, n1⟩ : MOp), ⟨#[]⟩, 0, 0, 0, 0, 0⟩ : MReq)) = some bs) → TV = if b = true then some (MReq.data (⟨1, (⟨5, ⟨#[]⟩, ⟨#[]⟩, ⟨#[]⟩, ⟨⟨0, 0, ⟨#[]⟩, []⟩, none, 0⟩, [], none, 0, [], none, 0, n1⟩ : MOp), ⟨#[]⟩, 0, 0, 0, 0, 0⟩ : MReq)) else none from fun b hb => by
    rw [HT.out, backL, hb]
    simp)
  go_wp2_with (first | refine Try.load_wanted rfl 31 (.tmp 5) rfl Q 0 rfl [.int .i64 1, .int .i64 5, .string ⟨#[]⟩, .string ⟨#[]⟩, .string ⟨#[]⟩, .int .i64 0, .int .i64 0, .string ⟨#[]⟩, .slice none 0 0, .slice none 0 0, .slice none 0 0, .int .i64 n1, .string ⟨#[]⟩, .int .i64 0, .int .i64 0, .int .i64 0, .int .i64 0, .int .i64 0] _ HD.out.boxQ.range Try.underlying31 rfl Try.sizeRequest ?_ | fail)
  refine HM.out.mono ?_
  clear d0 HM Hmok
  rintro e w5 (⟨le, Ae, ce, hle, hne, rfl, hrow, ho5⟩ | ⟨hno, rfl, ho5⟩)
  · obtain ⟨ge, rfl, hge⟩ := hrow.some_ hne
    have HD := Lib.hid (HD.out.still ho5)
    have Hok := Lib.hid (Hok.out.old ho5)
    have HS := Lib.hid (rsame_some w5 ge 0 A ce c le bs hrow.rd (Hraw.out.old ho5) (by have := encReq_le hle; omega))
    have HBB := Lib.hid (HB.out (decide (le = bs)) (by rw [hle]; simp))
    clear ho5 hrow hne hle HB Hraw
    generalize decide (le = bs) = bb at HS HBB
    go_wp2_with fail
    refine HS.out.mono ?_
    rintro e w6 ⟨rfl, ho6⟩
    have HD := Lib.hid (HD.out.still ho6)
    have Hok := Lib.hid (Hok.out.old ho6)
    clear ho6 HS
    cases bb
    · have Hz := Lib.hid (HD.out.told zeroReqC rfl)
      go_wp2_with (first | refine wpList_store_mid rfl 31 (.tmp 2) (.tmp 156) rfl w.heap.size 0 _ rfl rfl (HD.out.boxR.there 0 18 (by decide)) Try.sizeRequest (all_one rfl) ?_ | fail)
      refine ret_cell_tmp (g := w.heap.size) (cs := zeroReqC.toArray) rfl rfl Hz.out.1 Try.underlying31 rfl (by kernel_rfl) rfl ?_
      exact .inr ⟨HBB.out, rfl, Hz.out.2.1⟩
    · have Hz := Lib.hid (HD.out.told [.int .i64 1, .int .i64 5, .string ⟨#[]⟩, .string ⟨#[]⟩, .string ⟨#[]⟩, .int .i64 0, .int .i64 0, .string ⟨#[]⟩, .slice none 0 0, .slice none 0 0, .slice none 0 0, .int .i64 n1, .string ⟨#[]⟩, .int .i64 0, .int .i64 0, .int .i64 0, .int .i64 0, .int .i64 0] rfl)
      go_wp2_with (first | refine wpList_load_mid rfl 31 (.tmp 5) rfl Q 0 rfl [.int .i64 1, .int .i64 5, .string ⟨#[]⟩, .string ⟨#[]⟩, .string ⟨#[]⟩, .int .i64 0, .int .i64 0, .string ⟨#[]⟩, .slice none 0 0, .slice none 0 0, .slice none 0 0, .int .i64 n1, .string ⟨#[]⟩, .int .i64 0, .int .i64 0, .int .i64 0, .int .i64 0, .int .i64 0] _ HD.out.boxQ.range Try.underlying31 rfl Try.sizeRequest ?_ | refine wpList_store_mid rfl 31 (.tmp 2) (.tmp 157) rfl w.heap.size 0 _ rfl rfl (HD.out.boxR.there 0 18 (by decide)) Try.sizeRequest (all_one rfl) ?_ | fail)
      refine ret_cell_tmp (g := w.heap.size) (cs := List.toArray [.int .i64 1, .int .i64 5, .string ⟨#[]⟩, .string ⟨#[]⟩, .string ⟨#[]⟩, .int .i64 0, .int .i64 0, .string ⟨#[]⟩, .slice none 0 0, .slice none 0 0, .slice none 0 0, .int .i64 n1, .string ⟨#[]⟩, .int .i64 0, .int .i64 0, .int .i64 0, .int .i64 0, .int .i64 0]) rfl rfl Hz.out.1 Try.underlying31 rfl (by kernel_rfl) rfl ?_
      refine .inl ⟨(⟨1, (⟨5, ⟨#[]⟩, ⟨#[]⟩, ⟨#[]⟩, ⟨⟨0, 0, ⟨#[]⟩, []⟩, none, 0⟩, [], none, 0, [], none, 0, n1⟩ : MOp), ⟨#[]⟩, 0, 0, 0, 0, 0⟩ : MReq), HBB.out, rfl, ?_, ?_, Hz.out.2.1⟩
      · exact (Hok.out.sub Hz.out.2.2 (fun k e => by have h1 : k = w.heap.size := e; show k ≤ w.heap.size + 1; omega)).weak (fun k e => by have h1 : k < w.heap.size := e; show k ≤ w.heap.size + 1; omega)
      · exact Nat.zero_le _
  · have HD := Lib.hid (HD.out.still ho5)
    have HS := Lib.hid (rsame_nil w5 A c bs.length)
    have HBB := Lib.hid (HB.out false (by rw [hno]; simp))
    clear ho5 hno HB Hraw
    go_wp2_with fail
    refine HS.out.mono ?_
    rintro e w6 ⟨rfl, ho6⟩
    have HD := Lib.hid (HD.out.still ho6)
    clear ho6 HS
    have Hz := Lib.hid (HD.out.told zeroReqC rfl)
    go_wp2_with (first | refine wpList_store_mid rfl 31 (.tmp 2) (.tmp 156) rfl w.heap.size 0 _ rfl rfl (HD.out.boxR.there 0 18 (by decide)) Try.sizeRequest (all_one rfl) ?_ | fail)
    refine ret_cell_tmp (g := w.heap.size) (cs := zeroReqC.toArray) rfl rfl Hz.out.1 Try.underlying31 rfl (by kernel_rfl) rfl ?_
    exact .inr ⟨HBB.out, rfl, Hz.out.2.1⟩

end Go.Proofs.Ytnaolhjbapgjgaa

/- Contract of docketref24.ReadRequest: op 1, no such do. -/
namespace Go.Proofs.Ytnaolhjbapgjgaa
open Go.RowKit

set_option maxRecDepth 100000 in
set_option maxHeartbeats 6400000 in
theorem read_1_far (w : World) (A : Option Addr) (c : Nat) (bs : List UInt8) (hrd : Rd w 1 A bs.length (bs.map bv)) (hc : bs.length ≤ c) (hl : bs.length ≤ 2147483647) (d : Nat) (hk : (lowL bs 1 ⟨0, false⟩).1 = 1) (hd : (lowL bs 1 (lowL bs 1 ⟨0, false⟩).2).1 = d) (hd2 : d = 0 ∨ 5 < d) :
    Calls Try.prog 24 #[.slice A bs.length c] w (ReadPost w (readReq bs)) := by
  have HT := Lib.hid (show readReq bs = backL bs (fldL bs 1 (lowL bs 1 ⟨0, false⟩).2) by rw [readReq, reqL, hk])
  generalize readReq bs = TV at HT ⊢
  have hlr0 : Lr ((w.alloc (.cells (List.toArray [.int .i64 0, .int .i64 0, .string ⟨#[]⟩, .string ⟨#[]⟩, .string ⟨#[]⟩, .int .i64 0, .int .i64 0, .string ⟨#[]⟩, .slice none 0 0, .slice none 0 0, .slice none 0 0, .int .i64 0, .string ⟨#[]⟩, .int .i64 0, .int .i64 0, .int .i64 0, .int .i64 0, .int .i64 0]) 31)).alloc (.cells #[.slice A bs.length c, .bool false] 81)) (w.heap.size + 1) bs ⟨0, false⟩ := by
    have h1 := Blk.new (w.alloc (.cells (List.toArray [.int .i64 0, .int .i64 0, .string ⟨#[]⟩, .string ⟨#[]⟩, .string ⟨#[]⟩, .int .i64 0, .int .i64 0, .string ⟨#[]⟩, .slice none 0 0, .slice none 0 0, .slice none 0 0, .int .i64 0, .string ⟨#[]⟩, .int .i64 0, .int .i64 0, .int .i64 0, .int .i64 0, .int .i64 0]) 31)) 81 #[.slice A bs.length c, .bool false]
    have e : (w.alloc (.cells (List.toArray [.int .i64 0, .int .i64 0, .string ⟨#[]⟩, .string ⟨#[]⟩, .string ⟨#[]⟩, .int .i64 0, .int .i64 0, .string ⟨#[]⟩, .slice none 0 0, .slice none 0 0, .slice none 0 0, .int .i64 0, .string ⟨#[]⟩, .int .i64 0, .int .i64 0, .int .i64 0, .int .i64 0, .int .i64 0]) 31)).heap.size = w.heap.size + 1 := by simp
    rw [e] at h1
    exact Lr.mk' h1 ((hrd.alloc _).alloc _) (fun hn ad e h => by have := hrd.lt (by decide) hn e; omega) hc (Nat.zero_le _) (by omega) rfl rfl
  have hR0 := (Blk.new w 31 (List.toArray [.int .i64 0, .int .i64 0, .string ⟨#[]⟩, .string ⟨#[]⟩, .string ⟨#[]⟩, .int .i64 0, .int .i64 0, .string ⟨#[]⟩, .slice none 0 0, .slice none 0 0, .slice none 0 0, .int .i64 0, .string ⟨#[]⟩, .int .i64 0, .int .i64 0, .int .i64 0, .int .i64 0, .int .i64 0])).alloc (.cells #[.slice A bs.length c, .bool false] 81)
  have ho0 : Old w _ := ((Kp.refl NoX w).alloc (.cells (List.toArray [.int .i64 0, .int .i64 0, .string ⟨#[]⟩, .string ⟨#[]⟩, .string ⟨#[]⟩, .int .i64 0, .int .i64 0, .string ⟨#[]⟩, .slice none 0 0, .slice none 0 0, .slice none 0 0, .int .i64 0, .string ⟨#[]⟩, .int .i64 0, .int .i64 0, .int .i64 0, .int .i64 0, .int .i64 0]) 31)).alloc (.cells #[.slice A bs.length c, .bool false] 81)
  have Hrd := Lib.hid hrd
  have Hl := Lib.hid hl
  have Hn := Lib.hid (low_num bs 1 ⟨0, false⟩ (by decide))
  have Hk := Lib.hid hk
  have Hd := Lib.hid hd
  clear hrd hk hl hc hd
  go_enter Try.func24, Try.ntmps24
  go_wp2_with fail
  generalize (w.alloc _).alloc _ = W0 at *
  refine (number_any W0 (w.heap.size + 1) bs 1 ⟨0, false⟩ hlr0 (by decide)).mono ?_
  rintro e w1 ⟨rfl, hL1, hk1⟩
  rw [Hn.out, Hk.out] at *
  simp only at hL1
  generalize (lowL bs 1 ⟨0, false⟩).2 = s1 at *
  have hD : RdSt w w.heap.size (w.heap.size + 1) w1.heap.size bs [.int .i64 1, .int .i64 0, .string ⟨#[]⟩, .string ⟨#[]⟩, .string ⟨#[]⟩, .int .i64 0, .int .i64 0, .string ⟨#[]⟩, .slice none 0 0, .slice none 0 0, .slice none 0 0, .int .i64 0, .string ⟨#[]⟩, .int .i64 0, .int .i64 0, .int .i64 0, .int .i64 0, .int .i64 0] s1 (w1.alloc (.cells (List.toArray [.int .i64 1, .int .i64 0, .string ⟨#[]⟩, .string ⟨#[]⟩, .string ⟨#[]⟩, .int .i64 0, .int .i64 0, .string ⟨#[]⟩, .slice none 0 0, .slice none 0 0, .slice none 0 0, .int .i64 0, .string ⟨#[]⟩, .int .i64 0, .int .i64 0, .int .i64 0, .int .i64 0, .int .i64 0]) 31)) :=
    ⟨Blk.new w1 _ _, (hR0.kp hk1 (fun e => by have : w.heap.size = w.heap.size + 1 := e; omega)).alloc _, hL1.old ((Kp.refl NoX w1).alloc _),
      (ho0.trans hk1 (fun b hb e => by have : b = w.heap.size + 1 := e; omega)).alloc _, rfl, Nat.lt_succ_self _, hL1.lt⟩
  have HD := Lib.hid hD
  clear hD hR0 ho0 hlr0 hL1 hk1
  go_upto_region 3 with (fail)
  generalize w1.alloc _ = w3 at *
  generalize w1.heap.size = Q at *
  have HT := Lib.hid (show TV = backL bs ({ zeroReq with op := 1, do_ := (opL bs d (lowL bs 1 s1).2).1 }, (opL bs d (lowL bs 1 s1).2).2) by
    rw [HT.out, fldL, if_pos (by simp), Hd.out]
    rfl)
  have Hn2 := Lib.hid (low_num bs 1 s1 (by decide))
  have c0 := HD.out.boxQ.at_ 0 (v := .int .i64 1) rfl
  go_wp2_with fail
  refine (number_any _ (w.heap.size + 1) bs 1 s1 HD.out.lr (by decide)).mono ?_
  rintro e v4 ⟨rfl, hr4, hk4⟩
  rw [Hn2.out, Hd.out] at *
  simp only at hr4
  have HD := Lib.hid (HD.out.step hr4 hk4)
  clear hr4 hk4 Hn2
  generalize (lowL bs 1 s1).2 = s2 at *
  have a1 := HD.out.boxQ.at_ 1 (v := .int .i64 0) rfl
  have z1 := HD.out.boxQ.frozen 1
  go_upto_region 7 with (fail)
  have HD := Lib.hid (show RdSt w w.heap.size (w.heap.size + 1) Q bs [.int .i64 1, .int .i64 (d : Int), .string ⟨#[]⟩, .string ⟨#[]⟩, .string ⟨#[]⟩, .int .i64 0, .int .i64 0, .string ⟨#[]⟩, .slice none 0 0, .slice none 0 0, .slice none 0 0, .int .i64 0, .string ⟨#[]⟩, .int .i64 0, .int .i64 0, .int .i64 0, .int .i64 0, .int .i64 0] s2 (v4.setCell ⟨Q, 1, none⟩ (.int .i64 (d : Int))) from HD.out.set 1 (.int .i64 (d : Int)))
  clear a1 z1
  generalize v4.setCell _ _ = v5 at *
  clear c0
  have c1 := HD.out.boxQ.at_ 1 (v := .int .i64 (d : Int)) rfl
  have HT := Lib.hid (show TV = backL bs (MReq.data (⟨1, (⟨(d : Int), ⟨#[]⟩, ⟨#[]⟩, ⟨#[]⟩, ⟨⟨0, 0, ⟨#[]⟩, []⟩, none, 0⟩, [], none, 0, [], none, 0, 0⟩ : MOp), ⟨#[]⟩, 0, 0, 0, 0, 0⟩ : MReq), s2) by
    rw [HT.out, opL, if_neg (by omega), if_neg (by omega), if_neg (by omega), if_neg (by omega), if_neg (by omega)]
    rfl)
  have n1 : ((d : Int) == 1) = false := beq_eq_false_iff_ne.2 (by omega)
  have n2 : ((d : Int) == 2) = false := beq_eq_false_iff_ne.2 (by omega)
  have n3 : ((d : Int) == 3) = false := beq_eq_false_iff_ne.2 (by omega)
  have n4 : ((d : Int) == 4) = false := beq_eq_false_iff_ne.2 (by omega)
  have n5 : ((d : Int) == 5) = false := beq_eq_false_iff_ne.2 (by omega)
  clear hd2
  go_upto_region 45 with (fail)
  clear n1 n2 n3 n4 n5
  clear c1
  have Hok := Lib.hid (show MOp.Ok v5 (fun k => k ≤ w.heap.size + 1) (⟨(d : Int), ⟨#[]⟩, ⟨#[]⟩, ⟨#[]⟩, ⟨⟨0, 0, ⟨#[]⟩, []⟩, none, 0⟩, [], none, 0, [], none, 0, 0⟩ : MOp) from plainOp_ok _ _ _ _ _ _ _ (Nat.zero_le _) (Nat.zero_le _) (Nat.zero_le _))
  generalize s2 = sz at *
  generalize v5 = wz at *
  obtain ⟨p0, sh0⟩ := sz
  have d0 : wz.cell? ⟨w.heap.size + 1, 1, none⟩ = some (.bool sh0) := by
    obtain ⟨Ar, cr, hbr, _⟩ := HD.out.lr
    exact hbr.at_ 1 (v := .bool sh0) rfl
  cases sh0
  case true =>
    have HN := Lib.hid (show TV = none by rw [HT.out, backL, if_neg (by simp)])
    have Hz := Lib.hid (HD.out.told zeroReqC rfl)
    go_wp2_with (first | refine wpList_store_mid rfl 31 (.tmp 2) (.tmp 156) rfl w.heap.size 0 _ rfl rfl (HD.out.boxR.there 0 18 (by decide)) Try.sizeRequest (all_one rfl) ?_ | fail)
    refine ret_cell_tmp (g := w.heap.size) (cs := zeroReqC.toArray) rfl rfl Hz.out.1 Try.underlying31 rfl (by kernel_rfl) rfl ?_
    exact .inr ⟨HN.out, rfl, Hz.out.2.1⟩
  have Hmok := Lib.hid (show MReq.Ok wz (⟨1, (⟨(d : Int), ⟨#[]⟩, ⟨#[]⟩, ⟨#[]⟩, ⟨⟨0, 0, ⟨#[]⟩, []⟩, none, 0⟩, [], none, 0, [], none, 0, 0⟩ : MOp), ⟨#[]⟩, 0, 0, 0, 0, 0⟩ : MReq) from ⟨Hok.out.weak (fun k e => e.elim), by exact Nat.zero_le _⟩)
  have HM := Lib.hid (rreq_any (⟨1, (⟨(d : Int), ⟨#[]⟩, ⟨#[]⟩, ⟨#[]⟩, ⟨⟨0, 0, ⟨#[]⟩, []⟩, none, 0⟩, [], none, 0, [], none, 0, 0⟩ : MOp), ⟨#[]⟩, 0, 0, 0, 0, 0⟩ : MReq) wz Hmok.out)
  have Hraw := Lib.hid (Hrd.out.old HD.out.old)
  have HB := Lib.hid (show ∀ b : Bool, b = decide (encReq (MReq.data (⟨1, (⟨(d : Int), ⟨#[]⟩, ⟨#[]⟩, ⟨#[]⟩, ⟨⟨0, 0, ⟨#[]⟩, []⟩, none, 0⟩, [], none, 0, [], none, 0, 0⟩ : MOp), ⟨#[]⟩, 0, 0, 0, 0, 0⟩ : MReq)) = some bs) → TV = if b = true then some (MReq.data (⟨1, (⟨(d : Int), ⟨#[]⟩, ⟨#[]⟩, ⟨#[]⟩, ⟨⟨0, 0, ⟨#[]⟩, []⟩, none, 0⟩, [], none, 0, [], none, 0, 0⟩ : MOp), ⟨#[]⟩, 0, 0, 0, 0, 0⟩ : MReq)) else none from fun b hb => by
    rw [HT.out, backL, hb]
    simp)
  go_wp2_with (first | refine Try.load_wanted rfl 31 (.tmp 5) rfl Q 0 rfl [.int .i64 1, .int .i64 (d : Int), .string ⟨#[]⟩, .string ⟨#[]⟩, .string ⟨#[]⟩, .int .i64 0, .int .i64 0, .string ⟨#[]⟩, .slice none 0 0, .slice none 0 0, .slice none 0 0, .int .i64 0, .string ⟨#[]⟩, .int .i64 0, .int .i64 0, .int .i64 0, .int .i64 0, .int .i64 0] _ HD.out.boxQ.range Try.underlying31 rfl Try.sizeRequest ?_ | fail)
  refine HM.out.mono ?_
  clear d0 HM Hmok
  rintro e w5 (⟨le, Ae, ce, hle, hne, rfl, hrow, ho5⟩ | ⟨hno, rfl, ho5⟩)
  · obtain ⟨ge, rfl, hge⟩ := hrow.some_ hne
    have HD := Lib.hid (HD.out.still ho5)
    have Hok := Lib.hid (Hok.out.old ho5)
    have HS := Lib.hid (rsame_some w5 ge 0 A ce c le bs hrow.rd (Hraw.out.old ho5) (by have := encReq_le hle; omega))
    have HBB := Lib.hid (HB.out (decide (le = bs)) (by rw [hle]; simp))
    clear ho5 hrow hne hle HB Hraw
    generalize decide (le = bs) = bb at HS HBB
    go_wp2_with fail
    refine HS.out.mono ?_
    rintro e w6 ⟨rfl, ho6⟩
    have HD := Lib.hid (HD.out.still ho6)
    have Hok := Lib.hid (Hok.out.old ho6)
    clear ho6 HS
    cases bb
    · have Hz := Lib.hid (HD.out.told zeroReqC rfl)
      go_wp2_with (first | refine wpList_store_mid rfl 31 (.tmp 2) (.tmp 156) rfl w.heap.size 0 _ rfl rfl (HD.out.boxR.there 0 18 (by decide)) Try.sizeRequest (all_one rfl) ?_ | fail)
      refine ret_cell_tmp (g := w.heap.size) (cs := zeroReqC.toArray) rfl rfl Hz.out.1 Try.underlying31 rfl (by kernel_rfl) rfl ?_
      exact .inr ⟨HBB.out, rfl, Hz.out.2.1⟩
    · have Hz := Lib.hid (HD.out.told [.int .i64 1, .int .i64 (d : Int), .string ⟨#[]⟩, .string ⟨#[]⟩, .string ⟨#[]⟩, .int .i64 0, .int .i64 0, .string ⟨#[]⟩, .slice none 0 0, .slice none 0 0, .slice none 0 0, .int .i64 0, .string ⟨#[]⟩, .int .i64 0, .int .i64 0, .int .i64 0, .int .i64 0, .int .i64 0] rfl)
      go_wp2_with (first | refine wpList_load_mid rfl 31 (.tmp 5) rfl Q 0 rfl [.int .i64 1, .int .i64 (d : Int), .string ⟨#[]⟩, .string ⟨#[]⟩, .string ⟨#[]⟩, .int .i64 0, .int .i64 0, .string ⟨#[]⟩, .slice none 0 0, .slice none 0 0, .slice none 0 0, .int .i64 0, .string ⟨#[]⟩, .int .i64 0, .int .i64 0, .int .i64 0, .int .i64 0, .int .i64 0] _ HD.out.boxQ.range Try.underlying31 rfl Try.sizeRequest ?_ | refine wpList_store_mid rfl 31 (.tmp 2) (.tmp 157) rfl w.heap.size 0 _ rfl rfl (HD.out.boxR.there 0 18 (by decide)) Try.sizeRequest (all_one rfl) ?_ | fail)
      refine ret_cell_tmp (g := w.heap.size) (cs := List.toArray [.int .i64 1, .int .i64 (d : Int), .string ⟨#[]⟩, .string ⟨#[]⟩, .string ⟨#[]⟩, .int .i64 0, .int .i64 0, .string ⟨#[]⟩, .slice none 0 0, .slice none 0 0, .slice none 0 0, .int .i64 0, .string ⟨#[]⟩, .int .i64 0, .int .i64 0, .int .i64 0, .int .i64 0, .int .i64 0]) rfl rfl Hz.out.1 Try.underlying31 rfl (by kernel_rfl) rfl ?_
      refine .inl ⟨(⟨1, (⟨(d : Int), ⟨#[]⟩, ⟨#[]⟩, ⟨#[]⟩, ⟨⟨0, 0, ⟨#[]⟩, []⟩, none, 0⟩, [], none, 0, [], none, 0, 0⟩ : MOp), ⟨#[]⟩, 0, 0, 0, 0, 0⟩ : MReq), HBB.out, rfl, ?_, ?_, Hz.out.2.1⟩
      · exact (Hok.out.sub Hz.out.2.2 (fun k e => by have h1 : k = w.heap.size := e; show k ≤ w.heap.size + 1; omega)).weak (fun k e => by have h1 : k < w.heap.size := e; show k ≤ w.heap.size + 1; omega)
      · exact Nat.zero_le _
  · have HD := Lib.hid (HD.out.still ho5)
    have HS := Lib.hid (rsame_nil w5 A c bs.length)
    have HBB := Lib.hid (HB.out false (by rw [hno]; simp))
    clear ho5 hno HB Hraw
    go_wp2_with fail
    refine HS.out.mono ?_
    rintro e w6 ⟨rfl, ho6⟩
    have HD := Lib.hid (HD.out.still ho6)
    clear ho6 HS
    have Hz := Lib.hid (HD.out.told zeroReqC rfl)
    go_wp2_with (first | refine wpList_store_mid rfl 31 (.tmp 2) (.tmp 156) rfl w.heap.size 0 _ rfl rfl (HD.out.boxR.there 0 18 (by decide)) Try.sizeRequest (all_one rfl) ?_ | fail)
    refine ret_cell_tmp (g := w.heap.size) (cs := zeroReqC.toArray) rfl rfl Hz.out.1 Try.underlying31 rfl (by kernel_rfl) rfl ?_
    exact .inr ⟨HBB.out, rfl, Hz.out.2.1⟩

end Go.Proofs.Ytnaolhjbapgjgaa
