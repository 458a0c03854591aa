import Derived.Test.YtnaolhjbapgjgaaGreatMg37
set_option maxRecDepth 100000
set_option maxHeartbeats 3200000
namespace Go.Proofs.YtnaolhjbapgjgaaGreat
open Go.RowKit
theorem dec_3 (w : World) (A : Option Addr) (c : Nat) (bs : List UInt8) (hrd : Rd w 1 A bs.length (bs.map bv)) (hl : bs.length <= 1048576) (hk : (tkN bs 1 ⟨0, 0⟩).1 = 3) :
    Calls Tryz.prog 16 #[.slice A bs.length c] w (DecPost w (jS bs)) := by
  have HT := jJ0 (show jS bs = jc bs (decN bs 3 (tkN bs 1 ⟨0, 0⟩).2) by rw [jS, if_neg (by omega), hk])
  generalize jS bs = TV at HT ⊢
  have Hk := jJ0 hk
  clear hk
  have hlI : (bs.length : Int) <= 1048576 := by omega
  go_enter Tryz.func16, Tryz.ntmps16
  go_wp2_with fail
  refine (kS _ A bs.length c bs (hrd.alloc _) (by omega)).mono ?_
  rintro e w1 ⟨g, rfl, hg, hr1, ho1⟩
  have hbR := (Blk.new w 34 zeroReqC.toArray).old ho1
  have hold1 : Old w w1 := ((Kp.refl NoX w).alloc _).old ho1
  have hgR : w.heap.size < g := by simp at hg; omega
  clear ho1 hg
  go_wp2_with fail
  refine (jQ w1 g bs _ hr1).mono ?_
  rintro e w2 ⟨rfl, hr2, hk2⟩
  rw [Hk.out]
  generalize (tkN bs 1 ⟨0, 0⟩).2 = s1 at *
  have hD : DecSt w w.heap.size g w2.heap.size bs [.int .i64 3, .int .i64 0, .string ⟨#[]⟩, .string ⟨#[]⟩, .string ⟨#[]⟩, .int .i64 0, .int .i64 0, .string ⟨#[]⟩, .slice none 0 0, .slice none 0 0, .slice none 0 0, .int .i64 0, .string ⟨#[]⟩, .int .i64 0, .int .i64 0, .int .i64 0, .int .i64 0, .int .i64 0] s1 (w2.alloc (.cells (List.toArray [.int .i64 3, .int .i64 0, .string ⟨#[]⟩, .string ⟨#[]⟩, .string ⟨#[]⟩, .int .i64 0, .int .i64 0, .string ⟨#[]⟩, .slice none 0 0, .slice none 0 0, .slice none 0 0, .int .i64 0, .string ⟨#[]⟩, .int .i64 0, .int .i64 0, .int .i64 0, .int .i64 0, .int .i64 0]) 34)) :=
    ⟨Blk.new w2 _ _, (hbR.kp hk2 (fun e => by have : w.heap.size = g := e; omega)).alloc _, hr2.old ((Kp.refl NoX w2).alloc _),
      (hold1.trans hk2 (fun b hb e => by have : b = g := e; omega)).alloc _, Nat.le_refl _, hgR, hr2.lt⟩
  clear hk2 hold1 hbR hr2 hr1
  have HD := jJ0 hD
  have Hrd := jJ0 hrd
  clear hD hrd
  go_upto_region 5 with (fail)
  generalize w2.alloc _ = w3 at *
  generalize w2.heap.size = Q at *
  have hV : decN bs 3 s1 = (MReq.data (⟨3, ⟨0, ⟨#[]⟩, ⟨#[]⟩, ⟨#[]⟩, ⟨⟨0, 0, ⟨#[]⟩, []⟩, none, 0⟩, [], none, 0, [], none, 0, 0⟩, (jI bs s1).1, 0, 0, 0, 0, 0⟩ : MReq), true, (jI bs s1).2) := by simp [decN, MReq.data, MOp.data, ju, kI]
  rw [hV] at HT
  clear hV
  have HE2 := jJ0 (show jc bs (MReq.data (⟨3, ⟨0, ⟨#[]⟩, ⟨#[]⟩, ⟨#[]⟩, ⟨⟨0, 0, ⟨#[]⟩, []⟩, none, 0⟩, [], none, 0, [], none, 0, 0⟩, (jI bs s1).1, 0, 0, 0, 0, 0⟩ : MReq), true, (jI bs s1).2) = if jo bs (jI bs s1).2 = 0 then some (MReq.data (⟨3, ⟨0, ⟨#[]⟩, ⟨#[]⟩, ⟨#[]⟩, ⟨⟨0, 0, ⟨#[]⟩, []⟩, none, 0⟩, [], none, 0, [], none, 0, 0⟩, (jI bs s1).1, 0, 0, 0, 0, 0⟩ : MReq)) else none by simp [jc])
  have hsz1 := kC bs s1
  have c0 := HD.out.boxQ.at_ 0 rfl
  go_wp2_with fail
  refine (kc _ g bs _ HD.out.rr).mono ?_
  rintro e w4 ⟨rfl, hr4, hk4⟩
  have HD := jJ0 (HD.out.step hr4 hk4)
  clear hr4 hk4
  generalize (jI bs s1).2 = sz at *
  generalize (jI bs s1).1 = t1 at *
  have a12 := HD.out.boxQ.at_ 12 rfl
  have z12 := HD.out.boxQ.frozen 12
  go_upto_region 23 with (fail)
  have HD : Hid (DecSt w w.heap.size g Q bs [.int .i64 3, .int .i64 0, .string ⟨#[]⟩, .string ⟨#[]⟩, .string ⟨#[]⟩, .int .i64 0, .int .i64 0, .string ⟨#[]⟩, .slice none 0 0, .slice none 0 0, .slice none 0 0, .int .i64 0, .string t1, .int .i64 0, .int .i64 0, .int .i64 0, .int .i64 0, .int .i64 0] sz (w4.setCell ⟨Q, 12, none⟩ (.string t1))) := jJ0 ((HD.out).set 12 (.string t1))
  clear a12 z12
  clear c0
  generalize (w4.setCell ⟨Q, 12, none⟩ (.string t1)) = wz at *
  go_wp2_with fail
  refine (jw _ g bs _ HD.out.rr).mono ?_
  rintro e w9 ⟨rfl, ho9⟩
  have HD := jJ0 (HD.out.still ho9)
  have HE := jJ0 HE2.out
  have Hok := jJ0 (show MOp.Ok w9 (fun k => k <= w.heap.size) ⟨0, ⟨#[]⟩, ⟨#[]⟩, ⟨#[]⟩, ⟨⟨0, 0, ⟨#[]⟩, []⟩, none, 0⟩, [], none, 0, [], none, 0, 0⟩ from ku _ _)
  clear ho9
  generalize jo bs sz = dn at *
  by_cases hdn : dn = 0
  · subst hdn
    have Hz := jJ0 (HD.out.told [.int .i64 3, .int .i64 0, .string ⟨#[]⟩, .string ⟨#[]⟩, .string ⟨#[]⟩, .int .i64 0, .int .i64 0, .string ⟨#[]⟩, .slice none 0 0, .slice none 0 0, .slice none 0 0, .int .i64 0, .string t1, .int .i64 0, .int .i64 0, .int .i64 0, .int .i64 0, .int .i64 0] rfl)
    go_wp2_with (first | refine wpList_load_mid rfl 34 (.tmp 5) rfl Q 0 rfl [.int .i64 3, .int .i64 0, .string ⟨#[]⟩, .string ⟨#[]⟩, .string ⟨#[]⟩, .int .i64 0, .int .i64 0, .string ⟨#[]⟩, .slice none 0 0, .slice none 0 0, .slice none 0 0, .int .i64 0, .string t1, .int .i64 0, .int .i64 0, .int .i64 0, .int .i64 0, .int .i64 0] _ HD.out.boxQ.range Tryz.underlying34 rfl Tryz.sizeRequest ?_ | refine wpList_store_mid rfl 34 (.tmp 2) (.tmp 96) rfl w.heap.size 0 _ rfl rfl (HD.out.boxR.there 0 18 (by decide)) Tryz.sizeRequest (jK rfl) ?_)
    refine jA (g := w.heap.size) (cs := List.toArray [.int .i64 3, .int .i64 0, .string ⟨#[]⟩, .string ⟨#[]⟩, .string ⟨#[]⟩, .int .i64 0, .int .i64 0, .string ⟨#[]⟩, .slice none 0 0, .slice none 0 0, .slice none 0 0, .int .i64 0, .string t1, .int .i64 0, .int .i64 0, .int .i64 0, .int .i64 0, .int .i64 0]) rfl rfl Hz.out.1 Tryz.underlying34 rfl (by kernel_rfl) rfl ?_
    refine .inl ⟨(⟨3, ⟨0, ⟨#[]⟩, ⟨#[]⟩, ⟨#[]⟩, ⟨⟨0, 0, ⟨#[]⟩, []⟩, none, 0⟩, [], none, 0, [], none, 0, 0⟩, t1, 0, 0, 0, 0, 0⟩ : MReq), ?_, rfl, ?_, ?_, Hz.out.2.1⟩
    · rw [HT.out, HE.out]; exact if_pos (by trivial)
    · exact (Hok.out.sub Hz.out.2.2 (fun k e => by omega)).weak (fun k e => by omega)
    · (simp only; omega)
  · have hdn' : (dn != 0) = true := bne_iff_ne.2 hdn
    have Hz := jJ0 (HD.out.told zeroReqC rfl)
    go_wp2_with (refine wpList_store_mid rfl 34 (.tmp 2) (.tmp 95) rfl w.heap.size 0 _ rfl rfl (HD.out.boxR.there 0 18 (by decide)) Tryz.sizeRequest (jK rfl) ?_)
    refine jA (g := w.heap.size) (cs := zeroReqC.toArray) rfl rfl Hz.out.1 Tryz.underlying34 rfl (by kernel_rfl) rfl ?_
    exact .inr ⟨by rw [HT.out, HE.out, if_neg hdn], rfl, Hz.out.2.1⟩
theorem dec_4 (w : World) (A : Option Addr) (c : Nat) (bs : List UInt8) (hrd : Rd w 1 A bs.length (bs.map bv)) (hl : bs.length <= 1048576) (hk : (tkN bs 1 ⟨0, 0⟩).1 = 4) :
    Calls Tryz.prog 16 #[.slice A bs.length c] w (DecPost w (jS bs)) := by
  have HT := jJ0 (show jS bs = jc bs (decN bs 4 (tkN bs 1 ⟨0, 0⟩).2) by rw [jS, if_neg (by omega), hk])
  generalize jS bs = TV at HT ⊢
  have Hk := jJ0 hk
  clear hk
  have hlI : (bs.length : Int) <= 1048576 := by omega
  go_enter Tryz.func16, Tryz.ntmps16
  go_wp2_with fail
  refine (kS _ A bs.length c bs (hrd.alloc _) (by omega)).mono ?_
  rintro e w1 ⟨g, rfl, hg, hr1, ho1⟩
  have hbR := (Blk.new w 34 zeroReqC.toArray).old ho1
  have hold1 : Old w w1 := ((Kp.refl NoX w).alloc _).old ho1
  have hgR : w.heap.size < g := by simp at hg; omega
  clear ho1 hg
  go_wp2_with fail
  refine (jQ w1 g bs _ hr1).mono ?_
  rintro e w2 ⟨rfl, hr2, hk2⟩
  rw [Hk.out]
  generalize (tkN bs 1 ⟨0, 0⟩).2 = s1 at *
  have hD : DecSt w w.heap.size g w2.heap.size bs [.int .i64 4, .int .i64 0, .string ⟨#[]⟩, .string ⟨#[]⟩, .string ⟨#[]⟩, .int .i64 0, .int .i64 0, .string ⟨#[]⟩, .slice none 0 0, .slice none 0 0, .slice none 0 0, .int .i64 0, .string ⟨#[]⟩, .int .i64 0, .int .i64 0, .int .i64 0, .int .i64 0, .int .i64 0] s1 (w2.alloc (.cells (List.toArray [.int .i64 4, .int .i64 0, .string ⟨#[]⟩, .string ⟨#[]⟩, .string ⟨#[]⟩, .int .i64 0, .int .i64 0, .string ⟨#[]⟩, .slice none 0 0, .slice none 0 0, .slice none 0 0, .int .i64 0, .string ⟨#[]⟩, .int .i64 0, .int .i64 0, .int .i64 0, .int .i64 0, .int .i64 0]) 34)) :=
    ⟨Blk.new w2 _ _, (hbR.kp hk2 (fun e => by have : w.heap.size = g := e; omega)).alloc _, hr2.old ((Kp.refl NoX w2).alloc _),
      (hold1.trans hk2 (fun b hb e => by have : b = g := e; omega)).alloc _, Nat.le_refl _, hgR, hr2.lt⟩
  clear hk2 hold1 hbR hr2 hr1
  have HD := jJ0 hD
  have Hrd := jJ0 hrd
  clear hD hrd
  go_upto_region 5 with (fail)
  generalize w2.alloc _ = w3 at *
  generalize w2.heap.size = Q at *
  have hV : decN bs 4 s1 = (MReq.data (⟨4, ⟨0, ⟨#[]⟩, ⟨#[]⟩, ⟨#[]⟩, ⟨⟨0, 0, ⟨#[]⟩, []⟩, none, 0⟩, [], none, 0, [], none, 0, 0⟩, ⟨#[]⟩, (numN bs s1).1, 0, 0, 0, 0⟩ : MReq), true, (numN bs s1).2) := by simp [decN, MReq.data, MOp.data, ju, kI]
  rw [hV] at HT
  clear hV
  have HE2 := jJ0 (show jc bs (MReq.data (⟨4, ⟨0, ⟨#[]⟩, ⟨#[]⟩, ⟨#[]⟩, ⟨⟨0, 0, ⟨#[]⟩, []⟩, none, 0⟩, [], none, 0, [], none, 0, 0⟩, ⟨#[]⟩, (numN bs s1).1, 0, 0, 0, 0⟩ : MReq), true, (numN bs s1).2) = if jo bs (numN bs s1).2 = 0 then some (MReq.data (⟨4, ⟨0, ⟨#[]⟩, ⟨#[]⟩, ⟨#[]⟩, ⟨⟨0, 0, ⟨#[]⟩, []⟩, none, 0⟩, [], none, 0, [], none, 0, 0⟩, ⟨#[]⟩, (numN bs s1).1, 0, 0, 0, 0⟩ : MReq)) else none by simp [jc])
  have c0 := HD.out.boxQ.at_ 0 rfl
  go_wp2_with fail
  refine (kZ _ g bs _ HD.out.rr).mono ?_
  rintro e w4 ⟨rfl, hr4, hk4⟩
  have HD := jJ0 (HD.out.step hr4 hk4)
  clear hr4 hk4
  generalize (numN bs s1).2 = sz at *
  generalize (numN bs s1).1 = n1 at *
  have a13 := HD.out.boxQ.at_ 13 rfl
  have z13 := HD.out.boxQ.frozen 13
  go_upto_region 23 with (fail)
  have HD : Hid (DecSt w w.heap.size g Q bs [.int .i64 4, .int .i64 0, .string ⟨#[]⟩, .string ⟨#[]⟩, .string ⟨#[]⟩, .int .i64 0, .int .i64 0, .string ⟨#[]⟩, .slice none 0 0, .slice none 0 0, .slice none 0 0, .int .i64 0, .string ⟨#[]⟩, .int .i64 n1, .int .i64 0, .int .i64 0, .int .i64 0, .int .i64 0] sz (w4.setCell ⟨Q, 13, none⟩ (.int .i64 n1))) := jJ0 ((HD.out).set 13 (.int .i64 n1))
  clear a13 z13
  clear c0
  generalize (w4.setCell ⟨Q, 13, none⟩ (.int .i64 n1)) = wz at *
  go_wp2_with fail
  refine (jw _ g bs _ HD.out.rr).mono ?_
  rintro e w9 ⟨rfl, ho9⟩
  have HD := jJ0 (HD.out.still ho9)
  have HE := jJ0 HE2.out
  have Hok := jJ0 (show MOp.Ok w9 (fun k => k <= w.heap.size) ⟨0, ⟨#[]⟩, ⟨#[]⟩, ⟨#[]⟩, ⟨⟨0, 0, ⟨#[]⟩, []⟩, none, 0⟩, [], none, 0, [], none, 0, 0⟩ from ku _ _)
  clear ho9
  generalize jo bs sz = dn at *
  by_cases hdn : dn = 0
  · subst hdn
    have Hz := jJ0 (HD.out.told [.int .i64 4, .int .i64 0, .string ⟨#[]⟩, .string ⟨#[]⟩, .string ⟨#[]⟩, .int .i64 0, .int .i64 0, .string ⟨#[]⟩, .slice none 0 0, .slice none 0 0, .slice none 0 0, .int .i64 0, .string ⟨#[]⟩, .int .i64 n1, .int .i64 0, .int .i64 0, .int .i64 0, .int .i64 0] rfl)
    go_wp2_with (first | refine wpList_load_mid rfl 34 (.tmp 5) rfl Q 0 rfl [.int .i64 4, .int .i64 0, .string ⟨#[]⟩, .string ⟨#[]⟩, .string ⟨#[]⟩, .int .i64 0, .int .i64 0, .string ⟨#[]⟩, .slice none 0 0, .slice none 0 0, .slice none 0 0, .int .i64 0, .string ⟨#[]⟩, .int .i64 n1, .int .i64 0, .int .i64 0, .int .i64 0, .int .i64 0] _ HD.out.boxQ.range Tryz.underlying34 rfl Tryz.sizeRequest ?_ | refine wpList_store_mid rfl 34 (.tmp 2) (.tmp 96) rfl w.heap.size 0 _ rfl rfl (HD.out.boxR.there 0 18 (by decide)) Tryz.sizeRequest (jK rfl) ?_)
    refine jA (g := w.heap.size) (cs := List.toArray [.int .i64 4, .int .i64 0, .string ⟨#[]⟩, .string ⟨#[]⟩, .string ⟨#[]⟩, .int .i64 0, .int .i64 0, .string ⟨#[]⟩, .slice none 0 0, .slice none 0 0, .slice none 0 0, .int .i64 0, .string ⟨#[]⟩, .int .i64 n1, .int .i64 0, .int .i64 0, .int .i64 0, .int .i64 0]) rfl rfl Hz.out.1 Tryz.underlying34 rfl (by kernel_rfl) rfl ?_
    refine .inl ⟨(⟨4, ⟨0, ⟨#[]⟩, ⟨#[]⟩, ⟨#[]⟩, ⟨⟨0, 0, ⟨#[]⟩, []⟩, none, 0⟩, [], none, 0, [], none, 0, 0⟩, ⟨#[]⟩, n1, 0, 0, 0, 0⟩ : MReq), ?_, rfl, ?_, ?_, Hz.out.2.1⟩
    · rw [HT.out, HE.out]; exact if_pos (by trivial)
    · exact (Hok.out.sub Hz.out.2.2 (fun k e => by omega)).weak (fun k e => by omega)
    · exact jg
  · have hdn' : (dn != 0) = true := bne_iff_ne.2 hdn
    have Hz := jJ0 (HD.out.told zeroReqC rfl)
    go_wp2_with (refine wpList_store_mid rfl 34 (.tmp 2) (.tmp 95) rfl w.heap.size 0 _ rfl rfl (HD.out.boxR.there 0 18 (by decide)) Tryz.sizeRequest (jK rfl) ?_)
    refine jA (g := w.heap.size) (cs := zeroReqC.toArray) rfl rfl Hz.out.1 Tryz.underlying34 rfl (by kernel_rfl) rfl ?_
    exact .inr ⟨by rw [HT.out, HE.out, if_neg hdn], rfl, Hz.out.2.1⟩
theorem dec_5 (w : World) (A : Option Addr) (c : Nat) (bs : List UInt8) (hrd : Rd w 1 A bs.length (bs.map bv)) (hl : bs.length <= 1048576) (hk : (tkN bs 1 ⟨0, 0⟩).1 = 5) :
    Calls Tryz.prog 16 #[.slice A bs.length c] w (DecPost w (jS bs)) := by
  have HT := jJ0 (show jS bs = jc bs (decN bs 5 (tkN bs 1 ⟨0, 0⟩).2) by rw [jS, if_neg (by omega), hk])
  generalize jS bs = TV at HT ⊢
  have Hk := jJ0 hk
  clear hk
  have hlI : (bs.length : Int) <= 1048576 := by omega
  go_enter Tryz.func16, Tryz.ntmps16
  go_wp2_with fail
  refine (kS _ A bs.length c bs (hrd.alloc _) (by omega)).mono ?_
  rintro e w1 ⟨g, rfl, hg, hr1, ho1⟩
  have hbR := (Blk.new w 34 zeroReqC.toArray).old ho1
  have hold1 : Old w w1 := ((Kp.refl NoX w).alloc _).old ho1
  have hgR : w.heap.size < g := by simp at hg; omega
  clear ho1 hg
  go_wp2_with fail
  refine (jQ w1 g bs _ hr1).mono ?_
  rintro e w2 ⟨rfl, hr2, hk2⟩
  rw [Hk.out]
  generalize (tkN bs 1 ⟨0, 0⟩).2 = s1 at *
  have hD : DecSt w w.heap.size g w2.heap.size bs [.int .i64 5, .int .i64 0, .string ⟨#[]⟩, .string ⟨#[]⟩, .string ⟨#[]⟩, .int .i64 0, .int .i64 0, .string ⟨#[]⟩, .slice none 0 0, .slice none 0 0, .slice none 0 0, .int .i64 0, .string ⟨#[]⟩, .int .i64 0, .int .i64 0, .int .i64 0, .int .i64 0, .int .i64 0] s1 (w2.alloc (.cells (List.toArray [.int .i64 5, .int .i64 0, .string ⟨#[]⟩, .string ⟨#[]⟩, .string ⟨#[]⟩, .int .i64 0, .int .i64 0, .string ⟨#[]⟩, .slice none 0 0, .slice none 0 0, .slice none 0 0, .int .i64 0, .string ⟨#[]⟩, .int .i64 0, .int .i64 0, .int .i64 0, .int .i64 0, .int .i64 0]) 34)) :=
    ⟨Blk.new w2 _ _, (hbR.kp hk2 (fun e => by have : w.heap.size = g := e; omega)).alloc _, hr2.old ((Kp.refl NoX w2).alloc _),
      (hold1.trans hk2 (fun b hb e => by have : b = g := e; omega)).alloc _, Nat.le_refl _, hgR, hr2.lt⟩
  clear hk2 hold1 hbR hr2 hr1
  have HD := jJ0 hD
  have Hrd := jJ0 hrd
  clear hD hrd
  go_upto_region 5 with (fail)
  generalize w2.alloc _ = w3 at *
  generalize w2.heap.size = Q at *
  have hV : decN bs 5 s1 = (MReq.data (⟨5, ⟨0, ⟨#[]⟩, ⟨#[]⟩, ⟨#[]⟩, ⟨⟨0, 0, ⟨#[]⟩, []⟩, none, 0⟩, [], none, 0, [], none, 0, 0⟩, ⟨#[]⟩, 0, 0, 0, 0, 0⟩ : MReq), true, s1) := by simp [decN, MReq.data, MOp.data, ju, kI]
  rw [hV] at HT
  clear hV
  have HE2 := jJ0 (show jc bs (MReq.data (⟨5, ⟨0, ⟨#[]⟩, ⟨#[]⟩, ⟨#[]⟩, ⟨⟨0, 0, ⟨#[]⟩, []⟩, none, 0⟩, [], none, 0, [], none, 0, 0⟩, ⟨#[]⟩, 0, 0, 0, 0, 0⟩ : MReq), true, s1) = if jo bs s1 = 0 then some (MReq.data (⟨5, ⟨0, ⟨#[]⟩, ⟨#[]⟩, ⟨#[]⟩, ⟨⟨0, 0, ⟨#[]⟩, []⟩, none, 0⟩, [], none, 0, [], none, 0, 0⟩, ⟨#[]⟩, 0, 0, 0, 0, 0⟩ : MReq)) else none by simp [jc])
  have c0 := HD.out.boxQ.at_ 0 rfl
  generalize s1 = sz at *
  go_upto_region 23 with (fail)
  clear c0
  generalize w3 = wz at *
  go_wp2_with fail
  refine (jw _ g bs _ HD.out.rr).mono ?_
  rintro e w9 ⟨rfl, ho9⟩
  have HD := jJ0 (HD.out.still ho9)
  have HE := jJ0 HE2.out
  have Hok := jJ0 (show MOp.Ok w9 (fun k => k <= w.heap.size) ⟨0, ⟨#[]⟩, ⟨#[]⟩, ⟨#[]⟩, ⟨⟨0, 0, ⟨#[]⟩, []⟩, none, 0⟩, [], none, 0, [], none, 0, 0⟩ from ku _ _)
  clear ho9
  generalize jo bs sz = dn at *
  by_cases hdn : dn = 0
  · subst hdn
    have Hz := jJ0 (HD.out.told [.int .i64 5, .int .i64 0, .string ⟨#[]⟩, .string ⟨#[]⟩, .string ⟨#[]⟩, .int .i64 0, .int .i64 0, .string ⟨#[]⟩, .slice none 0 0, .slice none 0 0, .slice none 0 0, .int .i64 0, .string ⟨#[]⟩, .int .i64 0, .int .i64 0, .int .i64 0, .int .i64 0, .int .i64 0] rfl)
    go_wp2_with (first | refine wpList_load_mid rfl 34 (.tmp 5) rfl Q 0 rfl [.int .i64 5, .int .i64 0, .string ⟨#[]⟩, .string ⟨#[]⟩, .string ⟨#[]⟩, .int .i64 0, .int .i64 0, .string ⟨#[]⟩, .slice none 0 0, .slice none 0 0, .slice none 0 0, .int .i64 0, .string ⟨#[]⟩, .int .i64 0, .int .i64 0, .int .i64 0, .int .i64 0, .int .i64 0] _ HD.out.boxQ.range Tryz.underlying34 rfl Tryz.sizeRequest ?_ | refine wpList_store_mid rfl 34 (.tmp 2) (.tmp 96) rfl w.heap.size 0 _ rfl rfl (HD.out.boxR.there 0 18 (by decide)) Tryz.sizeRequest (jK rfl) ?_)
    refine jA (g := w.heap.size) (cs := List.toArray [.int .i64 5, .int .i64 0, .string ⟨#[]⟩, .string ⟨#[]⟩, .string ⟨#[]⟩, .int .i64 0, .int .i64 0, .string ⟨#[]⟩, .slice none 0 0, .slice none 0 0, .slice none 0 0, .int .i64 0, .string ⟨#[]⟩, .int .i64 0, .int .i64 0, .int .i64 0, .int .i64 0, .int .i64 0]) rfl rfl Hz.out.1 Tryz.underlying34 rfl (by kernel_rfl) rfl ?_
    refine .inl ⟨(⟨5, ⟨0, ⟨#[]⟩, ⟨#[]⟩, ⟨#[]⟩, ⟨⟨0, 0, ⟨#[]⟩, []⟩, none, 0⟩, [], none, 0, [], none, 0, 0⟩, ⟨#[]⟩, 0, 0, 0, 0, 0⟩ : MReq), ?_, rfl, ?_, ?_, Hz.out.2.1⟩
    · rw [HT.out, HE.out]; exact if_pos (by trivial)
    · exact (Hok.out.sub Hz.out.2.2 (fun k e => by omega)).weak (fun k e => by omega)
    · exact jg
  · have hdn' : (dn != 0) = true := bne_iff_ne.2 hdn
    have Hz := jJ0 (HD.out.told zeroReqC rfl)
    go_wp2_with (refine wpList_store_mid rfl 34 (.tmp 2) (.tmp 95) rfl w.heap.size 0 _ rfl rfl (HD.out.boxR.there 0 18 (by decide)) Tryz.sizeRequest (jK rfl) ?_)
    refine jA (g := w.heap.size) (cs := zeroReqC.toArray) rfl rfl Hz.out.1 Tryz.underlying34 rfl (by kernel_rfl) rfl ?_
    exact .inr ⟨by rw [HT.out, HE.out, if_neg hdn], rfl, Hz.out.2.1⟩
theorem dec_6 (w : World) (A : Option Addr) (c : Nat) (bs : List UInt8) (hrd : Rd w 1 A bs.length (bs.map bv)) (hl : bs.length <= 1048576) (hk : (tkN bs 1 ⟨0, 0⟩).1 = 6) :
    Calls Tryz.prog 16 #[.slice A bs.length c] w (DecPost w (jS bs)) := by
  have HT := jJ0 (show jS bs = jc bs (decN bs 6 (tkN bs 1 ⟨0, 0⟩).2) by rw [jS, if_neg (by omega), hk])
  generalize jS bs = TV at HT ⊢
  have Hk := jJ0 hk
  clear hk
  have hlI : (bs.length : Int) <= 1048576 := by omega
  go_enter Tryz.func16, Tryz.ntmps16
  go_wp2_with fail
  refine (kS _ A bs.length c bs (hrd.alloc _) (by omega)).mono ?_
  rintro e w1 ⟨g, rfl, hg, hr1, ho1⟩
  have hbR := (Blk.new w 34 zeroReqC.toArray).old ho1
  have hold1 : Old w w1 := ((Kp.refl NoX w).alloc _).old ho1
  have hgR : w.heap.size < g := by simp at hg; omega
  clear ho1 hg
  go_wp2_with fail
  refine (jQ w1 g bs _ hr1).mono ?_
  rintro e w2 ⟨rfl, hr2, hk2⟩
  rw [Hk.out]
  generalize (tkN bs 1 ⟨0, 0⟩).2 = s1 at *
  have hD : DecSt w w.heap.size g w2.heap.size bs [.int .i64 6, .int .i64 0, .string ⟨#[]⟩, .string ⟨#[]⟩, .string ⟨#[]⟩, .int .i64 0, .int .i64 0, .string ⟨#[]⟩, .slice none 0 0, .slice none 0 0, .slice none 0 0, .int .i64 0, .string ⟨#[]⟩, .int .i64 0, .int .i64 0, .int .i64 0, .int .i64 0, .int .i64 0] s1 (w2.alloc (.cells (List.toArray [.int .i64 6, .int .i64 0, .string ⟨#[]⟩, .string ⟨#[]⟩, .string ⟨#[]⟩, .int .i64 0, .int .i64 0, .string ⟨#[]⟩, .slice none 0 0, .slice none 0 0, .slice none 0 0, .int .i64 0, .string ⟨#[]⟩, .int .i64 0, .int .i64 0, .int .i64 0, .int .i64 0, .int .i64 0]) 34)) :=
    ⟨Blk.new w2 _ _, (hbR.kp hk2 (fun e => by have : w.heap.size = g := e; omega)).alloc _, hr2.old ((Kp.refl NoX w2).alloc _),
      (hold1.trans hk2 (fun b hb e => by have : b = g := e; omega)).alloc _, Nat.le_refl _, hgR, hr2.lt⟩
  clear hk2 hold1 hbR hr2 hr1
  have HD := jJ0 hD
  have Hrd := jJ0 hrd
  clear hD hrd
  go_upto_region 5 with (fail)
  generalize w2.alloc _ = w3 at *
  generalize w2.heap.size = Q at *
  have hV : decN bs 6 s1 = (MReq.data (⟨6, ⟨0, ⟨#[]⟩, ⟨#[]⟩, ⟨#[]⟩, ⟨⟨0, 0, ⟨#[]⟩, []⟩, none, 0⟩, [], none, 0, [], none, 0, 0⟩, ⟨#[]⟩, 0, 0, 0, 0, 0⟩ : MReq), true, s1) := by simp [decN, MReq.data, MOp.data, ju, kI]
  rw [hV] at HT
  clear hV
  have HE2 := jJ0 (show jc bs (MReq.data (⟨6, ⟨0, ⟨#[]⟩, ⟨#[]⟩, ⟨#[]⟩, ⟨⟨0, 0, ⟨#[]⟩, []⟩, none, 0⟩, [], none, 0, [], none, 0, 0⟩, ⟨#[]⟩, 0, 0, 0, 0, 0⟩ : MReq), true, s1) = if jo bs s1 = 0 then some (MReq.data (⟨6, ⟨0, ⟨#[]⟩, ⟨#[]⟩, ⟨#[]⟩, ⟨⟨0, 0, ⟨#[]⟩, []⟩, none, 0⟩, [], none, 0, [], none, 0, 0⟩, ⟨#[]⟩, 0, 0, 0, 0, 0⟩ : MReq)) else none by simp [jc])
  have c0 := HD.out.boxQ.at_ 0 rfl
  generalize s1 = sz at *
  go_upto_region 23 with (fail)
  clear c0
  generalize w3 = wz at *
  go_wp2_with fail
  refine (jw _ g bs _ HD.out.rr).mono ?_
  rintro e w9 ⟨rfl, ho9⟩
  have HD := jJ0 (HD.out.still ho9)
  have HE := jJ0 HE2.out
  have Hok := jJ0 (show MOp.Ok w9 (fun k => k <= w.heap.size) ⟨0, ⟨#[]⟩, ⟨#[]⟩, ⟨#[]⟩, ⟨⟨0, 0, ⟨#[]⟩, []⟩, none, 0⟩, [], none, 0, [], none, 0, 0⟩ from ku _ _)
  clear ho9
  generalize jo bs sz = dn at *
  by_cases hdn : dn = 0
  · subst hdn
    have Hz := jJ0 (HD.out.told [.int .i64 6, .int .i64 0, .string ⟨#[]⟩, .string ⟨#[]⟩, .string ⟨#[]⟩, .int .i64 0, .int .i64 0, .string ⟨#[]⟩, .slice none 0 0, .slice none 0 0, .slice none 0 0, .int .i64 0, .string ⟨#[]⟩, .int .i64 0, .int .i64 0, .int .i64 0, .int .i64 0, .int .i64 0] rfl)
    go_wp2_with (first | refine wpList_load_mid rfl 34 (.tmp 5) rfl Q 0 rfl [.int .i64 6, .int .i64 0, .string ⟨#[]⟩, .string ⟨#[]⟩, .string ⟨#[]⟩, .int .i64 0, .int .i64 0, .string ⟨#[]⟩, .slice none 0 0, .slice none 0 0, .slice none 0 0, .int .i64 0, .string ⟨#[]⟩, .int .i64 0, .int .i64 0, .int .i64 0, .int .i64 0, .int .i64 0] _ HD.out.boxQ.range Tryz.underlying34 rfl Tryz.sizeRequest ?_ | refine wpList_store_mid rfl 34 (.tmp 2) (.tmp 96) rfl w.heap.size 0 _ rfl rfl (HD.out.boxR.there 0 18 (by decide)) Tryz.sizeRequest (jK rfl) ?_)
    refine jA (g := w.heap.size) (cs := List.toArray [.int .i64 6, .int .i64 0, .string ⟨#[]⟩, .string ⟨#[]⟩, .string ⟨#[]⟩, .int .i64 0, .int .i64 0, .string ⟨#[]⟩, .slice none 0 0, .slice none 0 0, .slice none 0 0, .int .i64 0, .string ⟨#[]⟩, .int .i64 0, .int .i64 0, .int .i64 0, .int .i64 0, .int .i64 0]) rfl rfl Hz.out.1 Tryz.underlying34 rfl (by kernel_rfl) rfl ?_
    refine .inl ⟨(⟨6, ⟨0, ⟨#[]⟩, ⟨#[]⟩, ⟨#[]⟩, ⟨⟨0, 0, ⟨#[]⟩, []⟩, none, 0⟩, [], none, 0, [], none, 0, 0⟩, ⟨#[]⟩, 0, 0, 0, 0, 0⟩ : MReq), ?_, rfl, ?_, ?_, Hz.out.2.1⟩
    · rw [HT.out, HE.out]; exact if_pos (by trivial)
    · exact (Hok.out.sub Hz.out.2.2 (fun k e => by omega)).weak (fun k e => by omega)
    · exact jg
  · have hdn' : (dn != 0) = true := bne_iff_ne.2 hdn
    have Hz := jJ0 (HD.out.told zeroReqC rfl)
    go_wp2_with (refine wpList_store_mid rfl 34 (.tmp 2) (.tmp 95) rfl w.heap.size 0 _ rfl rfl (HD.out.boxR.there 0 18 (by decide)) Tryz.sizeRequest (jK rfl) ?_)
    refine jA (g := w.heap.size) (cs := zeroReqC.toArray) rfl rfl Hz.out.1 Tryz.underlying34 rfl (by kernel_rfl) rfl ?_
    exact .inr ⟨by rw [HT.out, HE.out, if_neg hdn], rfl, Hz.out.2.1⟩
theorem dec_7 (w : World) (A : Option Addr) (c : Nat) (bs : List UInt8) (hrd : Rd w 1 A bs.length (bs.map bv)) (hl : bs.length <= 1048576) (hk : (tkN bs 1 ⟨0, 0⟩).1 = 7) :
    Calls Tryz.prog 16 #[.slice A bs.length c] w (DecPost w (jS bs)) := by
  have HT := jJ0 (show jS bs = jc bs (decN bs 7 (tkN bs 1 ⟨0, 0⟩).2) by rw [jS, if_neg (by omega), hk])
  generalize jS bs = TV at HT ⊢
  have Hk := jJ0 hk
  clear hk
  have hlI : (bs.length : Int) <= 1048576 := by omega
  go_enter Tryz.func16, Tryz.ntmps16
  go_wp2_with fail
  refine (kS _ A bs.length c bs (hrd.alloc _) (by omega)).mono ?_
  rintro e w1 ⟨g, rfl, hg, hr1, ho1⟩
  have hbR := (Blk.new w 34 zeroReqC.toArray).old ho1
  have hold1 : Old w w1 := ((Kp.refl NoX w).alloc _).old ho1
  have hgR : w.heap.size < g := by simp at hg; omega
  clear ho1 hg
  go_wp2_with fail
  refine (jQ w1 g bs _ hr1).mono ?_
  rintro e w2 ⟨rfl, hr2, hk2⟩
  rw [Hk.out]
  generalize (tkN bs 1 ⟨0, 0⟩).2 = s1 at *
  have hD : DecSt w w.heap.size g w2.heap.size bs [.int .i64 7, .int .i64 0, .string ⟨#[]⟩, .string ⟨#[]⟩, .string ⟨#[]⟩, .int .i64 0, .int .i64 0, .string ⟨#[]⟩, .slice none 0 0, .slice none 0 0, .slice none 0 0, .int .i64 0, .string ⟨#[]⟩, .int .i64 0, .int .i64 0, .int .i64 0, .int .i64 0, .int .i64 0] s1 (w2.alloc (.cells (List.toArray [.int .i64 7, .int .i64 0, .string ⟨#[]⟩, .string ⟨#[]⟩, .string ⟨#[]⟩, .int .i64 0, .int .i64 0, .string ⟨#[]⟩, .slice none 0 0, .slice none 0 0, .slice none 0 0, .int .i64 0, .string ⟨#[]⟩, .int .i64 0, .int .i64 0, .int .i64 0, .int .i64 0, .int .i64 0]) 34)) :=
    ⟨Blk.new w2 _ _, (hbR.kp hk2 (fun e => by have : w.heap.size = g := e; omega)).alloc _, hr2.old ((Kp.refl NoX w2).alloc _),
      (hold1.trans hk2 (fun b hb e => by have : b = g := e; omega)).alloc _, Nat.le_refl _, hgR, hr2.lt⟩
  clear hk2 hold1 hbR hr2 hr1
  have HD := jJ0 hD
  have Hrd := jJ0 hrd
  clear hD hrd
  go_upto_region 5 with (fail)
  generalize w2.alloc _ = w3 at *
  generalize w2.heap.size = Q at *
  have hV : decN bs 7 s1 = (MReq.data (⟨7, ⟨0, ⟨#[]⟩, ⟨#[]⟩, ⟨#[]⟩, ⟨⟨0, 0, ⟨#[]⟩, []⟩, none, 0⟩, [], none, 0, [], none, 0, 0⟩, ⟨#[]⟩, 0, 0, 0, 0, 0⟩ : MReq), true, s1) := by simp [decN, MReq.data, MOp.data, ju, kI]
  rw [hV] at HT
  clear hV
  have HE2 := jJ0 (show jc bs (MReq.data (⟨7, ⟨0, ⟨#[]⟩, ⟨#[]⟩, ⟨#[]⟩, ⟨⟨0, 0, ⟨#[]⟩, []⟩, none, 0⟩, [], none, 0, [], none, 0, 0⟩, ⟨#[]⟩, 0, 0, 0, 0, 0⟩ : MReq), true, s1) = if jo bs s1 = 0 then some (MReq.data (⟨7, ⟨0, ⟨#[]⟩, ⟨#[]⟩, ⟨#[]⟩, ⟨⟨0, 0, ⟨#[]⟩, []⟩, none, 0⟩, [], none, 0, [], none, 0, 0⟩, ⟨#[]⟩, 0, 0, 0, 0, 0⟩ : MReq)) else none by simp [jc])
  have c0 := HD.out.boxQ.at_ 0 rfl
  generalize s1 = sz at *
  go_upto_region 23 with (fail)
  clear c0
  generalize w3 = wz at *
  go_wp2_with fail
  refine (jw _ g bs _ HD.out.rr).mono ?_
  rintro e w9 ⟨rfl, ho9⟩
  have HD := jJ0 (HD.out.still ho9)
  have HE := jJ0 HE2.out
  have Hok := jJ0 (show MOp.Ok w9 (fun k => k <= w.heap.size) ⟨0, ⟨#[]⟩, ⟨#[]⟩, ⟨#[]⟩, ⟨⟨0, 0, ⟨#[]⟩, []⟩, none, 0⟩, [], none, 0, [], none, 0, 0⟩ from ku _ _)
  clear ho9
  generalize jo bs sz = dn at *
  by_cases hdn : dn = 0
  · subst hdn
    have Hz := jJ0 (HD.out.told [.int .i64 7, .int .i64 0, .string ⟨#[]⟩, .string ⟨#[]⟩, .string ⟨#[]⟩, .int .i64 0, .int .i64 0, .string ⟨#[]⟩, .slice none 0 0, .slice none 0 0, .slice none 0 0, .int .i64 0, .string ⟨#[]⟩, .int .i64 0, .int .i64 0, .int .i64 0, .int .i64 0, .int .i64 0] rfl)
    go_wp2_with (first | refine wpList_load_mid rfl 34 (.tmp 5) rfl Q 0 rfl [.int .i64 7, .int .i64 0, .string ⟨#[]⟩, .string ⟨#[]⟩, .string ⟨#[]⟩, .int .i64 0, .int .i64 0, .string ⟨#[]⟩, .slice none 0 0, .slice none 0 0, .slice none 0 0, .int .i64 0, .string ⟨#[]⟩, .int .i64 0, .int .i64 0, .int .i64 0, .int .i64 0, .int .i64 0] _ HD.out.boxQ.range Tryz.underlying34 rfl Tryz.sizeRequest ?_ | refine wpList_store_mid rfl 34 (.tmp 2) (.tmp 96) rfl w.heap.size 0 _ rfl rfl (HD.out.boxR.there 0 18 (by decide)) Tryz.sizeRequest (jK rfl) ?_)
    refine jA (g := w.heap.size) (cs := List.toArray [.int .i64 7, .int .i64 0, .string ⟨#[]⟩, .string ⟨#[]⟩, .string ⟨#[]⟩, .int .i64 0, .int .i64 0, .string ⟨#[]⟩, .slice none 0 0, .slice none 0 0, .slice none 0 0, .int .i64 0, .string ⟨#[]⟩, .int .i64 0, .int .i64 0, .int .i64 0, .int .i64 0, .int .i64 0]) rfl rfl Hz.out.1 Tryz.underlying34 rfl (by kernel_rfl) rfl ?_
    refine .inl ⟨(⟨7, ⟨0, ⟨#[]⟩, ⟨#[]⟩, ⟨#[]⟩, ⟨⟨0, 0, ⟨#[]⟩, []⟩, none, 0⟩, [], none, 0, [], none, 0, 0⟩, ⟨#[]⟩, 0, 0, 0, 0, 0⟩ : MReq), ?_, rfl, ?_, ?_, Hz.out.2.1⟩
    · rw [HT.out, HE.out]; exact if_pos (by trivial)
    · exact (Hok.out.sub Hz.out.2.2 (fun k e => by omega)).weak (fun k e => by omega)
    · exact jg
  · have hdn' : (dn != 0) = true := bne_iff_ne.2 hdn
    have Hz := jJ0 (HD.out.told zeroReqC rfl)
    go_wp2_with (refine wpList_store_mid rfl 34 (.tmp 2) (.tmp 95) rfl w.heap.size 0 _ rfl rfl (HD.out.boxR.there 0 18 (by decide)) Tryz.sizeRequest (jK rfl) ?_)
    refine jA (g := w.heap.size) (cs := zeroReqC.toArray) rfl rfl Hz.out.1 Tryz.underlying34 rfl (by kernel_rfl) rfl ?_
    exact .inr ⟨by rw [HT.out, HE.out, if_neg hdn], rfl, Hz.out.2.1⟩
theorem dec_8 (w : World) (A : Option Addr) (c : Nat) (bs : List UInt8) (hrd : Rd w 1 A bs.length (bs.map bv)) (hl : bs.length <= 1048576) (hk : (tkN bs 1 ⟨0, 0⟩).1 = 8) :
    Calls Tryz.prog 16 #[.slice A bs.length c] w (DecPost w (jS bs)) := by
  have HT := jJ0 (show jS bs = jc bs (decN bs 8 (tkN bs 1 ⟨0, 0⟩).2) by rw [jS, if_neg (by omega), hk])
  generalize jS bs = TV at HT ⊢
  have Hk := jJ0 hk
  clear hk
  have hlI : (bs.length : Int) <= 1048576 := by omega
  go_enter Tryz.func16, Tryz.ntmps16
  go_wp2_with fail
  refine (kS _ A bs.length c bs (hrd.alloc _) (by omega)).mono ?_
  rintro e w1 ⟨g, rfl, hg, hr1, ho1⟩
  have hbR := (Blk.new w 34 zeroReqC.toArray).old ho1
  have hold1 : Old w w1 := ((Kp.refl NoX w).alloc _).old ho1
  have hgR : w.heap.size < g := by simp at hg; omega
  clear ho1 hg
  go_wp2_with fail
  refine (jQ w1 g bs _ hr1).mono ?_
  rintro e w2 ⟨rfl, hr2, hk2⟩
  rw [Hk.out]
  generalize (tkN bs 1 ⟨0, 0⟩).2 = s1 at *
  have hD : DecSt w w.heap.size g w2.heap.size bs [.int .i64 8, .int .i64 0, .string ⟨#[]⟩, .string ⟨#[]⟩, .string ⟨#[]⟩, .int .i64 0, .int .i64 0, .string ⟨#[]⟩, .slice none 0 0, .slice none 0 0, .slice none 0 0, .int .i64 0, .string ⟨#[]⟩, .int .i64 0, .int .i64 0, .int .i64 0, .int .i64 0, .int .i64 0] s1 (w2.alloc (.cells (List.toArray [.int .i64 8, .int .i64 0, .string ⟨#[]⟩, .string ⟨#[]⟩, .string ⟨#[]⟩, .int .i64 0, .int .i64 0, .string ⟨#[]⟩, .slice none 0 0, .slice none 0 0, .slice none 0 0, .int .i64 0, .string ⟨#[]⟩, .int .i64 0, .int .i64 0, .int .i64 0, .int .i64 0, .int .i64 0]) 34)) :=
    ⟨Blk.new w2 _ _, (hbR.kp hk2 (fun e => by have : w.heap.size = g := e; omega)).alloc _, hr2.old ((Kp.refl NoX w2).alloc _),
      (hold1.trans hk2 (fun b hb e => by have : b = g := e; omega)).alloc _, Nat.le_refl _, hgR, hr2.lt⟩
  clear hk2 hold1 hbR hr2 hr1
  have HD := jJ0 hD
  have Hrd := jJ0 hrd
  clear hD hrd
  go_upto_region 5 with (fail)
  generalize w2.alloc _ = w3 at *
  generalize w2.heap.size = Q at *
  have hV : decN bs 8 s1 = (MReq.data (⟨8, ⟨0, ⟨#[]⟩, ⟨#[]⟩, ⟨#[]⟩, ⟨⟨0, 0, ⟨#[]⟩, []⟩, none, 0⟩, [], none, 0, [], none, 0, 0⟩, ⟨#[]⟩, (numN bs s1).1, (numN bs (numN bs s1).2).1, 0, 0, 0⟩ : MReq), true, (numN bs (numN bs s1).2).2) := by simp [decN, MReq.data, MOp.data, ju, kI]
  rw [hV] at HT
  clear hV
  have HE2 := jJ0 (show jc bs (MReq.data (⟨8, ⟨0, ⟨#[]⟩, ⟨#[]⟩, ⟨#[]⟩, ⟨⟨0, 0, ⟨#[]⟩, []⟩, none, 0⟩, [], none, 0, [], none, 0, 0⟩, ⟨#[]⟩, (numN bs s1).1, (numN bs (numN bs s1).2).1, 0, 0, 0⟩ : MReq), true, (numN bs (numN bs s1).2).2) = if jo bs (numN bs (numN bs s1).2).2 = 0 then some (MReq.data (⟨8, ⟨0, ⟨#[]⟩, ⟨#[]⟩, ⟨#[]⟩, ⟨⟨0, 0, ⟨#[]⟩, []⟩, none, 0⟩, [], none, 0, [], none, 0, 0⟩, ⟨#[]⟩, (numN bs s1).1, (numN bs (numN bs s1).2).1, 0, 0, 0⟩ : MReq)) else none by simp [jc])
  have c0 := HD.out.boxQ.at_ 0 rfl
  go_wp2_with fail
  refine (kZ _ g bs _ HD.out.rr).mono ?_
  rintro e w4 ⟨rfl, hr4, hk4⟩
  have HD := jJ0 (HD.out.step hr4 hk4)
  clear hr4 hk4
  go_wp2_with fail
  refine (kZ _ g bs _ HD.out.rr).mono ?_
  rintro e w5 ⟨rfl, hr5, hk5⟩
  have HD := jJ0 (HD.out.step hr5 hk5)
  clear hr5 hk5
  generalize (numN bs (numN bs s1).2).2 = sz at *
  generalize (numN bs (numN bs s1).2).1 = n2 at *
  generalize (numN bs s1).1 = n1 at *
  have a13 := HD.out.boxQ.at_ 13 rfl
  have z13 := HD.out.boxQ.frozen 13
  have a14 := HD.out.boxQ.at_ 14 rfl
  have z14 := HD.out.boxQ.frozen 14
  go_upto_region 23 with (fail)
  have HD : Hid (DecSt w w.heap.size g Q bs [.int .i64 8, .int .i64 0, .string ⟨#[]⟩, .string ⟨#[]⟩, .string ⟨#[]⟩, .int .i64 0, .int .i64 0, .string ⟨#[]⟩, .slice none 0 0, .slice none 0 0, .slice none 0 0, .int .i64 0, .string ⟨#[]⟩, .int .i64 n1, .int .i64 n2, .int .i64 0, .int .i64 0, .int .i64 0] sz ((w5.setCell ⟨Q, 13, none⟩ (.int .i64 n1)).setCell ⟨Q, 14, none⟩ (.int .i64 n2))) := jJ0 (((HD.out).set 13 (.int .i64 n1)).set 14 (.int .i64 n2))
  clear a13 z13 a14 z14
  clear c0
  generalize ((w5.setCell ⟨Q, 13, none⟩ (.int .i64 n1)).setCell ⟨Q, 14, none⟩ (.int .i64 n2)) = wz at *
  go_wp2_with fail
  refine (jw _ g bs _ HD.out.rr).mono ?_
  rintro e w9 ⟨rfl, ho9⟩
  have HD := jJ0 (HD.out.still ho9)
  have HE := jJ0 HE2.out
  have Hok := jJ0 (show MOp.Ok w9 (fun k => k <= w.heap.size) ⟨0, ⟨#[]⟩, ⟨#[]⟩, ⟨#[]⟩, ⟨⟨0, 0, ⟨#[]⟩, []⟩, none, 0⟩, [], none, 0, [], none, 0, 0⟩ from ku _ _)
  clear ho9
  generalize jo bs sz = dn at *
  by_cases hdn : dn = 0
  · subst hdn
    have Hz := jJ0 (HD.out.told [.int .i64 8, .int .i64 0, .string ⟨#[]⟩, .string ⟨#[]⟩, .string ⟨#[]⟩, .int .i64 0, .int .i64 0, .string ⟨#[]⟩, .slice none 0 0, .slice none 0 0, .slice none 0 0, .int .i64 0, .string ⟨#[]⟩, .int .i64 n1, .int .i64 n2, .int .i64 0, .int .i64 0, .int .i64 0] rfl)
    go_wp2_with (first | refine wpList_load_mid rfl 34 (.tmp 5) rfl Q 0 rfl [.int .i64 8, .int .i64 0, .string ⟨#[]⟩, .string ⟨#[]⟩, .string ⟨#[]⟩, .int .i64 0, .int .i64 0, .string ⟨#[]⟩, .slice none 0 0, .slice none 0 0, .slice none 0 0, .int .i64 0, .string ⟨#[]⟩, .int .i64 n1, .int .i64 n2, .int .i64 0, .int .i64 0, .int .i64 0] _ HD.out.boxQ.range Tryz.underlying34 rfl Tryz.sizeRequest ?_ | refine wpList_store_mid rfl 34 (.tmp 2) (.tmp 96) rfl w.heap.size 0 _ rfl rfl (HD.out.boxR.there 0 18 (by decide)) Tryz.sizeRequest (jK rfl) ?_)
    refine jA (g := w.heap.size) (cs := List.toArray [.int .i64 8, .int .i64 0, .string ⟨#[]⟩, .string ⟨#[]⟩, .string ⟨#[]⟩, .int .i64 0, .int .i64 0, .string ⟨#[]⟩, .slice none 0 0, .slice none 0 0, .slice none 0 0, .int .i64 0, .string ⟨#[]⟩, .int .i64 n1, .int .i64 n2, .int .i64 0, .int .i64 0, .int .i64 0]) rfl rfl Hz.out.1 Tryz.underlying34 rfl (by kernel_rfl) rfl ?_
    refine .inl ⟨(⟨8, ⟨0, ⟨#[]⟩, ⟨#[]⟩, ⟨#[]⟩, ⟨⟨0, 0, ⟨#[]⟩, []⟩, none, 0⟩, [], none, 0, [], none, 0, 0⟩, ⟨#[]⟩, n1, n2, 0, 0, 0⟩ : MReq), ?_, rfl, ?_, ?_, Hz.out.2.1⟩
    · rw [HT.out, HE.out]; exact if_pos (by trivial)
    · exact (Hok.out.sub Hz.out.2.2 (fun k e => by omega)).weak (fun k e => by omega)
    · exact jg
  · have hdn' : (dn != 0) = true := bne_iff_ne.2 hdn
    have Hz := jJ0 (HD.out.told zeroReqC rfl)
    go_wp2_with (refine wpList_store_mid rfl 34 (.tmp 2) (.tmp 95) rfl w.heap.size 0 _ rfl rfl (HD.out.boxR.there 0 18 (by decide)) Tryz.sizeRequest (jK rfl) ?_)
    refine jA (g := w.heap.size) (cs := zeroReqC.toArray) rfl rfl Hz.out.1 Tryz.underlying34 rfl (by kernel_rfl) rfl ?_
    exact .inr ⟨by rw [HT.out, HE.out, if_neg hdn], rfl, Hz.out.2.1⟩
end Go.Proofs.YtnaolhjbapgjgaaGreat
