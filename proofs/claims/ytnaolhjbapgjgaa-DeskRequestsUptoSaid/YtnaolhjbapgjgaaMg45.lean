import Derived.Test.YtnaolhjbapgjgaaMg31
/- Contract of desk.DecodeRequest: a request of one op read. -/
namespace Go.Proofs.Ytnaolhjbapgjgaa
open Go.RowKit

set_option maxRecDepth 100000 in
set_option maxHeartbeats 3200000 in
theorem dec_3 (w : World) (A : Option Addr) (c : Nat) (bs : List UInt8) (hrd : Rd w 1 A bs.length (bs.map bv)) (hl : bs.length ≤ 1048576) (hk : (tkN bs 1 ⟨0, 0⟩).1 = 3) :
    Calls Try.prog 23 #[.slice A bs.length c] w (DecPost w (decReq bs)) := by
  have HT := Lib.hid (show decReq bs = decEnd bs (decN bs 3 (tkN bs 1 ⟨0, 0⟩).2) by rw [decReq, if_neg (by omega), hk])
  generalize decReq bs = TV at HT ⊢
  have Hk := Lib.hid hk
  clear hk
  have hlI : (bs.length : Int) ≤ 1048576 := by omega
  go_enter Try.func23, Try.ntmps23
  go_wp2_with fail
  refine (read_any _ A bs.length c bs (hrd.alloc _) (by omega)).mono ?_
  rintro e w1 ⟨g, rfl, hg, hr1, ho1⟩
  have hbR := (Blk.new w 31 zeroReqC.toArray).old ho1
  have hold1 : Old w w1 := ((Kp.refl NoX w).alloc _).old ho1
  have hgR : w.heap.size < g := by simp at hg; omega
  clear ho1 hg
  go_wp2_with fail
  refine (take8_any w1 g bs _ hr1).mono ?_
  rintro e w2 ⟨rfl, hr2, hk2⟩
  rw [Hk.out]
  generalize (tkN bs 1 ⟨0, 0⟩).2 = s1 at *
  have hD : DecSt w w.heap.size g w2.heap.size bs [.int .i64 3, .int .i64 0, .string ⟨#[]⟩, .string ⟨#[]⟩, .string ⟨#[]⟩, .int .i64 0, .int .i64 0, .string ⟨#[]⟩, .slice none 0 0, .slice none 0 0, .slice none 0 0, .int .i64 0, .string ⟨#[]⟩, .int .i64 0, .int .i64 0, .int .i64 0, .int .i64 0, .int .i64 0] s1 (w2.alloc (.cells (List.toArray [.int .i64 3, .int .i64 0, .string ⟨#[]⟩, .string ⟨#[]⟩, .string ⟨#[]⟩, .int .i64 0, .int .i64 0, .string ⟨#[]⟩, .slice none 0 0, .slice none 0 0, .slice none 0 0, .int .i64 0, .string ⟨#[]⟩, .int .i64 0, .int .i64 0, .int .i64 0, .int .i64 0, .int .i64 0]) 31)) :=
    ⟨Blk.new w2 _ _, (hbR.kp hk2 (fun e => by have : w.heap.size = g := e; omega)).alloc _, hr2.old ((Kp.refl NoX w2).alloc _),
      (hold1.trans hk2 (fun b hb e => by have : b = g := e; omega)).alloc _, Nat.le_refl _, hgR, hr2.lt⟩
  clear hk2 hold1 hbR hr2 hr1
  have HD := Lib.hid hD
  have Hrd := Lib.hid hrd
  clear hD hrd
  go_upto_region 5 with (fail)
  generalize w2.alloc _ = w3 at *
  generalize w2.heap.size = Q at *
  have hV : decN bs 3 s1 = (MReq.data (⟨3, ⟨0, ⟨#[]⟩, ⟨#[]⟩, ⟨#[]⟩, ⟨⟨0, 0, ⟨#[]⟩, []⟩, none, 0⟩, [], none, 0, [], none, 0, 0⟩, (wordN bs s1).1, 0, 0, 0, 0, 0⟩ : MReq), true, (wordN bs s1).2) := by simp [decN, MReq.data, MOp.data, zeroReq, zeroOpn]
  rw [hV] at HT
  clear hV
  have HE2 := Lib.hid (show decEnd bs (MReq.data (⟨3, ⟨0, ⟨#[]⟩, ⟨#[]⟩, ⟨#[]⟩, ⟨⟨0, 0, ⟨#[]⟩, []⟩, none, 0⟩, [], none, 0, [], none, 0, 0⟩, (wordN bs s1).1, 0, 0, 0, 0, 0⟩ : MReq), true, (wordN bs s1).2) = if doneN bs (wordN bs s1).2 = 0 then some (MReq.data (⟨3, ⟨0, ⟨#[]⟩, ⟨#[]⟩, ⟨#[]⟩, ⟨⟨0, 0, ⟨#[]⟩, []⟩, none, 0⟩, [], none, 0, [], none, 0, 0⟩, (wordN bs s1).1, 0, 0, 0, 0, 0⟩ : MReq)) else none by simp [decEnd])
  have hsz1 := wordN_size bs s1
  have c0 := HD.out.boxQ.at_ 0 rfl
  go_wp2_with fail
  refine (word_any _ g bs _ HD.out.rr).mono ?_
  rintro e w4 ⟨rfl, hr4, hk4⟩
  have HD := Lib.hid (HD.out.step hr4 hk4)
  clear hr4 hk4
  generalize (wordN bs s1).2 = sz at *
  generalize (wordN bs s1).1 = t1 at *
  have a12 := HD.out.boxQ.at_ 12 rfl
  have z12 := HD.out.boxQ.frozen 12
  go_upto_region 23 with (fail)
  have HD : Hid (DecSt w w.heap.size g Q bs [.int .i64 3, .int .i64 0, .string ⟨#[]⟩, .string ⟨#[]⟩, .string ⟨#[]⟩, .int .i64 0, .int .i64 0, .string ⟨#[]⟩, .slice none 0 0, .slice none 0 0, .slice none 0 0, .int .i64 0, .string t1, .int .i64 0, .int .i64 0, .int .i64 0, .int .i64 0, .int .i64 0] sz (w4.setCell ⟨Q, 12, none⟩ (.string t1))) := Lib.hid ((HD.out).set 12 (.string t1))
  clear a12 z12
  clear c0
  generalize (w4.setCell ⟨Q, 12, none⟩ (.string t1)) = wz at *
  go_wp2_with fail
  refine (done_any _ g bs _ HD.out.rr).mono ?_
  rintro e w9 ⟨rfl, ho9⟩
  have HD := Lib.hid (HD.out.still ho9)
  have HE := Lib.hid HE2.out
  have Hok := Lib.hid (show MOp.Ok w9 (fun k => k ≤ w.heap.size) ⟨0, ⟨#[]⟩, ⟨#[]⟩, ⟨#[]⟩, ⟨⟨0, 0, ⟨#[]⟩, []⟩, none, 0⟩, [], none, 0, [], none, 0, 0⟩ from zeroOp_ok _ _)
  clear ho9
  generalize doneN bs sz = dn at *
  by_cases hdn : dn = 0
  · subst hdn
    have Hz := Lib.hid (HD.out.told [.int .i64 3, .int .i64 0, .string ⟨#[]⟩, .string ⟨#[]⟩, .string ⟨#[]⟩, .int .i64 0, .int .i64 0, .string ⟨#[]⟩, .slice none 0 0, .slice none 0 0, .slice none 0 0, .int .i64 0, .string t1, .int .i64 0, .int .i64 0, .int .i64 0, .int .i64 0, .int .i64 0] rfl)
    go_wp2_with (first | refine wpList_load_mid rfl 31 (.tmp 5) rfl Q 0 rfl [.int .i64 3, .int .i64 0, .string ⟨#[]⟩, .string ⟨#[]⟩, .string ⟨#[]⟩, .int .i64 0, .int .i64 0, .string ⟨#[]⟩, .slice none 0 0, .slice none 0 0, .slice none 0 0, .int .i64 0, .string t1, .int .i64 0, .int .i64 0, .int .i64 0, .int .i64 0, .int .i64 0] _ HD.out.boxQ.range Try.underlying31 rfl Try.sizeRequest ?_ | refine wpList_store_mid rfl 31 (.tmp 2) (.tmp 96) rfl w.heap.size 0 _ rfl rfl (HD.out.boxR.there 0 18 (by decide)) Try.sizeRequest (all_one rfl) ?_)
    refine ret_cell_tmp (g := w.heap.size) (cs := List.toArray [.int .i64 3, .int .i64 0, .string ⟨#[]⟩, .string ⟨#[]⟩, .string ⟨#[]⟩, .int .i64 0, .int .i64 0, .string ⟨#[]⟩, .slice none 0 0, .slice none 0 0, .slice none 0 0, .int .i64 0, .string t1, .int .i64 0, .int .i64 0, .int .i64 0, .int .i64 0, .int .i64 0]) rfl rfl Hz.out.1 Try.underlying31 rfl (by kernel_rfl) rfl ?_
    refine .inl ⟨(⟨3, ⟨0, ⟨#[]⟩, ⟨#[]⟩, ⟨#[]⟩, ⟨⟨0, 0, ⟨#[]⟩, []⟩, none, 0⟩, [], none, 0, [], none, 0, 0⟩, t1, 0, 0, 0, 0, 0⟩ : MReq), ?_, rfl, ?_, ?_, Hz.out.2.1⟩
    · rw [HT.out, HE.out]; exact if_pos (by trivial)
    · exact (Hok.out.sub Hz.out.2.2 (fun k e => by omega)).weak (fun k e => by omega)
    · (simp only; omega)
  · have hdn' : (dn != 0) = true := bne_iff_ne.2 hdn
    have Hz := Lib.hid (HD.out.told zeroReqC rfl)
    go_wp2_with (refine wpList_store_mid rfl 31 (.tmp 2) (.tmp 95) rfl w.heap.size 0 _ rfl rfl (HD.out.boxR.there 0 18 (by decide)) Try.sizeRequest (all_one rfl) ?_)
    refine ret_cell_tmp (g := w.heap.size) (cs := zeroReqC.toArray) rfl rfl Hz.out.1 Try.underlying31 rfl (by kernel_rfl) rfl ?_
    exact .inr ⟨by rw [HT.out, HE.out, if_neg hdn], rfl, Hz.out.2.1⟩

end Go.Proofs.Ytnaolhjbapgjgaa

/- Contract of desk.DecodeRequest: a request of one op read. -/
namespace Go.Proofs.Ytnaolhjbapgjgaa
open Go.RowKit

set_option maxRecDepth 100000 in
set_option maxHeartbeats 3200000 in
theorem dec_4 (w : World) (A : Option Addr) (c : Nat) (bs : List UInt8) (hrd : Rd w 1 A bs.length (bs.map bv)) (hl : bs.length ≤ 1048576) (hk : (tkN bs 1 ⟨0, 0⟩).1 = 4) :
    Calls Try.prog 23 #[.slice A bs.length c] w (DecPost w (decReq bs)) := by
  have HT := Lib.hid (show decReq bs = decEnd bs (decN bs 4 (tkN bs 1 ⟨0, 0⟩).2) by rw [decReq, if_neg (by omega), hk])
  generalize decReq bs = TV at HT ⊢
  have Hk := Lib.hid hk
  clear hk
  have hlI : (bs.length : Int) ≤ 1048576 := by omega
  go_enter Try.func23, Try.ntmps23
  go_wp2_with fail
  refine (read_any _ A bs.length c bs (hrd.alloc _) (by omega)).mono ?_
  rintro e w1 ⟨g, rfl, hg, hr1, ho1⟩
  have hbR := (Blk.new w 31 zeroReqC.toArray).old ho1
  have hold1 : Old w w1 := ((Kp.refl NoX w).alloc _).old ho1
  have hgR : w.heap.size < g := by simp at hg; omega
  clear ho1 hg
  go_wp2_with fail
  refine (take8_any w1 g bs _ hr1).mono ?_
  rintro e w2 ⟨rfl, hr2, hk2⟩
  rw [Hk.out]
  generalize (tkN bs 1 ⟨0, 0⟩).2 = s1 at *
  have hD : DecSt w w.heap.size g w2.heap.size bs [.int .i64 4, .int .i64 0, .string ⟨#[]⟩, .string ⟨#[]⟩, .string ⟨#[]⟩, .int .i64 0, .int .i64 0, .string ⟨#[]⟩, .slice none 0 0, .slice none 0 0, .slice none 0 0, .int .i64 0, .string ⟨#[]⟩, .int .i64 0, .int .i64 0, .int .i64 0, .int .i64 0, .int .i64 0] s1 (w2.alloc (.cells (List.toArray [.int .i64 4, .int .i64 0, .string ⟨#[]⟩, .string ⟨#[]⟩, .string ⟨#[]⟩, .int .i64 0, .int .i64 0, .string ⟨#[]⟩, .slice none 0 0, .slice none 0 0, .slice none 0 0, .int .i64 0, .string ⟨#[]⟩, .int .i64 0, .int .i64 0, .int .i64 0, .int .i64 0, .int .i64 0]) 31)) :=
    ⟨Blk.new w2 _ _, (hbR.kp hk2 (fun e => by have : w.heap.size = g := e; omega)).alloc _, hr2.old ((Kp.refl NoX w2).alloc _),
      (hold1.trans hk2 (fun b hb e => by have : b = g := e; omega)).alloc _, Nat.le_refl _, hgR, hr2.lt⟩
  clear hk2 hold1 hbR hr2 hr1
  have HD := Lib.hid hD
  have Hrd := Lib.hid hrd
  clear hD hrd
  go_upto_region 5 with (fail)
  generalize w2.alloc _ = w3 at *
  generalize w2.heap.size = Q at *
  have hV : decN bs 4 s1 = (MReq.data (⟨4, ⟨0, ⟨#[]⟩, ⟨#[]⟩, ⟨#[]⟩, ⟨⟨0, 0, ⟨#[]⟩, []⟩, none, 0⟩, [], none, 0, [], none, 0, 0⟩, ⟨#[]⟩, (numN bs s1).1, 0, 0, 0, 0⟩ : MReq), true, (numN bs s1).2) := by simp [decN, MReq.data, MOp.data, zeroReq, zeroOpn]
  rw [hV] at HT
  clear hV
  have HE2 := Lib.hid (show decEnd bs (MReq.data (⟨4, ⟨0, ⟨#[]⟩, ⟨#[]⟩, ⟨#[]⟩, ⟨⟨0, 0, ⟨#[]⟩, []⟩, none, 0⟩, [], none, 0, [], none, 0, 0⟩, ⟨#[]⟩, (numN bs s1).1, 0, 0, 0, 0⟩ : MReq), true, (numN bs s1).2) = if doneN bs (numN bs s1).2 = 0 then some (MReq.data (⟨4, ⟨0, ⟨#[]⟩, ⟨#[]⟩, ⟨#[]⟩, ⟨⟨0, 0, ⟨#[]⟩, []⟩, none, 0⟩, [], none, 0, [], none, 0, 0⟩, ⟨#[]⟩, (numN bs s1).1, 0, 0, 0, 0⟩ : MReq)) else none by simp [decEnd])
  have c0 := HD.out.boxQ.at_ 0 rfl
  go_wp2_with fail
  refine (dtake_any _ g bs _ HD.out.rr).mono ?_
  rintro e w4 ⟨rfl, hr4, hk4⟩
  have HD := Lib.hid (HD.out.step hr4 hk4)
  clear hr4 hk4
  generalize (numN bs s1).2 = sz at *
  generalize (numN bs s1).1 = n1 at *
  have a13 := HD.out.boxQ.at_ 13 rfl
  have z13 := HD.out.boxQ.frozen 13
  go_upto_region 23 with (fail)
  have HD : Hid (DecSt w w.heap.size g Q bs [.int .i64 4, .int .i64 0, .string ⟨#[]⟩, .string ⟨#[]⟩, .string ⟨#[]⟩, .int .i64 0, .int .i64 0, .string ⟨#[]⟩, .slice none 0 0, .slice none 0 0, .slice none 0 0, .int .i64 0, .string ⟨#[]⟩, .int .i64 n1, .int .i64 0, .int .i64 0, .int .i64 0, .int .i64 0] sz (w4.setCell ⟨Q, 13, none⟩ (.int .i64 n1))) := Lib.hid ((HD.out).set 13 (.int .i64 n1))
  clear a13 z13
  clear c0
  generalize (w4.setCell ⟨Q, 13, none⟩ (.int .i64 n1)) = wz at *
  go_wp2_with fail
  refine (done_any _ g bs _ HD.out.rr).mono ?_
  rintro e w9 ⟨rfl, ho9⟩
  have HD := Lib.hid (HD.out.still ho9)
  have HE := Lib.hid HE2.out
  have Hok := Lib.hid (show MOp.Ok w9 (fun k => k ≤ w.heap.size) ⟨0, ⟨#[]⟩, ⟨#[]⟩, ⟨#[]⟩, ⟨⟨0, 0, ⟨#[]⟩, []⟩, none, 0⟩, [], none, 0, [], none, 0, 0⟩ from zeroOp_ok _ _)
  clear ho9
  generalize doneN bs sz = dn at *
  by_cases hdn : dn = 0
  · subst hdn
    have Hz := Lib.hid (HD.out.told [.int .i64 4, .int .i64 0, .string ⟨#[]⟩, .string ⟨#[]⟩, .string ⟨#[]⟩, .int .i64 0, .int .i64 0, .string ⟨#[]⟩, .slice none 0 0, .slice none 0 0, .slice none 0 0, .int .i64 0, .string ⟨#[]⟩, .int .i64 n1, .int .i64 0, .int .i64 0, .int .i64 0, .int .i64 0] rfl)
    go_wp2_with (first | refine wpList_load_mid rfl 31 (.tmp 5) rfl Q 0 rfl [.int .i64 4, .int .i64 0, .string ⟨#[]⟩, .string ⟨#[]⟩, .string ⟨#[]⟩, .int .i64 0, .int .i64 0, .string ⟨#[]⟩, .slice none 0 0, .slice none 0 0, .slice none 0 0, .int .i64 0, .string ⟨#[]⟩, .int .i64 n1, .int .i64 0, .int .i64 0, .int .i64 0, .int .i64 0] _ HD.out.boxQ.range Try.underlying31 rfl Try.sizeRequest ?_ | refine wpList_store_mid rfl 31 (.tmp 2) (.tmp 96) rfl w.heap.size 0 _ rfl rfl (HD.out.boxR.there 0 18 (by decide)) Try.sizeRequest (all_one rfl) ?_)
    refine ret_cell_tmp (g := w.heap.size) (cs := List.toArray [.int .i64 4, .int .i64 0, .string ⟨#[]⟩, .string ⟨#[]⟩, .string ⟨#[]⟩, .int .i64 0, .int .i64 0, .string ⟨#[]⟩, .slice none 0 0, .slice none 0 0, .slice none 0 0, .int .i64 0, .string ⟨#[]⟩, .int .i64 n1, .int .i64 0, .int .i64 0, .int .i64 0, .int .i64 0]) rfl rfl Hz.out.1 Try.underlying31 rfl (by kernel_rfl) rfl ?_
    refine .inl ⟨(⟨4, ⟨0, ⟨#[]⟩, ⟨#[]⟩, ⟨#[]⟩, ⟨⟨0, 0, ⟨#[]⟩, []⟩, none, 0⟩, [], none, 0, [], none, 0, 0⟩, ⟨#[]⟩, n1, 0, 0, 0, 0⟩ : MReq), ?_, rfl, ?_, ?_, Hz.out.2.1⟩
    · rw [HT.out, HE.out]; exact if_pos (by trivial)
    · exact (Hok.out.sub Hz.out.2.2 (fun k e => by omega)).weak (fun k e => by omega)
    · exact empty_size
  · have hdn' : (dn != 0) = true := bne_iff_ne.2 hdn
    have Hz := Lib.hid (HD.out.told zeroReqC rfl)
    go_wp2_with (refine wpList_store_mid rfl 31 (.tmp 2) (.tmp 95) rfl w.heap.size 0 _ rfl rfl (HD.out.boxR.there 0 18 (by decide)) Try.sizeRequest (all_one rfl) ?_)
    refine ret_cell_tmp (g := w.heap.size) (cs := zeroReqC.toArray) rfl rfl Hz.out.1 Try.underlying31 rfl (by kernel_rfl) rfl ?_
    exact .inr ⟨by rw [HT.out, HE.out, if_neg hdn], rfl, Hz.out.2.1⟩

end Go.Proofs.Ytnaolhjbapgjgaa

/- Contract of desk.DecodeRequest: a request of one op read. -/
namespace Go.Proofs.Ytnaolhjbapgjgaa
open Go.RowKit

set_option maxRecDepth 100000 in
set_option maxHeartbeats 3200000 in
theorem dec_5 (w : World) (A : Option Addr) (c : Nat) (bs : List UInt8) (hrd : Rd w 1 A bs.length (bs.map bv)) (hl : bs.length ≤ 1048576) (hk : (tkN bs 1 ⟨0, 0⟩).1 = 5) :
    Calls Try.prog 23 #[.slice A bs.length c] w (DecPost w (decReq bs)) := by
  have HT := Lib.hid (show decReq bs = decEnd bs (decN bs 5 (tkN bs 1 ⟨0, 0⟩).2) by rw [decReq, if_neg (by omega), hk])
  generalize decReq bs = TV at HT ⊢
  have Hk := Lib.hid hk
  clear hk
  have hlI : (bs.length : Int) ≤ 1048576 := by omega
  go_enter Try.func23, Try.ntmps23
  go_wp2_with fail
  refine (read_any _ A bs.length c bs (hrd.alloc _) (by omega)).mono ?_
  rintro e w1 ⟨g, rfl, hg, hr1, ho1⟩
  have hbR := (Blk.new w 31 zeroReqC.toArray).old ho1
  have hold1 : Old w w1 := ((Kp.refl NoX w).alloc _).old ho1
  have hgR : w.heap.size < g := by simp at hg; omega
  clear ho1 hg
  go_wp2_with fail
  refine (take8_any w1 g bs _ hr1).mono ?_
  rintro e w2 ⟨rfl, hr2, hk2⟩
  rw [Hk.out]
  generalize (tkN bs 1 ⟨0, 0⟩).2 = s1 at *
  have hD : DecSt w w.heap.size g w2.heap.size bs [.int .i64 5, .int .i64 0, .string ⟨#[]⟩, .string ⟨#[]⟩, .string ⟨#[]⟩, .int .i64 0, .int .i64 0, .string ⟨#[]⟩, .slice none 0 0, .slice none 0 0, .slice none 0 0, .int .i64 0, .string ⟨#[]⟩, .int .i64 0, .int .i64 0, .int .i64 0, .int .i64 0, .int .i64 0] s1 (w2.alloc (.cells (List.toArray [.int .i64 5, .int .i64 0, .string ⟨#[]⟩, .string ⟨#[]⟩, .string ⟨#[]⟩, .int .i64 0, .int .i64 0, .string ⟨#[]⟩, .slice none 0 0, .slice none 0 0, .slice none 0 0, .int .i64 0, .string ⟨#[]⟩, .int .i64 0, .int .i64 0, .int .i64 0, .int .i64 0, .int .i64 0]) 31)) :=
    ⟨Blk.new w2 _ _, (hbR.kp hk2 (fun e => by have : w.heap.size = g := e; omega)).alloc _, hr2.old ((Kp.refl NoX w2).alloc _),
      (hold1.trans hk2 (fun b hb e => by have : b = g := e; omega)).alloc _, Nat.le_refl _, hgR, hr2.lt⟩
  clear hk2 hold1 hbR hr2 hr1
  have HD := Lib.hid hD
  have Hrd := Lib.hid hrd
  clear hD hrd
  go_upto_region 5 with (fail)
  generalize w2.alloc _ = w3 at *
  generalize w2.heap.size = Q at *
  have hV : decN bs 5 s1 = (MReq.data (⟨5, ⟨0, ⟨#[]⟩, ⟨#[]⟩, ⟨#[]⟩, ⟨⟨0, 0, ⟨#[]⟩, []⟩, none, 0⟩, [], none, 0, [], none, 0, 0⟩, ⟨#[]⟩, 0, 0, 0, 0, 0⟩ : MReq), true, s1) := by simp [decN, MReq.data, MOp.data, zeroReq, zeroOpn]
  rw [hV] at HT
  clear hV
  have HE2 := Lib.hid (show decEnd bs (MReq.data (⟨5, ⟨0, ⟨#[]⟩, ⟨#[]⟩, ⟨#[]⟩, ⟨⟨0, 0, ⟨#[]⟩, []⟩, none, 0⟩, [], none, 0, [], none, 0, 0⟩, ⟨#[]⟩, 0, 0, 0, 0, 0⟩ : MReq), true, s1) = if doneN bs s1 = 0 then some (MReq.data (⟨5, ⟨0, ⟨#[]⟩, ⟨#[]⟩, ⟨#[]⟩, ⟨⟨0, 0, ⟨#[]⟩, []⟩, none, 0⟩, [], none, 0, [], none, 0, 0⟩, ⟨#[]⟩, 0, 0, 0, 0, 0⟩ : MReq)) else none by simp [decEnd])
  have c0 := HD.out.boxQ.at_ 0 rfl
  generalize s1 = sz at *
  go_upto_region 23 with (fail)
  clear c0
  generalize w3 = wz at *
  go_wp2_with fail
  refine (done_any _ g bs _ HD.out.rr).mono ?_
  rintro e w9 ⟨rfl, ho9⟩
  have HD := Lib.hid (HD.out.still ho9)
  have HE := Lib.hid HE2.out
  have Hok := Lib.hid (show MOp.Ok w9 (fun k => k ≤ w.heap.size) ⟨0, ⟨#[]⟩, ⟨#[]⟩, ⟨#[]⟩, ⟨⟨0, 0, ⟨#[]⟩, []⟩, none, 0⟩, [], none, 0, [], none, 0, 0⟩ from zeroOp_ok _ _)
  clear ho9
  generalize doneN bs sz = dn at *
  by_cases hdn : dn = 0
  · subst hdn
    have Hz := Lib.hid (HD.out.told [.int .i64 5, .int .i64 0, .string ⟨#[]⟩, .string ⟨#[]⟩, .string ⟨#[]⟩, .int .i64 0, .int .i64 0, .string ⟨#[]⟩, .slice none 0 0, .slice none 0 0, .slice none 0 0, .int .i64 0, .string ⟨#[]⟩, .int .i64 0, .int .i64 0, .int .i64 0, .int .i64 0, .int .i64 0] rfl)
    go_wp2_with (first | refine wpList_load_mid rfl 31 (.tmp 5) rfl Q 0 rfl [.int .i64 5, .int .i64 0, .string ⟨#[]⟩, .string ⟨#[]⟩, .string ⟨#[]⟩, .int .i64 0, .int .i64 0, .string ⟨#[]⟩, .slice none 0 0, .slice none 0 0, .slice none 0 0, .int .i64 0, .string ⟨#[]⟩, .int .i64 0, .int .i64 0, .int .i64 0, .int .i64 0, .int .i64 0] _ HD.out.boxQ.range Try.underlying31 rfl Try.sizeRequest ?_ | refine wpList_store_mid rfl 31 (.tmp 2) (.tmp 96) rfl w.heap.size 0 _ rfl rfl (HD.out.boxR.there 0 18 (by decide)) Try.sizeRequest (all_one rfl) ?_)
    refine ret_cell_tmp (g := w.heap.size) (cs := List.toArray [.int .i64 5, .int .i64 0, .string ⟨#[]⟩, .string ⟨#[]⟩, .string ⟨#[]⟩, .int .i64 0, .int .i64 0, .string ⟨#[]⟩, .slice none 0 0, .slice none 0 0, .slice none 0 0, .int .i64 0, .string ⟨#[]⟩, .int .i64 0, .int .i64 0, .int .i64 0, .int .i64 0, .int .i64 0]) rfl rfl Hz.out.1 Try.underlying31 rfl (by kernel_rfl) rfl ?_
    refine .inl ⟨(⟨5, ⟨0, ⟨#[]⟩, ⟨#[]⟩, ⟨#[]⟩, ⟨⟨0, 0, ⟨#[]⟩, []⟩, none, 0⟩, [], none, 0, [], none, 0, 0⟩, ⟨#[]⟩, 0, 0, 0, 0, 0⟩ : MReq), ?_, rfl, ?_, ?_, Hz.out.2.1⟩
    · rw [HT.out, HE.out]; exact if_pos (by trivial)
    · exact (Hok.out.sub Hz.out.2.2 (fun k e => by omega)).weak (fun k e => by omega)
    · exact empty_size
  · have hdn' : (dn != 0) = true := bne_iff_ne.2 hdn
    have Hz := Lib.hid (HD.out.told zeroReqC rfl)
    go_wp2_with (refine wpList_store_mid rfl 31 (.tmp 2) (.tmp 95) rfl w.heap.size 0 _ rfl rfl (HD.out.boxR.there 0 18 (by decide)) Try.sizeRequest (all_one rfl) ?_)
    refine ret_cell_tmp (g := w.heap.size) (cs := zeroReqC.toArray) rfl rfl Hz.out.1 Try.underlying31 rfl (by kernel_rfl) rfl ?_
    exact .inr ⟨by rw [HT.out, HE.out, if_neg hdn], rfl, Hz.out.2.1⟩

end Go.Proofs.Ytnaolhjbapgjgaa

/- Contract of desk.DecodeRequest: a request of one op read. -/
namespace Go.Proofs.Ytnaolhjbapgjgaa
open Go.RowKit

set_option maxRecDepth 100000 in
set_option maxHeartbeats 3200000 in
theorem dec_6 (w : World) (A : Option Addr) (c : Nat) (bs : List UInt8) (hrd : Rd w 1 A bs.length (bs.map bv)) (hl : bs.length ≤ 1048576) (hk : (tkN bs 1 ⟨0, 0⟩).1 = 6) :
    Calls Try.prog 23 #[.slice A bs.length c] w (DecPost w (decReq bs)) := by
  have HT := Lib.hid (show decReq bs = decEnd bs (decN bs 6 (tkN bs 1 ⟨0, 0⟩).2) by rw [decReq, if_neg (by omega), hk])
  generalize decReq bs = TV at HT ⊢
  have Hk := Lib.hid hk
  clear hk
  have hlI : (bs.length : Int) ≤ 1048576 := by omega
  go_enter Try.func23, Try.ntmps23
  go_wp2_with fail
  refine (read_any _ A bs.length c bs (hrd.alloc _) (by omega)).mono ?_
  rintro e w1 ⟨g, rfl, hg, hr1, ho1⟩
  have hbR := (Blk.new w 31 zeroReqC.toArray).old ho1
  have hold1 : Old w w1 := ((Kp.refl NoX w).alloc _).old ho1
  have hgR : w.heap.size < g := by simp at hg; omega
  clear ho1 hg
  go_wp2_with fail
  refine (take8_any w1 g bs _ hr1).mono ?_
  rintro e w2 ⟨rfl, hr2, hk2⟩
  rw [Hk.out]
  generalize (tkN bs 1 ⟨0, 0⟩).2 = s1 at *
  have hD : DecSt w w.heap.size g w2.heap.size bs [.int .i64 6, .int .i64 0, .string ⟨#[]⟩, .string ⟨#[]⟩, .string ⟨#[]⟩, .int .i64 0, .int .i64 0, .string ⟨#[]⟩, .slice none 0 0, .slice none 0 0, .slice none 0 0, .int .i64 0, .string ⟨#[]⟩, .int .i64 0, .int .i64 0, .int .i64 0, .int .i64 0, .int .i64 0] s1 (w2.alloc (.cells (List.toArray [.int .i64 6, .int .i64 0, .string ⟨#[]⟩, .string ⟨#[]⟩, .string ⟨#[]⟩, .int .i64 0, .int .i64 0, .string ⟨#[]⟩, .slice none 0 0, .slice none 0 0, .slice none 0 0, .int .i64 0, .string ⟨#[]⟩, .int .i64 0, .int .i64 0, .int .i64 0, .int .i64 0, .int .i64 0]) 31)) :=
    ⟨Blk.new w2 _ _, (hbR.kp hk2 (fun e => by have : w.heap.size = g := e; omega)).alloc _, hr2.old ((Kp.refl NoX w2).alloc _),
      (hold1.trans hk2 (fun b hb e => by have : b = g := e; omega)).alloc _, Nat.le_refl _, hgR, hr2.lt⟩
  clear hk2 hold1 hbR hr2 hr1
  have HD := Lib.hid hD
  have Hrd := Lib.hid hrd
  clear hD hrd
  go_upto_region 5 with (fail)
  generalize w2.alloc _ = w3 at *
  generalize w2.heap.size = Q at *
  have hV : decN bs 6 s1 = (MReq.data (⟨6, ⟨0, ⟨#[]⟩, ⟨#[]⟩, ⟨#[]⟩, ⟨⟨0, 0, ⟨#[]⟩, []⟩, none, 0⟩, [], none, 0, [], none, 0, 0⟩, ⟨#[]⟩, 0, 0, 0, 0, 0⟩ : MReq), true, s1) := by simp [decN, MReq.data, MOp.data, zeroReq, zeroOpn]
  rw [hV] at HT
  clear hV
  have HE2 := Lib.hid (show decEnd bs (MReq.data (⟨6, ⟨0, ⟨#[]⟩, ⟨#[]⟩, ⟨#[]⟩, ⟨⟨0, 0, ⟨#[]⟩, []⟩, none, 0⟩, [], none, 0, [], none, 0, 0⟩, ⟨#[]⟩, 0, 0, 0, 0, 0⟩ : MReq), true, s1) = if doneN bs s1 = 0 then some (MReq.data (⟨6, ⟨0, ⟨#[]⟩, ⟨#[]⟩, ⟨#[]⟩, ⟨⟨0, 0, ⟨#[]⟩, []⟩, none, 0⟩, [], none, 0, [], none, 0, 0⟩, ⟨#[]⟩, 0, 0, 0, 0, 0⟩ : MReq)) else none by simp [decEnd])
  have c0 := HD.out.boxQ.at_ 0 rfl
  generalize s1 = sz at *
  go_upto_region 23 with (fail)
  clear c0
  generalize w3 = wz at *
  go_wp2_with fail
  refine (done_any _ g bs _ HD.out.rr).mono ?_
  rintro e w9 ⟨rfl, ho9⟩
  have HD := Lib.hid (HD.out.still ho9)
  have HE := Lib.hid HE2.out
  have Hok := Lib.hid (show MOp.Ok w9 (fun k => k ≤ w.heap.size) ⟨0, ⟨#[]⟩, ⟨#[]⟩, ⟨#[]⟩, ⟨⟨0, 0, ⟨#[]⟩, []⟩, none, 0⟩, [], none, 0, [], none, 0, 0⟩ from zeroOp_ok _ _)
  clear ho9
  generalize doneN bs sz = dn at *
  by_cases hdn : dn = 0
  · subst hdn
    have Hz := Lib.hid (HD.out.told [.int .i64 6, .int .i64 0, .string ⟨#[]⟩, .string ⟨#[]⟩, .string ⟨#[]⟩, .int .i64 0, .int .i64 0, .string ⟨#[]⟩, .slice none 0 0, .slice none 0 0, .slice none 0 0, .int .i64 0, .string ⟨#[]⟩, .int .i64 0, .int .i64 0, .int .i64 0, .int .i64 0, .int .i64 0] rfl)
    go_wp2_with (first | refine wpList_load_mid rfl 31 (.tmp 5) rfl Q 0 rfl [.int .i64 6, .int .i64 0, .string ⟨#[]⟩, .string ⟨#[]⟩, .string ⟨#[]⟩, .int .i64 0, .int .i64 0, .string ⟨#[]⟩, .slice none 0 0, .slice none 0 0, .slice none 0 0, .int .i64 0, .string ⟨#[]⟩, .int .i64 0, .int .i64 0, .int .i64 0, .int .i64 0, .int .i64 0] _ HD.out.boxQ.range Try.underlying31 rfl Try.sizeRequest ?_ | refine wpList_store_mid rfl 31 (.tmp 2) (.tmp 96) rfl w.heap.size 0 _ rfl rfl (HD.out.boxR.there 0 18 (by decide)) Try.sizeRequest (all_one rfl) ?_)
    refine ret_cell_tmp (g := w.heap.size) (cs := List.toArray [.int .i64 6, .int .i64 0, .string ⟨#[]⟩, .string ⟨#[]⟩, .string ⟨#[]⟩, .int .i64 0, .int .i64 0, .string ⟨#[]⟩, .slice none 0 0, .slice none 0 0, .slice none 0 0, .int .i64 0, .string ⟨#[]⟩, .int .i64 0, .int .i64 0, .int .i64 0, .int .i64 0, .int .i64 0]) rfl rfl Hz.out.1 Try.underlying31 rfl (by kernel_rfl) rfl ?_
    refine .inl ⟨(⟨6, ⟨0, ⟨#[]⟩, ⟨#[]⟩, ⟨#[]⟩, ⟨⟨0, 0, ⟨#[]⟩, []⟩, none, 0⟩, [], none, 0, [], none, 0, 0⟩, ⟨#[]⟩, 0, 0, 0, 0, 0⟩ : MReq), ?_, rfl, ?_, ?_, Hz.out.2.1⟩
    · rw [HT.out, HE.out]; exact if_pos (by trivial)
    · exact (Hok.out.sub Hz.out.2.2 (fun k e => by omega)).weak (fun k e => by omega)
    · exact empty_size
  · have hdn' : (dn != 0) = true := bne_iff_ne.2 hdn
    have Hz := Lib.hid (HD.out.told zeroReqC rfl)
    go_wp2_with (refine wpList_store_mid rfl 31 (.tmp 2) (.tmp 95) rfl w.heap.size 0 _ rfl rfl (HD.out.boxR.there 0 18 (by decide)) Try.sizeRequest (all_one rfl) ?_)
    refine ret_cell_tmp (g := w.heap.size) (cs := zeroReqC.toArray) rfl rfl Hz.out.1 Try.underlying31 rfl (by kernel_rfl) rfl ?_
    exact .inr ⟨by rw [HT.out, HE.out, if_neg hdn], rfl, Hz.out.2.1⟩

end Go.Proofs.Ytnaolhjbapgjgaa
