import Derived.Test.YtnaolhjbapgjgaaMg05
import Derived.Test.YtnaolhjbapgjgaaMg10
import Derived.Test.YtnaolhjbapgjgaaMg31
import Derived.Test.YtnaolhjbapgjgaaMg43
import Derived.Test.YtnaolhjbapgjgaaMg44
import Derived.Test.YtnaolhjbapgjgaaMg45
import Derived.Test.YtnaolhjbapgjgaaMg46
import Derived.Deep.DeepCutAuto
/- Contract of desk.DecodeRequest: a request of one op read. -/
namespace Go.Proofs.Ytnaolhjbapgjgaa
open Go.RowKit

set_option maxRecDepth 100000 in
set_option maxHeartbeats 3200000 in
theorem dec_11 (w : World) (A : Option Addr) (c : Nat) (bs : List UInt8) (hrd : Rd w 1 A bs.length (bs.map bv)) (hl : bs.length ≤ 1048576) (hk : (tkN bs 1 ⟨0, 0⟩).1 = 11) :
    Calls Try.prog 23 #[.slice A bs.length c] w (DecPost w (decReq bs)) := by
  have HT := Lib.hid (show decReq bs = decEnd bs (decN bs 11 (tkN bs 1 ⟨0, 0⟩).2) by rw [decReq, if_neg (by omega), hk])
  generalize decReq bs = TV at HT ⊢
  have Hk := Lib.hid hk
  clear hk
  have hlI : (bs.length : Int) ≤ 1048576 := by omega
  go_enter Try.func23, Try.ntmps23
  go_wp2_with fail
  refine (read_any _ A bs.length c bs (hrd.alloc _) (by omega)).mono ?_
  rintro e w1 ⟨g, rfl, hg, hr1, ho1⟩
  have hbR := (Blk.new w 31 zeroReqC.toArray).old ho1
  have hold1 : Old w w1 := ((Kp.refl NoX w).alloc _).old ho1
  have hgR : w.heap.size < g := by simp at hg; omega
  clear ho1 hg
  go_wp2_with fail
  refine (take8_any w1 g bs _ hr1).mono ?_
  rintro e w2 ⟨rfl, hr2, hk2⟩
  rw [Hk.out]
  generalize (tkN bs 1 ⟨0, 0⟩).2 = s1 at *
  have hD : DecSt w w.heap.size g w2.heap.size bs [.int .i64 11, .int .i64 0, .string ⟨#[]⟩, .string ⟨#[]⟩, .string ⟨#[]⟩, .int .i64 0, .int .i64 0, .string ⟨#[]⟩, .slice none 0 0, .slice none 0 0, .slice none 0 0, .int .i64 0, .string ⟨#[]⟩, .int .i64 0, .int .i64 0, .int .i64 0, .int .i64 0, .int .i64 0] s1 (w2.alloc (.cells (List.toArray [.int .i64 11, .int .i64 0, .string ⟨#[]⟩, .string ⟨#[]⟩, .string ⟨#[]⟩, .int .i64 0, .int .i64 0, .string ⟨#[]⟩, .slice none 0 0, .slice none 0 0, .slice none 0 0, .int .i64 0, .string ⟨#[]⟩, .int .i64 0, .int .i64 0, .int .i64 0, .int .i64 0, .int .i64 0]) 31)) :=
    ⟨Blk.new w2 _ _, (hbR.kp hk2 (fun e => by have : w.heap.size = g := e; omega)).alloc _, hr2.old ((Kp.refl NoX w2).alloc _),
      (hold1.trans hk2 (fun b hb e => by have : b = g := e; omega)).alloc _, Nat.le_refl _, hgR, hr2.lt⟩
  clear hk2 hold1 hbR hr2 hr1
  have HD := Lib.hid hD
  have Hrd := Lib.hid hrd
  clear hD hrd
  go_upto_region 5 with (fail)
  generalize w2.alloc _ = w3 at *
  generalize w2.heap.size = Q at *
  have hV : decN bs 11 s1 = (MReq.data (⟨11, ⟨0, ⟨#[]⟩, ⟨#[]⟩, ⟨#[]⟩, ⟨⟨0, 0, ⟨#[]⟩, []⟩, none, 0⟩, [], none, 0, [], none, 0, 0⟩, (wordN bs s1).1, 0, (numN bs (wordN bs s1).2).1, 0, 0, (numN bs (numN bs (wordN bs s1).2).2).1⟩ : MReq), true, (numN bs (numN bs (wordN bs s1).2).2).2) := by simp [decN, MReq.data, MOp.data, zeroReq, zeroOpn]
  rw [hV] at HT
  clear hV
  have HE2 := Lib.hid (show decEnd bs (MReq.data (⟨11, ⟨0, ⟨#[]⟩, ⟨#[]⟩, ⟨#[]⟩, ⟨⟨0, 0, ⟨#[]⟩, []⟩, none, 0⟩, [], none, 0, [], none, 0, 0⟩, (wordN bs s1).1, 0, (numN bs (wordN bs s1).2).1, 0, 0, (numN bs (numN bs (wordN bs s1).2).2).1⟩ : MReq), true, (numN bs (numN bs (wordN bs s1).2).2).2) = if doneN bs (numN bs (numN bs (wordN bs s1).2).2).2 = 0 then some (MReq.data (⟨11, ⟨0, ⟨#[]⟩, ⟨#[]⟩, ⟨#[]⟩, ⟨⟨0, 0, ⟨#[]⟩, []⟩, none, 0⟩, [], none, 0, [], none, 0, 0⟩, (wordN bs s1).1, 0, (numN bs (wordN bs s1).2).1, 0, 0, (numN bs (numN bs (wordN bs s1).2).2).1⟩ : MReq)) else none by simp [decEnd])
  have hsz1 := wordN_size bs s1
  have c0 := HD.out.boxQ.at_ 0 rfl
  go_wp2_with fail
  refine (word_any _ g bs _ HD.out.rr).mono ?_
  rintro e w4 ⟨rfl, hr4, hk4⟩
  have HD := Lib.hid (HD.out.step hr4 hk4)
  clear hr4 hk4
  go_wp2_with fail
  refine (dtake_any _ g bs _ HD.out.rr).mono ?_
  rintro e w5 ⟨rfl, hr5, hk5⟩
  have HD := Lib.hid (HD.out.step hr5 hk5)
  clear hr5 hk5
  go_wp2_with fail
  refine (dtake_any _ g bs _ HD.out.rr).mono ?_
  rintro e w6 ⟨rfl, hr6, hk6⟩
  have HD := Lib.hid (HD.out.step hr6 hk6)
  clear hr6 hk6
  generalize (numN bs (numN bs (wordN bs s1).2).2).2 = sz at *
  generalize (numN bs (numN bs (wordN bs s1).2).2).1 = n2 at *
  generalize (numN bs (wordN bs s1).2).1 = n1 at *
  generalize (wordN bs s1).1 = t1 at *
  have a12 := HD.out.boxQ.at_ 12 rfl
  have z12 := HD.out.boxQ.frozen 12
  have a14 := HD.out.boxQ.at_ 14 rfl
  have z14 := HD.out.boxQ.frozen 14
  have a17 := HD.out.boxQ.at_ 17 rfl
  have z17 := HD.out.boxQ.frozen 17
  go_upto_region 23 with (fail)
  have HD : Hid (DecSt w w.heap.size g Q bs [.int .i64 11, .int .i64 0, .string ⟨#[]⟩, .string ⟨#[]⟩, .string ⟨#[]⟩, .int .i64 0, .int .i64 0, .string ⟨#[]⟩, .slice none 0 0, .slice none 0 0, .slice none 0 0, .int .i64 0, .string t1, .int .i64 0, .int .i64 n1, .int .i64 0, .int .i64 0, .int .i64 n2] sz (((w6.setCell ⟨Q, 12, none⟩ (.string t1)).setCell ⟨Q, 14, none⟩ (.int .i64 n1)).setCell ⟨Q, 17, none⟩ (.int .i64 n2))) := Lib.hid ((((HD.out).set 12 (.string t1)).set 14 (.int .i64 n1)).set 17 (.int .i64 n2))
  clear a12 z12 a14 z14 a17 z17
  clear c0
  generalize (((w6.setCell ⟨Q, 12, none⟩ (.string t1)).setCell ⟨Q, 14, none⟩ (.int .i64 n1)).setCell ⟨Q, 17, none⟩ (.int .i64 n2)) = wz at *
  go_wp2_with fail
  refine (done_any _ g bs _ HD.out.rr).mono ?_
  rintro e w9 ⟨rfl, ho9⟩
  have HD := Lib.hid (HD.out.still ho9)
  have HE := Lib.hid HE2.out
  have Hok := Lib.hid (show MOp.Ok w9 (fun k => k ≤ w.heap.size) ⟨0, ⟨#[]⟩, ⟨#[]⟩, ⟨#[]⟩, ⟨⟨0, 0, ⟨#[]⟩, []⟩, none, 0⟩, [], none, 0, [], none, 0, 0⟩ from zeroOp_ok _ _)
  clear ho9
  generalize doneN bs sz = dn at *
  by_cases hdn : dn = 0
  · subst hdn
    have Hz := Lib.hid (HD.out.told [.int .i64 11, .int .i64 0, .string ⟨#[]⟩, .string ⟨#[]⟩, .string ⟨#[]⟩, .int .i64 0, .int .i64 0, .string ⟨#[]⟩, .slice none 0 0, .slice none 0 0, .slice none 0 0, .int .i64 0, .string t1, .int .i64 0, .int .i64 n1, .int .i64 0, .int .i64 0, .int .i64 n2] rfl)
    go_wp2_with (first | refine wpList_load_mid rfl 31 (.tmp 5) rfl Q 0 rfl [.int .i64 11, .int .i64 0, .string ⟨#[]⟩, .string ⟨#[]⟩, .string ⟨#[]⟩, .int .i64 0, .int .i64 0, .string ⟨#[]⟩, .slice none 0 0, .slice none 0 0, .slice none 0 0, .int .i64 0, .string t1, .int .i64 0, .int .i64 n1, .int .i64 0, .int .i64 0, .int .i64 n2] _ HD.out.boxQ.range Try.underlying31 rfl Try.sizeRequest ?_ | refine wpList_store_mid rfl 31 (.tmp 2) (.tmp 96) rfl w.heap.size 0 _ rfl rfl (HD.out.boxR.there 0 18 (by decide)) Try.sizeRequest (all_one rfl) ?_)
    refine ret_cell_tmp (g := w.heap.size) (cs := List.toArray [.int .i64 11, .int .i64 0, .string ⟨#[]⟩, .string ⟨#[]⟩, .string ⟨#[]⟩, .int .i64 0, .int .i64 0, .string ⟨#[]⟩, .slice none 0 0, .slice none 0 0, .slice none 0 0, .int .i64 0, .string t1, .int .i64 0, .int .i64 n1, .int .i64 0, .int .i64 0, .int .i64 n2]) rfl rfl Hz.out.1 Try.underlying31 rfl (by kernel_rfl) rfl ?_
    refine .inl ⟨(⟨11, ⟨0, ⟨#[]⟩, ⟨#[]⟩, ⟨#[]⟩, ⟨⟨0, 0, ⟨#[]⟩, []⟩, none, 0⟩, [], none, 0, [], none, 0, 0⟩, t1, 0, n1, 0, 0, n2⟩ : MReq), ?_, rfl, ?_, ?_, Hz.out.2.1⟩
    · rw [HT.out, HE.out]; exact if_pos (by trivial)
    · exact (Hok.out.sub Hz.out.2.2 (fun k e => by omega)).weak (fun k e => by omega)
    · (simp only; omega)
  · have hdn' : (dn != 0) = true := bne_iff_ne.2 hdn
    have Hz := Lib.hid (HD.out.told zeroReqC rfl)
    go_wp2_with (refine wpList_store_mid rfl 31 (.tmp 2) (.tmp 95) rfl w.heap.size 0 _ rfl rfl (HD.out.boxR.there 0 18 (by decide)) Try.sizeRequest (all_one rfl) ?_)
    refine ret_cell_tmp (g := w.heap.size) (cs := zeroReqC.toArray) rfl rfl Hz.out.1 Try.underlying31 rfl (by kernel_rfl) rfl ?_
    exact .inr ⟨by rw [HT.out, HE.out, if_neg hdn], rfl, Hz.out.2.1⟩

end Go.Proofs.Ytnaolhjbapgjgaa

/- Contract of desk.DecodeRequest: a request of one op read. -/
namespace Go.Proofs.Ytnaolhjbapgjgaa
open Go.RowKit

set_option maxRecDepth 100000 in
set_option maxHeartbeats 3200000 in
theorem dec_12 (w : World) (A : Option Addr) (c : Nat) (bs : List UInt8) (hrd : Rd w 1 A bs.length (bs.map bv)) (hl : bs.length ≤ 1048576) (hk : (tkN bs 1 ⟨0, 0⟩).1 = 12) :
    Calls Try.prog 23 #[.slice A bs.length c] w (DecPost w (decReq bs)) := by
  have HT := Lib.hid (show decReq bs = decEnd bs (decN bs 12 (tkN bs 1 ⟨0, 0⟩).2) by rw [decReq, if_neg (by omega), hk])
  generalize decReq bs = TV at HT ⊢
  have Hk := Lib.hid hk
  clear hk
  have hlI : (bs.length : Int) ≤ 1048576 := by omega
  go_enter Try.func23, Try.ntmps23
  go_wp2_with fail
  refine (read_any _ A bs.length c bs (hrd.alloc _) (by omega)).mono ?_
  rintro e w1 ⟨g, rfl, hg, hr1, ho1⟩
  have hbR := (Blk.new w 31 zeroReqC.toArray).old ho1
  have hold1 : Old w w1 := ((Kp.refl NoX w).alloc _).old ho1
  have hgR : w.heap.size < g := by simp at hg; omega
  clear ho1 hg
  go_wp2_with fail
  refine (take8_any w1 g bs _ hr1).mono ?_
  rintro e w2 ⟨rfl, hr2, hk2⟩
  rw [Hk.out]
  generalize (tkN bs 1 ⟨0, 0⟩).2 = s1 at *
  have hD : DecSt w w.heap.size g w2.heap.size bs [.int .i64 12, .int .i64 0, .string ⟨#[]⟩, .string ⟨#[]⟩, .string ⟨#[]⟩, .int .i64 0, .int .i64 0, .string ⟨#[]⟩, .slice none 0 0, .slice none 0 0, .slice none 0 0, .int .i64 0, .string ⟨#[]⟩, .int .i64 0, .int .i64 0, .int .i64 0, .int .i64 0, .int .i64 0] s1 (w2.alloc (.cells (List.toArray [.int .i64 12, .int .i64 0, .string ⟨#[]⟩, .string ⟨#[]⟩, .string ⟨#[]⟩, .int .i64 0, .int .i64 0, .string ⟨#[]⟩, .slice none 0 0, .slice none 0 0, .slice none 0 0, .int .i64 0, .string ⟨#[]⟩, .int .i64 0, .int .i64 0, .int .i64 0, .int .i64 0, .int .i64 0]) 31)) :=
    ⟨Blk.new w2 _ _, (hbR.kp hk2 (fun e => by have : w.heap.size = g := e; omega)).alloc _, hr2.old ((Kp.refl NoX w2).alloc _),
      (hold1.trans hk2 (fun b hb e => by have : b = g := e; omega)).alloc _, Nat.le_refl _, hgR, hr2.lt⟩
  clear hk2 hold1 hbR hr2 hr1
  have HD := Lib.hid hD
  have Hrd := Lib.hid hrd
  clear hD hrd
  go_upto_region 5 with (fail)
  generalize w2.alloc _ = w3 at *
  generalize w2.heap.size = Q at *
  have hV : decN bs 12 s1 = (MReq.data (⟨12, ⟨0, ⟨#[]⟩, ⟨#[]⟩, ⟨#[]⟩, ⟨⟨0, 0, ⟨#[]⟩, []⟩, none, 0⟩, [], none, 0, [], none, 0, 0⟩, ⟨#[]⟩, 0, 0, 0, 0, 0⟩ : MReq), true, s1) := by simp [decN, MReq.data, MOp.data, zeroReq, zeroOpn]
  rw [hV] at HT
  clear hV
  have HE2 := Lib.hid (show decEnd bs (MReq.data (⟨12, ⟨0, ⟨#[]⟩, ⟨#[]⟩, ⟨#[]⟩, ⟨⟨0, 0, ⟨#[]⟩, []⟩, none, 0⟩, [], none, 0, [], none, 0, 0⟩, ⟨#[]⟩, 0, 0, 0, 0, 0⟩ : MReq), true, s1) = if doneN bs s1 = 0 then some (MReq.data (⟨12, ⟨0, ⟨#[]⟩, ⟨#[]⟩, ⟨#[]⟩, ⟨⟨0, 0, ⟨#[]⟩, []⟩, none, 0⟩, [], none, 0, [], none, 0, 0⟩, ⟨#[]⟩, 0, 0, 0, 0, 0⟩ : MReq)) else none by simp [decEnd])
  have c0 := HD.out.boxQ.at_ 0 rfl
  generalize s1 = sz at *
  go_upto_region 23 with (fail)
  clear c0
  generalize w3 = wz at *
  go_wp2_with fail
  refine (done_any _ g bs _ HD.out.rr).mono ?_
  rintro e w9 ⟨rfl, ho9⟩
  have HD := Lib.hid (HD.out.still ho9)
  have HE := Lib.hid HE2.out
  have Hok := Lib.hid (show MOp.Ok w9 (fun k => k ≤ w.heap.size) ⟨0, ⟨#[]⟩, ⟨#[]⟩, ⟨#[]⟩, ⟨⟨0, 0, ⟨#[]⟩, []⟩, none, 0⟩, [], none, 0, [], none, 0, 0⟩ from zeroOp_ok _ _)
  clear ho9
  generalize doneN bs sz = dn at *
  by_cases hdn : dn = 0
  · subst hdn
    have Hz := Lib.hid (HD.out.told [.int .i64 12, .int .i64 0, .string ⟨#[]⟩, .string ⟨#[]⟩, .string ⟨#[]⟩, .int .i64 0, .int .i64 0, .string ⟨#[]⟩, .slice none 0 0, .slice none 0 0, .slice none 0 0, .int .i64 0, .string ⟨#[]⟩, .int .i64 0, .int .i64 0, .int .i64 0, .int .i64 0, .int .i64 0] rfl)
    go_wp2_with (first | refine wpList_load_mid rfl 31 (.tmp 5) rfl Q 0 rfl [.int .i64 12, .int .i64 0, .string ⟨#[]⟩, .string ⟨#[]⟩, .string ⟨#[]⟩, .int .i64 0, .int .i64 0, .string ⟨#[]⟩, .slice none 0 0, .slice none 0 0, .slice none 0 0, .int .i64 0, .string ⟨#[]⟩, .int .i64 0, .int .i64 0, .int .i64 0, .int .i64 0, .int .i64 0] _ HD.out.boxQ.range Try.underlying31 rfl Try.sizeRequest ?_ | refine wpList_store_mid rfl 31 (.tmp 2) (.tmp 96) rfl w.heap.size 0 _ rfl rfl (HD.out.boxR.there 0 18 (by decide)) Try.sizeRequest (all_one rfl) ?_)
    refine ret_cell_tmp (g := w.heap.size) (cs := List.toArray [.int .i64 12, .int .i64 0, .string ⟨#[]⟩, .string ⟨#[]⟩, .string ⟨#[]⟩, .int .i64 0, .int .i64 0, .string ⟨#[]⟩, .slice none 0 0, .slice none 0 0, .slice none 0 0, .int .i64 0, .string ⟨#[]⟩, .int .i64 0, .int .i64 0, .int .i64 0, .int .i64 0, .int .i64 0]) rfl rfl Hz.out.1 Try.underlying31 rfl (by kernel_rfl) rfl ?_
    refine .inl ⟨(⟨12, ⟨0, ⟨#[]⟩, ⟨#[]⟩, ⟨#[]⟩, ⟨⟨0, 0, ⟨#[]⟩, []⟩, none, 0⟩, [], none, 0, [], none, 0, 0⟩, ⟨#[]⟩, 0, 0, 0, 0, 0⟩ : MReq), ?_, rfl, ?_, ?_, Hz.out.2.1⟩
    · rw [HT.out, HE.out]; exact if_pos (by trivial)
    · exact (Hok.out.sub Hz.out.2.2 (fun k e => by omega)).weak (fun k e => by omega)
    · exact empty_size
  · have hdn' : (dn != 0) = true := bne_iff_ne.2 hdn
    have Hz := Lib.hid (HD.out.told zeroReqC rfl)
    go_wp2_with (refine wpList_store_mid rfl 31 (.tmp 2) (.tmp 95) rfl w.heap.size 0 _ rfl rfl (HD.out.boxR.there 0 18 (by decide)) Try.sizeRequest (all_one rfl) ?_)
    refine ret_cell_tmp (g := w.heap.size) (cs := zeroReqC.toArray) rfl rfl Hz.out.1 Try.underlying31 rfl (by kernel_rfl) rfl ?_
    exact .inr ⟨by rw [HT.out, HE.out, if_neg hdn], rfl, Hz.out.2.1⟩

end Go.Proofs.Ytnaolhjbapgjgaa

/- Contract of desk.DecodeRequest. -/
namespace Go.Proofs.Ytnaolhjbapgjgaa
open Go.RowKit

theorem dec_any (w : World) (A : Option Addr) (c : Nat) (bs : List UInt8) (hrd : Rd w 1 A bs.length (bs.map bv)) :
    Calls Try.prog 23 #[.slice A bs.length c] w (DecPost w (decReq bs)) := by
  by_cases hl : 1048576 < bs.length
  · exact dec_long w A c bs hl
  have hl' : bs.length ≤ 1048576 := by omega
  by_cases h13 : 13 ≤ (tkN bs 1 ⟨0, 0⟩).1
  · exact dec_far w A c bs hrd hl' _ rfl h13
  have hk : (tkN bs 1 ⟨0, 0⟩).1 = 0 ∨ (tkN bs 1 ⟨0, 0⟩).1 = 1 ∨ (tkN bs 1 ⟨0, 0⟩).1 = 2 ∨ (tkN bs 1 ⟨0, 0⟩).1 = 3 ∨ (tkN bs 1 ⟨0, 0⟩).1 = 4 ∨ (tkN bs 1 ⟨0, 0⟩).1 = 5 ∨ (tkN bs 1 ⟨0, 0⟩).1 = 6 ∨ (tkN bs 1 ⟨0, 0⟩).1 = 7 ∨ (tkN bs 1 ⟨0, 0⟩).1 = 8 ∨ (tkN bs 1 ⟨0, 0⟩).1 = 9 ∨ (tkN bs 1 ⟨0, 0⟩).1 = 10 ∨ (tkN bs 1 ⟨0, 0⟩).1 = 11 ∨ (tkN bs 1 ⟨0, 0⟩).1 = 12 := by omega
  rcases hk with h | h | h | h | h | h | h | h | h | h | h | h | h
  · exact dec_0 w A c bs hrd hl' h
  · exact dec_1 w A c bs hrd hl' h
  · exact dec_2 w A c bs hrd hl' h
  · exact dec_3 w A c bs hrd hl' h
  · exact dec_4 w A c bs hrd hl' h
  · exact dec_5 w A c bs hrd hl' h
  · exact dec_6 w A c bs hrd hl' h
  · exact dec_7 w A c bs hrd hl' h
  · exact dec_8 w A c bs hrd hl' h
  · exact dec_9 w A c bs hrd hl' h
  · exact dec_10 w A c bs hrd hl' h
  · exact dec_11 w A c bs hrd hl' h
  · exact dec_12 w A c bs hrd hl' h
end Go.Proofs.Ytnaolhjbapgjgaa

/- Contracts of docketlaw24.laid, asks. -/
namespace Go.Proofs.Ytnaolhjbapgjgaa
open Go.RowKit

set_option maxHeartbeats 800000 in
theorem laid_nil (w : World) : Calls Try.prog 8 #[.slice none 0 0, .int .i64 240, .slice none 0 0] w fun e w' => e = .returned (.bool true) ∧ Old w w' := by
  have hnil := fun (W : World) (a : Option Addr) (n c : Nat) => Lib.run_eql_slice_nil (P := Try.prog) W 27 5 a n c 0 0 Try.underlying27
  go_enter Try.func8, Try.ntmps8
  go_wp2
  go_ret
  exact ⟨rfl, Kp.refl _ _⟩
set_option maxHeartbeats 800000 in
theorem laid_some (w : World) (A : Option Addr) (c g d : Nat) (l : List UInt8) (hx : Rd w 1 A l.length (l.map bv)) (hy : Rd w 1 (some ⟨g, 0, none⟩) l.length (l.map bv)) (hl : l.length ≤ 1000000000000) :
    Calls Try.prog 8 #[.slice A l.length c, .int .i64 0, .slice (some ⟨g, 0, none⟩) l.length d] w fun e w' => e = .returned (.bool true) ∧ Old w w' := by
  have hnil := fun (W : World) (a : Option Addr) (n c : Nat) => Lib.run_eql_slice_nil (P := Try.prog) W 27 5 a n c 0 0 Try.underlying27
  have HS := Lib.hid (sameb_any w A (some ⟨g, 0, none⟩) c d l l hx hy hl)
  clear hx hy hl
  go_enter Try.func8, Try.ntmps8
  go_wp2_with fail
  refine HS.out.mono ?_
  rintro e w1 ⟨rfl, ho1⟩
  go_wp2
  go_ret
  exact ⟨by simp, ho1⟩

def zeroM : MReq := ⟨0, ⟨0, ⟨#[]⟩, ⟨#[]⟩, ⟨#[]⟩, ⟨⟨0, 0, ⟨#[]⟩, []⟩, none, 0⟩, [], none, 0, [], none, 0, 0⟩, ⟨#[]⟩, 0, 0, 0, 0, 0⟩
theorem asks_pair (m1 : MReq) {w3 w4 : World} {bs : List UInt8} {e : Ending} {b1 : Bool} {y1 : Int} (hread : ReadPost w3 (readReq bs) e w4) (hfl : (decReq bs = some m1.data ∧ y1 = 0 ∧ b1 = true) ∨ (decReq bs = none ∧ m1 = zeroM ∧ y1 = 240 ∧ b1 = false)) :
    ∃ m2 : MReq, e = .returned (.tuple #[.agg m2.cells.toArray, .bool b1]) ∧ m2.do_.Ok w4 NoX ∧ Old w3 w4 ∧ m1.data = m2.data := by
  rw [readReq_eq] at hread
  rcases hread with ⟨m, hm, he, hok, hnm, ho⟩ | ⟨hno, he, ho⟩
  · rcases hfl with ⟨h1, _, hb⟩ | ⟨h1, _⟩
    · subst hb
      exact ⟨m, he, hok.weak (fun k e => e.elim), ho, Option.some.inj (h1.symm.trans hm)⟩
    · rw [h1] at hm; cases hm
  · rcases hfl with ⟨h1, _⟩ | ⟨_, hz, _, hb⟩
    · rw [h1] at hno; cases hno
    · subst hb
      exact ⟨zeroM, he, zeroOp_ok _ _, ho, by rw [hz]⟩
set_option maxRecDepth 100000 in
set_option maxHeartbeats 800000 in
theorem asks_any (w : World) (A : Option Addr) (c : Nat) (bs : List UInt8) (hrd : Rd w 1 A bs.length (bs.map bv)) (hc : bs.length ≤ c) (hl : bs.length ≤ 2147483647) :
    Calls Try.prog 9 #[.slice A bs.length c] w fun e w' => e = .returned (.bool true) ∧ Old w w' := by
  have HR := Lib.hid (roomy_any w A c bs hrd (by omega))
  have Hrd := Lib.hid hrd
  have Hc := Lib.hid hc
  have Hl := Lib.hid hl
  have hsl := fun (g : Nat) (W : World) => cut_h (P := Try.prog) Try.elemBytes Try.sizeBytes (some ⟨g, 0, none⟩) (bs.length + 80) (bs.length + 80) bs.length .i64 (bs.length : Int) rfl (by omega) W
  clear hrd hc hl
  go_enter Try.func9, Try.ntmps9
  go_wp2_with fail
  refine HR.out.mono ?_
  rintro e w1 ⟨g, rfl, hg, hb, ho1⟩
  have Hb := Lib.hid hb
  have Ho1 := Lib.hid ho1
  have hpre := (Rd.of_blk hb).take_ (k := bs.length) (by rw [List.length_map, roomy_len]; omega)
  rw [Nat.mul_one, ← List.map_take, show (roomy bs).take bs.length = bs by simp [roomy]] at hpre
  have HD := Lib.hid (dec_any w1 (some ⟨g, 0, none⟩) (bs.length + 80) bs hpre)
  clear hb ho1 hpre HR hg
  go_wp2_with fail
  refine HD.out.mono ?_
  intro e w2 hdec
  obtain ⟨m1, y1, b1, he1, hok1, ho2, hfl⟩ : ∃ (m1 : MReq) (y1 : Int) (b1 : Bool), e = .returned (.tuple #[.agg m1.cells.toArray, .int .i64 y1]) ∧ m1.do_.Ok w2 NoX ∧ Old w1 w2 ∧ ((decReq bs = some m1.data ∧ y1 = 0 ∧ b1 = true) ∨ (decReq bs = none ∧ m1 = zeroM ∧ y1 = 240 ∧ b1 = false)) := by
    rcases hdec with ⟨m, hm, rfl, hok, hnm, ho2⟩ | ⟨hno, rfl, ho2⟩
    · exact ⟨m, 0, true, rfl, hok.weak (fun k e => e.elim), ho2, .inl ⟨hm, rfl, rfl⟩⟩
    · exact ⟨zeroM, 240, false, rfl, zeroOp_ok _ _, ho2, .inr ⟨hno, rfl, rfl, rfl⟩⟩
  subst he1
  clear hdec HD
  have Hok1 := Lib.hid hok1
  have Hfl := Lib.hid hfl
  have Ho2 := Lib.hid (Ho1.out.old ho2)
  have Hb2 := Lib.hid (Hb.out.old ho2)
  clear hok1 hfl ho2 Hb Ho1
  have HbZ := Lib.hid (Blk.new w2 31 zeroReqC.toArray)
  have HbQ := Lib.hid (HbZ.out.setWhole m1.cells rfl)
  have Ho3 := Lib.hid (show Old w2 ((w2.alloc (.cells zeroReqC.toArray 31)).setCells w2.heap.size 0 m1.cells) from ((Kp.refl NoX w2).alloc _).trans (Kp.setCells _ _ _ _) (fun b hb e => by omega))
  have Hall := Lib.hid (show m1.cells.toArray.all (·.oneCell') = true from all_one rfl)
  have Hth := Lib.hid (show (w2.alloc (.cells zeroReqC.toArray 31)).there w2.heap.size 0 m1.cells.toArray.size from HbZ.out.there 0 18 (by decide))
  have Hsz := Lib.hid (show (Try.prog.info? 31).map (·.size) = some m1.cells.toArray.size from Try.sizeRequest)
  unfold zeroReqC at HbZ HbQ Ho3 Hth
  generalize hcs : m1.cells = cs1 at HbQ Ho3 Hall Hth Hsz ⊢
  have Hcs := Lib.hid hcs
  clear hcs
  go_wp2_with (first | refine wpList_store_mid rfl 31 (.tmp 4) (.tmp 16) rfl w2.heap.size 0 cs1.toArray rfl rfl Hth.out Hsz.out Hall.out ?_ | fail)
  generalize (w2.alloc _).setCells _ _ _ = w3 at *
  generalize w2.heap.size = B1 at *
  refine (readreq_any w3 A c bs (Hrd.out.old (Ho2.out.old Ho3.out)) Hc.out Hl.out).mono ?_
  intro e w4 hread
  obtain ⟨m2, he2, hok2, ho4, hd⟩ := asks_pair m1 hread Hfl.out
  subst he2
  have Hfl2 := Lib.hid (show (y1 = 0 ∧ b1 = true) ∨ (y1 = 240 ∧ b1 = false) by
    rcases Hfl.out with ⟨_, h1, h2⟩ | ⟨_, _, h1, h2⟩
    · exact .inl ⟨h1, h2⟩
    · exact .inr ⟨h1, h2⟩)
  have Hok1 := Lib.hid ((Hok1.out.old Ho3.out).old ho4)
  have HbQ := Lib.hid (HbQ.out.old ho4)
  have Ho4 := Lib.hid ((Ho2.out.old Ho3.out).old ho4)
  have Hb4 := Lib.hid ((Hb2.out.old Ho3.out).old ho4)
  have HSR := Lib.hid (fun W (ho : Old w4 W) => samer_eq W m1 m2 (Hok1.out.old ho) (hok2.old ho) hd)
  rw [Hcs.out] at HSR
  have Hn1 := Lib.hid (show cs1.length = 18 by rw [← Hcs.out]; rfl)
  clear hread hok2 ho4 hd Hfl Hall Hth Hsz HbZ Ho3
  have HbZ := Lib.hid (Blk.new w4 31 zeroReqC.toArray)
  have HbP := Lib.hid (HbZ.out.setWhole m2.cells rfl)
  have Ho5 := Lib.hid (show Old w4 ((w4.alloc (.cells zeroReqC.toArray 31)).setCells w4.heap.size 0 m2.cells) from ((Kp.refl NoX w4).alloc _).trans (Kp.setCells _ _ _ _) (fun b hb e => by omega))
  have Hall := Lib.hid (show m2.cells.toArray.all (·.oneCell') = true from all_one rfl)
  have Hth := Lib.hid (show (w4.alloc (.cells zeroReqC.toArray 31)).there w4.heap.size 0 m2.cells.toArray.size from HbZ.out.there 0 18 (by decide))
  have Hsz := Lib.hid (show (Try.prog.info? 31).map (·.size) = some m2.cells.toArray.size from Try.sizeRequest)
  have Hn2 := Lib.hid (show (Try.prog.info? 31).map (·.size) = some m2.cells.length from Try.sizeRequest)
  have Hn1 := Lib.hid (show (Try.prog.info? 31).map (·.size) = some cs1.length by rw [Hn1.out]; exact Try.sizeRequest)
  unfold zeroReqC at HbZ HbP Ho5 Hth
  generalize m2.cells = cs2 at HbP Ho5 Hall Hth Hsz Hn2 HSR ⊢
  go_upto_region 4 with (first | refine wpList_store_mid rfl 31 (.tmp 6) (.tmp 21) rfl w4.heap.size 0 cs2.toArray rfl rfl Hth.out Hsz.out Hall.out ?_ | fail)
  generalize (w4.alloc _).setCells _ _ _ = w5 at *
  generalize w4.heap.size = B2 at *
  have HbQ := Lib.hid (HbQ.out.old Ho5.out)
  have Ho6 := Lib.hid (Ho4.out.old Ho5.out)
  have Hb6 := Lib.hid (Hb4.out.old Ho5.out)
  have HIN := Lib.hid (fun W (ho : Old w5 W) => intact_any W g A c bs (Hb6.out.old ho) (Hrd.out.old (Ho6.out.old ho)) (by have := Hl.out; omega))
  have HS5 := Lib.hid (HSR.out w5 Ho5.out)
  rcases Hfl2.out with ⟨rfl, rfl⟩ | ⟨rfl, rfl⟩
  all_goals
    go_wp2_with (first
      | refine Try.load_wanted rfl 31 (.tmp 4) rfl B1 0 rfl cs1 _ HbQ.out.range Try.underlying31 rfl Hn1.out ?_
      | refine Try.load_wanted rfl 31 (.tmp 6) rfl B2 0 rfl cs2 _ HbP.out.range Try.underlying31 rfl Hn2.out ?_
      | fail)
    refine HS5.out.mono ?_
    rintro e w6 ⟨rfl, ho6⟩
    have HI6 := Lib.hid (HIN.out w6 ho6)
    have Ho7 := Lib.hid (Ho6.out.old ho6)
    clear ho6
    go_wp2_with fail
    refine HI6.out.mono ?_
    rintro e w7 ⟨rfl, ho7⟩
    go_wp2
    go_ret
    exact ⟨rfl, Ho7.out.old ho7⟩
end Go.Proofs.Ytnaolhjbapgjgaa

/- Contracts of docketbook.Room, Texts, docketlaw24.value. -/
namespace Go.Proofs.Ytnaolhjbapgjgaa
open Go.RowKit

/-- room left behind n more -/
def roomN (left n : Int) : Int := if left < 0 ∨ left < n then -1 else left - n
theorem roomN_le {left n : Int} (h : left ≤ 2147483647) (hn : 0 ≤ n) : roomN left n ≤ 2147483647 ∧ -1 ≤ roomN left n := by
  unfold roomN
  split <;> omega
theorem roomN_neg {left n : Int} (h : left < 0) : roomN left n = -1 := by rw [roomN, if_pos (.inl h)]
theorem roomN_ok {left n : Int} (h : 0 ≤ roomN left n) : 0 ≤ left ∧ n ≤ left ∧ roomN left n = left - n := by
  unfold roomN at *
  split at h
  · omega
  · rename_i h1
    rw [if_neg h1]
    omega
set_option maxHeartbeats 400000 in
theorem room_any (w : World) (left n : Int) (h1 : -1 ≤ left) (h2 : left ≤ 2147483647) (hn : 0 ≤ n) :
    Calls Try.prog 4 #[.int .i64 left, .int .i64 n] w fun e w' => e = .returned (.int .i64 (roomN left n)) ∧ w = w' := by
  by_cases h3 : left < 0
  · rw [roomN_neg h3]
    go_enter Try.func4, Try.ntmps4
    go_wp2
    go_ret
    exact ⟨rfl, rfl⟩
  · by_cases h4 : left < n
    · rw [roomN, if_pos (.inr h4)]
      go_enter Try.func4, Try.ntmps4
      go_wp2
      go_ret
      exact ⟨rfl, rfl⟩
    · rw [roomN, if_neg (by omega)]
      have e : IntKind.i64.wrap (left - n) = left - n := IntWalk.i64_in _ (by omega)
      go_enter Try.func4, Try.ntmps4
      go_wp2
      go_ret
      exact ⟨by simp, rfl⟩
/-- room left behind texts -/
def textsR (left : Int) : List ByteArray → Int
  | [] => left
  | x :: l => if left < 0 then left else textsR (roomN (roomN left 1) x.size) l
theorem textsR_le : ∀ (l : List ByteArray) (left : Int), -1 ≤ left → left ≤ 2147483647 → -1 ≤ textsR left l ∧ textsR left l ≤ 2147483647
  | [], left, h1, h2 => ⟨h1, h2⟩
  | x :: l, left, h1, h2 => by
    rw [textsR]
    split
    · exact ⟨h1, h2⟩
    · have a := roomN_le (n := 1) h2 (by decide)
      have b := roomN_le (n := x.size) a.1 (by omega)
      exact textsR_le l _ b.2 b.1
theorem textsR_neg (l : List ByteArray) (left : Int) (h : left < 0) : textsR left l = left := by
  cases l with
  | nil => rfl
  | cons x l => rw [textsR, if_pos h]
/-- what is left tells that there are few texts, and small ones -/
theorem textsR_ok : ∀ (l : List ByteArray) (left : Int), 0 ≤ textsR left l → left ≤ 2147483647 → 0 ≤ left ∧ (l.length : Int) ≤ left
  | [], left, h, _ => ⟨h, h⟩
  | x :: l, left, h, h2 => by
    rw [textsR] at h
    split at h
    · omega
    · rename_i hn
      have a := roomN_le (n := 1) h2 (by decide)
      have b := roomN_le (n := x.size) a.1 (by omega)
      have ih := textsR_ok l _ h b.1
      have c := roomN_ok ih.1
      have d := roomN_ok c.1
      rw [List.length_cons]
      omega
set_option maxRecDepth 100000 in
set_option maxHeartbeats 800000 in
theorem texts_any (w : World) (left : Int) (A : Option Addr) (c n : Nat) (l : List ByteArray) (h1 : -1 ≤ left) (h2 : left ≤ 2147483647) (hr : Rd w 1 A n (l.map sv)) (hn : n = l.length) (hx : ∀ x ∈ l, x.size ≤ 9223372036854775807) :
    Calls Try.prog 27 #[.int .i64 left, .slice A n c] w fun e w' => e = .returned (.int .i64 (textsR left l)) ∧ w = w' := by
  have Hn := Lib.hid hn
  have Hx := Lib.hid hx
  clear hn hx
  go_enter Try.func27, Try.ntmps27
  go_wp2_with fail
  go_loop [0, 5] (fun x i => ∃ (j : Nat) (lf : Int), j ≤ n ∧ i = .int .i64 j ∧ x = .int .i64 lf ∧ -1 ≤ lf ∧ lf ≤ 2147483647 ∧ textsR left l = textsR lf (l.drop j) ∧ (j : Int) + lf ≤ 2147483647) (fun _ i => n - (intOf i).toNat)
  case atStart => exact ⟨0, left, Nat.zero_le _, rfl, rfl, h1, h2, rfl, by omega⟩
  case round =>
    obtain ⟨j, lf, hj, rfl, rfl, hl1, hl2, hgo, hsum⟩ := hrel
    by_cases hlt : j < n
    · have hltI : (j : Int) < (n : Int) := by omega
      by_cases hneg : lf < 0
      · have Hres := Lib.hid (show textsR left l = lf by rw [hgo, textsR_neg _ _ hneg])
        clear hgo
        have hge : ¬ (0 : Int) ≤ lf := by omega
        go_wp2
        go_ret
        exact ⟨by rw [Hres.out]; rfl, rfl⟩
      · have hge : (0 : Int) ≤ lf := by omega
        obtain ⟨b, o, rfl, hx⟩ := hr.text (k := j) hlt
        have hlj : j < l.length := by have := Hn.out; omega
        have hd : l.drop j = l.getD j ByteArray.empty :: l.drop (j + 1) := by
          rw [List.drop_eq_getElem_cons hlj]
          simp [List.getD, List.getElem?_eq_getElem hlj]
        have Hsz := Lib.hid (Hx.out (l.getD j ByteArray.empty) (by simp [List.getD, List.getElem?_eq_getElem hlj]))
        have Hgo := Lib.hid (show textsR left l = textsR (roomN (roomN lf 1) (l.getD j ByteArray.empty).size) (l.drop (j + 1)) by rw [hgo, hd, textsR, if_neg hneg])
        clear hgo hd
        generalize l.getD j ByteArray.empty = x at *
        have ha := roomN_le (n := 1) hl2 (by decide)
        have hb := roomN_le (n := x.size) ha.1 (by omega)
        have Hlt1 := Lib.hid (show roomN lf 1 ≤ lf - 1 by unfold roomN; split <;> omega)
        have Hlt2 := Lib.hid (show roomN (roomN lf 1) x.size ≤ lf - 1 by
          have := Hlt1.out
          unfold roomN
          split
          · omega
          · have h3 : roomN lf 1 = lf - 1 ∨ roomN lf 1 = -1 := by unfold roomN; split <;> simp
            unfold roomN at *
            omega)
        have R1 := Lib.hid (room_any w lf 1 hl1 hl2 (by decide))
        have R2 := Lib.hid (room_any w (roomN lf 1) x.size ha.2 ha.1 (by omega))
        go_wp2_with fail
        refine R1.out.mono ?_
        rintro e w' ⟨rfl, rfl⟩
        go_wp2_with fail
        refine R2.out.mono ?_
        rintro e w' ⟨rfl, rfl⟩
        generalize roomN (roomN lf 1) (x.size : Int) = lf2 at *
        generalize roomN lf 1 = lf1 at *
        have hj1 : IntKind.i64.wrap ((j : Int) + 1) = (j : Int) + 1 := IntWalk.i64_in _ (by omega)
        go_wp2
        go_round
        case rel => exact ⟨j + 1, lf2, by omega, by go_num, rfl, hb.2, hb.1, Hgo.out, by have := Hlt2.out; omega⟩
        case measure => simp [intOf]; omega
    · obtain rfl : j = n := by omega
      have Hres := Lib.hid (show textsR left l = lf by rw [hgo, Hn.out, List.drop_length]; rfl)
      clear hgo
      go_wp2
      go_ret
      exact ⟨by rw [Hres.out]; rfl, rfl⟩
end Go.Proofs.Ytnaolhjbapgjgaa
