import Derived.Test.YtnaolhjbapgjgaaMg31
/- Contract of desk.DecodeRequest: a request of one op read. -/
namespace Go.Proofs.Ytnaolhjbapgjgaa
open Go.RowKit

set_option maxRecDepth 100000 in
set_option maxHeartbeats 3200000 in
theorem dec_0 (w : World) (A : Option Addr) (c : Nat) (bs : List UInt8) (hrd : Rd w 1 A bs.length (bs.map bv)) (hl : bs.length ≤ 1048576) (hk : (tkN bs 1 ⟨0, 0⟩).1 = 0) :
    Calls Try.prog 23 #[.slice A bs.length c] w (DecPost w (decReq bs)) := by
  have HT := Lib.hid (show decReq bs = decEnd bs (decN bs 0 (tkN bs 1 ⟨0, 0⟩).2) by rw [decReq, if_neg (by omega), hk])
  generalize decReq bs = TV at HT ⊢
  have Hk := Lib.hid hk
  clear hk
  have hlI : (bs.length : Int) ≤ 1048576 := by omega
  go_enter Try.func23, Try.ntmps23
  go_wp2_with fail
  refine (read_any _ A bs.length c bs (hrd.alloc _) (by omega)).mono ?_
  rintro e w1 ⟨g, rfl, hg, hr1, ho1⟩
  have hbR := (Blk.new w 31 zeroReqC.toArray).old ho1
  have hold1 : Old w w1 := ((Kp.refl NoX w).alloc _).old ho1
  have hgR : w.heap.size < g := by simp at hg; omega
  clear ho1 hg
  go_wp2_with fail
  refine (take8_any w1 g bs _ hr1).mono ?_
  rintro e w2 ⟨rfl, hr2, hk2⟩
  rw [Hk.out]
  generalize (tkN bs 1 ⟨0, 0⟩).2 = s1 at *
  have hD : DecSt w w.heap.size g w2.heap.size bs [.int .i64 0, .int .i64 0, .string ⟨#[]⟩, .string ⟨#[]⟩, .string ⟨#[]⟩, .int .i64 0, .int .i64 0, .string ⟨#[]⟩, .slice none 0 0, .slice none 0 0, .slice none 0 0, .int .i64 0, .string ⟨#[]⟩, .int .i64 0, .int .i64 0, .int .i64 0, .int .i64 0, .int .i64 0] s1 (w2.alloc (.cells (List.toArray [.int .i64 0, .int .i64 0, .string ⟨#[]⟩, .string ⟨#[]⟩, .string ⟨#[]⟩, .int .i64 0, .int .i64 0, .string ⟨#[]⟩, .slice none 0 0, .slice none 0 0, .slice none 0 0, .int .i64 0, .string ⟨#[]⟩, .int .i64 0, .int .i64 0, .int .i64 0, .int .i64 0, .int .i64 0]) 31)) :=
    ⟨Blk.new w2 _ _, (hbR.kp hk2 (fun e => by have : w.heap.size = g := e; omega)).alloc _, hr2.old ((Kp.refl NoX w2).alloc _),
      (hold1.trans hk2 (fun b hb e => by have : b = g := e; omega)).alloc _, Nat.le_refl _, hgR, hr2.lt⟩
  clear hk2 hold1 hbR hr2 hr1
  have HD := Lib.hid hD
  have Hrd := Lib.hid hrd
  clear hD hrd
  go_upto_region 5 with (fail)
  generalize w2.alloc _ = w3 at *
  generalize w2.heap.size = Q at *
  have HE := Lib.hid (show decEnd bs (decN bs 0 s1) = none by simp [decN, decEnd])
  rw [HE.out] at HT
  clear HE
  have c0 := HD.out.boxQ.at_ 0 rfl
  go_upto_region 23 with (fail)
  clear c0
  have Hz := Lib.hid (HD.out.told zeroReqC rfl)
  go_wp2_with (refine wpList_store_mid rfl 31 (.tmp 2) (.tmp 95) rfl w.heap.size 0 _ rfl rfl (HD.out.boxR.there 0 18 (by decide)) Try.sizeRequest (all_one rfl) ?_)
  refine ret_cell_tmp (g := w.heap.size) (cs := zeroReqC.toArray) rfl rfl Hz.out.1 Try.underlying31 rfl (by kernel_rfl) rfl ?_
  exact .inr ⟨HT.out, rfl, Hz.out.2.1⟩

set_option maxRecDepth 100000 in
set_option maxHeartbeats 3200000 in
theorem dec_far (w : World) (A : Option Addr) (c : Nat) (bs : List UInt8) (hrd : Rd w 1 A bs.length (bs.map bv)) (hl : bs.length ≤ 1048576) (k : Nat) (hk : (tkN bs 1 ⟨0, 0⟩).1 = k) (h13 : 13 ≤ k) :
    Calls Try.prog 23 #[.slice A bs.length c] w (DecPost w (decReq bs)) := by
  have HT := Lib.hid (show decReq bs = decEnd bs (decN bs k (tkN bs 1 ⟨0, 0⟩).2) by rw [decReq, if_neg (by omega), hk])
  generalize decReq bs = TV at HT ⊢
  have Hk := Lib.hid hk
  clear hk
  have hlI : (bs.length : Int) ≤ 1048576 := by omega
  go_enter Try.func23, Try.ntmps23
  go_wp2_with fail
  refine (read_any _ A bs.length c bs (hrd.alloc _) (by omega)).mono ?_
  rintro e w1 ⟨g, rfl, hg, hr1, ho1⟩
  have hbR := (Blk.new w 31 zeroReqC.toArray).old ho1
  have hold1 : Old w w1 := ((Kp.refl NoX w).alloc _).old ho1
  have hgR : w.heap.size < g := by simp at hg; omega
  clear ho1 hg
  go_wp2_with fail
  refine (take8_any w1 g bs _ hr1).mono ?_
  rintro e w2 ⟨rfl, hr2, hk2⟩
  rw [Hk.out]
  have hlt := tkN_lt bs 1 ⟨0, 0⟩
  rw [Hk.out] at hlt
  have hwk : IntKind.i64.wrap (k : Int) = (k : Int) := IntWalk.i64_in _ (by omega)
  have hwk2 : wrap64 (k : Int) = (k : Int) := by unfold wrap64; omega
  clear hlt
  generalize (tkN bs 1 ⟨0, 0⟩).2 = s1 at *
  have hD : DecSt w w.heap.size g w2.heap.size bs [.int .i64 (k : Int), .int .i64 0, .string ⟨#[]⟩, .string ⟨#[]⟩, .string ⟨#[]⟩, .int .i64 0, .int .i64 0, .string ⟨#[]⟩, .slice none 0 0, .slice none 0 0, .slice none 0 0, .int .i64 0, .string ⟨#[]⟩, .int .i64 0, .int .i64 0, .int .i64 0, .int .i64 0, .int .i64 0] s1 (w2.alloc (.cells (List.toArray [.int .i64 (k : Int), .int .i64 0, .string ⟨#[]⟩, .string ⟨#[]⟩, .string ⟨#[]⟩, .int .i64 0, .int .i64 0, .string ⟨#[]⟩, .slice none 0 0, .slice none 0 0, .slice none 0 0, .int .i64 0, .string ⟨#[]⟩, .int .i64 0, .int .i64 0, .int .i64 0, .int .i64 0, .int .i64 0]) 31)) :=
    ⟨Blk.new w2 _ _, (hbR.kp hk2 (fun e => by have : w.heap.size = g := e; omega)).alloc _, hr2.old ((Kp.refl NoX w2).alloc _),
      (hold1.trans hk2 (fun b hb e => by have : b = g := e; omega)).alloc _, Nat.le_refl _, hgR, hr2.lt⟩
  clear hk2 hold1 hbR hr2 hr1
  have HD := Lib.hid hD
  have Hrd := Lib.hid hrd
  clear hD hrd
  go_upto_region 5 with (fail)
  generalize w2.alloc _ = w3 at *
  generalize w2.heap.size = Q at *
  have HE := Lib.hid (show decEnd bs (decN bs k s1) = none by
    unfold decN
    rw [if_neg (by omega), if_neg (by omega), if_neg (by omega), if_neg (by omega), if_neg (by omega), if_neg (by omega), if_neg (by omega)]
    simp [decEnd]
    omega)
  rw [HE.out] at HT
  clear HE
  have c0 := HD.out.boxQ.at_ 0 rfl
  have o1 : (1 : Int) ≤ (k : Int) := by omega
  have o2 : (12 : Int) < (k : Int) := by omega
  have n1 : ((k : Int) == 1) = false := beq_eq_false_iff_ne.2 (by omega)
  have n2 : ((k : Int) == 2) = false := beq_eq_false_iff_ne.2 (by omega)
  have n3 : ((k : Int) == 3) = false := beq_eq_false_iff_ne.2 (by omega)
  have n4 : ((k : Int) == 4) = false := beq_eq_false_iff_ne.2 (by omega)
  have n5 : ((k : Int) == 5) = false := beq_eq_false_iff_ne.2 (by omega)
  have n6 : ((k : Int) == 6) = false := beq_eq_false_iff_ne.2 (by omega)
  have n7 : ((k : Int) == 7) = false := beq_eq_false_iff_ne.2 (by omega)
  have n8 : ((k : Int) == 8) = false := beq_eq_false_iff_ne.2 (by omega)
  have n9 : ((k : Int) == 9) = false := beq_eq_false_iff_ne.2 (by omega)
  have n10 : ((k : Int) == 10) = false := beq_eq_false_iff_ne.2 (by omega)
  have n11 : ((k : Int) == 11) = false := beq_eq_false_iff_ne.2 (by omega)
  have n12 : ((k : Int) == 12) = false := beq_eq_false_iff_ne.2 (by omega)
  clear h13
  go_upto_region 23 with (fail)
  clear c0
  have Hz := Lib.hid (HD.out.told zeroReqC rfl)
  go_wp2_with (refine wpList_store_mid rfl 31 (.tmp 2) (.tmp 95) rfl w.heap.size 0 _ rfl rfl (HD.out.boxR.there 0 18 (by decide)) Try.sizeRequest (all_one rfl) ?_)
  refine ret_cell_tmp (g := w.heap.size) (cs := zeroReqC.toArray) rfl rfl Hz.out.1 Try.underlying31 rfl (by kernel_rfl) rfl ?_
  exact .inr ⟨HT.out, rfl, Hz.out.2.1⟩

end Go.Proofs.Ytnaolhjbapgjgaa

/- Contract of desk.DecodeRequest: a request of one op read. -/
namespace Go.Proofs.Ytnaolhjbapgjgaa
open Go.RowKit

set_option maxRecDepth 100000 in
set_option maxHeartbeats 3200000 in
theorem dec_1 (w : World) (A : Option Addr) (c : Nat) (bs : List UInt8) (hrd : Rd w 1 A bs.length (bs.map bv)) (hl : bs.length ≤ 1048576) (hk : (tkN bs 1 ⟨0, 0⟩).1 = 1) :
    Calls Try.prog 23 #[.slice A bs.length c] w (DecPost w (decReq bs)) := by
  have HT := Lib.hid (show decReq bs = decEnd bs (decN bs 1 (tkN bs 1 ⟨0, 0⟩).2) by rw [decReq, if_neg (by omega), hk])
  generalize decReq bs = TV at HT ⊢
  have Hk := Lib.hid hk
  clear hk
  have hlI : (bs.length : Int) ≤ 1048576 := by omega
  go_enter Try.func23, Try.ntmps23
  go_wp2_with fail
  refine (read_any _ A bs.length c bs (hrd.alloc _) (by omega)).mono ?_
  rintro e w1 ⟨g, rfl, hg, hr1, ho1⟩
  have hbR := (Blk.new w 31 zeroReqC.toArray).old ho1
  have hold1 : Old w w1 := ((Kp.refl NoX w).alloc _).old ho1
  have hgR : w.heap.size < g := by simp at hg; omega
  clear ho1 hg
  go_wp2_with fail
  refine (take8_any w1 g bs _ hr1).mono ?_
  rintro e w2 ⟨rfl, hr2, hk2⟩
  rw [Hk.out]
  generalize (tkN bs 1 ⟨0, 0⟩).2 = s1 at *
  have hD : DecSt w w.heap.size g w2.heap.size bs [.int .i64 1, .int .i64 0, .string ⟨#[]⟩, .string ⟨#[]⟩, .string ⟨#[]⟩, .int .i64 0, .int .i64 0, .string ⟨#[]⟩, .slice none 0 0, .slice none 0 0, .slice none 0 0, .int .i64 0, .string ⟨#[]⟩, .int .i64 0, .int .i64 0, .int .i64 0, .int .i64 0, .int .i64 0] s1 (w2.alloc (.cells (List.toArray [.int .i64 1, .int .i64 0, .string ⟨#[]⟩, .string ⟨#[]⟩, .string ⟨#[]⟩, .int .i64 0, .int .i64 0, .string ⟨#[]⟩, .slice none 0 0, .slice none 0 0, .slice none 0 0, .int .i64 0, .string ⟨#[]⟩, .int .i64 0, .int .i64 0, .int .i64 0, .int .i64 0, .int .i64 0]) 31)) :=
    ⟨Blk.new w2 _ _, (hbR.kp hk2 (fun e => by have : w.heap.size = g := e; omega)).alloc _, hr2.old ((Kp.refl NoX w2).alloc _),
      (hold1.trans hk2 (fun b hb e => by have : b = g := e; omega)).alloc _, Nat.le_refl _, hgR, hr2.lt⟩
  clear hk2 hold1 hbR hr2 hr1
  have HD := Lib.hid hD
  have Hrd := Lib.hid hrd
  clear hD hrd
  go_upto_region 5 with (fail)
  generalize w2.alloc _ = w3 at *
  generalize w2.heap.size = Q at *
  have hV : ∀ m : MOp, m.data = (askedN bs s1).1 → decN bs 1 s1 = (MReq.data (⟨1, m, ⟨#[]⟩, 0, 0, 0, 0, 0⟩ : MReq), decide (1 ≤ m.op ∧ m.op ≤ 5), (askedN bs s1).2) := by
    intro m hm
    have h2 : (askedN bs s1).1.op = m.op := by rw [← hm]; rfl
    simp [decN, MReq.data, hm, zeroReq, h2]
  have HV := Lib.hid hV
  clear hV
  have c0 := HD.out.boxQ.at_ 0 rfl
  go_wp2_with fail
  refine (asked_any _ g bs _ HD.out.rr).mono ?_
  rintro e w4 ⟨m, hm, rfl, hok, hr4, hk4⟩
  rw [HV.out m hm] at HT
  clear HV hm
  have hQ3 : Q < w3.heap.size := HD.out.boxQ.lt
  have hR3 : w.heap.size < Q := by have := HD.out.lt; have := HD.out.gt; omega
  have Hok := Lib.hid hok
  have HD := Lib.hid (HD.out.step hr4 hk4)
  clear hr4 hk4 hok c0
  generalize (askedN bs s1).2 = sz at *
  have Hkp := Lib.hid (Kp.setCells Q 1 m.cells w4)
  have HD2 : Hid (DecSt w w.heap.size g Q bs [.int .i64 1, .int .i64 m.op, .string m.case_, .string m.type_, .string m.name, .int .i64 m.value.v.kind, .int .i64 m.value.v.n, .string m.value.v.t, .slice m.value.A m.value.v.s.length m.value.c, .slice m.argsA m.args.length m.argsC, .slice m.srcA m.source.length m.srcC, .int .i64 m.clock, .string ⟨#[]⟩, .int .i64 0, .int .i64 0, .int .i64 0, .int .i64 0, .int .i64 0] sz (w4.setCells Q 1 m.cells)) := Lib.hid (HD.out.put Hkp.out (Blk.setCells (pre := [.int .i64 1]) (mid := [.int .i64 0, .string ⟨#[]⟩, .string ⟨#[]⟩, .string ⟨#[]⟩, .int .i64 0, .int .i64 0, .string ⟨#[]⟩, .slice none 0 0, .slice none 0 0, .slice none 0 0, .int .i64 0]) (post := [.string ⟨#[]⟩, .int .i64 0, .int .i64 0, .int .i64 0, .int .i64 0, .int .i64 0]) HD.out.boxQ m.cells rfl))
  have Hok := Lib.hid ((Hok.out.sub Hkp.out (fun k e => by omega)).weak (Y := fun k => k ≤ w.heap.size) (fun k e => by omega))
  clear hQ3 hR3 Hkp
  generalize hwz : w4.setCells Q 1 m.cells = wz at HD2 Hok
  have c0 := HD2.out.boxQ.at_ 0 rfl
  have c1 := HD2.out.boxQ.at_ 1 rfl
  by_cases ho : 1 ≤ m.op ∧ m.op ≤ 5
  · rw [decide_eq_true ho] at HT
    have o1 : (1 : Int) ≤ m.op := ho.1
    have o2 : m.op ≤ 5 := ho.2
    have o3 : (decide (m.op ≥ 1)) = true := decide_eq_true o1
    clear ho
    have HE2 := Lib.hid (show decEnd bs (MReq.data (⟨1, m, ⟨#[]⟩, 0, 0, 0, 0, 0⟩ : MReq), true, sz) = if doneN bs sz = 0 then some (MReq.data (⟨1, m, ⟨#[]⟩, 0, 0, 0, 0, 0⟩ : MReq)) else none by simp [decEnd])
    go_upto_region 23 with (first | (refine wpList_store_mid rfl 29 (.tmp 32) (.tmp 31) rfl Q 1 _ rfl rfl (HD.out.boxQ.there 1 11 (by decide)) Try.sizeOperation (all_one rfl) ?_; rw [hwz]) | fail)
    clear c0 c1 o1 o2 o3 hwz HD
    have HD := HD2
    clear HD2
    go_wp2_with fail
    refine (done_any _ g bs _ HD.out.rr).mono ?_
    rintro e w9 ⟨rfl, ho9⟩
    have HD := Lib.hid (HD.out.still ho9)
    have HE := Lib.hid HE2.out
    have Hok := Lib.hid (Hok.out.sub ho9 (fun k e => e.elim))
    clear ho9
    generalize doneN bs sz = dn at *
    by_cases hdn : dn = 0
    · subst hdn
      have Hz := Lib.hid (HD.out.told [.int .i64 1, .int .i64 m.op, .string m.case_, .string m.type_, .string m.name, .int .i64 m.value.v.kind, .int .i64 m.value.v.n, .string m.value.v.t, .slice m.value.A m.value.v.s.length m.value.c, .slice m.argsA m.args.length m.argsC, .slice m.srcA m.source.length m.srcC, .int .i64 m.clock, .string ⟨#[]⟩, .int .i64 0, .int .i64 0, .int .i64 0, .int .i64 0, .int .i64 0] rfl)
      go_wp2_with (first | refine wpList_load_mid rfl 31 (.tmp 5) rfl Q 0 rfl [.int .i64 1, .int .i64 m.op, .string m.case_, .string m.type_, .string m.name, .int .i64 m.value.v.kind, .int .i64 m.value.v.n, .string m.value.v.t, .slice m.value.A m.value.v.s.length m.value.c, .slice m.argsA m.args.length m.argsC, .slice m.srcA m.source.length m.srcC, .int .i64 m.clock, .string ⟨#[]⟩, .int .i64 0, .int .i64 0, .int .i64 0, .int .i64 0, .int .i64 0] _ HD.out.boxQ.range Try.underlying31 rfl Try.sizeRequest ?_ | refine wpList_store_mid rfl 31 (.tmp 2) (.tmp 96) rfl w.heap.size 0 _ rfl rfl (HD.out.boxR.there 0 18 (by decide)) Try.sizeRequest (all_one rfl) ?_)
      refine ret_cell_tmp (g := w.heap.size) (cs := List.toArray [.int .i64 1, .int .i64 m.op, .string m.case_, .string m.type_, .string m.name, .int .i64 m.value.v.kind, .int .i64 m.value.v.n, .string m.value.v.t, .slice m.value.A m.value.v.s.length m.value.c, .slice m.argsA m.args.length m.argsC, .slice m.srcA m.source.length m.srcC, .int .i64 m.clock, .string ⟨#[]⟩, .int .i64 0, .int .i64 0, .int .i64 0, .int .i64 0, .int .i64 0]) rfl rfl Hz.out.1 Try.underlying31 rfl (by kernel_rfl) rfl ?_
      refine .inl ⟨(⟨1, m, ⟨#[]⟩, 0, 0, 0, 0, 0⟩ : MReq), ?_, rfl, ?_, ?_, Hz.out.2.1⟩
      · rw [HT.out, HE.out]; exact if_pos (by trivial)
      · exact (Hok.out.sub Hz.out.2.2 (fun k e => by omega)).weak (fun k e => by omega)
      · exact empty_size
    · have hdn' : (dn != 0) = true := bne_iff_ne.2 hdn
      have Hz := Lib.hid (HD.out.told zeroReqC rfl)
      go_wp2_with (refine wpList_store_mid rfl 31 (.tmp 2) (.tmp 95) rfl w.heap.size 0 _ rfl rfl (HD.out.boxR.there 0 18 (by decide)) Try.sizeRequest (all_one rfl) ?_)
      refine ret_cell_tmp (g := w.heap.size) (cs := zeroReqC.toArray) rfl rfl Hz.out.1 Try.underlying31 rfl (by kernel_rfl) rfl ?_
      exact .inr ⟨by rw [HT.out, HE.out, if_neg hdn], rfl, Hz.out.2.1⟩
  · have HE := Lib.hid (show decEnd bs (MReq.data (⟨1, m, ⟨#[]⟩, 0, 0, 0, 0, 0⟩ : MReq), decide (1 ≤ m.op ∧ m.op ≤ 5), sz) = none by rw [decide_eq_false ho]; simp [decEnd])
    rw [HE.out] at HT
    clear HE
    have hc : m.op < 1 ∨ (1 ≤ m.op ∧ 5 < m.op) := by omega
    clear ho
    rcases hc with o1 | ⟨o1, o2⟩
    all_goals
      go_upto_region 23 with (first | (refine wpList_store_mid rfl 29 (.tmp 32) (.tmp 31) rfl Q 1 _ rfl rfl (HD.out.boxQ.there 1 11 (by decide)) Try.sizeOperation (all_one rfl) ?_; rw [hwz]) | fail)
      clear c0 c1 hwz HD
      have HD := HD2
      clear HD2
      have Hz := Lib.hid (HD.out.told zeroReqC rfl)
      go_wp2_with (refine wpList_store_mid rfl 31 (.tmp 2) (.tmp 95) rfl w.heap.size 0 _ rfl rfl (HD.out.boxR.there 0 18 (by decide)) Try.sizeRequest (all_one rfl) ?_)
      refine ret_cell_tmp (g := w.heap.size) (cs := zeroReqC.toArray) rfl rfl Hz.out.1 Try.underlying31 rfl (by kernel_rfl) rfl ?_
      exact .inr ⟨HT.out, rfl, Hz.out.2.1⟩

end Go.Proofs.Ytnaolhjbapgjgaa

/- Contract of desk.DecodeRequest: a request of one op read. -/
namespace Go.Proofs.Ytnaolhjbapgjgaa
open Go.RowKit

set_option maxRecDepth 100000 in
set_option maxHeartbeats 3200000 in
theorem dec_2 (w : World) (A : Option Addr) (c : Nat) (bs : List UInt8) (hrd : Rd w 1 A bs.length (bs.map bv)) (hl : bs.length ≤ 1048576) (hk : (tkN bs 1 ⟨0, 0⟩).1 = 2) :
    Calls Try.prog 23 #[.slice A bs.length c] w (DecPost w (decReq bs)) := by
  have HT := Lib.hid (show decReq bs = decEnd bs (decN bs 2 (tkN bs 1 ⟨0, 0⟩).2) by rw [decReq, if_neg (by omega), hk])
  generalize decReq bs = TV at HT ⊢
  have Hk := Lib.hid hk
  clear hk
  have hlI : (bs.length : Int) ≤ 1048576 := by omega
  go_enter Try.func23, Try.ntmps23
  go_wp2_with fail
  refine (read_any _ A bs.length c bs (hrd.alloc _) (by omega)).mono ?_
  rintro e w1 ⟨g, rfl, hg, hr1, ho1⟩
  have hbR := (Blk.new w 31 zeroReqC.toArray).old ho1
  have hold1 : Old w w1 := ((Kp.refl NoX w).alloc _).old ho1
  have hgR : w.heap.size < g := by simp at hg; omega
  clear ho1 hg
  go_wp2_with fail
  refine (take8_any w1 g bs _ hr1).mono ?_
  rintro e w2 ⟨rfl, hr2, hk2⟩
  rw [Hk.out]
  generalize (tkN bs 1 ⟨0, 0⟩).2 = s1 at *
  have hD : DecSt w w.heap.size g w2.heap.size bs [.int .i64 2, .int .i64 0, .string ⟨#[]⟩, .string ⟨#[]⟩, .string ⟨#[]⟩, .int .i64 0, .int .i64 0, .string ⟨#[]⟩, .slice none 0 0, .slice none 0 0, .slice none 0 0, .int .i64 0, .string ⟨#[]⟩, .int .i64 0, .int .i64 0, .int .i64 0, .int .i64 0, .int .i64 0] s1 (w2.alloc (.cells (List.toArray [.int .i64 2, .int .i64 0, .string ⟨#[]⟩, .string ⟨#[]⟩, .string ⟨#[]⟩, .int .i64 0, .int .i64 0, .string ⟨#[]⟩, .slice none 0 0, .slice none 0 0, .slice none 0 0, .int .i64 0, .string ⟨#[]⟩, .int .i64 0, .int .i64 0, .int .i64 0, .int .i64 0, .int .i64 0]) 31)) :=
    ⟨Blk.new w2 _ _, (hbR.kp hk2 (fun e => by have : w.heap.size = g := e; omega)).alloc _, hr2.old ((Kp.refl NoX w2).alloc _),
      (hold1.trans hk2 (fun b hb e => by have : b = g := e; omega)).alloc _, Nat.le_refl _, hgR, hr2.lt⟩
  clear hk2 hold1 hbR hr2 hr1
  have HD := Lib.hid hD
  have Hrd := Lib.hid hrd
  clear hD hrd
  go_upto_region 5 with (fail)
  generalize w2.alloc _ = w3 at *
  generalize w2.heap.size = Q at *
  have hV : ∀ m : MOp, m.data = (askedN bs s1).1 → decN bs 2 s1 = (MReq.data (⟨2, m, ⟨#[]⟩, 0, 0, 0, 0, 0⟩ : MReq), decide (1 ≤ m.op ∧ m.op ≤ 5), (askedN bs s1).2) := by
    intro m hm
    have h2 : (askedN bs s1).1.op = m.op := by rw [← hm]; rfl
    simp [decN, MReq.data, hm, zeroReq, h2]
  have HV := Lib.hid hV
  clear hV
  have c0 := HD.out.boxQ.at_ 0 rfl
  go_wp2_with fail
  refine (asked_any _ g bs _ HD.out.rr).mono ?_
  rintro e w4 ⟨m, hm, rfl, hok, hr4, hk4⟩
  rw [HV.out m hm] at HT
  clear HV hm
  have hQ3 : Q < w3.heap.size := HD.out.boxQ.lt
  have hR3 : w.heap.size < Q := by have := HD.out.lt; have := HD.out.gt; omega
  have Hok := Lib.hid hok
  have HD := Lib.hid (HD.out.step hr4 hk4)
  clear hr4 hk4 hok c0
  generalize (askedN bs s1).2 = sz at *
  have Hkp := Lib.hid (Kp.setCells Q 1 m.cells w4)
  have HD2 : Hid (DecSt w w.heap.size g Q bs [.int .i64 2, .int .i64 m.op, .string m.case_, .string m.type_, .string m.name, .int .i64 m.value.v.kind, .int .i64 m.value.v.n, .string m.value.v.t, .slice m.value.A m.value.v.s.length m.value.c, .slice m.argsA m.args.length m.argsC, .slice m.srcA m.source.length m.srcC, .int .i64 m.clock, .string ⟨#[]⟩, .int .i64 0, .int .i64 0, .int .i64 0, .int .i64 0, .int .i64 0] sz (w4.setCells Q 1 m.cells)) := Lib.hid (HD.out.put Hkp.out (Blk.setCells (pre := [.int .i64 2]) (mid := [.int .i64 0, .string ⟨#[]⟩, .string ⟨#[]⟩, .string ⟨#[]⟩, .int .i64 0, .int .i64 0, .string ⟨#[]⟩, .slice none 0 0, .slice none 0 0, .slice none 0 0, .int .i64 0]) (post := [.string ⟨#[]⟩, .int .i64 0, .int .i64 0, .int .i64 0, .int .i64 0, .int .i64 0]) HD.out.boxQ m.cells rfl))
  have Hok := Lib.hid ((Hok.out.sub Hkp.out (fun k e => by omega)).weak (Y := fun k => k ≤ w.heap.size) (fun k e => by omega))
  clear hQ3 hR3 Hkp
  generalize hwz : w4.setCells Q 1 m.cells = wz at HD2 Hok
  have c0 := HD2.out.boxQ.at_ 0 rfl
  have c1 := HD2.out.boxQ.at_ 1 rfl
  by_cases ho : 1 ≤ m.op ∧ m.op ≤ 5
  · rw [decide_eq_true ho] at HT
    have o1 : (1 : Int) ≤ m.op := ho.1
    have o2 : m.op ≤ 5 := ho.2
    have o3 : (decide (m.op ≥ 1)) = true := decide_eq_true o1
    clear ho
    have HE2 := Lib.hid (show decEnd bs (MReq.data (⟨2, m, ⟨#[]⟩, 0, 0, 0, 0, 0⟩ : MReq), true, sz) = if doneN bs sz = 0 then some (MReq.data (⟨2, m, ⟨#[]⟩, 0, 0, 0, 0, 0⟩ : MReq)) else none by simp [decEnd])
    go_upto_region 23 with (first | (refine wpList_store_mid rfl 29 (.tmp 32) (.tmp 31) rfl Q 1 _ rfl rfl (HD.out.boxQ.there 1 11 (by decide)) Try.sizeOperation (all_one rfl) ?_; rw [hwz]) | fail)
    clear c0 c1 o1 o2 o3 hwz HD
    have HD := HD2
    clear HD2
    go_wp2_with fail
    refine (done_any _ g bs _ HD.out.rr).mono ?_
    rintro e w9 ⟨rfl, ho9⟩
    have HD := Lib.hid (HD.out.still ho9)
    have HE := Lib.hid HE2.out
    have Hok := Lib.hid (Hok.out.sub ho9 (fun k e => e.elim))
    clear ho9
    generalize doneN bs sz = dn at *
    by_cases hdn : dn = 0
    · subst hdn
      have Hz := Lib.hid (HD.out.told [.int .i64 2, .int .i64 m.op, .string m.case_, .string m.type_, .string m.name, .int .i64 m.value.v.kind, .int .i64 m.value.v.n, .string m.value.v.t, .slice m.value.A m.value.v.s.length m.value.c, .slice m.argsA m.args.length m.argsC, .slice m.srcA m.source.length m.srcC, .int .i64 m.clock, .string ⟨#[]⟩, .int .i64 0, .int .i64 0, .int .i64 0, .int .i64 0, .int .i64 0] rfl)
      go_wp2_with (first | refine wpList_load_mid rfl 31 (.tmp 5) rfl Q 0 rfl [.int .i64 2, .int .i64 m.op, .string m.case_, .string m.type_, .string m.name, .int .i64 m.value.v.kind, .int .i64 m.value.v.n, .string m.value.v.t, .slice m.value.A m.value.v.s.length m.value.c, .slice m.argsA m.args.length m.argsC, .slice m.srcA m.source.length m.srcC, .int .i64 m.clock, .string ⟨#[]⟩, .int .i64 0, .int .i64 0, .int .i64 0, .int .i64 0, .int .i64 0] _ HD.out.boxQ.range Try.underlying31 rfl Try.sizeRequest ?_ | refine wpList_store_mid rfl 31 (.tmp 2) (.tmp 96) rfl w.heap.size 0 _ rfl rfl (HD.out.boxR.there 0 18 (by decide)) Try.sizeRequest (all_one rfl) ?_)
      refine ret_cell_tmp (g := w.heap.size) (cs := List.toArray [.int .i64 2, .int .i64 m.op, .string m.case_, .string m.type_, .string m.name, .int .i64 m.value.v.kind, .int .i64 m.value.v.n, .string m.value.v.t, .slice m.value.A m.value.v.s.length m.value.c, .slice m.argsA m.args.length m.argsC, .slice m.srcA m.source.length m.srcC, .int .i64 m.clock, .string ⟨#[]⟩, .int .i64 0, .int .i64 0, .int .i64 0, .int .i64 0, .int .i64 0]) rfl rfl Hz.out.1 Try.underlying31 rfl (by kernel_rfl) rfl ?_
      refine .inl ⟨(⟨2, m, ⟨#[]⟩, 0, 0, 0, 0, 0⟩ : MReq), ?_, rfl, ?_, ?_, Hz.out.2.1⟩
      · rw [HT.out, HE.out]; exact if_pos (by trivial)
      · exact (Hok.out.sub Hz.out.2.2 (fun k e => by omega)).weak (fun k e => by omega)
      · exact empty_size
    · have hdn' : (dn != 0) = true := bne_iff_ne.2 hdn
      have Hz := Lib.hid (HD.out.told zeroReqC rfl)
      go_wp2_with (refine wpList_store_mid rfl 31 (.tmp 2) (.tmp 95) rfl w.heap.size 0 _ rfl rfl (HD.out.boxR.there 0 18 (by decide)) Try.sizeRequest (all_one rfl) ?_)
      refine ret_cell_tmp (g := w.heap.size) (cs := zeroReqC.toArray) rfl rfl Hz.out.1 Try.underlying31 rfl (by kernel_rfl) rfl ?_
      exact .inr ⟨by rw [HT.out, HE.out, if_neg hdn], rfl, Hz.out.2.1⟩
  · have HE := Lib.hid (show decEnd bs (MReq.data (⟨2, m, ⟨#[]⟩, 0, 0, 0, 0, 0⟩ : MReq), decide (1 ≤ m.op ∧ m.op ≤ 5), sz) = none by rw [decide_eq_false ho]; simp [decEnd])
    rw [HE.out] at HT
    clear HE
    have hc : m.op < 1 ∨ (1 ≤ m.op ∧ 5 < m.op) := by omega
    clear ho
    rcases hc with o1 | ⟨o1, o2⟩
    all_goals
      go_upto_region 23 with (first | (refine wpList_store_mid rfl 29 (.tmp 32) (.tmp 31) rfl Q 1 _ rfl rfl (HD.out.boxQ.there 1 11 (by decide)) Try.sizeOperation (all_one rfl) ?_; rw [hwz]) | fail)
      clear c0 c1 hwz HD
      have HD := HD2
      clear HD2
      have Hz := Lib.hid (HD.out.told zeroReqC rfl)
      go_wp2_with (refine wpList_store_mid rfl 31 (.tmp 2) (.tmp 95) rfl w.heap.size 0 _ rfl rfl (HD.out.boxR.there 0 18 (by decide)) Try.sizeRequest (all_one rfl) ?_)
      refine ret_cell_tmp (g := w.heap.size) (cs := zeroReqC.toArray) rfl rfl Hz.out.1 Try.underlying31 rfl (by kernel_rfl) rfl ?_
      exact .inr ⟨HT.out, rfl, Hz.out.2.1⟩

end Go.Proofs.Ytnaolhjbapgjgaa
