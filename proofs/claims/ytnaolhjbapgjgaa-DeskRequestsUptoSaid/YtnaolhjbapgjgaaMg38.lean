import Derived.Test.YtnaolhjbapgjgaaMg37
import Derived.Deep.DeepCutAuto
/- Contract of docketref24.ReadRequest: op 1, do 4. -/
namespace Go.Proofs.Ytnaolhjbapgjgaa
open Go.RowKit

set_option maxRecDepth 100000 in
set_option maxHeartbeats 6400000 in
theorem read_1_4 (w : World) (A : Option Addr) (c : Nat) (bs : List UInt8) (hrd : Rd w 1 A bs.length (bs.map bv)) (hc : bs.length ≤ c) (hl : bs.length ≤ 2147483647) (hk : (lowL bs 1 ⟨0, false⟩).1 = 1) (hd : (lowL bs 1 (lowL bs 1 ⟨0, false⟩).2).1 = 4) :
    Calls Try.prog 24 #[.slice A bs.length c] w (ReadPost w (readReq bs)) := by
  have HT := Lib.hid (show readReq bs = backL bs (fldL bs 1 (lowL bs 1 ⟨0, false⟩).2) by rw [readReq, reqL, hk])
  generalize readReq bs = TV at HT ⊢
  have hlr0 : Lr ((w.alloc (.cells (List.toArray [.int .i64 0, .int .i64 0, .string ⟨#[]⟩, .string ⟨#[]⟩, .string ⟨#[]⟩, .int .i64 0, .int .i64 0, .string ⟨#[]⟩, .slice none 0 0, .slice none 0 0, .slice none 0 0, .int .i64 0, .string ⟨#[]⟩, .int .i64 0, .int .i64 0, .int .i64 0, .int .i64 0, .int .i64 0]) 31)).alloc (.cells #[.slice A bs.length c, .bool false] 81)) (w.heap.size + 1) bs ⟨0, false⟩ := by
    have h1 := Blk.new (w.alloc (.cells (List.toArray [.int .i64 0, .int .i64 0, .string ⟨#[]⟩, .string ⟨#[]⟩, .string ⟨#[]⟩, .int .i64 0, .int .i64 0, .string ⟨#[]⟩, .slice none 0 0, .slice none 0 0, .slice none 0 0, .int .i64 0, .string ⟨#[]⟩, .int .i64 0, .int .i64 0, .int .i64 0, .int .i64 0, .int .i64 0]) 31)) 81 #[.slice A bs.length c, .bool false]
    have e : (w.alloc (.cells (List.toArray [.int .i64 0, .int .i64 0, .string ⟨#[]⟩, .string ⟨#[]⟩, .string ⟨#[]⟩, .int .i64 0, .int .i64 0, .string ⟨#[]⟩, .slice none 0 0, .slice none 0 0, .slice none 0 0, .int .i64 0, .string ⟨#[]⟩, .int .i64 0, .int .i64 0, .int .i64 0, .int .i64 0, .int .i64 0]) 31)).heap.size = w.heap.size + 1 := by simp
    rw [e] at h1
    exact Lr.mk' h1 ((hrd.alloc _).alloc _) (fun hn ad e h => by have := hrd.lt (by decide) hn e; omega) hc (Nat.zero_le _) (by omega) rfl rfl
  have hR0 := (Blk.new w 31 (List.toArray [.int .i64 0, .int .i64 0, .string ⟨#[]⟩, .string ⟨#[]⟩, .string ⟨#[]⟩, .int .i64 0, .int .i64 0, .string ⟨#[]⟩, .slice none 0 0, .slice none 0 0, .slice none 0 0, .int .i64 0, .string ⟨#[]⟩, .int .i64 0, .int .i64 0, .int .i64 0, .int .i64 0, .int .i64 0])).alloc (.cells #[.slice A bs.length c, .bool false] 81)
  have ho0 : Old w _ := ((Kp.refl NoX w).alloc (.cells (List.toArray [.int .i64 0, .int .i64 0, .string ⟨#[]⟩, .string ⟨#[]⟩, .string ⟨#[]⟩, .int .i64 0, .int .i64 0, .string ⟨#[]⟩, .slice none 0 0, .slice none 0 0, .slice none 0 0, .int .i64 0, .string ⟨#[]⟩, .int .i64 0, .int .i64 0, .int .i64 0, .int .i64 0, .int .i64 0]) 31)).alloc (.cells #[.slice A bs.length c, .bool false] 81)
  have Hrd := Lib.hid hrd
  have Hl := Lib.hid hl
  have Hn := Lib.hid (low_num bs 1 ⟨0, false⟩ (by decide))
  have Hk := Lib.hid hk
  have Hd := Lib.hid hd
  clear hrd hk hl hc hd
  go_enter Try.func24, Try.ntmps24
  go_wp2_with fail
  generalize (w.alloc _).alloc _ = W0 at *
  refine (number_any W0 (w.heap.size + 1) bs 1 ⟨0, false⟩ hlr0 (by decide)).mono ?_
  rintro e w1 ⟨rfl, hL1, hk1⟩
  rw [Hn.out, Hk.out] at *
  simp only at hL1
  generalize (lowL bs 1 ⟨0, false⟩).2 = s1 at *
  have hD : RdSt w w.heap.size (w.heap.size + 1) w1.heap.size bs [.int .i64 1, .int .i64 0, .string ⟨#[]⟩, .string ⟨#[]⟩, .string ⟨#[]⟩, .int .i64 0, .int .i64 0, .string ⟨#[]⟩, .slice none 0 0, .slice none 0 0, .slice none 0 0, .int .i64 0, .string ⟨#[]⟩, .int .i64 0, .int .i64 0, .int .i64 0, .int .i64 0, .int .i64 0] s1 (w1.alloc (.cells (List.toArray [.int .i64 1, .int .i64 0, .string ⟨#[]⟩, .string ⟨#[]⟩, .string ⟨#[]⟩, .int .i64 0, .int .i64 0, .string ⟨#[]⟩, .slice none 0 0, .slice none 0 0, .slice none 0 0, .int .i64 0, .string ⟨#[]⟩, .int .i64 0, .int .i64 0, .int .i64 0, .int .i64 0, .int .i64 0]) 31)) :=
    ⟨Blk.new w1 _ _, (hR0.kp hk1 (fun e => by have : w.heap.size = w.heap.size + 1 := e; omega)).alloc _, hL1.old ((Kp.refl NoX w1).alloc _),
      (ho0.trans hk1 (fun b hb e => by have : b = w.heap.size + 1 := e; omega)).alloc _, rfl, Nat.lt_succ_self _, hL1.lt⟩
  have HD := Lib.hid hD
  clear hD hR0 ho0 hlr0 hL1 hk1
  go_upto_region 3 with (fail)
  generalize w1.alloc _ = w3 at *
  generalize w1.heap.size = Q at *
  have HT := Lib.hid (show TV = backL bs ({ zeroReq with op := 1, do_ := (opL bs 4 (lowL bs 1 s1).2).1 }, (opL bs 4 (lowL bs 1 s1).2).2) by
    rw [HT.out, fldL, if_pos (by simp), Hd.out]
    rfl)
  have Hn2 := Lib.hid (low_num bs 1 s1 (by decide))
  have c0 := HD.out.boxQ.at_ 0 (v := .int .i64 1) rfl
  go_wp2_with fail
  refine (number_any _ (w.heap.size + 1) bs 1 s1 HD.out.lr (by decide)).mono ?_
  rintro e v4 ⟨rfl, hr4, hk4⟩
  rw [Hn2.out, Hd.out] at *
  simp only at hr4
  have HD := Lib.hid (HD.out.step hr4 hk4)
  clear hr4 hk4 Hn2
  generalize (lowL bs 1 s1).2 = s2 at *
  have a1 := HD.out.boxQ.at_ 1 (v := .int .i64 0) rfl
  have z1 := HD.out.boxQ.frozen 1
  go_upto_region 7 with (fail)
  have HD := Lib.hid (show RdSt w w.heap.size (w.heap.size + 1) Q bs [.int .i64 1, .int .i64 4, .string ⟨#[]⟩, .string ⟨#[]⟩, .string ⟨#[]⟩, .int .i64 0, .int .i64 0, .string ⟨#[]⟩, .slice none 0 0, .slice none 0 0, .slice none 0 0, .int .i64 0, .string ⟨#[]⟩, .int .i64 0, .int .i64 0, .int .i64 0, .int .i64 0, .int .i64 0] s2 (v4.setCell ⟨Q, 1, none⟩ (.int .i64 4)) from HD.out.set 1 (.int .i64 4))
  clear a1 z1
  generalize v4.setCell _ _ = v5 at *
  clear c0
  have c1 := HD.out.boxQ.at_ 1 (v := .int .i64 4) rfl
  have HT := Lib.hid (show TV = backL bs ({ zeroReq with op := 1, do_ := { zeroOpn with op := 4, case_ := (textL bs s2).1, name := (textL bs (textL bs s2).2).1, args := (valsL bs (lowL bs 1 (textL bs (textL bs s2).2).2).1 (lowL bs 1 (textL bs (textL bs s2).2).2).2 []).1 } }, (valsL bs (lowL bs 1 (textL bs (textL bs s2).2).2).1 (lowL bs 1 (textL bs (textL bs s2).2).2).2 []).2) by
    rw [HT.out]
    rfl)
  go_wp2_with fail
  refine (btext_any _ (w.heap.size + 1) bs s2 HD.out.lr).mono ?_
  rintro e v6 ⟨rfl, hr6, hk6⟩
  have hzt1 := Lib.hid (textL_size bs s2 Hl.out)
  have HD := Lib.hid (HD.out.step hr6 hk6)
  clear hr6 hk6
  generalize (textL bs s2).2 = s3 at *
  generalize (textL bs s2).1 = t1 at *
  have a2 := HD.out.boxQ.at_ 2 (v := .string ⟨#[]⟩) rfl
  have z2 := HD.out.boxQ.frozen 2
  go_wp2_with fail
  have HD := Lib.hid (show RdSt w w.heap.size (w.heap.size + 1) Q bs [.int .i64 1, .int .i64 4, .string t1, .string ⟨#[]⟩, .string ⟨#[]⟩, .int .i64 0, .int .i64 0, .string ⟨#[]⟩, .slice none 0 0, .slice none 0 0, .slice none 0 0, .int .i64 0, .string ⟨#[]⟩, .int .i64 0, .int .i64 0, .int .i64 0, .int .i64 0, .int .i64 0] s3 (v6.setCell ⟨Q, 2, none⟩ (.string t1)) from HD.out.set 2 (.string t1))
  clear a2 z2
  generalize v6.setCell _ _ = v7 at *
  refine (btext_any _ (w.heap.size + 1) bs s3 HD.out.lr).mono ?_
  rintro e v8 ⟨rfl, hr8, hk8⟩
  have hzt2 := Lib.hid (textL_size bs s3 Hl.out)
  have HD := Lib.hid (HD.out.step hr8 hk8)
  clear hr8 hk8
  generalize (textL bs s3).2 = s4 at *
  generalize (textL bs s3).1 = t2 at *
  have a4 := HD.out.boxQ.at_ 4 (v := .string ⟨#[]⟩) rfl
  have z4 := HD.out.boxQ.frozen 4
  go_wp2_with fail
  have HD := Lib.hid (show RdSt w w.heap.size (w.heap.size + 1) Q bs [.int .i64 1, .int .i64 4, .string t1, .string ⟨#[]⟩, .string t2, .int .i64 0, .int .i64 0, .string ⟨#[]⟩, .slice none 0 0, .slice none 0 0, .slice none 0 0, .int .i64 0, .string ⟨#[]⟩, .int .i64 0, .int .i64 0, .int .i64 0, .int .i64 0, .int .i64 0] s4 (v8.setCell ⟨Q, 4, none⟩ (.string t2)) from HD.out.set 4 (.string t2))
  clear a4 z4
  generalize v8.setCell _ _ = v9 at *
  have Hn3 := Lib.hid (low_num bs 1 s4 (by decide))
  have hnn := lowL_lt bs s4
  refine (number_any _ (w.heap.size + 1) bs 1 s4 HD.out.lr (by decide)).mono ?_
  rintro e v50 ⟨rfl, hr50, hk50⟩
  rw [Hn3.out] at *
  simp only at hr50
  have HD := Lib.hid (HD.out.step hr50 hk50)
  clear hr50 hk50 Hn3
  generalize (lowL bs 1 s4).2 = s50 at *
  generalize (lowL bs 1 s4).1 = nn at *
  have Hnn := Lib.hid hnn
  obtain ⟨i0, hi, hz0, hz1, hz2⟩ := info_parts Try.info25
  go_wp2_with fail
  go_loopw [7] (fun i wr => ∃ (j : Nat) (ms : List MVal) (A1 : Option Addr) (c1 : Nat) (s : Ls), j ≤ nn ∧ i = .int .i64 j ∧ RdLoop w w.heap.size (w.heap.size + 1) Q bs 1 t1 t2 wr j ms A1 c1 s ∧ valsL bs nn s50 [] = valsL bs (nn - j) s (ms.map (·.v))) (fun i _ => nn - (intOf i).toNat)
  case atStart => exact ⟨0, [], none, 0, s50, Nat.zero_le _, rfl, ⟨rfl, World.ownsRow_nil _ _ _ _, (fun v hv => by simp at hv), HD.out⟩, rfl⟩
  case round =>
    obtain ⟨j, ms, A1, c1', s, hj, rfl, hL, hgo⟩ := hrel
    have HL := Lib.hid hL
    have Hgo := Lib.hid hgo
    have hjI : (j : Int) ≤ 255 := by omega
    have d1 : wr.cell? ⟨w.heap.size + 1, 1, none⟩ = some (.bool s.short) := by
      obtain ⟨Ar, cr, hbr, _⟩ := hL.st.lr
      exact hbr.at_ 1 (v := .bool s.short) rfl
    clear hL hgo HD
    by_cases hlt : j < nn
    · have hltI : (j : Int) < (nn : Int) := by omega
      cases hsh : s.short
      · rw [hsh] at d1
        obtain ⟨m, hm⟩ : ∃ m, nn - j = m + 1 := ⟨nn - j - 1, by omega⟩
        have Hgo := Lib.hid (show valsL bs nn s50 [] = valsL bs m (valueL bs s).2 (ms.map (·.v) ++ [(valueL bs s).1]) by
          rw [Hgo.out, hm, valsL, if_neg (by rw [hsh]; simp)])
        have Hm := Lib.hid hm
        clear hm
        have d9 := HL.out.st.boxQ.at_ 9 (v := .slice A1 j c1') rfl
        have z9 := HL.out.st.boxQ.frozen 9
        have hQ := HL.out.st.boxQ.lt
        have H63 := Lib.hid (show j + 1 ≤ maxLen by unfold maxLen; omega)
        have H47 := Lib.hid (show (j + 1) * 56 ≤ 140737488355328 by omega)
        have hneA : some Q ≠ (Value.slice A1 j c1').ownBlock := fun e => by rw [ownBlock_slice] at e; have := (own_ge HL.out.own e.symm).1; omega
        have HneA := Lib.hid hneA
        clear hneA
        go_upto_region 25 with (fail)
        have HLd := Lib.hid (HL.out.old (Kp.refl NoX wr).drew)
        have Hbv := Lib.hid (bvalue_any wr.drew (w.heap.size + 1) bs s HLd.out.st.lr)
        unfold TookW at Hbv
        generalize valueL bs s = tv at Hbv Hgo
        obtain ⟨⟨vk, vn, vt, vs⟩, sz⟩ := tv
        simp only [vV] at Hbv Hgo
        go_region_law (first
          | (go_simp; go_at_call 42; refine Hbv.out.mono ?_; rintro e w5 ⟨A5, c5, rfl, hrd5, hav5, hcap5, hbig5, hr5, hk5⟩; have HL5 := Lib.hid (HLd.out.step hr5 hk5); have e9 := HL5.out.st.boxQ.at_ 9 (v := .slice A1 j c1') rfl; have y9 := HL5.out.st.boxQ.frozen 9; have hQ5 := HL5.out.st.boxQ.lt)
          | (refine step_append_any _ rfl (.tmp 87) (.tmp 90) 26 rfl (Q + 1) 25 i0 (.agg #[.int .i64 0, .int .i64 0, .string ⟨#[]⟩, .slice none 0 0]) 4 56 Try.underlying26 hi hz0 hz1 hz2 rfl (by decide) (.slice A1 j c1') j _ rfl (HL5.out.own.alloc _) (some ⟨w5.heap.size, 0, none⟩) 1 1 _ rfl (Rd.four_new _ _ _ _ _ _) (four_value _ _ _ _ rfl rfl rfl rfl) H63.out H47.out ?_ ?_; (simp; omega); intro A' c' w7 hown hgrow hat; have hc7 := hgrow.cell (a := ⟨Q, 9, none⟩) (v := .slice A1 j c1') (cal e9 _) HneA.out; have hz7 : w7.frozen? ⟨Q, 9, none⟩ = false := (World.frozen?_of_block (hgrow.block Q (by simp; omega) HneA.out)).trans (by simp [y9, World.frozen?_alloc_past, hQ5]))
          | fail)
        all_goals
          have hv6 : MVal.Ok w5 (fun b => b ≤ Q ∨ A1.map (·.block) = some b) ⟨⟨vk, vn, vt, vs⟩, A5, c5⟩ := ⟨hrd5, fun hn ad e hx => hav5 hn ad e (by
            rcases hx with hx | hx
            · exact Nat.lt_of_le_of_lt hx hQ
            · exact (own_ge HLd.out.own hx).2), hcap5, hbig5⟩
          have Hput := Lib.hid (RdLoop.put (HL5.out.old ((Kp.refl NoX w5).alloc (.cells #[.int .i64 vk, .int .i64 vn, .string vt, .slice A5 vs.length c5] 25))) (hv6.old ((Kp.refl NoX w5).alloc (.cells #[.int .i64 vk, .int .i64 vn, .string vt, .slice A5 vs.length c5] 25))) hown hgrow hat)
          clear hv6 hown hgrow hat hrd5 hav5 hcap5 hbig5 hr5 hk5 e9 y9 hQ5 hc7 hz7 d9 z9
          go_wp2
          go_roundw
          case rel => exact ⟨j + 1, _, _, _, _, by omega, by go_num, Hput.out, by rw [Hgo.out, List.map_append, show nn - (j + 1) = m by have := Hm.out; omega]; rfl⟩
          case measure => simp [intOf]; omega
      · rw [hsh] at d1
        have Hvs := Lib.hid (show valsL bs nn s50 [] = (ms.map (·.v), s) by
          obtain ⟨m, hm⟩ : ∃ m, nn - j = m + 1 := ⟨nn - j - 1, by omega⟩
          rw [Hgo.out, hm, valsL, if_pos hsh])
        obtain rfl : ms.length = j := HL.out.len
        go_upto_region 45 with (fail)
        have HD : Hid (RdSt w w.heap.size (w.heap.size + 1) Q bs [.int .i64 1, .int .i64 4, .string t1, .string ⟨#[]⟩, .string t2, .int .i64 0, .int .i64 0, .string ⟨#[]⟩, .slice none 0 0, .slice A1 ms.length c1', .slice none 0 0, .int .i64 0, .string ⟨#[]⟩, .int .i64 0, .int .i64 0, .int .i64 0, .int .i64 0, .int .i64 0] s wr) := Lib.hid HL.out.st
        have HT := Lib.hid (show TV = backL bs (MReq.data (⟨1, (⟨4, t1, ⟨#[]⟩, t2, ⟨⟨0, 0, ⟨#[]⟩, []⟩, none, 0⟩, ms, A1, c1', [], none, 0, 0⟩ : MOp), ⟨#[]⟩, 0, 0, 0, 0, 0⟩ : MReq), s) by
          rw [HT.out, Hvs.out]
          rfl)
        have Hok := Lib.hid (show MOp.Ok wr (fun k => k ≤ w.heap.size + 1) (⟨4, t1, ⟨#[]⟩, t2, ⟨⟨0, 0, ⟨#[]⟩, []⟩, none, 0⟩, ms, A1, c1', [], none, 0, 0⟩ : MOp) from HL.out.ok hzt1.out hzt2.out (by have := Hnn.out; omega))
        clear HL Hgo Hvs d1 hsh
        generalize s = sz at *
        generalize wr = wz at *
        obtain ⟨p0, sh0⟩ := sz
        have d0 : wz.cell? ⟨w.heap.size + 1, 1, none⟩ = some (.bool sh0) := by
          obtain ⟨Ar, cr, hbr, _⟩ := HD.out.lr
          exact hbr.at_ 1 (v := .bool sh0) rfl
        cases sh0
        case true =>
          have HN := Lib.hid (show TV = none by rw [HT.out, backL, if_neg (by simp)])
          have Hz := Lib.hid (HD.out.told zeroReqC rfl)
          go_wp2_with (first | refine wpList_store_mid rfl 31 (.tmp 2) (.tmp 156) rfl w.heap.size 0 _ rfl rfl (HD.out.boxR.there 0 18 (by decide)) Try.sizeRequest (all_one rfl) ?_ | fail)
          refine ret_cell_tmp (g := w.heap.size) (cs := zeroReqC.toArray) rfl rfl Hz.out.1 Try.underlying31 rfl (by kernel_rfl) rfl ?_
          exact .inr ⟨HN.out, rfl, Hz.out.2.1⟩
        have Hmok := Lib.hid (show MReq.Ok wz (⟨1, (⟨4, t1, ⟨#[]⟩, t2, ⟨⟨0, 0, ⟨#[]⟩, []⟩, none, 0⟩, ms, A1, c1', [], none, 0, 0⟩ : MOp), ⟨#[]⟩, 0, 0, 0, 0, 0⟩ : MReq) from ⟨Hok.out.weak (fun k e => e.elim), by exact Nat.zero_le _⟩)
        have HM := Lib.hid (rreq_any (⟨1, (⟨4, t1, ⟨#[]⟩, t2, ⟨⟨0, 0, ⟨#[]⟩, []⟩, none, 0⟩, ms, A1, c1', [], none, 0, 0⟩ : MOp), ⟨#[]⟩, 0, 0, 0, 0, 0⟩ : MReq) wz Hmok.out)
        have Hraw := Lib.hid (Hrd.out.old HD.out.old)
        have HB := Lib.hid (show ∀ b : Bool, b = decide (encReq (MReq.data (⟨1, (⟨4, t1, ⟨#[]⟩, t2, ⟨⟨0, 0, ⟨#[]⟩, []⟩, none, 0⟩, ms, A1, c1', [], none, 0, 0⟩ : MOp), ⟨#[]⟩, 0, 0, 0, 0, 0⟩ : MReq)) = some bs) → TV = if b = true then some (MReq.data (⟨1, (⟨4, t1, ⟨#[]⟩, t2, ⟨⟨0, 0, ⟨#[]⟩, []⟩, none, 0⟩, ms, A1, c1', [], none, 0, 0⟩ : MOp), ⟨#[]⟩, 0, 0, 0, 0, 0⟩ : MReq)) else none from fun b hb => by
          rw [HT.out, backL, hb]
          simp)
        go_wp2_with (first | refine Try.load_wanted rfl 31 (.tmp 5) rfl Q 0 rfl [.int .i64 1, .int .i64 4, .string t1, .string ⟨#[]⟩, .string t2, .int .i64 0, .int .i64 0, .string ⟨#[]⟩, .slice none 0 0, .slice A1 ms.length c1', .slice none 0 0, .int .i64 0, .string ⟨#[]⟩, .int .i64 0, .int .i64 0, .int .i64 0, .int .i64 0, .int .i64 0] _ HD.out.boxQ.range Try.underlying31 rfl Try.sizeRequest ?_ | fail)
        refine HM.out.mono ?_
        clear d0 HM Hmok
        rintro e w5 (⟨le, Ae, ce, hle, hne, rfl, hrow, ho5⟩ | ⟨hno, rfl, ho5⟩)
        · obtain ⟨ge, rfl, hge⟩ := hrow.some_ hne
          have HD := Lib.hid (HD.out.still ho5)
          have Hok := Lib.hid (Hok.out.old ho5)
          have HS := Lib.hid (rsame_some w5 ge 0 A ce c le bs hrow.rd (Hraw.out.old ho5) (by have := encReq_le hle; omega))
          have HBB := Lib.hid (HB.out (decide (le = bs)) (by rw [hle]; simp))
          clear ho5 hrow hne hle HB Hraw
          generalize decide (le = bs) = bb at HS HBB
          go_wp2_with fail
          refine HS.out.mono ?_
          rintro e w6 ⟨rfl, ho6⟩
          have HD := Lib.hid (HD.out.still ho6)
          have Hok := Lib.hid (Hok.out.old ho6)
          clear ho6 HS
          cases bb
          · have Hz := Lib.hid (HD.out.told zeroReqC rfl)
            go_wp2_with (first | refine wpList_store_mid rfl 31 (.tmp 2) (.tmp 156) rfl w.heap.size 0 _ rfl rfl (HD.out.boxR.there 0 18 (by decide)) Try.sizeRequest (all_one rfl) ?_ | fail)
            refine ret_cell_tmp (g := w.heap.size) (cs := zeroReqC.toArray) rfl rfl Hz.out.1 Try.underlying31 rfl (by kernel_rfl) rfl ?_
            exact .inr ⟨HBB.out, rfl, Hz.out.2.1⟩
          · have Hz := Lib.hid (HD.out.told [.int .i64 1, .int .i64 4, .string t1, .string ⟨#[]⟩, .string t2, .int .i64 0, .int .i64 0, .string ⟨#[]⟩, .slice none 0 0, .slice A1 ms.length c1', .slice none 0 0, .int .i64 0, .string ⟨#[]⟩, .int .i64 0, .int .i64 0, .int .i64 0, .int .i64 0, .int .i64 0] rfl)
            go_wp2_with (first | refine wpList_load_mid rfl 31 (.tmp 5) rfl Q 0 rfl [.int .i64 1, .int .i64 4, .string t1, .string ⟨#[]⟩, .string t2, .int .i64 0, .int .i64 0, .string ⟨#[]⟩, .slice none 0 0, .slice A1 ms.length c1', .slice none 0 0, .int .i64 0, .string ⟨#[]⟩, .int .i64 0, .int .i64 0, .int .i64 0, .int .i64 0, .int .i64 0] _ HD.out.boxQ.range Try.underlying31 rfl Try.sizeRequest ?_ | refine wpList_store_mid rfl 31 (.tmp 2) (.tmp 157) rfl w.heap.size 0 _ rfl rfl (HD.out.boxR.there 0 18 (by decide)) Try.sizeRequest (all_one rfl) ?_ | fail)
            refine ret_cell_tmp (g := w.heap.size) (cs := List.toArray [.int .i64 1, .int .i64 4, .string t1, .string ⟨#[]⟩, .string t2, .int .i64 0, .int .i64 0, .string ⟨#[]⟩, .slice none 0 0, .slice A1 ms.length c1', .slice none 0 0, .int .i64 0, .string ⟨#[]⟩, .int .i64 0, .int .i64 0, .int .i64 0, .int .i64 0, .int .i64 0]) rfl rfl Hz.out.1 Try.underlying31 rfl (by kernel_rfl) rfl ?_
            refine .inl ⟨(⟨1, (⟨4, t1, ⟨#[]⟩, t2, ⟨⟨0, 0, ⟨#[]⟩, []⟩, none, 0⟩, ms, A1, c1', [], none, 0, 0⟩ : MOp), ⟨#[]⟩, 0, 0, 0, 0, 0⟩ : MReq), HBB.out, rfl, ?_, ?_, Hz.out.2.1⟩
            · exact (Hok.out.sub Hz.out.2.2 (fun k e => by have h1 : k = w.heap.size := e; show k ≤ w.heap.size + 1; omega)).weak (fun k e => by have h1 : k < w.heap.size := e; show k ≤ w.heap.size + 1; omega)
            · exact Nat.zero_le _
        · have HD := Lib.hid (HD.out.still ho5)
          have HS := Lib.hid (rsame_nil w5 A c bs.length)
          have HBB := Lib.hid (HB.out false (by rw [hno]; simp))
          clear ho5 hno HB Hraw
          go_wp2_with fail
          refine HS.out.mono ?_
          rintro e w6 ⟨rfl, ho6⟩
          have HD := Lib.hid (HD.out.still ho6)
          clear ho6 HS
          have Hz := Lib.hid (HD.out.told zeroReqC rfl)
          go_wp2_with (first | refine wpList_store_mid rfl 31 (.tmp 2) (.tmp 156) rfl w.heap.size 0 _ rfl rfl (HD.out.boxR.there 0 18 (by decide)) Try.sizeRequest (all_one rfl) ?_ | fail)
          refine ret_cell_tmp (g := w.heap.size) (cs := zeroReqC.toArray) rfl rfl Hz.out.1 Try.underlying31 rfl (by kernel_rfl) rfl ?_
          exact .inr ⟨HBB.out, rfl, Hz.out.2.1⟩
    · have hltI : ¬ (j : Int) < (nn : Int) := by omega
      have Hvs := Lib.hid (show valsL bs nn s50 [] = (ms.map (·.v), s) by
        rw [Hgo.out, show nn - j = 0 by omega, valsL])
      obtain rfl : ms.length = j := HL.out.len
      go_upto_region 45 with (fail)
      have HD : Hid (RdSt w w.heap.size (w.heap.size + 1) Q bs [.int .i64 1, .int .i64 4, .string t1, .string ⟨#[]⟩, .string t2, .int .i64 0, .int .i64 0, .string ⟨#[]⟩, .slice none 0 0, .slice A1 ms.length c1', .slice none 0 0, .int .i64 0, .string ⟨#[]⟩, .int .i64 0, .int .i64 0, .int .i64 0, .int .i64 0, .int .i64 0] s wr) := Lib.hid HL.out.st
      have HT := Lib.hid (show TV = backL bs (MReq.data (⟨1, (⟨4, t1, ⟨#[]⟩, t2, ⟨⟨0, 0, ⟨#[]⟩, []⟩, none, 0⟩, ms, A1, c1', [], none, 0, 0⟩ : MOp), ⟨#[]⟩, 0, 0, 0, 0, 0⟩ : MReq), s) by
        rw [HT.out, Hvs.out]
        rfl)
      have Hok := Lib.hid (show MOp.Ok wr (fun k => k ≤ w.heap.size + 1) (⟨4, t1, ⟨#[]⟩, t2, ⟨⟨0, 0, ⟨#[]⟩, []⟩, none, 0⟩, ms, A1, c1', [], none, 0, 0⟩ : MOp) from HL.out.ok hzt1.out hzt2.out (by have := Hnn.out; omega))
      clear HL Hgo Hvs d1
      generalize s = sz at *
      generalize wr = wz at *
      obtain ⟨p0, sh0⟩ := sz
      have d0 : wz.cell? ⟨w.heap.size + 1, 1, none⟩ = some (.bool sh0) := by
        obtain ⟨Ar, cr, hbr, _⟩ := HD.out.lr
        exact hbr.at_ 1 (v := .bool sh0) rfl
      cases sh0
      case true =>
        have HN := Lib.hid (show TV = none by rw [HT.out, backL, if_neg (by simp)])
        have Hz := Lib.hid (HD.out.told zeroReqC rfl)
        go_wp2_with (first | refine wpList_store_mid rfl 31 (.tmp 2) (.tmp 156) rfl w.heap.size 0 _ rfl rfl (HD.out.boxR.there 0 18 (by decide)) Try.sizeRequest (all_one rfl) ?_ | fail)
        refine ret_cell_tmp (g := w.heap.size) (cs := zeroReqC.toArray) rfl rfl Hz.out.1 Try.underlying31 rfl (by kernel_rfl) rfl ?_
        exact .inr ⟨HN.out, rfl, Hz.out.2.1⟩
      have Hmok := Lib.hid (show MReq.Ok wz (⟨1, (⟨4, t1, ⟨#[]⟩, t2, ⟨⟨0, 0, ⟨#[]⟩, []⟩, none, 0⟩, ms, A1, c1', [], none, 0, 0⟩ : MOp), ⟨#[]⟩, 0, 0, 0, 0, 0⟩ : MReq) from ⟨Hok.out.weak (fun k e => e.elim), by exact Nat.zero_le _⟩)
      have HM := Lib.hid (rreq_any (⟨1, (⟨4, t1, ⟨#[]⟩, t2, ⟨⟨0, 0, ⟨#[]⟩, []⟩, none, 0⟩, ms, A1, c1', [], none, 0, 0⟩ : MOp), ⟨#[]⟩, 0, 0, 0, 0, 0⟩ : MReq) wz Hmok.out)
      have Hraw := Lib.hid (Hrd.out.old HD.out.old)
      have HB := Lib.hid (show ∀ b : Bool, b = decide (encReq (MReq.data (⟨1, (⟨4, t1, ⟨#[]⟩, t2, ⟨⟨0, 0, ⟨#[]⟩, []⟩, none, 0⟩, ms, A1, c1', [], none, 0, 0⟩ : MOp), ⟨#[]⟩, 0, 0, 0, 0, 0⟩ : MReq)) = some bs) → TV = if b = true then some (MReq.data (⟨1, (⟨4, t1, ⟨#[]⟩, t2, ⟨⟨0, 0, ⟨#[]⟩, []⟩, none, 0⟩, ms, A1, c1', [], none, 0, 0⟩ : MOp), ⟨#[]⟩, 0, 0, 0, 0, 0⟩ : MReq)) else none from fun b hb => by
        rw [HT.out, backL, hb]
        simp)
      go_wp2_with (first | refine Try.load_wanted rfl 31 (.tmp 5) rfl Q 0 rfl [.int .i64 1, .int .i64 4, .string t1, .string ⟨#[]⟩, .string t2, .int .i64 0, .int .i64 0, .string ⟨#[]⟩, .slice none 0 0, .slice A1 ms.length c1', .slice none 0 0, .int .i64 0, .string ⟨#[]⟩, .int .i64 0, .int .i64 0, .int .i64 0, .int .i64 0, .int .i64 0] _ HD.out.boxQ.range Try.underlying31 rfl Try.sizeRequest ?_ | fail)
      refine HM.out.mono ?_
      clear d0 HM Hmok
      rintro e w5 (⟨le, Ae, ce, hle, hne, rfl, hrow, ho5⟩ | ⟨hno, rfl, ho5⟩)
      · obtain ⟨ge, rfl, hge⟩ := hrow.some_ hne
        have HD := Lib.hid (HD.out.still ho5)
        have Hok := Lib.hid (Hok.out.old ho5)
        have HS := Lib.hid (rsame_some w5 ge 0 A ce c le bs hrow.rd (Hraw.out.old ho5) (by have := encReq_le hle; omega))
        have HBB := Lib.hid (HB.out (decide (le = bs)) (by rw [hle]; simp))
        clear ho5 hrow hne hle HB Hraw
        generalize decide (le = bs) = bb at HS HBB
        go_wp2_with fail
        refine HS.out.mono ?_
        rintro e w6 ⟨rfl, ho6⟩
        have HD := Lib.hid (HD.out.still ho6)
        have Hok := Lib.hid (Hok.out.old ho6)
        clear ho6 HS
        cases bb
        · have Hz := Lib.hid (HD.out.told zeroReqC rfl)
          go_wp2_with (first | refine wpList_store_mid rfl 31 (.tmp 2) (.tmp 156) rfl w.heap.size 0 _ rfl rfl (HD.out.boxR.there 0 18 (by decide)) Try.sizeRequest (all_one rfl) ?_ | fail)
          refine ret_cell_tmp (g := w.heap.size) (cs := zeroReqC.toArray) rfl rfl Hz.out.1 Try.underlying31 rfl (by kernel_rfl) rfl ?_
          exact .inr ⟨HBB.out, rfl, Hz.out.2.1⟩
        · have Hz := Lib.hid (HD.out.told [.int .i64 1, .int .i64 4, .string t1, .string ⟨#[]⟩, .string t2, .int .i64 0, .int .i64 0, .string ⟨#[]⟩, .slice none 0 0, .slice A1 ms.length c1', .slice none 0 0, .int .i64 0, .string ⟨#[]⟩, .int .i64 0, .int .i64 0, .int .i64 0, .int .i64 0, .int .i64 0] rfl)
          go_wp2_with (first | refine wpList_load_mid rfl 31 (.tmp 5) rfl Q 0 rfl [.int .i64 1, .int .i64 4, .string t1, .string ⟨#[]⟩, .string t2, .int .i64 0, .int .i64 0, .string ⟨#[]⟩, .slice none 0 0, .slice A1 ms.length c1', .slice none 0 0, .int .i64 0, .string ⟨#[]⟩, .int .i64 0, .int .i64 0, .int .i64 0, .int .i64 0, .int .i64 0] _ HD.out.boxQ.range Try.underlying31 rfl Try.sizeRequest ?_ | refine wpList_store_mid rfl 31 (.tmp 2) (.tmp 157) rfl w.heap.size 0 _ rfl rfl (HD.out.boxR.there 0 18 (by decide)) Try.sizeRequest (all_one rfl) ?_ | fail)
          refine ret_cell_tmp (g := w.heap.size) (cs := List.toArray [.int .i64 1, .int .i64 4, .string t1, .string ⟨#[]⟩, .string t2, .int .i64 0, .int .i64 0, .string ⟨#[]⟩, .slice none 0 0, .slice A1 ms.length c1', .slice none 0 0, .int .i64 0, .string ⟨#[]⟩, .int .i64 0, .int .i64 0, .int .i64 0, .int .i64 0, .int .i64 0]) rfl rfl Hz.out.1 Try.underlying31 rfl (by kernel_rfl) rfl ?_
          refine .inl ⟨(⟨1, (⟨4, t1, ⟨#[]⟩, t2, ⟨⟨0, 0, ⟨#[]⟩, []⟩, none, 0⟩, ms, A1, c1', [], none, 0, 0⟩ : MOp), ⟨#[]⟩, 0, 0, 0, 0, 0⟩ : MReq), HBB.out, rfl, ?_, ?_, Hz.out.2.1⟩
          · exact (Hok.out.sub Hz.out.2.2 (fun k e => by have h1 : k = w.heap.size := e; show k ≤ w.heap.size + 1; omega)).weak (fun k e => by have h1 : k < w.heap.size := e; show k ≤ w.heap.size + 1; omega)
          · exact Nat.zero_le _
      · have HD := Lib.hid (HD.out.still ho5)
        have HS := Lib.hid (rsame_nil w5 A c bs.length)
        have HBB := Lib.hid (HB.out false (by rw [hno]; simp))
        clear ho5 hno HB Hraw
        go_wp2_with fail
        refine HS.out.mono ?_
        rintro e w6 ⟨rfl, ho6⟩
        have HD := Lib.hid (HD.out.still ho6)
        clear ho6 HS
        have Hz := Lib.hid (HD.out.told zeroReqC rfl)
        go_wp2_with (first | refine wpList_store_mid rfl 31 (.tmp 2) (.tmp 156) rfl w.heap.size 0 _ rfl rfl (HD.out.boxR.there 0 18 (by decide)) Try.sizeRequest (all_one rfl) ?_ | fail)
        refine ret_cell_tmp (g := w.heap.size) (cs := zeroReqC.toArray) rfl rfl Hz.out.1 Try.underlying31 rfl (by kernel_rfl) rfl ?_
        exact .inr ⟨HBB.out, rfl, Hz.out.2.1⟩

end Go.Proofs.Ytnaolhjbapgjgaa
