import Derived.Test.YtmmjcbbogokmfaaGreatDoorMg42
/- Contract of the machine's worded. -/
namespace Go.Proofs.YtmmjcbbogokmfaaGreatDoor
open Go.RowKit

theorem try_len (st : List Nat) (h5 : ∀ n ∈ st, n < 85) (hl : st.length ≤ 1000000) (best : List UInt8) (hb : best.length ≤ 20000000) (t : Nat) (ht : t < 58) (more : List UInt8) (hm : more.length ≤ 100) : (tryN st best t more).length ≤ 20000000 := by
  unfold tryN
  split
  · rename_i hq
    obtain ⟨n, _, _, hlen⟩ := with_ready t ht st h5 hq
    have := (rest_len (withN t st)).1
    simp only
    split
    · rw [List.length_append]; omega
    · exact hb
  · exact hb
/-- while words are tried: the machine's box, the best's box -/
structure WdSt (w : World) (g : Nat) (wr : World) (p : Option Addr) (best : List UInt8) : Prop where
  old : Old w wr
  bm : Blk wr w.heap.size 155 #[.pointer (some ⟨g, 0, none⟩)]
  bb : Blk wr (w.heap.size + 1) 166 #[.pointer p]
  rp : Rp wr p best
  len : best.length ≤ 20000000
theorem WdSt.try_ {w : World} (hg : Sg w) {g : Nat} {r : Option Nat} {src : ByteArray} {m : Mc} {A : Option Addr} {c : Nat} (h : Mac w g r src m A c) (hp : Pos m.stack) (hl : m.stack.length ≤ 1000000) {wr : World} {p : Option Addr} {best : List UInt8} (hs : WdSt w g wr p best) (t : Nat) (h1 : 1 ≤ t) (h2 : t < 58) (more : ByteArray) (hm : more.size ≤ 100) :
    Calls Tryz.prog 175 #[yv t, .string more, .pointer (some ⟨w.heap.size, 0, none⟩), .pointer (some ⟨w.heap.size + 1, 0, none⟩)] wr fun e w' => e = .returned (.tuple #[]) ∧ ∃ p', WdSt w g w' p' (tryN m.stack best t (sb more)) := by
  refine (try_any wr (hg.old hs.old) g r src m A c (h.old hs.old) hp hl _ _ hs.bm p hs.bb best hs.rp (by have := hs.len; omega) t h1 h2 more hm).mono ?_
  rintro e w' ⟨he, p', hb, hr, hk⟩
  exact ⟨he, p', hs.old.trans hk (fun b hb e => by omega), hs.bm.kp hk (by omega), hb, hr, try_len m.stack h.sym hl best hs.len t h2 _ (by rw [sb_length]; exact hm)⟩
theorem tries_drop (st : List Nat) (w : List UInt8) (j : Nat) (hj : j < resL.length) (best : List UInt8) : triesN st w (resL.drop j) j best = triesN st w (resL.drop (j + 1)) (j + 1) (if w.isPrefixOf resL[j] = true then tryN st best (23 + j) (resL[j].drop w.length) else best) := by
  rw [List.drop_eq_getElem_cons hj]
  rfl
theorem res_len (j : Nat) (hj : j < resL.length) : resL[j].length ≤ 20 := by
  have h : ∀ x ∈ resL, x.length ≤ 20 := by decide +kernel
  exact h _ (List.getElem_mem hj)
theorem pre_len {a b : List UInt8} (h : a.isPrefixOf b = true) : a.length ≤ b.length := by
  rw [List.isPrefixOf_iff_prefix] at h
  exact h.length_le
set_option maxRecDepth 100000 in
set_option maxHeartbeats 3200000 in
theorem worded_end (w : World) (hg : Sg w) (g : Nat) (r : Option Nat) (src : ByteArray) (m : Mc) (A : Option Addr) (c : Nat) (h : Mac w g r src m A c) (hp : Pos m.stack) (hl : m.stack.length ≤ 1000000) (hf : m.from_ < src.size) :
    Calls Tryz.prog 143 #[.pointer (some ⟨g, 0, none⟩)] w fun e w' => ∃ p, e = .returned (.pointer p) ∧ Rp w' p (wordEnd m.stack ((sb src).drop m.from_)) ∧ Old w w' ∧ (wordEnd m.stack ((sb src).drop m.from_)).length ≤ 20000000 := by
  have hwd : sb (src.extract m.from_ src.size) = (sb src).drop m.from_ := by
    rw [sb_extract, List.take_of_length_le (by rw [List.length_drop, sb_length]; exact Nat.le_refl _)]
  have hsz : (src.extract m.from_ src.size).size = src.size - m.from_ := by rw [← sb_length, hwd, List.length_drop, sb_length]
  rw [← hwd]
  generalize hws : src.extract m.from_ src.size = ws at *
  have hw0 : 0 < ws.size := by omega
  have Hhd := Lib.hid (sb_head ws hw0)
  have HT := Lib.hid (fun wr p best (hs : WdSt w g wr p best) t h1 h2 more hm => hs.try_ hg h hp hl t h1 h2 more hm)
  have HD := Lib.hid (fun W => digit_any W (ws[0]'hw0))
  have HL := Lib.hid (fun W (hW : Old w W) => legal_any9 W (hg.old hW) ws)
  have HN := Lib.hid (fun W => startsName_any W ws)
  have Hres := Lib.hid (show wordEnd m.stack (sb ws) = if digC ((sb ws).headD 0) = true then tryN m.stack (triesN m.stack (sb ws) (resL.drop 0) 0 []) 2 [] else if legalB (sb ws) = true then tryN m.stack (triesN m.stack (sb ws) (resL.drop 0) 0 []) 1 [] else if (sb ws).length < 64 ∧ startsNameB (sb ws) = true then tryN m.stack (triesN m.stack (sb ws) (resL.drop 0) 0 []) 1 [48] else triesN m.stack (sb ws) (resL.drop 0) 0 [] from rfl)
  rw [Hhd.out, sb_length] at Hres
  have hc0 := h.c0
  have hc4 := h.c4
  have HM := Lib.hid h
  have Hg := Lib.hid hg.res
  have H0 := Lib.hid (fun n => show WdSt w g (((w.alloc (.cells #[.pointer (some ⟨g, 0, none⟩)] 155)).drewN n).alloc (.cells #[.pointer none] 166)) none [] from by
    have b1 : Blk (((w.alloc (.cells #[.pointer (some ⟨g, 0, none⟩)] 155)).drewN n).alloc (.cells #[.pointer none] 166)) w.heap.size 155 #[.pointer (some ⟨g, 0, none⟩)] := ((Blk.new _ _ _).drewN n).alloc _
    have b2 := Blk.new ((w.alloc (.cells #[.pointer (some ⟨g, 0, none⟩)] 155)).drewN n) 166 #[.pointer none]
    rw [show ((w.alloc (.cells #[.pointer (some ⟨g, 0, none⟩)] 155)).drewN n).heap.size = w.heap.size + 1 by simp] at b2
    exact ⟨(((Kp.refl NoX w).alloc _).drewN n).alloc _, b1, b2, .nil, by decide⟩)
  generalize wordEnd m.stack (sb ws) = Z at *
  generalize hbd : digC (ws[0]'hw0) = bd at *
  generalize hbl : legalB (sb ws) = bl at *
  generalize hbn : startsNameB (sb ws) = bn at *
  generalize hR : triesN m.stack (sb ws) (resL.drop 0) 0 [] = R at *
  have HR := Lib.hid hR.symm
  have HG := Lib.hid (fun W (hW : Old w W) => (hg.old hW).res)
  have Hx := Lib.hid (fun j (hj : j < 35) => wvs_at resL j hj)
  have Hsz := Lib.hid (show (Tryz.prog.info? 205).map (·.size) = some (wvs resL).length from Tryz.size35)
  have hmf : ∀ (fn : Fn) (first cap : Array Value) (w : World), (Instr.makeFunc fn first cap).run Tryz.prog w = .ok (.func fn first cap) w := fun _ _ _ _ => rfl
  generalize hcs : wvs resL = cs at *
  have a1 : (m.from_ : Int) ≤ (src.size : Int) := by omega
  have a2 : (0 : Int) ≤ (m.from_ : Int) := by omega
  have a3 : (m.from_ : Int).toNat = m.from_ := by omega
  have b0 : (0 : Int) < (ws.size : Int) := by omega
  clear hcs hR hbd hbl hbn h hg hp hl hwd Hhd Hg
  clear hf hsz
  generalize m.stack = st at *
  unfold yv at *
  go_enter Tryz.func143, Tryz.ntmps143
  go_wp2
  have hM1 := HM.out.old ((Kp.refl NoX w).alloc (.cells #[.pointer (some ⟨g, 0, none⟩)] 155))
  have d0 := hM1.c0
  have d4 := hM1.c4
  have d5 : (w.alloc (.cells #[.pointer (some ⟨g, 0, none⟩)] 155)).cell? ⟨w.heap.size, 0, none⟩ = some (.pointer (some ⟨g, 0, none⟩)) := (Blk.new w 155 #[.pointer (some ⟨g, 0, none⟩)]).at_ 0 rfl
  clear hM1
  go_quiet (fail)
  clear d0 d4 d5
  have Hold0 := Lib.hid ((H0.out nq).old)
  go_wp2_with (first | ((with_reducible refine at_loadE 205 (.global 0) ?_); refine Tryz.load_w rfl 205 (.global 0) rfl 0 0 rfl cs _ (HG.out _ Hold0.out) Tryz.underlying205 rfl Hsz.out ?_) | fail)
  go_loopw [19] (fun i wr => ∃ (j : Nat) (p : Option Addr) (best : List UInt8), j ≤ 35 ∧ i = .int .i64 j ∧ WdSt w g wr p best ∧ R = triesN st (sb ws) (resL.drop j) j best) (fun i _ => 35 - (intOf i).toNat)
  case atStart => exact ⟨0, none, [], by omega, rfl, H0.out nq, HR.out⟩
  case round =>
    clear H0 HR Hold0
    obtain ⟨j, p, best, hj, rfl, hst, hR⟩ := hrel
    have HSt := Lib.hid hst
    clear hst
    by_cases hlt : j < 35
    · have hx := Hx.out j hlt
      have hrl := res_len j hlt
      rw [tries_drop st (sb ws) j hlt] at hR
      generalize resL[j]'hlt = rw at *
      have hsx : sb (⟨rw.toArray⟩ : ByteArray) = rw := sb_mk rw
      generalize (⟨rw.toArray⟩ : ByteArray) = x at *
      subst hsx
      have b1 : (j : Int) < 35 := by omega
      have b2 : (0 : Int) ≤ (j : Int) := by omega
      have b3 : (j : Int).toNat = j := by omega
      have b4 : IntKind.u8.wrap (j : Int) = (j : Int) := IntWalk.u8_in _ (by omega)
      have b5 : IntKind.u8.wrap (23 + (j : Int)) = ((23 + j : Nat) : Int) := by rw [show (23 + (j : Int)) = ((23 + j : Nat) : Int) by omega]; exact IntWalk.u8_in _ (by omega)
      have b6 : IntKind.i64.wrap ((j : Int) + 1) = (j : Int) + 1 := IntWalk.i64_in _ (by omega)
      have hix := fun w' => Tryz.index35 w' cs j _ hx hlt
      have HP := Lib.hid (fun W => prefix_any W x ws)
      clear hx
      by_cases hpre : (sb ws).isPrefixOf (sb x) = true
      · have hle := pre_len hpre
        rw [sb_length, sb_length] at hle
        rw [hpre] at HP
        rw [if_pos hpre, show (sb x).drop (sb ws).length = sb (x.extract ws.size x.size) by rw [sb_extract, List.take_of_length_le (by rw [List.length_drop, sb_length]; exact Nat.le_refl _), sb_length]] at hR
        have hes : (x.extract ws.size x.size).size ≤ 100 := by rw [← sb_length, sb_extract, List.length_take, List.length_drop]; rw [sb_length] at hrl ⊢; omega
        have c1 : (ws.size : Int) ≤ (x.size : Int) := by omega
        have c2 : (0 : Int) ≤ (ws.size : Int) := by omega
        have c3 : (ws.size : Int).toNat = ws.size := by omega
        have HR2 := Lib.hid hR
        have Hes := Lib.hid hes
        clear hpre hR hes
        have b7 : (23 + j : Nat) < 58 := by omega
        have b8 : 1 ≤ (23 + j : Nat) := by omega
        generalize (23 + j : Nat) = t at *
        go_wp2_with (first | (go_at_call 178; refine (HP.out _).mono ?_; rintro e w1 ⟨rfl, rfl⟩) | (go_at_call 175; refine (HT.out _ _ _ HSt.out t b8 b7 _ Hes.out).mono ?_; rintro e w2 ⟨rfl, p2, hst2⟩; have HSt2 := Lib.hid hst2; clear hst2))
        exact ⟨⟨j + 1, p2, _, by omega, by go_num, HSt2.out, HR2.out⟩, by simp [intOf]; omega⟩
      · have hpre' : (sb ws).isPrefixOf (sb x) = false := Bool.eq_false_iff.2 hpre
        rw [hpre'] at HP
        rw [if_neg hpre] at hR
        have HR2 := Lib.hid hR
        clear hpre hpre' hR
        go_wp2_with (go_at_call 178; refine (HP.out _).mono ?_; rintro e w1 ⟨rfl, rfl⟩)
        exact ⟨⟨j + 1, p, best, by omega, by go_num, HSt.out, HR2.out⟩, by simp [intOf]; omega⟩
    · obtain rfl : j = 35 := by omega
      rw [show triesN st (sb ws) (resL.drop 35) 35 best = best from rfl] at hR
      rw [hR] at Hres
      clear hR
      have f0 := HSt.out.bb.at_ 0 (v := .pointer p) rfl
      have d1 : (0 : Int) < (ws.size : Int) := by omega
      cases bd
      · cases bl
        · by_cases h64 : ws.size < 64
          · have c1 : (ws.size : Int) < 64 := by omega
            cases bn
            · have HZ := Lib.hid (show Z = best by rw [Hres.out]; simp)
              clear Hres h64
              go_wp2_with (first | (go_at_call 158; refine (HD.out _).mono ?_; rintro e w1 ⟨rfl, rfl⟩) | (go_at_call 20; refine (HL.out _ HSt.out.old).mono ?_; rintro e w1 ⟨rfl, rfl⟩) | (go_at_call 69; refine (HN.out _).mono ?_; rintro e w1 ⟨rfl, rfl⟩))
              go_ret
              rw [HZ.out]
              exact ⟨p, rfl, HSt.out.rp, HSt.out.old, HSt.out.len⟩
            · have HZ := Lib.hid (show Z = tryN st best 1 [48] by rw [Hres.out]; simp [h64])
              clear Hres h64
              go_wp2_with (first | (go_at_call 158; refine (HD.out _).mono ?_; rintro e w1 ⟨rfl, rfl⟩) | (go_at_call 20; refine (HL.out _ HSt.out.old).mono ?_; rintro e w1 ⟨rfl, rfl⟩) | (go_at_call 69; refine (HN.out _).mono ?_; rintro e w1 ⟨rfl, rfl⟩) | (go_at_call 175; refine (HT.out _ _ _ HSt.out 1 (by decide) (by decide) ⟨#[48]⟩ (by decide)).mono ?_; rintro e w2 ⟨rfl, p2, hst2⟩; have HSt2 := Lib.hid hst2; have f1 := hst2.bb.at_ 0 (v := .pointer p2) rfl; clear hst2))
              go_ret
              rw [HZ.out]
              exact ⟨p2, rfl, HSt2.out.rp, HSt2.out.old, HSt2.out.len⟩
          · have c1 : ¬ (ws.size : Int) < 64 := by omega
            have HZ := Lib.hid (show Z = best by rw [Hres.out]; simp [h64])
            clear Hres h64
            go_wp2_with (first | (go_at_call 158; refine (HD.out _).mono ?_; rintro e w1 ⟨rfl, rfl⟩) | (go_at_call 20; refine (HL.out _ HSt.out.old).mono ?_; rintro e w1 ⟨rfl, rfl⟩) | (go_at_call 69; refine (HN.out _).mono ?_; rintro e w1 ⟨rfl, rfl⟩))
            go_ret
            rw [HZ.out]
            exact ⟨p, rfl, HSt.out.rp, HSt.out.old, HSt.out.len⟩
        · have HZ := Lib.hid (show Z = tryN st best 1 [] by rw [Hres.out]; rfl)
          clear Hres
          go_wp2_with (first | (go_at_call 158; refine (HD.out _).mono ?_; rintro e w1 ⟨rfl, rfl⟩) | (go_at_call 20; refine (HL.out _ HSt.out.old).mono ?_; rintro e w1 ⟨rfl, rfl⟩) | (go_at_call 69; refine (HN.out _).mono ?_; rintro e w1 ⟨rfl, rfl⟩) | (go_at_call 175; refine (HT.out _ _ _ HSt.out 1 (by decide) (by decide) ⟨#[]⟩ (by decide)).mono ?_; rintro e w2 ⟨rfl, p2, hst2⟩; have HSt2 := Lib.hid hst2; have f1 := hst2.bb.at_ 0 (v := .pointer p2) rfl; clear hst2))
          go_ret
          rw [HZ.out]
          exact ⟨p2, rfl, HSt2.out.rp, HSt2.out.old, HSt2.out.len⟩
      · have HZ := Lib.hid (show Z = tryN st best 2 [] by rw [Hres.out]; rfl)
        clear Hres
        go_wp2_with (first | (go_at_call 158; refine (HD.out _).mono ?_; rintro e w1 ⟨rfl, rfl⟩) | (go_at_call 20; refine (HL.out _ HSt.out.old).mono ?_; rintro e w1 ⟨rfl, rfl⟩) | (go_at_call 69; refine (HN.out _).mono ?_; rintro e w1 ⟨rfl, rfl⟩) | (go_at_call 175; refine (HT.out _ _ _ HSt.out 2 (by decide) (by decide) ⟨#[]⟩ (by decide)).mono ?_; rintro e w2 ⟨rfl, p2, hst2⟩; have HSt2 := Lib.hid hst2; have f1 := hst2.bb.at_ 0 (v := .pointer p2) rfl; clear hst2))
        go_ret
        rw [HZ.out]
        exact ⟨p2, rfl, HSt2.out.rp, HSt2.out.old, HSt2.out.len⟩
end Go.Proofs.YtmmjcbbogokmfaaGreatDoor

/- Contract of the machine's finished. -/
namespace Go.Proofs.YtmmjcbbogokmfaaGreatDoor
open Go.RowKit

/-- the shortest end is told -/
def FinP (w : World) (R : List UInt8) (e : Ending) (w' : World) : Prop := ∃ p, e = .returned (.pointer p) ∧ Rp w' p R ∧ Old w w' ∧ R.length ≤ 100000000
set_option maxRecDepth 100000 in
set_option maxHeartbeats 1600000 in
theorem fin_rest (w : World) (hg : Sg w) (g : Nat) (r : Option Nat) (src : ByteArray) (m : Mc) (A : Option Addr) (c : Nat) (h : Mac w g r src m A c) (hp : Pos m.stack) (hl : m.stack.length ≤ 1000000) (hf : ¬ (1 ≤ m.fin ∧ m.fin ≤ 7)) :
    Calls Tryz.prog 79 #[.pointer (some ⟨g, 0, none⟩)] w (FinP w (restN m.stack).2) := by
  have HR := Lib.hid (rest_any w hg g r src m A c h hp (by omega))
  have hc3 := h.c3
  have Hlen := Lib.hid ((rest_len m.stack).2)
  have hfo := Tryz.endsOther
  have b1 : ((m.fin : Int) == 1) = false := beq_eq_false_iff_ne.2 (by omega)
  have b2 : ((m.fin : Int) == 2) = false := beq_eq_false_iff_ne.2 (by omega)
  have b3 : ((m.fin : Int) == 3) = false := beq_eq_false_iff_ne.2 (by omega)
  have b4 : ((m.fin : Int) == 4) = false := beq_eq_false_iff_ne.2 (by omega)
  have b5 : ((m.fin : Int) == 5) = false := beq_eq_false_iff_ne.2 (by omega)
  have b6 : ((m.fin : Int) == 6) = false := beq_eq_false_iff_ne.2 (by omega)
  have b7 : ((m.fin : Int) == 7) = false := beq_eq_false_iff_ne.2 (by omega)
  clear h hg hp hf
  generalize m.fin = q at *
  generalize restN m.stack = rs at *
  obtain ⟨x, y⟩ := rs
  simp only at HR Hlen
  go_enter Tryz.func79, Tryz.ntmps79
  go_wp2_with (go_at_call 141; refine HR.out.mono ?_; rintro e w2 ⟨a, b, he, hx, hy, ho⟩; obtain rfl : e = .returned (.agg #[.pointer a, .pointer b]) := he; have HY := Lib.hid hy; have HO2 := Lib.hid ho; clear hx hy ho)
  go_ret
  exact ⟨b, rfl, HY.out, HO2.out, by have := Hlen.out; omega⟩
set_option maxRecDepth 100000 in
set_option maxHeartbeats 1600000 in
theorem fin_word (w : World) (hg : Sg w) (g : Nat) (r : Option Nat) (src : ByteArray) (m : Mc) (A : Option Addr) (c : Nat) (h : Mac w g r src m A c) (hp : Pos m.stack) (hl : m.stack.length ≤ 1000000) (hf : m.fin = 2) (hfr : m.from_ < src.size) :
    Calls Tryz.prog 79 #[.pointer (some ⟨g, 0, none⟩)] w (FinP w (wordEnd m.stack ((sb src).drop m.from_))) := by
  have HR := Lib.hid (worded_end w hg g r src m A c h hp hl hfr)
  have hc3 : w.cell? ⟨g, 3, none⟩ = some (.int .u8 2) := by rw [h.c3, hf]; rfl
  clear h hg hp hf
  generalize wordEnd m.stack ((sb src).drop m.from_) = R at *
  go_enter Tryz.func79, Tryz.ntmps79
  go_wp2_with (go_at_call 143; refine HR.out.mono ?_; rintro e w2 ⟨p, rfl, hq, ho, hlen⟩; have HQ := Lib.hid hq; have HO2 := Lib.hid ho; clear hq ho)
  go_ret
  exact ⟨p, rfl, HQ.out, HO2.out, by omega⟩
set_option maxRecDepth 100000 in
set_option maxHeartbeats 1600000 in
theorem fin_comment (w : World) (hg : Sg w) (g : Nat) (r : Option Nat) (src : ByteArray) (m : Mc) (A : Option Addr) (c : Nat) (h : Mac w g r src m A c) (hp : Pos m.stack) (hl : m.stack.length ≤ 1000000) (hf : m.fin = 1) :
    Calls Tryz.prog 79 #[.pointer (some ⟨g, 0, none⟩)] w (FinP w (if (restN m.stack).2 = [] then [] else 10 :: (restN m.stack).2)) := by
  have HR := Lib.hid (rest_any w hg g r src m A c h hp (by omega))
  have hc3 : w.cell? ⟨g, 3, none⟩ = some (.int .u8 1) := by rw [h.c3, hf]; rfl
  have Hlen := Lib.hid ((rest_len m.stack).2)
  have hfo := Tryz.endsOther
  clear h hg hp hf
  generalize restN m.stack = rs at *
  obtain ⟨x, y⟩ := rs
  simp only at HR Hlen ⊢
  by_cases hy : y = []
  · subst hy
    have Hy2 := Lib.hid (show (if ([] : List UInt8) = [] then [] else 10 :: []) = ([] : List UInt8) from rfl)
    rw [Hy2.out]
    go_enter Tryz.func79, Tryz.ntmps79
    go_wp2_with (go_at_call 141; refine HR.out.mono ?_; rintro e w2 ⟨a, b, he, hx, hy, ho⟩; obtain rfl : e = .returned (.agg #[.pointer a, .pointer b]) := he; obtain rfl : b = none := hy.nil_iff.2 rfl; have HO2 := Lib.hid ho; clear hx hy ho)
    go_ret
    exact ⟨none, rfl, .nil, HO2.out, by decide⟩
  · rw [if_neg hy]
    have Hy := Lib.hid hy
    clear hy
    go_enter Tryz.func79, Tryz.ntmps79
    go_wp2_with (first | (go_at_call 141; refine HR.out.mono ?_; rintro e w2 ⟨a, b, he, hx, hy, ho⟩; obtain rfl : e = .returned (.agg #[.pointer a, .pointer b]) := he; obtain ⟨pb, rfl⟩ : ∃ pb, b = some pb := Option.ne_none_iff_exists'.1 (fun e => Hy.out (hy.nil_iff.1 e)); have HY := Lib.hid hy; have HO2 := Lib.hid ho; clear hx hy ho) | (go_at_call 142; refine (rbehind_any _ _ y HY.out ⟨#[10]⟩ (by show 1 + y.length ≤ _; have := Hlen.out; omega)).mono ?_; rintro e w3 ⟨q, rfl, hq, ho⟩; have HQ := Lib.hid hq; have HO3 := Lib.hid (HO2.out.old ho); clear hq ho))
    go_ret
    exact ⟨q, rfl, HQ.out, HO3.out, by rw [List.length_cons]; have := Hlen.out; omega⟩
set_option maxRecDepth 100000 in
set_option maxHeartbeats 1600000 in
theorem fin_text4 (w : World) (hg : Sg w) (g : Nat) (r : Option Nat) (src : ByteArray) (m : Mc) (A : Option Addr) (c : Nat) (h : Mac w g r src m A c) (hp : Pos m.stack) (hl : m.stack.length ≤ 1000000) (hf : m.fin = 4) (hmay : mayN 3 m.stack = true) :
    Calls Tryz.prog 79 #[.pointer (some ⟨g, 0, none⟩)] w (FinP w (34:: (restN (withN 3 m.stack)).2)) := by
  obtain ⟨n, hn, hT, hlen⟩ := with_ready 3 (by decide) m.stack h.sym hmay
  have HW := Lib.hid (with_any w g r src m A c h 3 n _ (by decide) hT (by omega))
  have Hpos := Lib.hid (hT.pos (by decide) hp)
  have hrl := (rest_len (withN 3 m.stack)).2
  have hc3 : w.cell? ⟨g, 3, none⟩ = some (.int .u8 4) := by rw [h.c3, hf]; rfl
  generalize withN 3 m.stack = k at *
  have HR := Lib.hid (fun W (hW : Old w W) g' r' A' c' (hMac : Mac W g' r' ⟨#[]⟩ ⟨0, k, 0, 0⟩ A' c') => rest_any W (hg.old hW) g' r' _ _ A' c' hMac Hpos.out (by show k.length ≤ _; omega))
  generalize restN k = rs at *
  have Hlen := Lib.hid (show rs.2.length ≤ 20000000 by omega)
  obtain ⟨x, y⟩ := rs
  simp only at HR Hlen hrl ⊢
  have hfo := Tryz.endsOther
  clear hrl h hg hT hlen hn hp hl hf hmay
  go_enter Tryz.func79, Tryz.ntmps79
  go_wp2_with (first | (go_at_call 144; refine HW.out.mono ?_; rintro e w1 ⟨g', r', A', c', rfl, hMac, hO1⟩; have HMac := Lib.hid hMac; have HO1 := Lib.hid hO1; clear hMac hO1) | (go_at_call 141; refine (HR.out _ HO1.out _ _ _ _ HMac.out).mono ?_; rintro e w2 ⟨a, b, he, hx, hy, ho⟩; obtain rfl : e = .returned (.agg #[.pointer a, .pointer b]) := he; have HY := Lib.hid hy; have HO2 := Lib.hid (HO1.out.old ho); clear hx hy ho) | (go_at_call 142; refine (rbehind_any _ _ y HY.out ⟨#[34]⟩ (by show 1 + y.length ≤ _; have := Hlen.out; omega)).mono ?_; rintro e w3 ⟨q, rfl, hq, ho⟩; have HQ := Lib.hid hq; have HO3 := Lib.hid (HO2.out.old ho); clear hq ho))
  go_ret
  exact ⟨q, rfl, HQ.out, HO3.out, by have := Hlen.out; simp only [List.length_cons]; omega⟩
set_option maxRecDepth 100000 in
set_option maxHeartbeats 1600000 in
theorem fin_text5 (w : World) (hg : Sg w) (g : Nat) (r : Option Nat) (src : ByteArray) (m : Mc) (A : Option Addr) (c : Nat) (h : Mac w g r src m A c) (hp : Pos m.stack) (hl : m.stack.length ≤ 1000000) (hf : m.fin = 5) (hmay : mayN 3 m.stack = true) :
    Calls Tryz.prog 79 #[.pointer (some ⟨g, 0, none⟩)] w (FinP w (34::34:: (restN (withN 3 m.stack)).2)) := by
  obtain ⟨n, hn, hT, hlen⟩ := with_ready 3 (by decide) m.stack h.sym hmay
  have HW := Lib.hid (with_any w g r src m A c h 3 n _ (by decide) hT (by omega))
  have Hpos := Lib.hid (hT.pos (by decide) hp)
  have hrl := (rest_len (withN 3 m.stack)).2
  have hc3 : w.cell? ⟨g, 3, none⟩ = some (.int .u8 5) := by rw [h.c3, hf]; rfl
  generalize withN 3 m.stack = k at *
  have HR := Lib.hid (fun W (hW : Old w W) g' r' A' c' (hMac : Mac W g' r' ⟨#[]⟩ ⟨0, k, 0, 0⟩ A' c') => rest_any W (hg.old hW) g' r' _ _ A' c' hMac Hpos.out (by show k.length ≤ _; omega))
  generalize restN k = rs at *
  have Hlen := Lib.hid (show rs.2.length ≤ 20000000 by omega)
  obtain ⟨x, y⟩ := rs
  simp only at HR Hlen hrl ⊢
  have hfo := Tryz.endsOther
  clear hrl h hg hT hlen hn hp hl hf hmay
  go_enter Tryz.func79, Tryz.ntmps79
  go_wp2_with (first | (go_at_call 144; refine HW.out.mono ?_; rintro e w1 ⟨g', r', A', c', rfl, hMac, hO1⟩; have HMac := Lib.hid hMac; have HO1 := Lib.hid hO1; clear hMac hO1) | (go_at_call 141; refine (HR.out _ HO1.out _ _ _ _ HMac.out).mono ?_; rintro e w2 ⟨a, b, he, hx, hy, ho⟩; obtain rfl : e = .returned (.agg #[.pointer a, .pointer b]) := he; have HY := Lib.hid hy; have HO2 := Lib.hid (HO1.out.old ho); clear hx hy ho) | (go_at_call 142; refine (rbehind_any _ _ y HY.out ⟨#[34,34]⟩ (by show 2 + y.length ≤ _; have := Hlen.out; omega)).mono ?_; rintro e w3 ⟨q, rfl, hq, ho⟩; have HQ := Lib.hid hq; have HO3 := Lib.hid (HO2.out.old ho); clear hq ho))
  go_ret
  exact ⟨q, rfl, HQ.out, HO3.out, by have := Hlen.out; simp only [List.length_cons]; omega⟩
set_option maxRecDepth 100000 in
set_option maxHeartbeats 1600000 in
theorem fin_text6 (w : World) (hg : Sg w) (g : Nat) (r : Option Nat) (src : ByteArray) (m : Mc) (A : Option Addr) (c : Nat) (h : Mac w g r src m A c) (hp : Pos m.stack) (hl : m.stack.length ≤ 1000000) (hf : m.fin = 6) (hmay : mayN 3 m.stack = true) :
    Calls Tryz.prog 79 #[.pointer (some ⟨g, 0, none⟩)] w (FinP w (48::48::34:: (restN (withN 3 m.stack)).2)) := by
  obtain ⟨n, hn, hT, hlen⟩ := with_ready 3 (by decide) m.stack h.sym hmay
  have HW := Lib.hid (with_any w g r src m A c h 3 n _ (by decide) hT (by omega))
  have Hpos := Lib.hid (hT.pos (by decide) hp)
  have hrl := (rest_len (withN 3 m.stack)).2
  have hc3 : w.cell? ⟨g, 3, none⟩ = some (.int .u8 6) := by rw [h.c3, hf]; rfl
  generalize withN 3 m.stack = k at *
  have HR := Lib.hid (fun W (hW : Old w W) g' r' A' c' (hMac : Mac W g' r' ⟨#[]⟩ ⟨0, k, 0, 0⟩ A' c') => rest_any W (hg.old hW) g' r' _ _ A' c' hMac Hpos.out (by show k.length ≤ _; omega))
  generalize restN k = rs at *
  have Hlen := Lib.hid (show rs.2.length ≤ 20000000 by omega)
  obtain ⟨x, y⟩ := rs
  simp only at HR Hlen hrl ⊢
  have hfo := Tryz.endsOther
  clear hrl h hg hT hlen hn hp hl hf hmay
  go_enter Tryz.func79, Tryz.ntmps79
  go_wp2_with (first | (go_at_call 144; refine HW.out.mono ?_; rintro e w1 ⟨g', r', A', c', rfl, hMac, hO1⟩; have HMac := Lib.hid hMac; have HO1 := Lib.hid hO1; clear hMac hO1) | (go_at_call 141; refine (HR.out _ HO1.out _ _ _ _ HMac.out).mono ?_; rintro e w2 ⟨a, b, he, hx, hy, ho⟩; obtain rfl : e = .returned (.agg #[.pointer a, .pointer b]) := he; have HY := Lib.hid hy; have HO2 := Lib.hid (HO1.out.old ho); clear hx hy ho) | (go_at_call 142; refine (rbehind_any _ _ y HY.out ⟨#[48,48,34]⟩ (by show 3 + y.length ≤ _; have := Hlen.out; omega)).mono ?_; rintro e w3 ⟨q, rfl, hq, ho⟩; have HQ := Lib.hid hq; have HO3 := Lib.hid (HO2.out.old ho); clear hq ho))
  go_ret
  exact ⟨q, rfl, HQ.out, HO3.out, by have := Hlen.out; simp only [List.length_cons]; omega⟩
set_option maxRecDepth 100000 in
set_option maxHeartbeats 1600000 in
theorem fin_text7 (w : World) (hg : Sg w) (g : Nat) (r : Option Nat) (src : ByteArray) (m : Mc) (A : Option Addr) (c : Nat) (h : Mac w g r src m A c) (hp : Pos m.stack) (hl : m.stack.length ≤ 1000000) (hf : m.fin = 7) (hmay : mayN 3 m.stack = true) :
    Calls Tryz.prog 79 #[.pointer (some ⟨g, 0, none⟩)] w (FinP w (48::34:: (restN (withN 3 m.stack)).2)) := by
  obtain ⟨n, hn, hT, hlen⟩ := with_ready 3 (by decide) m.stack h.sym hmay
  have HW := Lib.hid (with_any w g r src m A c h 3 n _ (by decide) hT (by omega))
  have Hpos := Lib.hid (hT.pos (by decide) hp)
  have hrl := (rest_len (withN 3 m.stack)).2
  have hc3 : w.cell? ⟨g, 3, none⟩ = some (.int .u8 7) := by rw [h.c3, hf]; rfl
  generalize withN 3 m.stack = k at *
  have HR := Lib.hid (fun W (hW : Old w W) g' r' A' c' (hMac : Mac W g' r' ⟨#[]⟩ ⟨0, k, 0, 0⟩ A' c') => rest_any W (hg.old hW) g' r' _ _ A' c' hMac Hpos.out (by show k.length ≤ _; omega))
  generalize restN k = rs at *
  have Hlen := Lib.hid (show rs.2.length ≤ 20000000 by omega)
  obtain ⟨x, y⟩ := rs
  simp only at HR Hlen hrl ⊢
  have hfo := Tryz.endsOther
  clear hrl h hg hT hlen hn hp hl hf hmay
  go_enter Tryz.func79, Tryz.ntmps79
  go_wp2_with (first | (go_at_call 144; refine HW.out.mono ?_; rintro e w1 ⟨g', r', A', c', rfl, hMac, hO1⟩; have HMac := Lib.hid hMac; have HO1 := Lib.hid hO1; clear hMac hO1) | (go_at_call 141; refine (HR.out _ HO1.out _ _ _ _ HMac.out).mono ?_; rintro e w2 ⟨a, b, he, hx, hy, ho⟩; obtain rfl : e = .returned (.agg #[.pointer a, .pointer b]) := he; have HY := Lib.hid hy; have HO2 := Lib.hid (HO1.out.old ho); clear hx hy ho) | (go_at_call 142; refine (rbehind_any _ _ y HY.out ⟨#[48,34]⟩ (by show 2 + y.length ≤ _; have := Hlen.out; omega)).mono ?_; rintro e w3 ⟨q, rfl, hq, ho⟩; have HQ := Lib.hid hq; have HO3 := Lib.hid (HO2.out.old ho); clear hq ho))
  go_ret
  exact ⟨q, rfl, HQ.out, HO3.out, by have := Hlen.out; simp only [List.length_cons]; omega⟩
end Go.Proofs.YtmmjcbbogokmfaaGreatDoor
