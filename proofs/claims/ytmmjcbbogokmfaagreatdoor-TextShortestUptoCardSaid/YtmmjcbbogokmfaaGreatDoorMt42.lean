import Derived.Test.YtmmjcbbogokmfaaGreatDoorMt01
import Derived.Test.YtmmjcbbogokmfaaGreatDoorMt41
set_option maxRecDepth 100000
set_option maxHeartbeats 25600000
namespace Go.Proofs.YtmmjcbbogokmfaaGreatDoor
open Go.RowKit
theorem try_len (st : List Nat) (h5 : ∀ n ∈ st, n < 85) (hl : st.length <= 1000000) (best : List UInt8) (hb : best.length <= 20000000) (t : Nat) (ht : t < 58) (more : List UInt8) (hm : more.length <= 100) : (tryN st best t more).length <= 20000000 := by
  unfold tryN
  split
  · rename_i hq
    obtain ⟨n, _, _, hlen⟩ := vK t ht st h5 hq
    have := (ke (jR t st)).1
    simp only
    split
    · rw [List.length_append]; omega
    · exact hb
  · exact hb
structure WdSt (w : World) (g : Nat) (wr : World) (p : Option Addr) (best : List UInt8) : Prop where
  old : Old w wr
  bm : Blk wr w.heap.size 155 #[.pointer (some ⟨g, 0, none⟩)]
  bb : Blk wr (w.heap.size + 1) 166 #[.pointer p]
  rp : Rp wr p best
  len : best.length <= 20000000
theorem WdSt.try_ {w : World} (hg : Sg w) {g : Nat} {r : Option Nat} {src : ByteArray} {m : Mc} {A : Option Addr} {c : Nat} (h : Mac w g r src m A c) (hp : Pos m.stack) (hl : m.stack.length <= 1000000) {wr : World} {p : Option Addr} {best : List UInt8} (hs : WdSt w g wr p best) (t : Nat) (h1 : 1 <= t) (h2 : t < 58) (more : ByteArray) (hm : more.size <= 100) :
    Calls Tryz.prog 175 #[yv t, .string more, .pointer (some ⟨w.heap.size, 0, none⟩), .pointer (some ⟨w.heap.size + 1, 0, none⟩)] wr fun e w' => e = .returned (.tuple #[]) /\ ∃ p', WdSt w g w' p' (tryN m.stack best t (sb more)) := by
  refine (try_any wr (hg.old hs.old) g r src m A c (h.old hs.old) hp hl _ _ hs.bm p hs.bb best hs.rp (by have := hs.len; omega) t h1 h2 more hm).mono ?_
  rintro e w' ⟨he, p', hb, hr, hk⟩
  exact ⟨he, p', hs.old.trans hk (fun b hb e => by omega), hs.bm.kp hk (by omega), hb, hr, try_len m.stack h.sym hl best hs.len t h2 _ (by rw [jA]; exact hm)⟩
theorem tries_drop (st : List Nat) (w : List UInt8) (j : Nat) (hj : j < resL.length) (best : List UInt8) : kS st w (resL.drop j) j best = kS st w (resL.drop (j + 1)) (j + 1) (if w.isPrefixOf resL[j] = true then tryN st best (23 + j) (resL[j].drop w.length) else best) := by
  rw [List.drop_eq_getElem_cons hj]
  rfl
theorem res_len (j : Nat) (hj : j < resL.length) : resL[j].length <= 20 := by
  have h : ∀ x ∈ resL, x.length <= 20 := by decide +kernel
  exact h _ (List.getElem_mem hj)
theorem pre_len {a b : List UInt8} (h : a.isPrefixOf b = true) : a.length <= b.length := by
  rw [List.isPrefixOf_iff_prefix] at h
  exact h.length_le
theorem worded_end (w : World) (hg : Sg w) (g : Nat) (r : Option Nat) (src : ByteArray) (m : Mc) (A : Option Addr) (c : Nat) (h : Mac w g r src m A c) (hp : Pos m.stack) (hl : m.stack.length <= 1000000) (hf : m.from_ < src.size) :
    Calls Tryz.prog 143 #[.pointer (some ⟨g, 0, none⟩)] w fun e w' => ∃ p, e = .returned (.pointer p) /\ Rp w' p (kR m.stack ((sb src).drop m.from_)) /\ Old w w' /\ (kR m.stack ((sb src).drop m.from_)).length <= 20000000 := by
  have hwd : sb (src.extract m.from_ src.size) = (sb src).drop m.from_ := by
    rw [jo, List.take_of_length_le (by rw [List.length_drop, jA]; exact Nat.le_refl _)]
  have hsz : (src.extract m.from_ src.size).size = src.size - m.from_ := by rw [<- jA, hwd, List.length_drop, jA]
  rw [<- hwd]
  generalize hws : src.extract m.from_ src.size = ws at *
  have hw0 : 0 < ws.size := by omega
  have Hhd := jJ0 (sb_head ws hw0)
  have HT := jJ0 (fun wr p best (hs : WdSt w g wr p best) t h1 h2 more hm => hs.try_ hg h hp hl t h1 h2 more hm)
  have HD := jJ0 (fun W => yN W (ws[0]'hw0))
  have HL := jJ0 (fun W (hW : Old w W) => kJ W (hg.old hW) ws)
  have HN := jJ0 (fun W => yG W ws)
  have Hres := jJ0 (show kR m.stack (sb ws) = if digC ((sb ws).headD 0) = true then tryN m.stack (kS m.stack (sb ws) (resL.drop 0) 0 []) 2 [] else if jq (sb ws) = true then tryN m.stack (kS m.stack (sb ws) (resL.drop 0) 0 []) 1 [] else if (sb ws).length < 64 /\ jQ (sb ws) = true then tryN m.stack (kS m.stack (sb ws) (resL.drop 0) 0 []) 1 [48] else kS m.stack (sb ws) (resL.drop 0) 0 [] from rfl)
  rw [Hhd.out, jA] at Hres
  have hc0 := h.c0
  have hc4 := h.c4
  have HM := jJ0 h
  have Hg := jJ0 hg.res
  have H0 := jJ0 (fun n => show WdSt w g (((w.alloc (.cells #[.pointer (some ⟨g, 0, none⟩)] 155)).drewN n).alloc (.cells #[.pointer none] 166)) none [] from by
    have b1 : Blk (((w.alloc (.cells #[.pointer (some ⟨g, 0, none⟩)] 155)).drewN n).alloc (.cells #[.pointer none] 166)) w.heap.size 155 #[.pointer (some ⟨g, 0, none⟩)] := ((Blk.new _ _ _).drewN n).alloc _
    have b2 := Blk.new ((w.alloc (.cells #[.pointer (some ⟨g, 0, none⟩)] 155)).drewN n) 166 #[.pointer none]
    rw [show ((w.alloc (.cells #[.pointer (some ⟨g, 0, none⟩)] 155)).drewN n).heap.size = w.heap.size + 1 by simp] at b2
    exact ⟨(((Kp.refl NoX w).alloc _).drewN n).alloc _, b1, b2, .nil, by decide⟩)
  generalize kR m.stack (sb ws) = Z at *
  generalize hbd : digC (ws[0]'hw0) = bd at *
  generalize hbl : jq (sb ws) = bl at *
  generalize hbn : jQ (sb ws) = bn at *
  generalize hR : kS m.stack (sb ws) (resL.drop 0) 0 [] = R at *
  have HR := jJ0 hR.symm
  have HG := jJ0 (fun W (hW : Old w W) => (hg.old hW).res)
  have Hx := jJ0 (fun j (hj : j < 35) => wvs_at resL j hj)
  have Hsz := jJ0 (show (Tryz.prog.info? 205).map (·.size) = some (wvs resL).length from Tryz.size35)
  have hmf : ∀ (fn : Fn) (first cap : Array Value) (w : World), (Instr.makeFunc fn first cap).run Tryz.prog w = .ok (.func fn first cap) w := fun _ _ _ _ => rfl
  generalize hcs : wvs resL = cs at *
  have a1 : (m.from_ : Int) <= (src.size : Int) := by omega
  have a2 : (0 : Int) <= (m.from_ : Int) := by omega
  have a3 : (m.from_ : Int).toNat = m.from_ := by omega
  have b0 : (0 : Int) < (ws.size : Int) := by omega
  clear hcs hR hbd hbl hbn h hg hp hl hwd Hhd Hg
  clear hf hsz
  generalize m.stack = st at *
  unfold yv at *
  go_enter Tryz.func143, Tryz.ntmps143
  go_wp2
  have hM1 := HM.out.old ((Kp.refl NoX w).alloc (.cells #[.pointer (some ⟨g, 0, none⟩)] 155))
  have d0 := hM1.c0
  have d4 := hM1.c4
  have d5 : (w.alloc (.cells #[.pointer (some ⟨g, 0, none⟩)] 155)).cell? ⟨w.heap.size, 0, none⟩ = some (.pointer (some ⟨g, 0, none⟩)) := (Blk.new w 155 #[.pointer (some ⟨g, 0, none⟩)]).at_ 0 rfl
  clear hM1
  go_quiet (fail)
  clear d0 d4 d5
  have Hold0 := jJ0 ((H0.out nq).old)
  go_wp2_with (first | ((with_reducible refine at_loadE 205 (.global 0) ?_); refine Tryz.load_w rfl 205 (.global 0) rfl 0 0 rfl cs _ (HG.out _ Hold0.out) Tryz.underlying205 rfl Hsz.out ?_) | fail)
  go_loopw [19] (fun i wr => ∃ (j : Nat) (p : Option Addr) (best : List UInt8), j <= 35 /\ i = .int .i64 j /\ WdSt w g wr p best /\ R = kS st (sb ws) (resL.drop j) j best) (fun i _ => 35 - (intOf i).toNat)
  case atStart => exact ⟨0, none, [], by omega, rfl, H0.out nq, HR.out⟩
  case round =>
    clear H0 HR Hold0
    obtain ⟨j, p, best, hj, rfl, hst, hR⟩ := hrel
    have HSt := jJ0 hst
    clear hst
    by_cases hlt : j < 35
    · have hx := Hx.out j hlt
      have hrl := res_len j hlt
      rw [tries_drop st (sb ws) j hlt] at hR
      generalize resL[j]'hlt = rw at *
      have hsx : sb (⟨rw.toArray⟩ : ByteArray) = rw := vr rw
      generalize (⟨rw.toArray⟩ : ByteArray) = x at *
      subst hsx
      have b1 : (j : Int) < 35 := by omega
      have b2 : (0 : Int) <= (j : Int) := by omega
      have b3 : (j : Int).toNat = j := by omega
      have b4 : IntKind.u8.wrap (j : Int) = (j : Int) := IntWalk.u8_in _ (by omega)
      have b5 : IntKind.u8.wrap (23 + (j : Int)) = ((23 + j : Nat) : Int) := by rw [show (23 + (j : Int)) = ((23 + j : Nat) : Int) by omega]; exact IntWalk.u8_in _ (by omega)
      have b6 : IntKind.i64.wrap ((j : Int) + 1) = (j : Int) + 1 := IntWalk.i64_in _ (by omega)
      have hix := fun w' => Tryz.index35 w' cs j _ hx hlt
      have HP := jJ0 (fun W => prefix_any W x ws)
      clear hx
      by_cases hpre : (sb ws).isPrefixOf (sb x) = true
      · have hle := pre_len hpre
        rw [jA, jA] at hle
        rw [hpre] at HP
        rw [if_pos hpre, show (sb x).drop (sb ws).length = sb (x.extract ws.size x.size) by rw [jo, List.take_of_length_le (by rw [List.length_drop, jA]; exact Nat.le_refl _), jA]] at hR
        have hes : (x.extract ws.size x.size).size <= 100 := by rw [<- jA, jo, List.length_take, List.length_drop]; rw [jA] at hrl ⊢; omega
        have c1 : (ws.size : Int) <= (x.size : Int) := by omega
        have c2 : (0 : Int) <= (ws.size : Int) := by omega
        have c3 : (ws.size : Int).toNat = ws.size := by omega
        have HR2 := jJ0 hR
        have Hes := jJ0 hes
        clear hpre hR hes
        have b7 : (23 + j : Nat) < 58 := by omega
        have b8 : 1 <= (23 + j : Nat) := by omega
        generalize (23 + j : Nat) = t at *
        go_wp2_with (first | (go_at_call 178; refine (HP.out _).mono ?_; rintro e w1 ⟨rfl, rfl⟩) | (go_at_call 175; refine (HT.out _ _ _ HSt.out t b8 b7 _ Hes.out).mono ?_; rintro e w2 ⟨rfl, p2, hst2⟩; have HSt2 := jJ0 hst2; clear hst2))
        exact ⟨⟨j + 1, p2, _, by omega, by go_num, HSt2.out, HR2.out⟩, by simp [intOf]; omega⟩
      · have hpre' : (sb ws).isPrefixOf (sb x) = false := Bool.eq_false_iff.2 hpre
        rw [hpre'] at HP
        rw [if_neg hpre] at hR
        have HR2 := jJ0 hR
        clear hpre hpre' hR
        go_wp2_with (go_at_call 178; refine (HP.out _).mono ?_; rintro e w1 ⟨rfl, rfl⟩)
        exact ⟨⟨j + 1, p, best, by omega, by go_num, HSt.out, HR2.out⟩, by simp [intOf]; omega⟩
    · obtain rfl : j = 35 := by omega
      rw [show kS st (sb ws) (resL.drop 35) 35 best = best from rfl] at hR
      rw [hR] at Hres
      clear hR
      have f0 := HSt.out.bb.at_ 0 (v := .pointer p) rfl
      have d1 : (0 : Int) < (ws.size : Int) := by omega
      cases bd
      · cases bl
        · by_cases h64 : ws.size < 64
          · have c1 : (ws.size : Int) < 64 := by omega
            cases bn
            · have HZ := jJ0 (show Z = best by rw [Hres.out]; simp)
              clear Hres h64
              go_wp2_with (first | (go_at_call 158; refine (HD.out _).mono ?_; rintro e w1 ⟨rfl, rfl⟩) | (go_at_call 20; refine (HL.out _ HSt.out.old).mono ?_; rintro e w1 ⟨rfl, rfl⟩) | (go_at_call 69; refine (HN.out _).mono ?_; rintro e w1 ⟨rfl, rfl⟩))
              go_ret
              rw [HZ.out]
              exact ⟨p, rfl, HSt.out.rp, HSt.out.old, HSt.out.len⟩
            · have HZ := jJ0 (show Z = tryN st best 1 [48] by rw [Hres.out]; simp [h64])
              clear Hres h64
              go_wp2_with (first | (go_at_call 158; refine (HD.out _).mono ?_; rintro e w1 ⟨rfl, rfl⟩) | (go_at_call 20; refine (HL.out _ HSt.out.old).mono ?_; rintro e w1 ⟨rfl, rfl⟩) | (go_at_call 69; refine (HN.out _).mono ?_; rintro e w1 ⟨rfl, rfl⟩) | (go_at_call 175; refine (HT.out _ _ _ HSt.out 1 (by decide) (by decide) ⟨#[48]⟩ (by decide)).mono ?_; rintro e w2 ⟨rfl, p2, hst2⟩; have HSt2 := jJ0 hst2; have f1 := hst2.bb.at_ 0 (v := .pointer p2) rfl; clear hst2))
              go_ret
              rw [HZ.out]
              exact ⟨p2, rfl, HSt2.out.rp, HSt2.out.old, HSt2.out.len⟩
          · have c1 : ¬ (ws.size : Int) < 64 := by omega
            have HZ := jJ0 (show Z = best by rw [Hres.out]; simp [h64])
            clear Hres h64
            go_wp2_with (first | (go_at_call 158; refine (HD.out _).mono ?_; rintro e w1 ⟨rfl, rfl⟩) | (go_at_call 20; refine (HL.out _ HSt.out.old).mono ?_; rintro e w1 ⟨rfl, rfl⟩) | (go_at_call 69; refine (HN.out _).mono ?_; rintro e w1 ⟨rfl, rfl⟩))
            go_ret
            rw [HZ.out]
            exact ⟨p, rfl, HSt.out.rp, HSt.out.old, HSt.out.len⟩
        · have HZ := jJ0 (show Z = tryN st best 1 [] by rw [Hres.out]; rfl)
          clear Hres
          go_wp2_with (first | (go_at_call 158; refine (HD.out _).mono ?_; rintro e w1 ⟨rfl, rfl⟩) | (go_at_call 20; refine (HL.out _ HSt.out.old).mono ?_; rintro e w1 ⟨rfl, rfl⟩) | (go_at_call 69; refine (HN.out _).mono ?_; rintro e w1 ⟨rfl, rfl⟩) | (go_at_call 175; refine (HT.out _ _ _ HSt.out 1 (by decide) (by decide) ⟨#[]⟩ (by decide)).mono ?_; rintro e w2 ⟨rfl, p2, hst2⟩; have HSt2 := jJ0 hst2; have f1 := hst2.bb.at_ 0 (v := .pointer p2) rfl; clear hst2))
          go_ret
          rw [HZ.out]
          exact ⟨p2, rfl, HSt2.out.rp, HSt2.out.old, HSt2.out.len⟩
      · have HZ := jJ0 (show Z = tryN st best 2 [] by rw [Hres.out]; rfl)
        clear Hres
        go_wp2_with (first | (go_at_call 158; refine (HD.out _).mono ?_; rintro e w1 ⟨rfl, rfl⟩) | (go_at_call 20; refine (HL.out _ HSt.out.old).mono ?_; rintro e w1 ⟨rfl, rfl⟩) | (go_at_call 69; refine (HN.out _).mono ?_; rintro e w1 ⟨rfl, rfl⟩) | (go_at_call 175; refine (HT.out _ _ _ HSt.out 2 (by decide) (by decide) ⟨#[]⟩ (by decide)).mono ?_; rintro e w2 ⟨rfl, p2, hst2⟩; have HSt2 := jJ0 hst2; have f1 := hst2.bb.at_ 0 (v := .pointer p2) rfl; clear hst2))
        go_ret
        rw [HZ.out]
        exact ⟨p2, rfl, HSt2.out.rp, HSt2.out.old, HSt2.out.len⟩
def FinP (w : World) (R : List UInt8) (e : Ending) (w' : World) : Prop := ∃ p, e = .returned (.pointer p) /\ Rp w' p R /\ Old w w' /\ R.length <= 100000000
theorem fin_rest (w : World) (hg : Sg w) (g : Nat) (r : Option Nat) (src : ByteArray) (m : Mc) (A : Option Addr) (c : Nat) (h : Mac w g r src m A c) (hp : Pos m.stack) (hl : m.stack.length <= 1000000) (hf : ¬ (1 <= m.fin /\ m.fin <= 7)) :
    Calls Tryz.prog 79 #[.pointer (some ⟨g, 0, none⟩)] w (FinP w (jG m.stack).2) := by
  have HR := jJ0 (vy w hg g r src m A c h hp (by omega))
  have hc3 := h.c3
  have Hlen := jJ0 ((ke m.stack).2)
  have hfo := Tryz.endsOther
  have b1 : ((m.fin : Int) == 1) = false := beq_eq_false_iff_ne.2 (by omega)
  have b2 : ((m.fin : Int) == 2) = false := beq_eq_false_iff_ne.2 (by omega)
  have b3 : ((m.fin : Int) == 3) = false := beq_eq_false_iff_ne.2 (by omega)
  have b4 : ((m.fin : Int) == 4) = false := beq_eq_false_iff_ne.2 (by omega)
  have b5 : ((m.fin : Int) == 5) = false := beq_eq_false_iff_ne.2 (by omega)
  have b6 : ((m.fin : Int) == 6) = false := beq_eq_false_iff_ne.2 (by omega)
  have b7 : ((m.fin : Int) == 7) = false := beq_eq_false_iff_ne.2 (by omega)
  clear h hg hp hf
  generalize m.fin = q at *
  generalize jG m.stack = rs at *
  obtain ⟨x, y⟩ := rs
  simp only at HR Hlen
  go_enter Tryz.func79, Tryz.ntmps79
  go_wp2_with (go_at_call 141; refine HR.out.mono ?_; rintro e w2 ⟨a, b, he, hx, hy, ho⟩; obtain rfl : e = .returned (.agg #[.pointer a, .pointer b]) := he; have HY := jJ0 hy; have HO2 := jJ0 ho; clear hx hy ho)
  go_ret
  exact ⟨b, rfl, HY.out, HO2.out, by have := Hlen.out; omega⟩
theorem fin_word (w : World) (hg : Sg w) (g : Nat) (r : Option Nat) (src : ByteArray) (m : Mc) (A : Option Addr) (c : Nat) (h : Mac w g r src m A c) (hp : Pos m.stack) (hl : m.stack.length <= 1000000) (hf : m.fin = 2) (hfr : m.from_ < src.size) :
    Calls Tryz.prog 79 #[.pointer (some ⟨g, 0, none⟩)] w (FinP w (kR m.stack ((sb src).drop m.from_))) := by
  have HR := jJ0 (worded_end w hg g r src m A c h hp hl hfr)
  have hc3 : w.cell? ⟨g, 3, none⟩ = some (.int .u8 2) := by rw [h.c3, hf]; rfl
  clear h hg hp hf
  generalize kR m.stack ((sb src).drop m.from_) = R at *
  go_enter Tryz.func79, Tryz.ntmps79
  go_wp2_with (go_at_call 143; refine HR.out.mono ?_; rintro e w2 ⟨p, rfl, hq, ho, hlen⟩; have HQ := jJ0 hq; have HO2 := jJ0 ho; clear hq ho)
  go_ret
  exact ⟨p, rfl, HQ.out, HO2.out, by omega⟩
theorem fin_comment (w : World) (hg : Sg w) (g : Nat) (r : Option Nat) (src : ByteArray) (m : Mc) (A : Option Addr) (c : Nat) (h : Mac w g r src m A c) (hp : Pos m.stack) (hl : m.stack.length <= 1000000) (hf : m.fin = 1) :
    Calls Tryz.prog 79 #[.pointer (some ⟨g, 0, none⟩)] w (FinP w (if (jG m.stack).2 = [] then [] else 10 :: (jG m.stack).2)) := by
  have HR := jJ0 (vy w hg g r src m A c h hp (by omega))
  have hc3 : w.cell? ⟨g, 3, none⟩ = some (.int .u8 1) := by rw [h.c3, hf]; rfl
  have Hlen := jJ0 ((ke m.stack).2)
  have hfo := Tryz.endsOther
  clear h hg hp hf
  generalize jG m.stack = rs at *
  obtain ⟨x, y⟩ := rs
  simp only at HR Hlen ⊢
  by_cases hy : y = []
  · subst hy
    have Hy2 := jJ0 (show (if ([] : List UInt8) = [] then [] else 10 :: []) = ([] : List UInt8) from rfl)
    rw [Hy2.out]
    go_enter Tryz.func79, Tryz.ntmps79
    go_wp2_with (go_at_call 141; refine HR.out.mono ?_; rintro e w2 ⟨a, b, he, hx, hy, ho⟩; obtain rfl : e = .returned (.agg #[.pointer a, .pointer b]) := he; obtain rfl : b = none := hy.nil_iff.2 rfl; have HO2 := jJ0 ho; clear hx hy ho)
    go_ret
    exact ⟨none, rfl, .nil, HO2.out, by decide⟩
  · rw [if_neg hy]
    have Hy := jJ0 hy
    clear hy
    go_enter Tryz.func79, Tryz.ntmps79
    go_wp2_with (first | (go_at_call 141; refine HR.out.mono ?_; rintro e w2 ⟨a, b, he, hx, hy, ho⟩; obtain rfl : e = .returned (.agg #[.pointer a, .pointer b]) := he; obtain ⟨pb, rfl⟩ : ∃ pb, b = some pb := Option.ne_none_iff_exists'.1 (fun e => Hy.out (hy.nil_iff.1 e)); have HY := jJ0 hy; have HO2 := jJ0 ho; clear hx hy ho) | (go_at_call 142; refine (jg _ _ y HY.out ⟨#[10]⟩ (by show 1 + y.length <= _; have := Hlen.out; omega)).mono ?_; rintro e w3 ⟨q, rfl, hq, ho⟩; have HQ := jJ0 hq; have HO3 := jJ0 (HO2.out.old ho); clear hq ho))
    go_ret
    exact ⟨q, rfl, HQ.out, HO3.out, by rw [List.length_cons]; have := Hlen.out; omega⟩
theorem fin_text4 (w : World) (hg : Sg w) (g : Nat) (r : Option Nat) (src : ByteArray) (m : Mc) (A : Option Addr) (c : Nat) (h : Mac w g r src m A c) (hp : Pos m.stack) (hl : m.stack.length <= 1000000) (hf : m.fin = 4) (hmay : mayN 3 m.stack = true) :
    Calls Tryz.prog 79 #[.pointer (some ⟨g, 0, none⟩)] w (FinP w (34:: (jG (jR 3 m.stack)).2)) := by
  obtain ⟨n, hn, hT, hlen⟩ := vK 3 (by decide) m.stack h.sym hmay
  have HW := jJ0 (with_any w g r src m A c h 3 n _ (by decide) hT (by omega))
  have Hpos := jJ0 (hT.pos (by decide) hp)
  have hrl := (ke (jR 3 m.stack)).2
  have hc3 : w.cell? ⟨g, 3, none⟩ = some (.int .u8 4) := by rw [h.c3, hf]; rfl
  generalize jR 3 m.stack = k at *
  have HR := jJ0 (fun W (hW : Old w W) g' r' A' c' (hMac : Mac W g' r' ⟨#[]⟩ ⟨0, k, 0, 0⟩ A' c') => vy W (hg.old hW) g' r' _ _ A' c' hMac Hpos.out (by show k.length <= _; omega))
  generalize jG k = rs at *
  have Hlen := jJ0 (show rs.2.length <= 20000000 by omega)
  obtain ⟨x, y⟩ := rs
  simp only at HR Hlen hrl ⊢
  have hfo := Tryz.endsOther
  clear hrl h hg hT hlen hn hp hl hf hmay
  go_enter Tryz.func79, Tryz.ntmps79
  go_wp2_with (first | (go_at_call 144; refine HW.out.mono ?_; rintro e w1 ⟨g', r', A', c', rfl, hMac, hO1⟩; have HMac := jJ0 hMac; have HO1 := jJ0 hO1; clear hMac hO1) | (go_at_call 141; refine (HR.out _ HO1.out _ _ _ _ HMac.out).mono ?_; rintro e w2 ⟨a, b, he, hx, hy, ho⟩; obtain rfl : e = .returned (.agg #[.pointer a, .pointer b]) := he; have HY := jJ0 hy; have HO2 := jJ0 (HO1.out.old ho); clear hx hy ho) | (go_at_call 142; refine (jg _ _ y HY.out ⟨#[34]⟩ (by show 1 + y.length <= _; have := Hlen.out; omega)).mono ?_; rintro e w3 ⟨q, rfl, hq, ho⟩; have HQ := jJ0 hq; have HO3 := jJ0 (HO2.out.old ho); clear hq ho))
  go_ret
  exact ⟨q, rfl, HQ.out, HO3.out, by have := Hlen.out; simp only [List.length_cons]; omega⟩
theorem fin_text5 (w : World) (hg : Sg w) (g : Nat) (r : Option Nat) (src : ByteArray) (m : Mc) (A : Option Addr) (c : Nat) (h : Mac w g r src m A c) (hp : Pos m.stack) (hl : m.stack.length <= 1000000) (hf : m.fin = 5) (hmay : mayN 3 m.stack = true) :
    Calls Tryz.prog 79 #[.pointer (some ⟨g, 0, none⟩)] w (FinP w (34::34:: (jG (jR 3 m.stack)).2)) := by
  obtain ⟨n, hn, hT, hlen⟩ := vK 3 (by decide) m.stack h.sym hmay
  have HW := jJ0 (with_any w g r src m A c h 3 n _ (by decide) hT (by omega))
  have Hpos := jJ0 (hT.pos (by decide) hp)
  have hrl := (ke (jR 3 m.stack)).2
  have hc3 : w.cell? ⟨g, 3, none⟩ = some (.int .u8 5) := by rw [h.c3, hf]; rfl
  generalize jR 3 m.stack = k at *
  have HR := jJ0 (fun W (hW : Old w W) g' r' A' c' (hMac : Mac W g' r' ⟨#[]⟩ ⟨0, k, 0, 0⟩ A' c') => vy W (hg.old hW) g' r' _ _ A' c' hMac Hpos.out (by show k.length <= _; omega))
  generalize jG k = rs at *
  have Hlen := jJ0 (show rs.2.length <= 20000000 by omega)
  obtain ⟨x, y⟩ := rs
  simp only at HR Hlen hrl ⊢
  have hfo := Tryz.endsOther
  clear hrl h hg hT hlen hn hp hl hf hmay
  go_enter Tryz.func79, Tryz.ntmps79
  go_wp2_with (first | (go_at_call 144; refine HW.out.mono ?_; rintro e w1 ⟨g', r', A', c', rfl, hMac, hO1⟩; have HMac := jJ0 hMac; have HO1 := jJ0 hO1; clear hMac hO1) | (go_at_call 141; refine (HR.out _ HO1.out _ _ _ _ HMac.out).mono ?_; rintro e w2 ⟨a, b, he, hx, hy, ho⟩; obtain rfl : e = .returned (.agg #[.pointer a, .pointer b]) := he; have HY := jJ0 hy; have HO2 := jJ0 (HO1.out.old ho); clear hx hy ho) | (go_at_call 142; refine (jg _ _ y HY.out ⟨#[34,34]⟩ (by show 2 + y.length <= _; have := Hlen.out; omega)).mono ?_; rintro e w3 ⟨q, rfl, hq, ho⟩; have HQ := jJ0 hq; have HO3 := jJ0 (HO2.out.old ho); clear hq ho))
  go_ret
  exact ⟨q, rfl, HQ.out, HO3.out, by have := Hlen.out; simp only [List.length_cons]; omega⟩
theorem fin_text6 (w : World) (hg : Sg w) (g : Nat) (r : Option Nat) (src : ByteArray) (m : Mc) (A : Option Addr) (c : Nat) (h : Mac w g r src m A c) (hp : Pos m.stack) (hl : m.stack.length <= 1000000) (hf : m.fin = 6) (hmay : mayN 3 m.stack = true) :
    Calls Tryz.prog 79 #[.pointer (some ⟨g, 0, none⟩)] w (FinP w (48::48::34:: (jG (jR 3 m.stack)).2)) := by
  obtain ⟨n, hn, hT, hlen⟩ := vK 3 (by decide) m.stack h.sym hmay
  have HW := jJ0 (with_any w g r src m A c h 3 n _ (by decide) hT (by omega))
  have Hpos := jJ0 (hT.pos (by decide) hp)
  have hrl := (ke (jR 3 m.stack)).2
  have hc3 : w.cell? ⟨g, 3, none⟩ = some (.int .u8 6) := by rw [h.c3, hf]; rfl
  generalize jR 3 m.stack = k at *
  have HR := jJ0 (fun W (hW : Old w W) g' r' A' c' (hMac : Mac W g' r' ⟨#[]⟩ ⟨0, k, 0, 0⟩ A' c') => vy W (hg.old hW) g' r' _ _ A' c' hMac Hpos.out (by show k.length <= _; omega))
  generalize jG k = rs at *
  have Hlen := jJ0 (show rs.2.length <= 20000000 by omega)
  obtain ⟨x, y⟩ := rs
  simp only at HR Hlen hrl ⊢
  have hfo := Tryz.endsOther
  clear hrl h hg hT hlen hn hp hl hf hmay
  go_enter Tryz.func79, Tryz.ntmps79
  go_wp2_with (first | (go_at_call 144; refine HW.out.mono ?_; rintro e w1 ⟨g', r', A', c', rfl, hMac, hO1⟩; have HMac := jJ0 hMac; have HO1 := jJ0 hO1; clear hMac hO1) | (go_at_call 141; refine (HR.out _ HO1.out _ _ _ _ HMac.out).mono ?_; rintro e w2 ⟨a, b, he, hx, hy, ho⟩; obtain rfl : e = .returned (.agg #[.pointer a, .pointer b]) := he; have HY := jJ0 hy; have HO2 := jJ0 (HO1.out.old ho); clear hx hy ho) | (go_at_call 142; refine (jg _ _ y HY.out ⟨#[48,48,34]⟩ (by show 3 + y.length <= _; have := Hlen.out; omega)).mono ?_; rintro e w3 ⟨q, rfl, hq, ho⟩; have HQ := jJ0 hq; have HO3 := jJ0 (HO2.out.old ho); clear hq ho))
  go_ret
  exact ⟨q, rfl, HQ.out, HO3.out, by have := Hlen.out; simp only [List.length_cons]; omega⟩
theorem fin_text7 (w : World) (hg : Sg w) (g : Nat) (r : Option Nat) (src : ByteArray) (m : Mc) (A : Option Addr) (c : Nat) (h : Mac w g r src m A c) (hp : Pos m.stack) (hl : m.stack.length <= 1000000) (hf : m.fin = 7) (hmay : mayN 3 m.stack = true) :
    Calls Tryz.prog 79 #[.pointer (some ⟨g, 0, none⟩)] w (FinP w (48::34:: (jG (jR 3 m.stack)).2)) := by
  obtain ⟨n, hn, hT, hlen⟩ := vK 3 (by decide) m.stack h.sym hmay
  have HW := jJ0 (with_any w g r src m A c h 3 n _ (by decide) hT (by omega))
  have Hpos := jJ0 (hT.pos (by decide) hp)
  have hrl := (ke (jR 3 m.stack)).2
  have hc3 : w.cell? ⟨g, 3, none⟩ = some (.int .u8 7) := by rw [h.c3, hf]; rfl
  generalize jR 3 m.stack = k at *
  have HR := jJ0 (fun W (hW : Old w W) g' r' A' c' (hMac : Mac W g' r' ⟨#[]⟩ ⟨0, k, 0, 0⟩ A' c') => vy W (hg.old hW) g' r' _ _ A' c' hMac Hpos.out (by show k.length <= _; omega))
  generalize jG k = rs at *
  have Hlen := jJ0 (show rs.2.length <= 20000000 by omega)
  obtain ⟨x, y⟩ := rs
  simp only at HR Hlen hrl ⊢
  have hfo := Tryz.endsOther
  clear hrl h hg hT hlen hn hp hl hf hmay
  go_enter Tryz.func79, Tryz.ntmps79
  go_wp2_with (first | (go_at_call 144; refine HW.out.mono ?_; rintro e w1 ⟨g', r', A', c', rfl, hMac, hO1⟩; have HMac := jJ0 hMac; have HO1 := jJ0 hO1; clear hMac hO1) | (go_at_call 141; refine (HR.out _ HO1.out _ _ _ _ HMac.out).mono ?_; rintro e w2 ⟨a, b, he, hx, hy, ho⟩; obtain rfl : e = .returned (.agg #[.pointer a, .pointer b]) := he; have HY := jJ0 hy; have HO2 := jJ0 (HO1.out.old ho); clear hx hy ho) | (go_at_call 142; refine (jg _ _ y HY.out ⟨#[48,34]⟩ (by show 2 + y.length <= _; have := Hlen.out; omega)).mono ?_; rintro e w3 ⟨q, rfl, hq, ho⟩; have HQ := jJ0 hq; have HO3 := jJ0 (HO2.out.old ho); clear hq ho))
  go_ret
  exact ⟨q, rfl, HQ.out, HO3.out, by have := Hlen.out; simp only [List.length_cons]; omega⟩
theorem fin_sign (w : World) (hg : Sg w) (g : Nat) (r : Option Nat) (src : ByteArray) (m : Mc) (A : Option Addr) (c : Nat) (h : Mac w g r src m A c) (hp : Pos m.stack) (hl : m.stack.length <= 1000000) (hf : m.fin = 3) (hfr : m.from_ <= src.size) (hs : src.size <= 1000000) (h1 : 1 <= jS ((sb src).drop m.from_ ++ [61])) (hmay : mayN (jS ((sb src).drop m.from_ ++ [61])) m.stack = true) :
    Calls Tryz.prog 79 #[.pointer (some ⟨g, 0, none⟩)] w (FinP w (61 :: (jG (jR (jS ((sb src).drop m.from_ ++ [61])) m.stack)).2)) := by
  have hwd : sb (src.extract m.from_ src.size) = (sb src).drop m.from_ := by
    rw [jo, List.take_of_length_le (by rw [List.length_drop, jA]; exact Nat.le_refl _)]
  have hsz : (src.extract m.from_ src.size).size = src.size - m.from_ := by rw [<- jA, hwd, List.length_drop, jA]
  have hlt := ja ((sb src).drop m.from_ ++ [61])
  have hsg := fun W (hW : Old w W) => sign_any9 W (hg.old hW) (src.extract m.from_ src.size ++ ⟨#[61]⟩)
  rw [sb_append, hwd, show sb ⟨#[61]⟩ = [61] from rfl] at hsg
  have hadd := fun w => run_string_add_sum (P := Tryz.prog) w (src.extract m.from_ src.size) ⟨#[61]⟩ (by show _ + 1 <= _; omega)
  generalize src.extract m.from_ src.size ++ ⟨#[61]⟩ = sx at *
  generalize jS ((sb src).drop m.from_ ++ [61]) = t at *
  obtain ⟨n, hn, hT, hlen⟩ := vK t hlt m.stack h.sym hmay
  have HW := jJ0 (fun W (hW : Old w W) => with_any W g r src m A c (h.old hW) t n _ hlt hT (by omega))
  have Hpos := jJ0 (hT.pos h1 hp)
  have hrl := (ke (jR t m.stack)).2
  have hc3 : w.cell? ⟨g, 3, none⟩ = some (.int .u8 3) := by rw [h.c3, hf]; rfl
  have HC := jJ0 (fun W (hW : Old w W) => And.intro (h.old hW).c0 (h.old hW).c4)
  generalize jR t m.stack = k at *
  have HR := jJ0 (fun W (hW : Old w W) g' r' A' c' (hMac : Mac W g' r' ⟨#[]⟩ ⟨0, k, 0, 0⟩ A' c') => vy W (hg.old hW) g' r' _ _ A' c' hMac Hpos.out (by show k.length <= _; omega))
  generalize jG k = rs at *
  have Hlen := jJ0 (show rs.2.length <= 20000000 by omega)
  obtain ⟨x, y⟩ := rs
  simp only at HR Hlen hrl ⊢
  have HS := jJ0 hsg
  have a1 : (m.from_ : Int) <= (src.size : Int) := by omega
  have a2 : (0 : Int) <= (m.from_ : Int) := by omega
  have a3 : (m.from_ : Int).toNat = m.from_ := by omega
  have hfo := Tryz.endsOther
  have HD : Hid (Old w w.drew) := jJ0 (Kp.refl NoX w).drew
  clear hrl h hg hT hlen hn hp hl hf hmay hsg h1 hlt hwd hsz
  unfold yv at *
  go_enter Tryz.func79, Tryz.ntmps79
  go_wp2
  refine kn (S := fun W => Old w W) 17 rfl (by kernel_rfl) HD.out (fun hHeld => ?_)
  iterate 11 (refine' tOn rfl rfl (by kernel_rfl) (fun _ _ _ h => h) rfl hHeld (fun w' hSw => ?_) ?_; rotate_left; (have s0 := (HC.out _ hSw).1; have s1 := (HC.out _ hSw).2; clear hSw; go_simp <;> with_reducible rfl); simp only [Act.put, List.setIfInBounds_toArray, List.set_cons_zero, List.set_cons_succ])
  refine tCall rfl (by kernel_rfl) (by decide) (fun K hK => ?_)
  go_simp
  go_at_call 145
  refine (HS.out _ hHeld).mono ?_
  rintro e w1 ⟨rfl, rfl⟩
  go_simp
  refine hK.out _ _ hHeld (fun hHeld => ?_)
  clear hK K
  refine tCall rfl (by kernel_rfl) (by decide) (fun K hK => ?_)
  go_simp
  go_at_call 144
  refine (HW.out _ hHeld).mono ?_
  rintro e w2 ⟨g', r', A', c', rfl, hMac, hO1⟩
  go_simp
  refine hK.out _ _ (hHeld.old hO1) (fun hHeld => ?_)
  clear hK K
  refine tCall rfl (by kernel_rfl) (by decide) (fun K hK => ?_)
  go_simp
  go_at_call 141
  refine (HR.out _ hHeld _ _ _ _ hMac).mono ?_
  rintro e w3 ⟨a, b, he, hx, hy, ho⟩
  obtain rfl : e = .returned (.agg #[.pointer a, .pointer b]) := he
  go_simp
  refine hK.out _ _ (hHeld.old ho) (fun hHeld => ?_)
  clear hK K
  iterate 1 (refine' tOn rfl rfl (by kernel_rfl) (fun _ _ _ h => h) rfl hHeld (fun w' hSw => ?_) ?_; rotate_left; (clear hSw; go_simp <;> with_reducible rfl); simp only [Act.put, List.setIfInBounds_toArray, List.set_cons_zero, List.set_cons_succ])
  refine tCall rfl (by kernel_rfl) (by decide) (fun K hK => ?_)
  go_simp
  go_at_call 142
  refine (jg _ b y hy ⟨#[61]⟩ (by show 1 + y.length <= _; have := Hlen.out; omega)).mono ?_
  rintro e w4 ⟨q, rfl, hq, ho2⟩
  go_simp
  refine hK.out _ _ (hHeld.old ho2) (fun hHeld => ?_)
  clear hK K
  iterate 1 (refine' tOn rfl rfl (by kernel_rfl) (fun _ _ _ h => h) rfl hHeld (fun w' hSw => ?_) ?_; rotate_left; (clear hSw; go_simp <;> with_reducible rfl); simp only [Act.put, List.setIfInBounds_toArray, List.set_cons_zero, List.set_cons_succ])
  refine wpAnyH_done (by kernel_rfl) ?_ _
  have Hfin := jJ0 (show FinP w (61 :: y) (.returned (.pointer q)) w4 from ⟨q, rfl, hq, hHeld, by have := Hlen.out; simp only [List.length_cons]; omega⟩)
  clear hq ho2 hHeld hx hy ho hMac hO1
  go_wp2
  go_ret
  exact Hfin.out
structure FinOk (src : List UInt8) (m : Mc) : Prop where
  pos : Pos m.stack
  word : m.fin = 2 -> m.from_ < src.length
  sgn : m.fin = 3 -> m.from_ <= src.length /\ 1 <= jS (src.drop m.from_ ++ [61]) /\ mayN (jS (src.drop m.from_ ++ [61])) m.stack = true
  txt : 4 <= m.fin -> m.fin <= 7 -> mayN 3 m.stack = true
theorem finished_any (w : World) (hg : Sg w) (g : Nat) (r : Option Nat) (src : ByteArray) (m : Mc) (A : Option Addr) (c : Nat) (h : Mac w g r src m A c) (hl : m.stack.length <= 1000000) (hs : src.size <= 1000000) (hk : FinOk (sb src) m) :
    Calls Tryz.prog 79 #[.pointer (some ⟨g, 0, none⟩)] w (FinP w (vF (sb src) m)) := by
  obtain ⟨hp, hk2, hk3, hk4⟩ := hk
  rw [jA] at hk2 hk3
  unfold vF
  by_cases e1 : m.fin = 1
  · rw [if_pos e1]; exact fin_comment w hg g r src m A c h hp hl e1
  rw [if_neg e1]
  by_cases e2 : m.fin = 2
  · rw [if_pos e2]; exact fin_word w hg g r src m A c h hp hl e2 (hk2 e2)
  rw [if_neg e2]
  by_cases e3 : m.fin = 3
  · rw [if_pos e3]; exact fin_sign w hg g r src m A c h hp hl e3 (hk3 e3).1 hs (hk3 e3).2.1 (hk3 e3).2.2
  rw [if_neg e3]
  by_cases e4 : m.fin = 4
  · rw [if_pos e4]; exact fin_text4 w hg g r src m A c h hp hl e4 (hk4 (by omega) (by omega))
  rw [if_neg e4]
  by_cases e5 : m.fin = 5
  · rw [if_pos e5]; exact fin_text5 w hg g r src m A c h hp hl e5 (hk4 (by omega) (by omega))
  rw [if_neg e5]
  by_cases e6 : m.fin = 6
  · rw [if_pos e6]; exact fin_text6 w hg g r src m A c h hp hl e6 (hk4 (by omega) (by omega))
  rw [if_neg e6]
  by_cases e7 : m.fin = 7
  · rw [if_pos e7]; exact fin_text7 w hg g r src m A c h hp hl e7 (hk4 (by omega) (by omega))
  rw [if_neg e7]
  exact fin_rest w hg g r src m A c h hp hl (by omega)
end Go.Proofs.YtmmjcbbogokmfaaGreatDoor
