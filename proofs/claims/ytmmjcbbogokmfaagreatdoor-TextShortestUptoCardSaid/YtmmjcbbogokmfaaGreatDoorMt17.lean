import Derived.Test.YtmmjcbbogokmfaaGreatDoorMt01
import Derived.Test.YtmmjcbbogokmfaaGreatDoorMt16
set_option maxRecDepth 100000
set_option maxHeartbeats 25600000
namespace Go.Proofs.YtmmjcbbogokmfaaGreatDoor
open Go.RowKit
def RNx (w : World) (g : Nat) (src : ByteArray) (xs : List Value) (r' : Rdr) (e : Ending) (w' : World) : Prop := e = .returned (.tuple #[]) /\ Rb w' g src r' xs /\ Kp (GX g) w w'
theorem skip_true_end (l : List UInt8) (h : ∀ c, l.head? = some c -> lfC c = true) : ji true l = ji false l := by
  cases l with
  | nil => rfl
  | cons c l =>
    have hc := h c rfl
    have hb : ki c = true := by
      have := of_decide_eq_true hc
      exact decide_eq_true (by omega)
    rw [ji, ji, if_pos hc, if_pos hb]
theorem vq (c : UInt8) (l : List UInt8) : ji false (c :: l) = if ki c = true then ji false l + 1 else if c.toNat = 35 then ji true l + 1 else 0 := rfl
theorem vS (c : UInt8) (l : List UInt8) : ji true (c :: l) = if lfC c = true then ji false l + 1 else ji true l + 1 := rfl
theorem skip_le : ∀ (b : Bool) (l : List UInt8), ji b l <= l.length
  | b, [] => by cases b <;> exact Nat.le_refl _
  | true, c :: l => by
    have := skip_le true l
    have := skip_le false l
    rw [vS, List.length_cons]
    split <;> omega
  | false, c :: l => by
    have := skip_le true l
    have := skip_le false l
    rw [vq, List.length_cons]
    split
    · omega
    · split <;> omega
theorem skip_head (l : List UInt8) : ∀ (b : Bool), ∀ c, (l.drop (ji b l)).head? = some c -> ki c = false /\ ¬ c.toNat = 35 := by
  induction l with
  | nil => intro b c h; cases b <;> cases h
  | cons a l ih =>
    intro b c h
    cases b
    · rw [vq] at h
      split at h
      · rw [List.drop_succ_cons] at h; exact ih false c h
      · rename_i h1
        split at h
        · rw [List.drop_succ_cons] at h; exact ih true c h
        · rename_i h2
          injection h with h
          rw [<- h]
          exact ⟨by simpa using h1, h2⟩
    · rw [vS] at h
      split at h <;> (rw [List.drop_succ_cons] at h; exact ih _ c h)
structure SkSt (w : World) (g : Nat) (src : ByteArray) (r : Rdr) (xs : List Value) (K : Nat) (com : Bool) (i : Nat) (W : World) : Prop where
  le : i <= src.size
  eq : i + ji com ((sb src).drop i) = K
  box : Rb W g src { r with at_ := i } xs
  kp : Kp (GX g) w W
section
variable {w W : World} {g : Nat} {src : ByteArray} {r : Rdr} {xs : List Value} {K i : Nat} {com : Bool}
theorem SkSt.step (h : SkSt w g src r xs K com i W) (com' : Bool) (hlt : i < src.size) (he : i + 1 + ji com' ((sb src).drop (i + 1)) = K) : SkSt w g src r xs K com' (i + 1) (W.setCell ⟨g, 1, none⟩ (.int .i64 ((i : Int) + 1))) := by
  have h1 := h.box.setAt (i + 1)
  rw [show ((i + 1 : Nat) : Int) = (i : Int) + 1 by omega] at h1
  exact ⟨hlt, he, h1.1, h.kp.trans h1.2 (fun _ _ h => h)⟩
theorem SkSt.drewN (h : SkSt w g src r xs K com i W) (n : Nat) : SkSt w g src r xs K com i (W.drewN n) := ⟨h.le, h.eq, h.box, h.kp.drewN n⟩
def rdAt (g : Nat) (W : World) : Nat := (intOf ((W.cell? ⟨g, 1, none⟩).getD undef)).toNat
theorem Rb.at_ {W : World} {r : Rdr} (h : Rb W g src r xs) : rdAt g W = r.at_ := by rw [rdAt, h.c1]; exact Int.toNat_natCast _
end
theorem next_any (w : World) (hg : Sg w) (g : Nat) (hgg : 8 <= g) (src : ByteArray) (r r' : Rdr) (xs : List Value) (h : Rb w g src r xs) (ha : r.at_ <= src.size) (hs : src.size <= 1000000) (hn : jy (sb src) r = some r') :
    Calls Tryz.prog 135 #[.pointer (some ⟨g, 0, none⟩)] w (RNx w g src xs r') := by
  have hK := skip_le false ((sb src).drop r.at_)
  rw [List.length_drop, jA] at hK
  have Hhd := jJ0 (skip_head ((sb src).drop r.at_) false)
  have H0 := jJ0 (show SkSt w g src r xs (r.at_ + ji false ((sb src).drop r.at_)) false r.at_ w from ⟨ha, rfl, h, Kp.refl _ _⟩)
  unfold jy at hn
  simp only [jA] at hn
  rw [List.drop_drop] at Hhd
  generalize hk : r.at_ + ji false ((sb src).drop r.at_) = K at *
  have HG := jJ0 (fun W (h : Kp (GX g) w W) => hg.kp h (fun e : 0 = g => by omega) (fun e : 2 = g => by omega))
  clear h hg hgg
  go_enter Tryz.func135, Tryz.ntmps135
  go_wp2
  go_loopw [] (fun wr => ∃ i, SkSt w g src r xs K false i wr) (fun wr => src.size - rdAt g wr)
  case atStart => exact ⟨_, H0.out⟩
  case round =>
    clear H0
    obtain ⟨i, hst⟩ := hrel
    have hc0 := hst.box.c0
    have hc1 := hst.box.c1
    have hz := hst.box.z 1
    simp only at hc1
    have hki := hst.eq
    by_cases hlt : i < src.size
    · have hd := vL src i hlt
      have a1 : (i : Int) < (src.size : Int) := by omega
      have a2 : (0 : Int) <= (i : Int) := by omega
      have a3 : (i : Int).toNat = i := by omega
      have a4 : IntKind.i64.wrap ((i : Int) + 1) = (i : Int) + 1 := IntWalk.i64_in _ (by omega)
      rw [hd, vq] at hki
      by_cases hbl : ki src[i] = true
      · rw [if_pos hbl] at hki
        have Hset := jJ0 (fun W (h : SkSt w g src r xs K false i W) => h.step false hlt (by omega))
        have hbl' := of_decide_eq_true hbl
        have HSt := jJ0 hst
        clear hst hbl hd hki
        rcases hbl' with e | e | e | e
        · have e32 : ((src[i].toNat : Int) == 32) = true := beq_iff_eq.2 (by omega)
          go_wp2
          go_quiet (fail)
          go_wp2
          go_quiet (fail)
          go_wp2
          exact ⟨⟨_, Hset.out _ (HSt.out.drewN _)⟩, by rw [(Hset.out _ (HSt.out.drewN _)).box.at_, HSt.out.box.at_]; simp only; omega⟩
        · have e32 : ((src[i].toNat : Int) == 32) = false := beq_eq_false_iff_ne.2 (by omega)
          have e9 : ((src[i].toNat : Int) == 9) = true := beq_iff_eq.2 (by omega)
          go_wp2
          go_quiet (fail)
          go_wp2
          go_quiet (fail)
          go_wp2
          exact ⟨⟨_, Hset.out _ (HSt.out.drewN _)⟩, by rw [(Hset.out _ (HSt.out.drewN _)).box.at_, HSt.out.box.at_]; simp only; omega⟩
        · have e32 : ((src[i].toNat : Int) == 32) = false := beq_eq_false_iff_ne.2 (by omega)
          have e9 : ((src[i].toNat : Int) == 9) = false := beq_eq_false_iff_ne.2 (by omega)
          have e10 : ((src[i].toNat : Int) == 10) = true := beq_iff_eq.2 (by omega)
          go_wp2
          go_quiet (fail)
          go_wp2
          go_quiet (fail)
          go_wp2
          exact ⟨⟨_, Hset.out _ (HSt.out.drewN _)⟩, by rw [(Hset.out _ (HSt.out.drewN _)).box.at_, HSt.out.box.at_]; simp only; omega⟩
        · have e32 : ((src[i].toNat : Int) == 32) = false := beq_eq_false_iff_ne.2 (by omega)
          have e9 : ((src[i].toNat : Int) == 9) = false := beq_eq_false_iff_ne.2 (by omega)
          have e10 : ((src[i].toNat : Int) == 10) = false := beq_eq_false_iff_ne.2 (by omega)
          have e13 : ((src[i].toNat : Int) == 13) = true := beq_iff_eq.2 (by omega)
          go_wp2
          go_quiet (fail)
          go_wp2
          go_quiet (fail)
          go_wp2
          exact ⟨⟨_, Hset.out _ (HSt.out.drewN _)⟩, by rw [(Hset.out _ (HSt.out.drewN _)).box.at_, HSt.out.box.at_]; simp only; omega⟩
      · rw [if_neg hbl] at hki
        have hbl' : ¬ (src[i].toNat = 32 \/ src[i].toNat = 9 \/ src[i].toNat = 10 \/ src[i].toNat = 13) := fun e => hbl (decide_eq_true e)
        have e32 : ((src[i].toNat : Int) == 32) = false := beq_eq_false_iff_ne.2 (by omega)
        have e9 : ((src[i].toNat : Int) == 9) = false := beq_eq_false_iff_ne.2 (by omega)
        have e10 : ((src[i].toNat : Int) == 10) = false := beq_eq_false_iff_ne.2 (by omega)
        have e13 : ((src[i].toNat : Int) == 13) = false := beq_eq_false_iff_ne.2 (by omega)
        by_cases h35 : src[i].toNat = 35
        · rw [if_pos h35] at hki
          have e35 : ((src[i].toNat : Int) == 35) = true := beq_iff_eq.2 (by omega)
          have Hin := jJ0 (show SkSt w g src r xs K true i wr from ⟨hst.le, by rw [hd, vS, if_neg (by simp only [lfC]; rw [decide_eq_false (by omega)]; decide)]; exact hki, hst.box, hst.kp⟩)
          have hAt := jJ0 hst.box.at_
          clear hbl hbl' hd hki hst
          go_wp2
          go_quiet (fail)
          go_wp2
          go_quiet (fail)
          go_wp2
          go_loopw [] (fun wq => ∃ j, i <= j /\ SkSt w g src r xs K true j wq) (fun wq => src.size - rdAt g wq)
          case atStart => exact ⟨i, Nat.le_refl _, Hin.out.drewN _⟩
          case round =>
            clear Hin
            obtain ⟨j, hij, hst⟩ := hrel
            have hc0 := hst.box.c0
            have hc1 := hst.box.c1
            have hz := hst.box.z 1
            simp only at hc1
            have hkj := hst.eq
            by_cases hjl : j < src.size
            · have hd := vL src j hjl
              have b1 : (j : Int) < (src.size : Int) := by omega
              have b2 : (0 : Int) <= (j : Int) := by omega
              have b3 : (j : Int).toNat = j := by omega
              have b4 : IntKind.i64.wrap ((j : Int) + 1) = (j : Int) + 1 := IntWalk.i64_in _ (by omega)
              have HAj := jJ0 hst.box.at_
              by_cases h10 : src[j].toNat = 10
              · have hij2 : i < j := by
                  rcases Nat.lt_or_ge i j with h | h
                  · exact h
                  · obtain rfl : i = j := by omega
                    omega
                have Hgo := jJ0 (show SkSt w g src r xs K false j wr from ⟨hst.le, by rw [<- hkj, skip_true_end]; (intro c hc; rw [hd] at hc; injection hc with hc; rw [<- hc]; exact decide_eq_true h10), hst.box, hst.kp⟩)
                have n10 : ((src[j].toNat : Int) != 10) = false := by rw [bne, beq_iff_eq.2 (show (src[j].toNat : Int) = 10 by omega)]; rfl
                clear hst hkj hd h10
                go_wp2
                go_quiet (fail)
                go_wp2
                exact ⟨⟨_, Hgo.out.drewN _⟩, by rw [(Hgo.out.drewN _).box.at_, hAt.out]; simp only; omega⟩
              · have Hset := jJ0 (fun W (h : SkSt w g src r xs K true j W) => h.step true hjl (by rw [<- hkj, hd, vS, if_neg (by simp only [lfC]; rw [decide_eq_false h10]; decide)]; omega))
                have HSt := jJ0 hst
                have n10 : ((src[j].toNat : Int) != 10) = true := by rw [bne, beq_eq_false_iff_ne.2 (show (src[j].toNat : Int) ≠ 10 by omega)]; rfl
                clear hst hkj hd h10
                go_wp2
                go_quiet (fail)
                go_wp2
                exact ⟨⟨j + 1, by omega, Hset.out _ (HSt.out.drewN _)⟩, by rw [(Hset.out _ (HSt.out.drewN _)).box.at_, HAj.out]; simp only; omega⟩
            · obtain rfl : j = src.size := by have := hst.le; omega
              have Hgo := jJ0 (show SkSt w g src r xs K false src.size wr from ⟨hst.le, by rw [<- hkj, skip_true_end]; (intro c hc; rw [List.drop_eq_nil_of_le (by rw [jA]; exact Nat.le_refl _)] at hc; cases hc), hst.box, hst.kp⟩)
              have b1 : ¬ (src.size : Int) < (src.size : Int) := by omega
              clear hst hkj
              go_wp2
              go_quiet (fail)
              go_wp2
              exact ⟨⟨_, Hgo.out.drewN _⟩, by rw [(Hgo.out.drewN _).box.at_, hAt.out]; simp only; omega⟩
        · have hK : K = i := by rw [if_neg h35] at hki; omega
          subst hK
          have e35 : ((src[K].toNat : Int) == 35) = false := beq_eq_false_iff_ne.2 (by omega)
          rw [if_neg (by omega)] at hn
          obtain ⟨x, hx, he⟩ := Option.map_eq_some_iff.1 hn
          have HF := jJ0 (fun n => (hst.drewN n).box.setFrom K)
          have HK := jJ0 hst.kp
          have b2 : ((K : Int) == (src.size : Int)) = false := beq_eq_false_iff_ne.2 (by omega)
          have hz2 := hst.box.z 2
          have hc2 := hst.box.c2
          have Hw := jJ0 (fun W => vB W src[K])
          unfold bv at Hw
          rw [hd, lexN] at hx
          clear hst hki hbl hbl' h35 Hhd a4
          by_cases hw : jK src[K] = true
          · rw [if_pos hw] at hx
            injection hx with hx
            rw [hw] at Hw
            have hl : ((sb src).drop K).length = src.size - K := by rw [List.length_drop, jA]
            have hT := tw_lt jK ((sb src).drop K)
            have hE := tw_end jK ((sb src).drop K)
            have htk := yF jK ((sb src).drop K)
            have hTl : (((sb src).drop K).takeWhile jK).length <= src.size - K := by rw [<- hl]; exact ky _ _
            have hT0 : 0 < (((sb src).drop K).takeWhile jK).length := by rw [hd]; exact km jK _ _ hw
            rw [hl] at hE
            rw [<- hd] at hx
            try simp only at hx
            generalize hTT : (((sb src).drop K).takeWhile jK).length = T at *
            have hsy : sb (src.extract K (K + T)) = ((sb src).drop K).takeWhile jK := by rw [jo, show K + T - K = T by omega, <- htk]
            rw [<- hsy] at hx
            have HT := jJ0 (show ∀ k, k < T -> ∃ hin : K + k < src.size, jK src[K + k] = true from fun k hk => by
              obtain ⟨c, h1, h2⟩ := hT k hk
              obtain ⟨h3, h4⟩ := drop_at src K k c h1
              exact ⟨h3, by rw [h4]; exact h2⟩)
            have HE := jJ0 (show T < src.size - K -> ∃ hin : K + T < src.size, jK src[K + T] = false from fun hlt => by
              obtain ⟨c, h1, h2⟩ := hE hlt
              obtain ⟨h3, h4⟩ := drop_at src K T c h1
              exact ⟨h3, by rw [h4]; exact h2⟩)
            have hsz : (src.extract K (K + T)).size = T := by rw [<- jA, hsy, hTT]
            have HN := jJ0 (fun W (h : Sg W) => named_any9 W h (src.extract K (K + T)) (by omega))
            have Hx := jJ0 hx
            have Hend := jJ0 he
            clear hl hT hE htk hTT hsy hx hd he hw hn hsz
            go_wp2
            go_quiet (fail)
            go_wp2
            go_quiet (fail)
            go_wp2
            generalize hQ : World.setCell _ _ _ = Q
            have hX : Rb Q g src { r with at_ := K, from_ := K } xs /\ Kp (GX g) w Q := by
              rw [<- hQ]
              exact ⟨(HF.out _).1, (HK.out.drewN _).trans (HF.out _).2 (fun _ _ e => e)⟩
            have hc0 := hX.1.c0
            have hc1 := hX.1.c1
            simp only at hc1
            have HX := jJ0 hX
            clear hQ HF HK hX
            go_quiet (fail)
            go_wp2
            go_quiet (fail)
            go_wp2_with (go_at_call 129; refine (Hw.out _).mono ?_; rintro e w1 ⟨rfl, rfl⟩)
            clear hc0 hc1 hc2 hz2 hz
            go_loopw [] (fun wq => ∃ j : Nat, j <= T /\ Rb wq g src { r with at_ := K + j, from_ := K } xs /\ Kp (GX g) w wq) (fun wq => src.size - rdAt g wq)
            case atStart => exact ⟨0, Nat.zero_le _, HX.out.1.drewN _, HX.out.2.drewN _⟩
            case round =>
              clear HX
              obtain ⟨j, hj, hb, hkp⟩ := hrel
              have hc0 := hb.c0
              have hc1 := hb.c1
              have hz1 := hb.z 1
              simp only at hc1
              have Hb := jJ0 hb
              have Hkp := jJ0 hkp
              by_cases hjT : j < T
              · obtain ⟨hin, hwc⟩ := HT.out j hjT
                have Hw2 := jJ0 (fun W => vB W src[K + j])
                unfold bv at Hw2
                rw [hwc] at Hw2
                have HNx := hb
                have HNx := jJ0 (fun n => (HNx.drewN n).setAt (K + j + 1))
                rw [show ((K + j + 1 : Nat) : Int) = ((K + j : Nat) : Int) + 1 by omega] at HNx
                have Hme := jJ0 hb.at_
                clear hwc hb hkp
                have f1 : ((K + j : Nat) : Int) < (src.size : Int) := by omega
                have f2 : (0 : Int) <= ((K + j : Nat) : Int) := by omega
                have f3 : ((K + j : Nat) : Int).toNat = K + j := by omega
                have f4 : IntKind.i64.wrap (((K + j : Nat) : Int) + 1) = ((K + j : Nat) : Int) + 1 := IntWalk.i64_in _ (by omega)
                generalize hp : K + j = p at *
                go_wp2
                go_quiet ((go_at_call 129; exact Calls.quiet_of_same ((Hw2.out _).mono (fun _ _ h => ⟨h.1, h.2.symm⟩))))
                go_wp2
                subst hp
                exact ⟨⟨j + 1, by omega, (HNx.out _).1, (Hkp.out.drewN _).trans (HNx.out _).2 (fun _ _ e => e)⟩, by rw [(HNx.out _).1.at_, Hme.out]; simp only; omega⟩
              · obtain rfl : j = T := by omega
                have HL := jJ0 (fun n => lexeme_any (wr.drewN n) g src { r with at_ := K + j, from_ := K } xs (hb.drewN n) (by simp only; omega) (by simp only; omega))
                simp only at HL
                have HSg := jJ0 (fun n => HG.out (wr.drewN n) (hkp.drewN n))
                have hc3 := hb.c3
                have hz3 := hb.z 3
                have hx2 : (jU (sb (src.extract K (K + j))) : Int) = (x.2 : Int) := by rw [<- Hx.out]
                have Hx1 := jJ0 (show x.1 = j by rw [<- Hx.out])
                rw [hx2] at HN
                clear hb hkp hx2 Hx HT
                generalize hsx : src.extract K (K + j) = sy at *
                by_cases hend : K + j = src.size
                · have f1 : ¬ ((K + j : Nat) : Int) < (src.size : Int) := by omega
                  go_wp2
                  go_quiet (fail)
                  go_wp2_with (first | (go_at_call 165; refine (HL.out _).mono ?_; rintro e w1 ⟨rfl, nl, rfl⟩) | (go_at_call 164; refine (HN.out _ (by first | exact (HSg.out _).old ((Kp.refl _ _).drewN _) | exact HSg.out _)).mono ?_; rintro e w1 ⟨rfl, rfl⟩))
                  go_end0
                  rw [<- Hend.out, Hx1.out]
                  exact ⟨rfl, ((Hb.out.drewN _).setT _).1, (Hkp.out.drewN _).trans ((Hb.out.drewN _).setT _).2 (fun _ _ e => e)⟩
                · have f1 : ((K + j : Nat) : Int) < (src.size : Int) := by omega
                  have f2 : (0 : Int) <= ((K + j : Nat) : Int) := by omega
                  have f3 : ((K + j : Nat) : Int).toNat = K + j := by omega
                  obtain ⟨hin, hwc⟩ := HE.out (by omega)
                  have Hw2 := jJ0 (fun W => vB W src[K + j])
                  unfold bv at Hw2
                  rw [hwc] at Hw2
                  clear hwc HE
                  generalize hp : K + j = p at *
                  go_wp2
                  go_quiet ((go_at_call 129; exact Calls.quiet_of_same ((Hw2.out _).mono (fun _ _ h => ⟨h.1, h.2.symm⟩))))
                  go_wp2_with (first | (go_at_call 165; refine (HL.out _).mono ?_; rintro e w1 ⟨rfl, nl, rfl⟩) | (go_at_call 164; refine (HN.out _ (by first | exact (HSg.out _).old ((Kp.refl _ _).drewN _) | exact HSg.out _)).mono ?_; rintro e w1 ⟨rfl, rfl⟩))
                  go_end0
                  subst hp
                  rw [<- Hend.out, Hx1.out]
                  exact ⟨rfl, ((Hb.out.drewN _).setT _).1, (Hkp.out.drewN _).trans ((Hb.out.drewN _).setT _).2 (fun _ _ e => e)⟩
          · rw [if_neg hw] at hx
            rw [show jK src[K] = false from by simpa using hw] at Hw
            by_cases h34 : src[K].toNat = 34
            · rw [if_pos h34] at hx
              obtain ⟨q, hq, e⟩ := Option.map_eq_some_iff.1 hx
              have e34 : ((src[K].toNat : Int) == 34) = true := beq_iff_eq.2 (by omega)
              have Hend := jJ0 (show ({ r with at_ := K + 1 + q, from_ := K, t := 3 } : Rdr) = r' by rw [<- he, <- e, show K + 1 + q = K + (q + 1) by omega])
              have Hq := jJ0 hq
              clear hx he e hq hw h34 hd hn
              have f4 : IntKind.i64.wrap ((K : Int) + 1) = (K : Int) + 1 := IntWalk.i64_in _ (by omega)
              go_wp2
              go_quiet (fail)
              go_wp2
              go_quiet (fail)
              go_wp2
              generalize hQ : World.setCell _ _ _ = Q
              have hX : Rb Q g src { r with at_ := K, from_ := K } xs /\ Kp (GX g) w Q := by
                rw [<- hQ]
                exact ⟨(HF.out _).1, (HK.out.drewN _).trans (HF.out _).2 (fun _ _ e => e)⟩
              have hc0 := hX.1.c0
              have hc1 := hX.1.c1
              have hz1 := hX.1.z 1
              simp only at hc1
              have HX := jJ0 hX
              clear hQ HF HK hX
              go_quiet (fail)
              go_wp2
              go_quiet (fail)
              go_wp2_with (go_at_call 129; refine (Hw.out _).mono ?_; rintro e w1 ⟨rfl, rfl⟩)
              generalize hQ2 : World.setCell _ _ _ = Q2
              have HY := jJ0 (show Rb Q2 g src { r with at_ := K + 1, from_ := K } xs /\ Kp (GX g) w Q2 by
                have h := fun n => (HX.out.1.drewN n).setAt (K + 1)
                rw [show ((K + 1 : Nat) : Int) = (K : Int) + 1 by omega] at h
                rw [<- hQ2]
                exact ⟨(h _).1, (HX.out.2.drewN _).trans (h _).2 (fun _ _ e => e)⟩)
              clear hQ2 HX hc0 hc1 hz1
              go_loopw [] (fun wq => ∃ j p : Nat, strLen ((sb src).drop j) = some p /\ j + p = K + 1 + q /\ j <= src.size /\ Rb wq g src { r with at_ := j, from_ := K } xs /\ Kp (GX g) w wq) (fun wq => src.size - rdAt g wq)
              case atStart => exact ⟨K + 1, q, Hq.out, rfl, by omega, HY.out.1, HY.out.2⟩
              case round =>
                clear HY
                obtain ⟨j, p, hp, hjp, hjs, hb, hkp⟩ := hrel
                have hc0 := hb.c0
                have hc1 := hb.c1
                have hz1 := hb.z 1
                simp only at hc1
                have hc3 := hb.c3
                have hz3 := hb.z 3
                have Hme := jJ0 hb.at_
                have hjl : j < src.size := by
                  rcases Nat.lt_or_ge j src.size with h | h
                  · exact h
                  · rw [List.drop_eq_nil_of_le (by rw [jA]; exact h), strLen] at hp; cases hp
                have hd := vL src j hjl
                have f1 : (j : Int) < (src.size : Int) := by omega
                have f2 : (0 : Int) <= (j : Int) := by omega
                have f3 : (j : Int).toNat = j := by omega
                have f5 : IntKind.i64.wrap ((j : Int) + 1) = (j : Int) + 1 := IntWalk.i64_in _ (by omega)
                rw [hd] at hp
                have HN1 := jJ0 (fun n => (hb.drewN n).setAt (j + 1))
                rw [show ((j + 1 : Nat) : Int) = (j : Int) + 1 by omega] at HN1
                have Hkp := jJ0 hkp
                clear hb hkp
                by_cases h3 : src[j].toNat = 34
                · have n34 : ((src[j].toNat : Int) != 34) = false := by rw [bne, beq_iff_eq.2 (show (src[j].toNat : Int) = 34 by omega)]; rfl
                  have hp1 : p = 1 := by
                    have e : strLen (src[j] :: (sb src).drop (j + 1)) = some 1 := by
                      rw [strLen.eq_def]; simp only; rw [if_pos h3]
                    rw [e] at hp; injection hp with hp; exact hp.symm
                  subst hp1
                  rw [<- hjp] at Hend
                  clear hp hd h3 Hq
                  go_wp2
                  go_quiet (fail)
                  go_wp2
                  go_end0
                  rw [<- Hend.out]
                  exact ⟨rfl, ((HN1.out _).1.setT 3).1, ((Hkp.out.drewN _).trans (HN1.out _).2 (fun _ _ e => e)).trans ((HN1.out _).1.setT 3).2 (fun _ _ e => e)⟩
                · have n34 : ((src[j].toNat : Int) != 34) = true := by rw [bne, beq_eq_false_iff_ne.2 (show (src[j].toNat : Int) ≠ 34 by omega)]; rfl
                  rw [strLen.eq_def] at hp
                  simp only at hp
                  rw [if_neg h3] at hp
                  clear hc3 hz3
                  by_cases h92 : src[j].toNat = 92
                  · rw [if_pos h92] at hp
                    have e92 : ((src[j].toNat : Int) == 92) = true := beq_iff_eq.2 (by omega)
                    have hj1 : j + 1 < src.size := by
                      rcases Nat.lt_or_ge (j + 1) src.size with h | h
                      · exact h
                      · rw [List.drop_eq_nil_of_le (by rw [jA]; exact h)] at hp; cases hp
                    rw [vL src (j + 1) hj1] at hp
                    simp only at hp
                    obtain ⟨p2, hp2, e2⟩ := Option.map_eq_some_iff.1 hp
                    have f6 : IntKind.i64.wrap ((j : Int) + 1 + 1) = (j : Int) + 1 + 1 := IntWalk.i64_in _ (by omega)
                    have Hp2 := jJ0 hp2
                    have HN2 := jJ0 (fun n => (HN1.out n).1.setAt (j + 1 + 1))
                    rw [show ((j + 1 + 1 : Nat) : Int) = (j : Int) + 1 + 1 by omega] at HN2
                    clear hp hp2 hd h3 h92
                    go_wp2
                    go_quiet (fail)
                    go_wp2
                    go_quiet (fail)
                    go_wp2
                    exact ⟨⟨j + 1 + 1, p2, Hp2.out, by omega, by omega, (HN2.out _).1, ((Hkp.out.drewN _).trans (HN1.out _).2 (fun _ _ e => e)).trans (HN2.out _).2 (fun _ _ e => e)⟩, by rw [(HN2.out _).1.at_, Hme.out]; simp only; omega⟩
                  · rw [if_neg h92] at hp
                    have e92 : ((src[j].toNat : Int) == 92) = false := beq_eq_false_iff_ne.2 (by omega)
                    obtain ⟨p2, hp2, e2⟩ := Option.map_eq_some_iff.1 hp
                    have Hp2 := jJ0 hp2
                    clear hp hp2 hd h3 h92
                    go_wp2
                    go_quiet (fail)
                    go_wp2
                    go_quiet (fail)
                    go_wp2
                    exact ⟨⟨j + 1, p2, Hp2.out, by omega, by omega, (HN1.out _).1, (Hkp.out.drewN _).trans (HN1.out _).2 (fun _ _ e => e)⟩, by rw [(HN1.out _).1.at_, Hme.out]; simp only; omega⟩
            · rw [if_neg h34] at hx
              have e34 : ((src[K].toNat : Int) == 34) = false := beq_eq_false_iff_ne.2 (by omega)
              have f4 : IntKind.i64.wrap ((K : Int) + 1) = (K : Int) + 1 := IntWalk.i64_in _ (by omega)
              have hsy : sb (src.extract K (K + 1)) = [src[K]] := by rw [jo, show K + 1 - K = 1 by omega, hd]; rfl
              have hsz : (src.extract K (K + 1)).size = 1 := by rw [<- jA, hsy]; rfl
              have HL := jJ0 (fun W t (h : Rb W g src { r with at_ := K + 1, from_ := K, t := t } xs) => lexeme_any W g src { r with at_ := K + 1, from_ := K, t := t } xs h (by simp only; omega) (by simp only; omega))
              simp only at HL
              have HS1 := jJ0 (fun W (h : Sg W) => sign_any9 W h (src.extract K (K + 1)))
              have HS2 := jJ0 (fun W (h : Sg W) => sign_any9 W h (src.extract K (K + 1) ++ ⟨#[61]⟩))
              have hadd := fun w => run_string_add_sum (P := Tryz.prog) w (src.extract K (K + 1)) ⟨#[61]⟩ (by show _ + 1 <= _; omega)
              rw [sb_append, hsy, show sb ⟨#[61]⟩ = [61] from rfl, List.singleton_append] at HS2
              rw [hsy] at HS1
              have HSt := jJ0 (fun W (h : Rb W g src { r with at_ := K + 1, from_ := K } xs) => h.setT (jS [src[K]]))
              generalize src.extract K (K + 1) = sy at *
              have h58 := ja [src[K]]
              have hx58 := ja [src[K], 61]
              have Hx := jJ0 hx
              have He := jJ0 he
              generalize hs1 : jS [src[K]] = s1 at *
              generalize hs2 : jS [src[K], 61] = s2 at *
              have Hd := jJ0 (fun h : K + 1 < src.size => vL src (K + 1) h)
              clear hx he hw h34 hd hn hsy hs1 hs2
              go_wp2
              go_quiet (fail)
              go_wp2
              go_quiet (fail)
              go_wp2
              generalize hQ : World.setCell _ _ _ = Q
              have hX : Rb Q g src { r with at_ := K, from_ := K } xs /\ Kp (GX g) w Q := by
                rw [<- hQ]
                exact ⟨(HF.out _).1, (HK.out.drewN _).trans (HF.out _).2 (fun _ _ e => e)⟩
              have hc0 := hX.1.c0
              have hc1 := hX.1.c1
              have hz1 := hX.1.z 1
              have hc3 := hX.1.c3
              have hz3 := hX.1.z 3
              simp only at hc1 hc3
              have HX := jJ0 hX
              have HY := hX
              have HY := jJ0 (fun n => (HY.1.drewN n).setAt (K + 1))
              rw [show ((K + 1 : Nat) : Int) = (K : Int) + 1 by omega] at HY
              have HYk := jJ0 (fun n => ((HX.out.2.drewN n).trans (HY.out n).2 (fun _ _ e => e)))
              clear hQ HF HK hX
              go_quiet (fail)
              go_wp2
              go_quiet (fail)
              go_wp2_with (first | (go_at_call 129; refine (Hw.out _).mono ?_; rintro e w1 ⟨rfl, rfl⟩) | (go_at_call 165; refine (HL.out _ _ (HY.out _).1).mono ?_; rintro e w1 ⟨rfl, nl, rfl⟩) | (go_at_call 145; refine (HS1.out _ ((HG.out _ (HYk.out _)).old ((Kp.refl _ _).drewN _))).mono ?_; rintro e w1 ⟨rfl, rfl⟩))
              generalize hQ3 : World.setCell _ _ _ = Q3
              have hX3 : Rb Q3 g src { r with at_ := K + 1, from_ := K, t := s1 } xs /\ Kp (GX g) w Q3 := by
                have hh := fun n m => HSt.out _ ((HY.out n).1.drewN m)
                rw [<- hQ3]
                exact ⟨(hh _ _).1, ((HYk.out _).drewN _).trans (hh _ _).2 (fun _ _ e => e)⟩
              clear hQ3 HX HY HYk HSt hc0 hc1 hc3 hz1 hz3
              have hc0 := hX3.1.c0
              have hc1 := hX3.1.c1
              have hz1 := hX3.1.z 1
              have hc3 := hX3.1.c3
              have hz3 := hX3.1.z 3
              simp only at hc1 hc3
              have HX3 := jJ0 hX3
              clear hX3
              have q1 : ((K + 1 : Nat) : Int) = (K : Int) + 1 := by omega
              rw [q1] at hc1
              by_cases hend : K + 1 = src.size
              · have g1 : ¬ (K : Int) + 1 < (src.size : Int) := by omega
                have Hf := jJ0 (show x = (1, s1) by
                  have h := Hx.out
                  rw [List.drop_eq_nil_of_le (by rw [jA]; omega), if_neg (fun h => absurd h.1 (by decide))] at h
                  injection h with h
                  exact h.symm)
                clear Hx
                go_quiet (fail)
                go_wp2
                go_end0
                rw [<- He.out, Hf.out]
                exact ⟨rfl, HX3.out.1.drewN _, HX3.out.2.drewN _⟩
              · have hK1 : K + 1 < src.size := by omega
                have hdd := Hd.out hK1
                have Hx2 := Hx
                have Hx2 := jJ0 Hx2.out
                rw [hdd, List.headD_cons] at Hx2
                clear Hx hdd
                have g1 : (K : Int) + 1 < (src.size : Int) := by omega
                have g2 : (0 : Int) <= (K : Int) + 1 := by omega
                have g3 : ((K : Int) + 1).toNat = K + 1 := by omega
                by_cases h61 : src[K + 1].toNat = 61
                · have e61 : ((src[K + 1].toNat : Int) == 61) = true := beq_iff_eq.2 (by omega)
                  have h61' : src[K + 1] = 61 := UInt8.toNat_inj.1 h61
                  by_cases h2 : s2 = 0
                  · have Hf := jJ0 (show x = (1, s1) by
                      have h := Hx2.out
                      rw [if_neg (fun h => h.2 h2)] at h
                      injection h with h
                      exact h.symm)
                    have e2 : ((s2 : Int) != 0) = false := by rw [h2]; rfl
                    clear Hx2 h61 h61' h2
                    go_quiet (fail)
                    go_wp2_with (first | (go_at_call 165; refine (HL.out _ _ (HX3.out.1.drewN _)).mono ?_; rintro e w1 ⟨rfl, nl, rfl⟩) | (go_at_call 145; refine (HS2.out _ (HG.out _ (HX3.out.2.drewN _))).mono ?_; rintro e w1 ⟨rfl, rfl⟩))
                    go_end0
                    rw [<- He.out, Hf.out]
                    exact ⟨rfl, HX3.out.1.drewN _, HX3.out.2.drewN _⟩
                  · have Hf := jJ0 (show x = (2, s2) by
                      have h := Hx2.out
                      rw [if_pos ⟨h61', h2⟩] at h
                      injection h with h
                      exact h.symm)
                    have e2 : ((s2 : Int) != 0) = true := by rw [bne, beq_eq_false_iff_ne.2 (show (s2 : Int) ≠ 0 by omega)]; rfl
                    have f6 : IntKind.i64.wrap ((K : Int) + 1 + 1) = (K : Int) + 1 + 1 := IntWalk.i64_in _ (by omega)
                    have HZ := jJ0 (fun n => ((HX3.out.1.drewN n).setT s2).1.setAt (K + 2))
                    have HZ1 := jJ0 (fun n => ((HX3.out.1.drewN n).setT s2).2)
                    rw [show ((K + 2 : Nat) : Int) = (K : Int) + 1 + 1 by omega] at HZ
                    clear Hx2 h61 h61' h2
                    go_quiet (fail)
                    go_wp2_with (first | (go_at_call 165; refine (HL.out _ _ (HX3.out.1.drewN _)).mono ?_; rintro e w1 ⟨rfl, nl, rfl⟩) | (go_at_call 145; refine (HS2.out _ (HG.out _ (HX3.out.2.drewN _))).mono ?_; rintro e w1 ⟨rfl, rfl⟩))
                    go_end0
                    rw [<- He.out, Hf.out]
                    exact ⟨rfl, (HZ.out _).1, ((HX3.out.2.drewN _).trans (HZ1.out _) (fun _ _ e => e)).trans (HZ.out _).2 (fun _ _ e => e)⟩
                · have Hf := jJ0 (show x = (1, s1) by
                    have h := Hx2.out
                    rw [if_neg (fun h => h61 (by rw [h.1]; rfl))] at h
                    injection h with h
                    exact h.symm)
                  have e61 : ((src[K + 1].toNat : Int) == 61) = false := beq_eq_false_iff_ne.2 (by omega)
                  clear Hx2 h61
                  go_quiet (fail)
                  go_wp2
                  go_end0
                  rw [<- He.out, Hf.out]
                  exact ⟨rfl, HX3.out.1.drewN _, HX3.out.2.drewN _⟩
    · obtain rfl : i = src.size := by have := hst.le; omega
      have hK : K = src.size := by rw [<- hki, List.drop_eq_nil_of_le (by rw [jA]; exact Nat.le_refl _)]; rfl
      subst hK
      rw [if_pos (Nat.le_refl _)] at hn
      injection hn with hn
      have HF := jJ0 (fun n => (hst.drewN n).box.setFrom src.size)
      have HK := jJ0 hst.kp
      have b1 : ¬ (src.size : Int) < (src.size : Int) := by omega
      have b2 : ((src.size : Int) == (src.size : Int)) = true := beq_iff_eq.2 rfl
      have hz2 := hst.box.z 2
      have hc2 := hst.box.c2
      clear hst hki hlt
      go_wp2
      go_quiet (fail)
      go_wp2
      generalize hQ : World.setCell _ _ _ = Q
      have hX : Rb Q g src { r with at_ := src.size, from_ := src.size } xs /\ Kp (GX g) w Q := by
        rw [<- hQ]
        exact ⟨(HF.out _).1, (HK.out.drewN _).trans (HF.out _).2 (fun _ _ e => e)⟩
      have hc0 := hX.1.c0
      have hc1 := hX.1.c1
      simp only at hc1
      clear hQ HF
      go_quiet (fail)
      go_wp2
      go_end0
      subst hn
      exact ⟨rfl, hX.1.drewN _, hX.2.drewN _⟩
end Go.Proofs.YtmmjcbbogokmfaaGreatDoor
