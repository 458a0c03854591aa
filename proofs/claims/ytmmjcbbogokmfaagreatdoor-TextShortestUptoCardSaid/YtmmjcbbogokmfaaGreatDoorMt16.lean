import Derived.Test.YtmmjcbbogokmfaaGreatDoorMt01
import Derived.Test.YtmmjcbbogokmfaaGreatDoorMt02
import Derived.Test.YtmmjcbbogokmfaaGreatDoorMt15
set_option maxRecDepth 100000
set_option maxHeartbeats 25600000
namespace Go.Proofs.YtmmjcbbogokmfaaGreatDoor
open Go.RowKit
theorem MOut.trans {w W w' : World} {g : Nat} {r r1 : Option Nat} {src : ByteArray} {o : Out} {e : Ending} (hk : Kp (MX g r) w W) (hf : MFr w r r1) (h : MOut W g r1 src o e w') : MOut w g r src o e w' := by
  cases o with
  | ok m' => exact ⟨h.1, MStep.trans hk hf h.2⟩
  | error k => exact ⟨h.1, hk.trans h.2 (MX.trans hf)⟩
theorem yF (p : UInt8 -> Bool) : ∀ l : List UInt8, l.takeWhile p = l.take (l.takeWhile p).length
  | [] => rfl
  | a :: l => by
    rw [List.takeWhile_cons]
    split
    · rw [List.length_cons, List.take_succ_cons, <- yF p l]
    · rfl
theorem word_step (w : World) (hg : Sg w) (g : Nat) (r : Option Nat) (src : ByteArray) (m : Mc) (A : Option Addr) (c : Nat) (h : Mac w g r src m A c) (hs : src.size <= 1000000) (ha : m.at_ < src.size) (hw0 : jK src[m.at_] = true) (hst : m.stack.length <= 1000000) :
    Calls Tryz.prog 162 #[.pointer (some ⟨g, 0, none⟩)] w (MOut w g r src (ka m ((sb src).drop m.at_))) := by
  have hl : ((sb src).drop m.at_).length = src.size - m.at_ := by rw [List.length_drop, jA]
  have hT := tw_lt jK ((sb src).drop m.at_)
  have hE := tw_end jK ((sb src).drop m.at_)
  have htk := yF jK ((sb src).drop m.at_)
  have hTl : (((sb src).drop m.at_).takeWhile jK).length <= src.size - m.at_ := by rw [<- hl]; exact ky _ _
  have hT0 : 0 < (((sb src).drop m.at_).takeWhile jK).length := by
    rw [vL src m.at_ ha]
    exact km jK _ _ hw0
  have hRd : ka m ((sb src).drop m.at_) = if (((sb src).drop m.at_).takeWhile jK).length < src.size - m.at_ /\ jj (((sb src).drop m.at_).takeWhile jK) = true /\ mayN (jU (((sb src).drop m.at_).takeWhile jK)) m.stack = true then
      kw (jU (((sb src).drop m.at_).takeWhile jK)) { m with from_ := m.at_ } (m.at_ + (((sb src).drop m.at_).takeWhile jK).length) else vI { m with from_ := m.at_ } ((sb src).drop m.at_) := by rw [ka, hl]
  rw [hl] at hE
  generalize hTT : (((sb src).drop m.at_).takeWhile jK).length = T at *
  have hsy : sb (src.extract m.at_ (m.at_ + T)) = ((sb src).drop m.at_).takeWhile jK := by rw [jo, show m.at_ + T - m.at_ = T by omega, <- htk]
  rw [<- hsy] at hRd
  have HT := jJ0 (show ∀ k, k < T -> ∃ hin : m.at_ + k < src.size, jK src[m.at_ + k] = true from fun k hk => by
    obtain ⟨c, h1, h2⟩ := hT k hk
    obtain ⟨h3, h4⟩ := drop_at src m.at_ k c h1
    exact ⟨h3, by rw [h4]; exact h2⟩)
  have HE := jJ0 (show T < src.size - m.at_ -> ∃ hin : m.at_ + T < src.size, jK src[m.at_ + T] = false from fun hlt => by
    obtain ⟨c, h1, h2⟩ := hE hlt
    obtain ⟨h3, h4⟩ := drop_at src m.at_ T c h1
    exact ⟨h3, by rw [h4]; exact h2⟩)
  have hsz : (src.extract m.at_ (m.at_ + T)).size = T := by rw [<- jA, hsy, hTT]
  obtain ⟨m1, k1⟩ := h.setFrom m.at_
  have hc1 := h.c1
  have hc4 := h.c4
  have hz4 := h.z 4
  have hg1 := hg.mx h k1
  clear hl hT hE htk hTT hsy h hg hw0
  generalize hsx : src.extract m.at_ (m.at_ + T) = sy at *
  have HP := jJ0 (fun W (hO : Old (w.setCell ⟨g, 4, none⟩ (.int .i64 (m.at_ : Int))) W) => proper_any W (hg1.old hO) sy (by omega) (by omega))
  have HN := jJ0 (fun W (hO : Old (w.setCell ⟨g, 4, none⟩ (.int .i64 (m.at_ : Int))) W) => named_any9 W (hg1.old hO) sy (by omega))
  have HM := jJ0 (fun W (hO : Old (w.setCell ⟨g, 4, none⟩ (.int .i64 (m.at_ : Int))) W) => may_any W g r src _ A c (m1.old hO) (jU (sb sy)))
  have HS := jJ0 (fun W (hO : Old (w.setCell ⟨g, 4, none⟩ (.int .i64 (m.at_ : Int))) W) => spell_any W (hg1.old hO) g r src _ A c (m1.old hO) hs ha rfl)
  have hN58 := kr (sb sy)
  have HSet := jJ0 (fun W (hO : Old (w.setCell ⟨g, 4, none⟩ (.int .i64 (m.at_ : Int))) W) => by
    have := (m1.old hO).setAt (m.at_ + T)
    rwa [show ((m.at_ + T : Nat) : Int) = (m.at_ : Int) + T by omega] at this)
  have HN2 := jJ0 (fun W (hO : Old (w.setCell ⟨g, 4, none⟩ (.int .i64 (m.at_ : Int))) W) => named_any9 _ ((hg1.old hO).mx (m1.old hO) (HSet.out W hO).2) sy (by omega))
  have HRdy := jJ0 (taken_ready (jU (sb sy)) hN58 m hst)
  have HRd := jJ0 hRd
  have K1 := jJ0 k1
  have hc1' := m1.c1
  have hc0' := m1.c0
  have hz1' := m1.z 1
  simp only at hc1' hc0' HS HM
  unfold yv at HM
  clear m1 k1 hg1 hRd
  generalize hRR : ka m ((sb src).drop m.at_) = R at *
  generalize jU (sb sy) = N at *
  generalize jj (sb sy) = pb at *
  generalize hmb : mayN N m.stack = mb at *
  clear hRR hmb
  have a10 : (0 : Int) <= (m.at_ : Int) := by omega
  have a11 : (m.at_ : Int).toNat = m.at_ := by omega
  go_enter Tryz.func162, Tryz.ntmps162
  go_wp2
  generalize hw1 : w.setCell ⟨g, 4, none⟩ (.int .i64 (m.at_ : Int)) = w1 at *
  go_loop [2] (fun i => ∃ j : Nat, j <= T /\ i = .int .i64 ((m.at_ : Int) + j)) (fun i => src.size - (intOf i).toNat)
  case atStart => exact ⟨0, Nat.zero_le _, by simp⟩
  case round =>
    obtain ⟨j, hj, rfl⟩ := hrel
    by_cases hlt : j < T
    · obtain ⟨hin, hwc⟩ := HT.out j hlt
      have Hw := jJ0 (fun W => vB W src[m.at_ + j])
      unfold bv at Hw
      rw [hwc] at Hw
      clear hwc
      generalize hp : m.at_ + j = p at *
      rw [show (m.at_ : Int) + j = (p : Int) by omega]
      have b1 : (p : Int) < (src.size : Int) := by omega
      have b2 : (0 : Int) <= (p : Int) := by omega
      have b3 : (p : Int).toNat = p := by omega
      have b4 : IntKind.i64.wrap ((p : Int) + 1) = (p : Int) + 1 := IntWalk.i64_in _ (by omega)
      go_wp2_with (go_at_call 129; refine (Hw.out _).mono ?_; rintro e w1 ⟨rfl, rfl⟩)
      exact ⟨⟨j + 1, by omega, by rw [show (m.at_ : Int) + ((j + 1 : Nat) : Int) = (p : Int) + 1 by omega]⟩, by simp [intOf]; omega⟩
    · obtain rfl : j = T := by omega
      clear HT
      generalize hq : m.at_ + j = q at *
      rw [show (m.at_ : Int) + (j : Int) = (q : Int) by omega] at HSet HN2 ⊢
      have c1 : (0 : Int) <= (q : Int) := by omega
      have c2 : (q : Int).toNat = q := by omega
      have c3 : (m.at_ : Int) <= (q : Int) := by omega
      have c4 : (q : Int) <= (src.size : Int) := by omega
      by_cases hend : q = src.size
      · have d1 : ¬ (q : Int) < (src.size : Int) := by omega
        have HR := jJ0 (show R = vI { m with from_ := m.at_ } ((sb src).drop m.at_) by rw [HRd.out, if_neg (fun h => by have := h.1; omega)])
        clear HRd HE HRdy HSet hend
        generalize vI { m with from_ := m.at_ } ((sb src).drop m.at_) = SP at *
        cases SP with
        | ok m' =>
          go_wp2
          go_quiet (fail)
          go_wp2_with (first | (go_at_call 129; refine (Hw.out _).mono ?_; rintro e w1 ⟨rfl, rfl⟩) | (go_at_call 198; refine (HP.out _ (by first | exact Kp.refl _ _ | exact (Kp.refl _ _).drewN _ | exact ((Kp.refl _ _).drewN _).drewN _)).mono ?_; rintro e w1 ⟨rfl, rfl⟩) | (go_at_call 164; (first | refine (HN.out _ (by first | exact Kp.refl _ _ | exact (Kp.refl _ _).drewN _ | exact ((Kp.refl _ _).drewN _).drewN _)).mono ?_ | refine (HN2.out _ (by first | exact Kp.refl _ _ | exact (Kp.refl _ _).drewN _ | exact ((Kp.refl _ _).drewN _).drewN _)).mono ?_); rintro e w1 ⟨rfl, rfl⟩) | (go_at_call 176; refine (HM.out _ (by first | exact Kp.refl _ _ | exact (Kp.refl _ _).drewN _ | exact ((Kp.refl _ _).drewN _).drewN _)).mono ?_; rintro e w1 ⟨rfl, rfl⟩) | (go_at_call 199; refine (HS.out _ (by first | exact Kp.refl _ _ | exact (Kp.refl _ _).drewN _ | exact ((Kp.refl _ _).drewN _).drewN _)).mono ?_; rintro e w2 ⟨rfl, hX⟩) | (go_at_call 179; refine (HTk.out _ (by first | exact Kp.refl _ _ | exact (Kp.refl _ _).drewN _ | exact ((Kp.refl _ _).drewN _).drewN _)).mono ?_; rintro e w2 ⟨rfl, hX⟩))
          go_end0
          rw [HR.out]
          exact MOut.trans (K1.out.drewN _) (.inl rfl) ⟨rfl, hX⟩
        | error k =>
          go_wp2
          go_quiet (fail)
          go_wp2_with (first | (go_at_call 129; refine (Hw.out _).mono ?_; rintro e w1 ⟨rfl, rfl⟩) | (go_at_call 198; refine (HP.out _ (by first | exact Kp.refl _ _ | exact (Kp.refl _ _).drewN _ | exact ((Kp.refl _ _).drewN _).drewN _)).mono ?_; rintro e w1 ⟨rfl, rfl⟩) | (go_at_call 164; (first | refine (HN.out _ (by first | exact Kp.refl _ _ | exact (Kp.refl _ _).drewN _ | exact ((Kp.refl _ _).drewN _).drewN _)).mono ?_ | refine (HN2.out _ (by first | exact Kp.refl _ _ | exact (Kp.refl _ _).drewN _ | exact ((Kp.refl _ _).drewN _).drewN _)).mono ?_); rintro e w1 ⟨rfl, rfl⟩) | (go_at_call 176; refine (HM.out _ (by first | exact Kp.refl _ _ | exact (Kp.refl _ _).drewN _ | exact ((Kp.refl _ _).drewN _).drewN _)).mono ?_; rintro e w1 ⟨rfl, rfl⟩) | (go_at_call 199; refine (HS.out _ (by first | exact Kp.refl _ _ | exact (Kp.refl _ _).drewN _ | exact ((Kp.refl _ _).drewN _).drewN _)).mono ?_; rintro e w2 ⟨rfl, hX⟩) | (go_at_call 179; refine (HTk.out _ (by first | exact Kp.refl _ _ | exact (Kp.refl _ _).drewN _ | exact ((Kp.refl _ _).drewN _).drewN _)).mono ?_; rintro e w2 ⟨rfl, hX⟩))
          refine ⟨rfl, ?_⟩
          rw [HR.out]
          exact MOut.trans (K1.out.drewN _) (.inl rfl) ⟨rfl, hX⟩
      · have d1 : (q : Int) < (src.size : Int) := by omega
        obtain ⟨hin, hwc⟩ := HE.out (by omega)
        have Hw := jJ0 (fun W => vB W src[q])
        unfold bv at Hw
        rw [hwc] at Hw
        clear hwc HE
        by_cases htk : pb = true /\ mb = true
        · obtain ⟨rfl, rfl⟩ := htk
          obtain ⟨n2, s2, hTk2, hbd2, htk2⟩ := HRdy.out rfl
          have HR := jJ0 (show R = .ok { m with from_ := m.at_, at_ := q, stack := s2 } by rw [HRd.out, if_pos ⟨by omega, rfl, rfl⟩, htk2])
          have HTk := jJ0 (fun W (hO : Old w1 W) => vp _ g r src _ A c (HSet.out W hO).1 N n2 s2 hN58 hTk2 hbd2)
          unfold yv at HTk
          clear HRd HRdy hend hTk2 hbd2 htk2
          go_wp2_with (first | (go_at_call 129; refine (Hw.out _).mono ?_; rintro e w1 ⟨rfl, rfl⟩) | (go_at_call 198; refine (HP.out _ (by first | exact Kp.refl _ _ | exact (Kp.refl _ _).drewN _ | exact ((Kp.refl _ _).drewN _).drewN _)).mono ?_; rintro e w1 ⟨rfl, rfl⟩) | (go_at_call 164; (first | refine (HN.out _ (by first | exact Kp.refl _ _ | exact (Kp.refl _ _).drewN _ | exact ((Kp.refl _ _).drewN _).drewN _)).mono ?_ | refine (HN2.out _ (by first | exact Kp.refl _ _ | exact (Kp.refl _ _).drewN _ | exact ((Kp.refl _ _).drewN _).drewN _)).mono ?_); rintro e w1 ⟨rfl, rfl⟩) | (go_at_call 176; refine (HM.out _ (by first | exact Kp.refl _ _ | exact (Kp.refl _ _).drewN _ | exact ((Kp.refl _ _).drewN _).drewN _)).mono ?_; rintro e w1 ⟨rfl, rfl⟩) | (go_at_call 199; refine (HS.out _ (by first | exact Kp.refl _ _ | exact (Kp.refl _ _).drewN _ | exact ((Kp.refl _ _).drewN _).drewN _)).mono ?_; rintro e w2 ⟨rfl, hX⟩) | (go_at_call 179; refine (HTk.out _ (by first | exact Kp.refl _ _ | exact (Kp.refl _ _).drewN _ | exact ((Kp.refl _ _).drewN _).drewN _)).mono ?_; rintro e w2 ⟨rfl, hX⟩))
          go_quiet (fail)
          go_wp2_with (first | (go_at_call 129; refine (Hw.out _).mono ?_; rintro e w1 ⟨rfl, rfl⟩) | (go_at_call 198; refine (HP.out _ (by first | exact Kp.refl _ _ | exact (Kp.refl _ _).drewN _ | exact ((Kp.refl _ _).drewN _).drewN _)).mono ?_; rintro e w1 ⟨rfl, rfl⟩) | (go_at_call 164; (first | refine (HN.out _ (by first | exact Kp.refl _ _ | exact (Kp.refl _ _).drewN _ | exact ((Kp.refl _ _).drewN _).drewN _)).mono ?_ | refine (HN2.out _ (by first | exact Kp.refl _ _ | exact (Kp.refl _ _).drewN _ | exact ((Kp.refl _ _).drewN _).drewN _)).mono ?_); rintro e w1 ⟨rfl, rfl⟩) | (go_at_call 176; refine (HM.out _ (by first | exact Kp.refl _ _ | exact (Kp.refl _ _).drewN _ | exact ((Kp.refl _ _).drewN _).drewN _)).mono ?_; rintro e w1 ⟨rfl, rfl⟩) | (go_at_call 199; refine (HS.out _ (by first | exact Kp.refl _ _ | exact (Kp.refl _ _).drewN _ | exact ((Kp.refl _ _).drewN _).drewN _)).mono ?_; rintro e w2 ⟨rfl, hX⟩) | (go_at_call 179; refine (HTk.out _ (by first | exact Kp.refl _ _ | exact (Kp.refl _ _).drewN _ | exact ((Kp.refl _ _).drewN _).drewN _)).mono ?_; rintro e w2 ⟨rfl, hX⟩))
          refine bodyPost_ret (results_none rfl _ _ _) rfl ?_
          rw [HR.out]
          exact MOut.trans ((K1.out.drewN _).trans (HSet.out _ (by first | exact Kp.refl _ _ | exact (Kp.refl _ _).drewN _ | exact ((Kp.refl _ _).drewN _).drewN _)).2 (fun _ _ h => h)) (.inl rfl) ⟨rfl, hX⟩
        · have HR := jJ0 (show R = vI { m with from_ := m.at_ } ((sb src).drop m.at_) by rw [HRd.out, if_neg (fun h => htk h.2)])
          clear HRd HRdy HSet hend
          generalize vI { m with from_ := m.at_ } ((sb src).drop m.at_) = SP at *
          rcases (show pb = false \/ (pb = true /\ mb = false) by cases pb <;> cases mb <;> simp at htk ⊢) with rfl | ⟨rfl, rfl⟩
          all_goals
            clear htk
            cases SP with
            | ok m' =>
              go_wp2_with (first | (go_at_call 129; refine (Hw.out _).mono ?_; rintro e w1 ⟨rfl, rfl⟩) | (go_at_call 198; refine (HP.out _ (by first | exact Kp.refl _ _ | exact (Kp.refl _ _).drewN _ | exact ((Kp.refl _ _).drewN _).drewN _)).mono ?_; rintro e w1 ⟨rfl, rfl⟩) | (go_at_call 164; (first | refine (HN.out _ (by first | exact Kp.refl _ _ | exact (Kp.refl _ _).drewN _ | exact ((Kp.refl _ _).drewN _).drewN _)).mono ?_ | refine (HN2.out _ (by first | exact Kp.refl _ _ | exact (Kp.refl _ _).drewN _ | exact ((Kp.refl _ _).drewN _).drewN _)).mono ?_); rintro e w1 ⟨rfl, rfl⟩) | (go_at_call 176; refine (HM.out _ (by first | exact Kp.refl _ _ | exact (Kp.refl _ _).drewN _ | exact ((Kp.refl _ _).drewN _).drewN _)).mono ?_; rintro e w1 ⟨rfl, rfl⟩) | (go_at_call 199; refine (HS.out _ (by first | exact Kp.refl _ _ | exact (Kp.refl _ _).drewN _ | exact ((Kp.refl _ _).drewN _).drewN _)).mono ?_; rintro e w2 ⟨rfl, hX⟩) | (go_at_call 179; refine (HTk.out _ (by first | exact Kp.refl _ _ | exact (Kp.refl _ _).drewN _ | exact ((Kp.refl _ _).drewN _).drewN _)).mono ?_; rintro e w2 ⟨rfl, hX⟩))
              go_quiet (fail)
              go_wp2_with (first | (go_at_call 129; refine (Hw.out _).mono ?_; rintro e w1 ⟨rfl, rfl⟩) | (go_at_call 198; refine (HP.out _ (by first | exact Kp.refl _ _ | exact (Kp.refl _ _).drewN _ | exact ((Kp.refl _ _).drewN _).drewN _)).mono ?_; rintro e w1 ⟨rfl, rfl⟩) | (go_at_call 164; (first | refine (HN.out _ (by first | exact Kp.refl _ _ | exact (Kp.refl _ _).drewN _ | exact ((Kp.refl _ _).drewN _).drewN _)).mono ?_ | refine (HN2.out _ (by first | exact Kp.refl _ _ | exact (Kp.refl _ _).drewN _ | exact ((Kp.refl _ _).drewN _).drewN _)).mono ?_); rintro e w1 ⟨rfl, rfl⟩) | (go_at_call 176; refine (HM.out _ (by first | exact Kp.refl _ _ | exact (Kp.refl _ _).drewN _ | exact ((Kp.refl _ _).drewN _).drewN _)).mono ?_; rintro e w1 ⟨rfl, rfl⟩) | (go_at_call 199; refine (HS.out _ (by first | exact Kp.refl _ _ | exact (Kp.refl _ _).drewN _ | exact ((Kp.refl _ _).drewN _).drewN _)).mono ?_; rintro e w2 ⟨rfl, hX⟩) | (go_at_call 179; refine (HTk.out _ (by first | exact Kp.refl _ _ | exact (Kp.refl _ _).drewN _ | exact ((Kp.refl _ _).drewN _).drewN _)).mono ?_; rintro e w2 ⟨rfl, hX⟩))
              go_end0
              rw [HR.out]
              exact MOut.trans (K1.out.drewN _) (.inl rfl) ⟨rfl, hX⟩
            | error k =>
              go_wp2_with (first | (go_at_call 129; refine (Hw.out _).mono ?_; rintro e w1 ⟨rfl, rfl⟩) | (go_at_call 198; refine (HP.out _ (by first | exact Kp.refl _ _ | exact (Kp.refl _ _).drewN _ | exact ((Kp.refl _ _).drewN _).drewN _)).mono ?_; rintro e w1 ⟨rfl, rfl⟩) | (go_at_call 164; (first | refine (HN.out _ (by first | exact Kp.refl _ _ | exact (Kp.refl _ _).drewN _ | exact ((Kp.refl _ _).drewN _).drewN _)).mono ?_ | refine (HN2.out _ (by first | exact Kp.refl _ _ | exact (Kp.refl _ _).drewN _ | exact ((Kp.refl _ _).drewN _).drewN _)).mono ?_); rintro e w1 ⟨rfl, rfl⟩) | (go_at_call 176; refine (HM.out _ (by first | exact Kp.refl _ _ | exact (Kp.refl _ _).drewN _ | exact ((Kp.refl _ _).drewN _).drewN _)).mono ?_; rintro e w1 ⟨rfl, rfl⟩) | (go_at_call 199; refine (HS.out _ (by first | exact Kp.refl _ _ | exact (Kp.refl _ _).drewN _ | exact ((Kp.refl _ _).drewN _).drewN _)).mono ?_; rintro e w2 ⟨rfl, hX⟩) | (go_at_call 179; refine (HTk.out _ (by first | exact Kp.refl _ _ | exact (Kp.refl _ _).drewN _ | exact ((Kp.refl _ _).drewN _).drewN _)).mono ?_; rintro e w2 ⟨rfl, hX⟩))
              go_quiet (fail)
              go_wp2_with (first | (go_at_call 129; refine (Hw.out _).mono ?_; rintro e w1 ⟨rfl, rfl⟩) | (go_at_call 198; refine (HP.out _ (by first | exact Kp.refl _ _ | exact (Kp.refl _ _).drewN _ | exact ((Kp.refl _ _).drewN _).drewN _)).mono ?_; rintro e w1 ⟨rfl, rfl⟩) | (go_at_call 164; (first | refine (HN.out _ (by first | exact Kp.refl _ _ | exact (Kp.refl _ _).drewN _ | exact ((Kp.refl _ _).drewN _).drewN _)).mono ?_ | refine (HN2.out _ (by first | exact Kp.refl _ _ | exact (Kp.refl _ _).drewN _ | exact ((Kp.refl _ _).drewN _).drewN _)).mono ?_); rintro e w1 ⟨rfl, rfl⟩) | (go_at_call 176; refine (HM.out _ (by first | exact Kp.refl _ _ | exact (Kp.refl _ _).drewN _ | exact ((Kp.refl _ _).drewN _).drewN _)).mono ?_; rintro e w1 ⟨rfl, rfl⟩) | (go_at_call 199; refine (HS.out _ (by first | exact Kp.refl _ _ | exact (Kp.refl _ _).drewN _ | exact ((Kp.refl _ _).drewN _).drewN _)).mono ?_; rintro e w2 ⟨rfl, hX⟩) | (go_at_call 179; refine (HTk.out _ (by first | exact Kp.refl _ _ | exact (Kp.refl _ _).drewN _ | exact ((Kp.refl _ _).drewN _).drewN _)).mono ?_; rintro e w2 ⟨rfl, hX⟩))
              refine ⟨rfl, ?_⟩
              rw [HR.out]
              exact MOut.trans (K1.out.drewN _) (.inl rfl) ⟨rfl, hX⟩
abbrev GX (g : Nat) : Nat -> Prop := fun b => b = g
def rdC (src : ByteArray) (r : Rdr) (xs : List Value) : List Value := .string src :: .int .i64 (r.at_ : Int) :: .int .i64 (r.from_ : Int) :: .int .u8 (r.t : Int) :: .int .i64 (r.order : Int) :: xs
def Rb (w : World) (g : Nat) (src : ByteArray) (r : Rdr) (xs : List Value) : Prop := Blk w g 165 (rdC src r xs).toArray
section
variable {w w1 : World} {g : Nat} {src : ByteArray} {r : Rdr} {xs : List Value}
theorem Rb.c0 (h : Rb w g src r xs) : w.cell? ⟨g, 0, none⟩ = some (.string src) := Blk.at_ h 0 rfl
theorem Rb.c1 (h : Rb w g src r xs) : w.cell? ⟨g, 1, none⟩ = some (.int .i64 (r.at_ : Int)) := Blk.at_ h 1 rfl
theorem Rb.c2 (h : Rb w g src r xs) : w.cell? ⟨g, 2, none⟩ = some (.int .i64 (r.from_ : Int)) := Blk.at_ h 2 rfl
theorem Rb.c3 (h : Rb w g src r xs) : w.cell? ⟨g, 3, none⟩ = some (.int .u8 (r.t : Int)) := Blk.at_ h 3 rfl
theorem Rb.c4 (h : Rb w g src r xs) : w.cell? ⟨g, 4, none⟩ = some (.int .i64 (r.order : Int)) := Blk.at_ h 4 rfl
theorem Rb.z (h : Rb w g src r xs) (i : Nat) : w.frozen? ⟨g, i, none⟩ = false := Blk.frozen h i
theorem Rb.old (h : Rb w g src r xs) (ho : Old w w1) : Rb w1 g src r xs := Blk.old h ho
theorem Rb.drewN (h : Rb w g src r xs) (n : Nat) : Rb (w.drewN n) g src r xs := h
theorem Rb.kp {X : Nat -> Prop} (h : Rb w g src r xs) (ho : Kp X w w1) (hx : ¬ X g) : Rb w1 g src r xs := Blk.kp h ho hx
theorem Rb.setAt (h : Rb w g src r xs) (k : Nat) : Rb (w.setCell ⟨g, 1, none⟩ (.int .i64 (k : Int))) g src { r with at_ := k } xs /\ Kp (fun b => b = g) w (w.setCell ⟨g, 1, none⟩ (.int .i64 (k : Int))) :=
  ⟨by simpa [Rb, rdC] using Blk.set_ h 1 (.int .i64 (k : Int)), (Kp.refl (fun b => b = g) w).setCell (p := ⟨g, 1, none⟩) (fun _ => rfl) _⟩
theorem Rb.setFrom (h : Rb w g src r xs) (k : Nat) : Rb (w.setCell ⟨g, 2, none⟩ (.int .i64 (k : Int))) g src { r with from_ := k } xs /\ Kp (fun b => b = g) w (w.setCell ⟨g, 2, none⟩ (.int .i64 (k : Int))) :=
  ⟨by simpa [Rb, rdC] using Blk.set_ h 2 (.int .i64 (k : Int)), (Kp.refl (fun b => b = g) w).setCell (p := ⟨g, 2, none⟩) (fun _ => rfl) _⟩
theorem Rb.setT (h : Rb w g src r xs) (k : Nat) : Rb (w.setCell ⟨g, 3, none⟩ (.int .u8 (k : Int))) g src { r with t := k } xs /\ Kp (fun b => b = g) w (w.setCell ⟨g, 3, none⟩ (.int .u8 (k : Int))) :=
  ⟨by simpa [Rb, rdC] using Blk.set_ h 3 (.int .u8 (k : Int)), (Kp.refl (fun b => b = g) w).setCell (p := ⟨g, 3, none⟩) (fun _ => rfl) _⟩
theorem Rb.setOrder (h : Rb w g src r xs) (k : Nat) : Rb (w.setCell ⟨g, 4, none⟩ (.int .i64 (k : Int))) g src { r with order := k } xs /\ Kp (fun b => b = g) w (w.setCell ⟨g, 4, none⟩ (.int .i64 (k : Int))) :=
  ⟨by simpa [Rb, rdC] using Blk.set_ h 4 (.int .i64 (k : Int)), (Kp.refl (fun b => b = g) w).setCell (p := ⟨g, 4, none⟩) (fun _ => rfl) _⟩
end
theorem sb_lexeme (src : ByteArray) (r : Rdr) : sb (src.extract r.from_ r.at_) = kD (sb src) r := by
  rw [jo, kD, List.drop_take]
theorem lexeme_any (w : World) (g : Nat) (src : ByteArray) (r : Rdr) (xs : List Value) (h : Rb w g src r xs) (h1 : r.from_ <= r.at_) (h2 : r.at_ <= src.size) :
    Calls Tryz.prog 165 #[.pointer (some ⟨g, 0, none⟩)] w fun e w' => e = .returned (.string (src.extract r.from_ r.at_)) /\ ∃ n, w' = w.drewN n := by
  have hc0 := h.c0
  have hc1 := h.c1
  have hc2 := h.c2
  have a1 : (r.at_ : Int) <= (src.size : Int) := by omega
  have a2 : (0 : Int) <= (r.from_ : Int) := by omega
  have a3 : (r.from_ : Int).toNat = r.from_ := by omega
  have a4 : (r.from_ : Int) <= (r.at_ : Int) := by omega
  have a5 : (r.at_ : Int).toNat = r.at_ := by omega
  clear h h1 h2
  go_enter Tryz.func165, Tryz.ntmps165
  go_wp2
  go_quiet (fail)
  go_wp2
  go_ret
  exact ⟨rfl, _, rfl⟩
end Go.Proofs.YtmmjcbbogokmfaaGreatDoor
