import Derived.Test.YtmmjcbbogokmfaaGreatDoorMn07
/- Contract of the machine's sign. -/
namespace Go.Proofs.YtmmjcbbogokmfaaGreatDoor
open Go.RowKit

theorem idxFrom_lt (w : List UInt8) : ∀ (l : List (List UInt8)) (k : Nat), idxFrom k w l < k + l.length + 1
  | [], k => by rw [idxFrom]; omega
  | r :: l, k => by
    rw [idxFrom, List.length_cons]
    split
    · omega
    · have := idxFrom_lt w l (k + 1)
      omega
theorem signN_lt (w : List UInt8) : signN w < 58 := by
  have := idxFrom_lt w signL 4
  have e : signL.length = 19 := rfl
  unfold signN
  omega
theorem wordN_lt (w : List UInt8) : wordN w < 59 := by
  have := idxFrom_lt w resL 23
  have e : resL.length = 35 := rfl
  unfold wordN
  omega
theorem sb_append (a b : ByteArray) : sb (a ++ b) = sb a ++ sb b := by
  unfold sb
  simp
theorem sb_one (s : ByteArray) (k : Nat) (h : k < s.size) : sb (s.extract k (k + 1)) = [s[k]] := by
  have h' : k < (sb s).length := by rw [sb_length]; exact h
  rw [sb_extract, List.drop_eq_getElem_cons h', show k + 1 - k = 1 by omega, List.take_succ_cons, List.take_zero]
  rfl
theorem headD_drop (s : ByteArray) (k : Nat) (h : k < s.size) : ((sb s).drop k).headD 0 = s[k] := by
  have h' : k < (sb s).length := by rw [sb_length]; exact h
  rw [List.drop_eq_getElem_cons h']
  rfl
/-- a terminal that may come is taken -/
theorem taken_ready (t : Nat) (ht : t < 58) (m : Mc) (hl : m.stack.length ≤ 1000000) (h : mayN t m.stack = true) : ∃ n s, Takes t n m.stack s ∧ m.stack.length + 11 * n ≤ 100000000 ∧ ∀ k f, taken t { m with from_ := f } k = .ok { m with from_ := f, at_ := k, stack := s } := by
  obtain ⟨s, hs1, hs2⟩ := taken_may t ht m 0 h
  obtain ⟨n, hn, hT⟩ := takes_of hs1
  refine ⟨n, s, hT, by omega, fun k f => ?_⟩
  unfold taken
  rw [hs1]
set_option maxRecDepth 100000 in
set_option maxHeartbeats 3200000 in
theorem sign_any (w : World) (hg : Sg w) (g : Nat) (r : Option Nat) (src : ByteArray) (m : Mc) (A : Option Addr) (c : Nat) (h : Mac w g r src m A c) (hs : src.size ≤ 1000000) (ha : m.at_ < src.size) (hst : m.stack.length ≤ 1000000) :
    Calls Tryz.prog 163 #[.pointer (some ⟨g, 0, none⟩)] w (MOut w g r src (signStep m src[m.at_] ((sb src).drop (m.at_ + 1)))) := by
  have Hs1 := Lib.hid (fun W (hW : Old w W) => sign_any9 W (hg.old hW) (src.extract m.at_ (m.at_ + 1)))
  have Hs2 := Lib.hid (fun W (hW : Old w W) => sign_any9 W (hg.old hW) (src.extract m.at_ (m.at_ + 1) ++ ⟨#[61]⟩))
  rw [sb_append, sb_one src m.at_ ha, show ([src[m.at_]] ++ sb ⟨#[61]⟩ : List UInt8) = [src[m.at_], 61] from rfl] at Hs2
  rw [sb_one src m.at_ ha] at Hs1
  have Hres := Lib.hid (show signStep m src[m.at_] ((sb src).drop (m.at_ + 1)) = (if signN [src[m.at_]] ≠ 0 ∧ mayN (signN [src[m.at_]]) m.stack = true then
    (if signN [src[m.at_], 61] ≠ 0 ∧ mayN (signN [src[m.at_], 61]) m.stack = true ∧ ((sb src).drop (m.at_ + 1)).headD 0 = 61 then taken (signN [src[m.at_], 61]) { m with from_ := m.at_ } (m.at_ + 2) else taken (signN [src[m.at_]]) { m with from_ := m.at_ } (m.at_ + 1))
  else if signN [src[m.at_], 61] = 0 ∨ mayN (signN [src[m.at_], 61]) m.stack = false then .error m.at_
  else if ((sb src).drop (m.at_ + 1)) = [] then .ok { m with from_ := m.at_, at_ := m.at_ + 1, fin := 3 }
  else if ((sb src).drop (m.at_ + 1)).headD 0 ≠ 61 then .error (m.at_ + 1)
  else taken (signN [src[m.at_], 61]) { m with from_ := m.at_ } (m.at_ + 2)) from rfl)
  have hO := signN_lt [src[m.at_]]
  have hT := signN_lt [src[m.at_], 61]
  generalize signStep m src[m.at_] ((sb src).drop (m.at_ + 1)) = R at *
  generalize signN [src[m.at_]] = O at *
  generalize signN [src[m.at_], 61] = T at *
  generalize hsx : src.extract m.at_ (m.at_ + 1) = sx at *
  have hsz : sx.size = 1 := by rw [← hsx, ← sb_length, sb_one src m.at_ ha]; rfl
  have hcat : ((sx.size + 1 : Nat) : Int) ≤ 9223372036854775807 := by omega
  generalize hsy : sx ++ ⟨#[61]⟩ = sy at *
  have hc0 := h.c0
  have hc1 := h.c1
  have hc4 := h.c4
  have hz4 := h.z 4
  have hz1 := h.z 1
  have hc3 := h.c3
  have hz3 := h.z 3
  have a1 : (m.at_ : Int) ≤ (m.at_ : Int) + 1 := by omega
  have a2 : (m.at_ : Int) + 1 ≤ (src.size : Int) := by omega
  have a3 : (0 : Int) ≤ (m.at_ : Int) := by omega
  have a4 : IntKind.i64.wrap ((m.at_ : Int) + 1) = (m.at_ : Int) + 1 := IntWalk.i64_in _ (by omega)
  have a5 : (m.at_ : Int).toNat = m.at_ := by omega
  have a6 : ((m.at_ : Int) + 1).toNat = m.at_ + 1 := by omega
  have a7 : (0 : Int) ≤ (m.at_ : Int) + 1 := by omega
  go_enter Tryz.func163, Tryz.ntmps163
  go_wp2
  go_quiet (fail)
  go_wp2_with fail
  refine (Hs1.out _ ((Kp.refl _ _).drewN _)).mono ?_
  rintro e w1 ⟨rfl, rfl⟩
  go_wp2_with fail
  refine (Hs2.out _ ((Kp.refl _ _).drewN _)).mono ?_
  rintro e w1 ⟨rfl, rfl⟩
  clear Hs1 Hs2 hsx hsy hsz hcat a1 a2 hg
  have h0 := h.drewN nq
  have hk0 : Kp (MX g r) w (w.drewN nq) := (Kp.refl _ _).drewN nq
  have hc0 := h0.c0
  have hc1 := h0.c1
  have hc3 := h0.c3
  have hc4 := h0.c4
  have hz1 := h0.z 1
  have hz3 := h0.z 3
  have hz4 := h0.z 4
  clear h
  generalize w.drewN nq = w0 at *
  obtain ⟨m1, k1⟩ := h0.setFrom m.at_
  have Hm1 := Lib.hid m1
  have HmO := Lib.hid (fun W (hW : Old (w0.setCell ⟨g, 4, none⟩ (.int .i64 (m.at_ : Int))) W) => may_any W g r src _ A c (m1.old hW) O)
  have HmT := Lib.hid (fun W (hW : Old (w0.setCell ⟨g, 4, none⟩ (.int .i64 (m.at_ : Int))) W) => may_any W g r src _ A c (m1.old hW) T)
  have Hk1 := Lib.hid (hk0.trans k1 (fun _ _ h => h))
  obtain ⟨m2, k2⟩ := m1.setAt (m.at_ + 1)
  rw [show ((m.at_ + 1 : Nat) : Int) = (m.at_ : Int) + 1 by omega] at m2 k2
  have Hm2 := Lib.hid m2
  have Hk2 := Lib.hid ((hk0.trans k1 (fun _ _ h => h)).trans k2 (fun _ _ h => h))
  have HmT2 := Lib.hid (fun W (hW : Old ((w0.setCell ⟨g, 4, none⟩ (.int .i64 (m.at_ : Int))).setCell ⟨g, 1, none⟩ (.int .i64 ((m.at_ : Int) + 1))) W) => may_any W g r src _ A c (m2.old hW) T)
  obtain ⟨m3, k3⟩ := m2.setFin 3
  have Hm3 := Lib.hid m3
  have Hk3 := Lib.hid (((hk0.trans k1 (fun _ _ h => h)).trans k2 (fun _ _ h => h)).trans k3 (fun _ _ h => h))
  simp only at HmO HmT HmT2
  unfold yv at HmO HmT HmT2
  clear m1 k1 m2 k2 m3 k3 h0 hk0
  have HRO := Lib.hid (taken_ready O hO m hst)
  have HRT := Lib.hid (taken_ready T hT m hst)
  generalize hbO : mayN O m.stack = bO at *
  generalize hbT : mayN T m.stack = bT at *
  clear hbO hbT
  have Hd := Lib.hid (fun (h : m.at_ + 1 < src.size) => headD_drop src (m.at_ + 1) h)
  have Hn := Lib.hid (show m.at_ + 1 = src.size → (sb src).drop (m.at_ + 1) = [] from fun h => List.drop_of_length_le (by rw [sb_length]; omega))
  have Hnn := Lib.hid (show m.at_ + 1 < src.size → (sb src).drop (m.at_ + 1) ≠ [] from fun h e => by
    have := congrArg List.length e
    rw [List.length_drop, sb_length] at this
    simp at this; omega)
  generalize (sb src).drop (m.at_ + 1) = rest at *
  have a8 : IntKind.i64.wrap ((m.at_ : Int) + 1 + 1) = (m.at_ : Int) + 2 := by rw [show (m.at_ : Int) + 1 + 1 = (m.at_ : Int) + 2 by omega]; exact IntWalk.i64_in _ (by omega)
  have a9 : IntKind.i64.wrap ((m.at_ : Int) + 2) = (m.at_ : Int) + 2 := IntWalk.i64_in _ (by omega)
  by_cases hOO : O ≠ 0 ∧ bO = true
  · obtain ⟨O0, rfl⟩ := hOO
    have o1 : ((O : Int) != 0) = true := bne_iff_ne.2 (by omega)
    obtain ⟨n, s, hTk, hbd, htk⟩ := HRO.out rfl
    have HtO := Lib.hid (fun W (hW : Old ((w0.setCell ⟨g, 4, none⟩ (.int .i64 (m.at_ : Int))).setCell ⟨g, 1, none⟩ (.int .i64 ((m.at_ : Int) + 1))) W) => take_any9 W g r src _ A c (Hm2.out.old hW) O n s hO hTk hbd)
    unfold yv at HtO
    have Htk := Lib.hid htk
    clear htk hTk hbd
    have Hres := Lib.hid (show R = (if T ≠ 0 ∧ bT = true ∧ rest.headD 0 = 61 then taken T { m with from_ := m.at_ } (m.at_ + 2) else .ok { m with from_ := m.at_, at_ := m.at_ + 1, stack := s }) by rw [Hres.out, if_pos ⟨O0, rfl⟩, Htk.out])
    clear O0
    by_cases T0 : T = 0
    · have t1 : ((T : Int) != 0) = false := by rw [T0]; rfl
      have HR := Lib.hid (show R = .ok { m with from_ := m.at_, at_ := m.at_ + 1, stack := s } by rw [Hres.out, if_neg (fun h => h.1 T0)])
      clear Hres T0
      go_wp2_with (go_at_call 176; refine (HmO.out _ (Kp.refl _ _)).mono ?_; rintro e w1 ⟨rfl, rfl⟩)
      go_quiet (fail)
      go_wp2_with (go_at_call 179; refine (HtO.out _ ((Kp.refl _ _).drewN _)).mono ?_; rintro e w1 ⟨rfl, hstep⟩)
      go_end0
      rw [HR.out]
      exact ⟨rfl, MStep.trans (Hk2.out.drewN _) (.inl rfl) hstep⟩
    · have t1 : ((T : Int) != 0) = true := bne_iff_ne.2 (by omega)
      cases bT
      · have HR := Lib.hid (show R = .ok { m with from_ := m.at_, at_ := m.at_ + 1, stack := s } by rw [Hres.out, if_neg (fun h => by cases h.2.1)])
        clear Hres T0
        go_wp2_with (go_at_call 176; refine (HmO.out _ (Kp.refl _ _)).mono ?_; rintro e w1 ⟨rfl, rfl⟩)
        go_quiet ((go_at_call 176; refine Calls.quiet_of_same ((HmT2.out _ ((Kp.refl _ _).drewN _)).mono (fun _ _ h => ⟨h.1, h.2.symm⟩))))
        go_wp2_with (go_at_call 179; refine (HtO.out _ ((Kp.refl _ _).drewN _)).mono ?_; rintro e w1 ⟨rfl, hstep⟩)
        go_end0
        rw [HR.out]
        exact ⟨rfl, MStep.trans (Hk2.out.drewN _) (.inl rfl) hstep⟩
      · by_cases hend : m.at_ + 1 = src.size
        · have HR := Lib.hid (show R = .ok { m with from_ := m.at_, at_ := m.at_ + 1, stack := s } by rw [Hres.out, if_neg (fun h => by have h2 := h.2.2; rw [Hn.out hend] at h2; exact absurd h2 (by decide))])
          have e1 : decide ((m.at_ : Int) + 1 < (src.size : Int)) = false := decide_eq_false (by omega)
          clear Hres T0 hend
          go_wp2_with (go_at_call 176; refine (HmO.out _ (Kp.refl _ _)).mono ?_; rintro e w1 ⟨rfl, rfl⟩)
          go_quiet ((go_at_call 176; refine Calls.quiet_of_same ((HmT2.out _ ((Kp.refl _ _).drewN _)).mono (fun _ _ h => ⟨h.1, h.2.symm⟩))))
          go_wp2_with (go_at_call 179; refine (HtO.out _ ((Kp.refl _ _).drewN _)).mono ?_; rintro e w1 ⟨rfl, hstep⟩)
          go_end0
          rw [HR.out]
          exact ⟨rfl, MStep.trans (Hk2.out.drewN _) (.inl rfl) hstep⟩
        · have hin : m.at_ + 1 < src.size := by omega
          have e1 : (m.at_ : Int) + 1 < (src.size : Int) := by omega
          have hd := Hd.out hin
          by_cases h61 : src[m.at_ + 1].toNat = 61
          · have e2 : ((src[m.at_ + 1].toNat : Int) == 61) = true := by rw [h61]; rfl
            have hd2 : rest.headD 0 = 61 := by rw [hd]; exact UInt8.toNat_inj.1 h61
            obtain ⟨n2, s2, hTk2, hbd2, htk2⟩ := HRT.out rfl
            have HR := Lib.hid (show R = .ok { m with from_ := m.at_, at_ := m.at_ + 2, stack := s2 } by rw [Hres.out, if_pos ⟨T0, rfl, hd2⟩, htk2])
            have Hset := Lib.hid (fun W (hW : Old ((w0.setCell ⟨g, 4, none⟩ (.int .i64 (m.at_ : Int))).setCell ⟨g, 1, none⟩ (.int .i64 ((m.at_ : Int) + 1))) W) => by
              have := (Hm2.out.old hW).setAt (m.at_ + 2)
              rwa [show ((m.at_ + 2 : Nat) : Int) = (m.at_ : Int) + 2 by omega] at this)
            have HtT := Lib.hid (fun W (hW : Old ((w0.setCell ⟨g, 4, none⟩ (.int .i64 (m.at_ : Int))).setCell ⟨g, 1, none⟩ (.int .i64 ((m.at_ : Int) + 1))) W) => take_any9 _ g r src _ A c (Hset.out W hW).1 T n2 s2 hT hTk2 hbd2)
            unfold yv at HtT
            clear Hres T0 hend hd hd2 h61 hTk2 hbd2 htk2
            go_wp2_with (go_at_call 176; refine (HmO.out _ (Kp.refl _ _)).mono ?_; rintro e w1 ⟨rfl, rfl⟩)
            go_quiet ((go_at_call 176; refine Calls.quiet_of_same ((HmT2.out _ ((Kp.refl _ _).drewN _)).mono (fun _ _ h => ⟨h.1, h.2.symm⟩))))
            go_wp2_with (go_at_call 179; refine (HtT.out _ ((Kp.refl _ _).drewN _)).mono ?_; rintro e w1 ⟨rfl, hstep⟩)
            go_end0
            rw [HR.out]
            exact ⟨rfl, MStep.trans ((Hk2.out.drewN _).trans (Hset.out _ ((Kp.refl _ _).drewN _)).2 (fun _ _ h => h)) (.inl rfl) hstep⟩
          · have e2 : ((src[m.at_ + 1].toNat : Int) == 61) = false := beq_eq_false_iff_ne.2 (by omega)
            have HR := Lib.hid (show R = .ok { m with from_ := m.at_, at_ := m.at_ + 1, stack := s } by rw [Hres.out, if_neg (fun h => h61 (by have h2 := h.2.2; rw [hd] at h2; rw [h2]; rfl))])
            clear Hres T0 hend hd h61
            go_wp2_with (go_at_call 176; refine (HmO.out _ (Kp.refl _ _)).mono ?_; rintro e w1 ⟨rfl, rfl⟩)
            go_quiet ((go_at_call 176; refine Calls.quiet_of_same ((HmT2.out _ ((Kp.refl _ _).drewN _)).mono (fun _ _ h => ⟨h.1, h.2.symm⟩))))
            go_wp2_with (go_at_call 179; refine (HtO.out _ ((Kp.refl _ _).drewN _)).mono ?_; rintro e w1 ⟨rfl, hstep⟩)
            go_end0
            rw [HR.out]
            exact ⟨rfl, MStep.trans (Hk2.out.drewN _) (.inl rfl) hstep⟩
  · have HrB := Lib.hid (show R = (if T = 0 ∨ bT = false then .error m.at_ else if rest = [] then .ok { m with from_ := m.at_, at_ := m.at_ + 1, fin := 3 } else if rest.headD 0 ≠ 61 then .error (m.at_ + 1) else taken T { m with from_ := m.at_ } (m.at_ + 2)) by rw [Hres.out, if_neg hOO])
    have hO2 : O = 0 ∨ O ≠ 0 ∧ bO = false := by
      rcases Nat.eq_zero_or_pos O with h | h
      · exact .inl h
      · refine .inr ⟨by omega, ?_⟩
        cases bO
        · rfl
        · exact absurd ⟨by omega, rfl⟩ hOO
    clear hOO HRO Hres
    rcases hO2 with O0 | ⟨O0, rfl⟩
    · have o1 : ((O : Int) != 0) = false := by rw [O0]; rfl
      clear O0
      by_cases T0 : T = 0
      · have t1 : ((T : Int) == 0) = true := by rw [T0]; rfl
        have HR := Lib.hid (show R = .error m.at_ by rw [HrB.out, if_pos (.inl T0)])
        clear HrB T0
        go_wp2_with fail
        refine ⟨rfl, ?_⟩
        rw [HR.out]
        exact ⟨rfl, Hk1.out⟩
      · have t1 : ((T : Int) == 0) = false := beq_eq_false_iff_ne.2 (by omega)
        cases bT
        · have HR := Lib.hid (show R = .error m.at_ by rw [HrB.out, if_pos (.inr rfl)])
          clear HrB T0
          go_wp2_with (go_at_call_of 176 (Value.int .u8 (T : Int)); refine (HmT.out _ (Kp.refl _ _)).mono ?_; rintro e w1 ⟨rfl, rfl⟩)
          refine ⟨rfl, ?_⟩
          rw [HR.out]
          exact ⟨rfl, Hk1.out⟩
        · have HrC := Lib.hid (show R = (if rest = [] then .ok { m with from_ := m.at_, at_ := m.at_ + 1, fin := 3 } else if rest.headD 0 ≠ 61 then .error (m.at_ + 1) else taken T { m with from_ := m.at_ } (m.at_ + 2)) by rw [HrB.out, if_neg (fun h => by rcases h with h | h; exact T0 h; cases h)])
          by_cases hend : m.at_ + 1 = src.size
          · have HR := Lib.hid (show R = .ok { m with from_ := m.at_, at_ := m.at_ + 1, fin := 3 } by rw [HrC.out, if_pos (Hn.out hend)])
            have e1 : (((m.at_ : Int) + 1) == (src.size : Int)) = true := by rw [show (m.at_ : Int) + 1 = (src.size : Int) by omega]; simp
            clear HrB HrC T0 hend
            go_wp2_with (go_at_call_of 176 (Value.int .u8 (T : Int)); refine (HmT.out _ (Kp.refl _ _)).mono ?_; rintro e w1 ⟨rfl, rfl⟩)
            go_quiet (fail)
            go_wp2
            go_end0
            rw [HR.out]
            exact ⟨rfl, r, A, c, Hm3.out.drewN _, Hk3.out.drewN _, .inl rfl⟩
          · have hin : m.at_ + 1 < src.size := by omega
            have e1 : (((m.at_ : Int) + 1) == (src.size : Int)) = false := beq_eq_false_iff_ne.2 (by omega)
            have e1b : (m.at_ : Int) + 1 < (src.size : Int) := by omega
            have hd := Hd.out hin
            by_cases h61 : src[m.at_ + 1].toNat = 61
            · have e2 : ((src[m.at_ + 1].toNat : Int) != 61) = false := by rw [h61]; rfl
              have hd2 : rest.headD 0 = 61 := by rw [hd]; exact UInt8.toNat_inj.1 h61
              obtain ⟨n2, s2, hTk2, hbd2, htk2⟩ := HRT.out rfl
              have HR := Lib.hid (show R = .ok { m with from_ := m.at_, at_ := m.at_ + 2, stack := s2 } by rw [HrC.out, if_neg (Hnn.out hin), if_neg (fun h => h hd2), htk2])
              have Hset := Lib.hid (fun W (hW : Old (w0.setCell ⟨g, 4, none⟩ (.int .i64 (m.at_ : Int))) W) => by
                have := (Hm1.out.old hW).setAt (m.at_ + 2)
                rwa [show ((m.at_ + 2 : Nat) : Int) = (m.at_ : Int) + 2 by omega] at this)
              have HtT := Lib.hid (fun W (hW : Old (w0.setCell ⟨g, 4, none⟩ (.int .i64 (m.at_ : Int))) W) => take_any9 _ g r src _ A c (Hset.out W hW).1 T n2 s2 hT hTk2 hbd2)
              unfold yv at HtT
              clear HrB HrC T0 hend hd hd2 h61 hTk2 hbd2 htk2
              go_wp2_with (go_at_call_of 176 (Value.int .u8 (T : Int)); refine (HmT.out _ (Kp.refl _ _)).mono ?_; rintro e w1 ⟨rfl, rfl⟩)
              go_quiet (fail)
              go_wp2
              go_quiet (fail)
              go_wp2_with (go_at_call 179; refine (HtT.out _ (by first | exact (Kp.refl _ _).drewN _ | exact ((Kp.refl _ _).drewN _).drewN _)).mono ?_; rintro e w1 ⟨rfl, hstep⟩)
              go_end0
              rw [HR.out]
              exact ⟨rfl, MStep.trans (Hk1.out.trans (((Kp.refl (MX g r) _).old (by first | exact (Kp.refl _ _).drewN _ | exact ((Kp.refl _ _).drewN _).drewN _)).trans (Hset.out _ (by first | exact (Kp.refl _ _).drewN _ | exact ((Kp.refl _ _).drewN _).drewN _)).2 (fun _ _ h => h)) (fun _ _ h => h)) (.inl rfl) hstep⟩
            · have e2 : ((src[m.at_ + 1].toNat : Int) != 61) = true := bne_iff_ne.2 (by omega)
              have HR := Lib.hid (show R = .error (m.at_ + 1) by rw [HrC.out, if_neg (Hnn.out hin), if_pos (fun h => h61 (by rw [← hd, h]; rfl))])
              clear HrB HrC T0 hend hd h61
              go_wp2_with (go_at_call_of 176 (Value.int .u8 (T : Int)); refine (HmT.out _ (Kp.refl _ _)).mono ?_; rintro e w1 ⟨rfl, rfl⟩)
              go_quiet (fail)
              go_wp2
              go_quiet (fail)
              go_wp2
              refine ⟨rfl, ?_⟩
              rw [HR.out]
              exact ⟨by rw [wrongV, show ((m.at_ + 1 : Nat) : Int) = (m.at_ : Int) + 1 by omega], ⟨Hk1.out.os, Hk1.out.tape, Hk1.out.output, Hk1.out.size, Hk1.out.block⟩⟩
    · have o1 : ((O : Int) != 0) = true := bne_iff_ne.2 (by omega)
      clear O0
      by_cases T0 : T = 0
      · have t1 : ((T : Int) == 0) = true := by rw [T0]; rfl
        have HR := Lib.hid (show R = .error m.at_ by rw [HrB.out, if_pos (.inl T0)])
        clear HrB T0
        go_wp2_with (go_at_call_of 176 (Value.int .u8 (O : Int)); refine (HmO.out _ (Kp.refl _ _)).mono ?_; rintro e w1 ⟨rfl, rfl⟩)
        refine ⟨rfl, ?_⟩
        rw [HR.out]
        exact ⟨rfl, Hk1.out⟩
      · have t1 : ((T : Int) == 0) = false := beq_eq_false_iff_ne.2 (by omega)
        cases bT
        · have HR := Lib.hid (show R = .error m.at_ by rw [HrB.out, if_pos (.inr rfl)])
          clear HrB T0
          go_wp2_with (first | (go_at_call_of 176 (Value.int .u8 (O : Int)); refine (HmO.out _ (Kp.refl _ _)).mono ?_; rintro e w1 ⟨rfl, rfl⟩) | (go_at_call_of 176 (Value.int .u8 (T : Int)); refine (HmT.out _ (Kp.refl _ _)).mono ?_; rintro e w1 ⟨rfl, rfl⟩))
          refine ⟨rfl, ?_⟩
          rw [HR.out]
          exact ⟨rfl, Hk1.out⟩
        · have HrC := Lib.hid (show R = (if rest = [] then .ok { m with from_ := m.at_, at_ := m.at_ + 1, fin := 3 } else if rest.headD 0 ≠ 61 then .error (m.at_ + 1) else taken T { m with from_ := m.at_ } (m.at_ + 2)) by rw [HrB.out, if_neg (fun h => by rcases h with h | h; exact T0 h; cases h)])
          by_cases hend : m.at_ + 1 = src.size
          · have HR := Lib.hid (show R = .ok { m with from_ := m.at_, at_ := m.at_ + 1, fin := 3 } by rw [HrC.out, if_pos (Hn.out hend)])
            have e1 : (((m.at_ : Int) + 1) == (src.size : Int)) = true := by rw [show (m.at_ : Int) + 1 = (src.size : Int) by omega]; simp
            clear HrB HrC T0 hend
            go_wp2_with (first | (go_at_call_of 176 (Value.int .u8 (O : Int)); refine (HmO.out _ (Kp.refl _ _)).mono ?_; rintro e w1 ⟨rfl, rfl⟩) | (go_at_call_of 176 (Value.int .u8 (T : Int)); refine (HmT.out _ (Kp.refl _ _)).mono ?_; rintro e w1 ⟨rfl, rfl⟩))
            go_quiet (fail)
            go_wp2
            go_end0
            rw [HR.out]
            exact ⟨rfl, r, A, c, Hm3.out.drewN _, Hk3.out.drewN _, .inl rfl⟩
          · have hin : m.at_ + 1 < src.size := by omega
            have e1 : (((m.at_ : Int) + 1) == (src.size : Int)) = false := beq_eq_false_iff_ne.2 (by omega)
            have e1b : (m.at_ : Int) + 1 < (src.size : Int) := by omega
            have hd := Hd.out hin
            by_cases h61 : src[m.at_ + 1].toNat = 61
            · have e2 : ((src[m.at_ + 1].toNat : Int) != 61) = false := by rw [h61]; rfl
              have hd2 : rest.headD 0 = 61 := by rw [hd]; exact UInt8.toNat_inj.1 h61
              obtain ⟨n2, s2, hTk2, hbd2, htk2⟩ := HRT.out rfl
              have HR := Lib.hid (show R = .ok { m with from_ := m.at_, at_ := m.at_ + 2, stack := s2 } by rw [HrC.out, if_neg (Hnn.out hin), if_neg (fun h => h hd2), htk2])
              have Hset := Lib.hid (fun W (hW : Old (w0.setCell ⟨g, 4, none⟩ (.int .i64 (m.at_ : Int))) W) => by
                have := (Hm1.out.old hW).setAt (m.at_ + 2)
                rwa [show ((m.at_ + 2 : Nat) : Int) = (m.at_ : Int) + 2 by omega] at this)
              have HtT := Lib.hid (fun W (hW : Old (w0.setCell ⟨g, 4, none⟩ (.int .i64 (m.at_ : Int))) W) => take_any9 _ g r src _ A c (Hset.out W hW).1 T n2 s2 hT hTk2 hbd2)
              unfold yv at HtT
              clear HrB HrC T0 hend hd hd2 h61 hTk2 hbd2 htk2
              go_wp2_with (first | (go_at_call_of 176 (Value.int .u8 (O : Int)); refine (HmO.out _ (Kp.refl _ _)).mono ?_; rintro e w1 ⟨rfl, rfl⟩) | (go_at_call_of 176 (Value.int .u8 (T : Int)); refine (HmT.out _ (Kp.refl _ _)).mono ?_; rintro e w1 ⟨rfl, rfl⟩))
              go_quiet (fail)
              go_wp2
              go_quiet (fail)
              go_wp2_with (go_at_call 179; refine (HtT.out _ (by first | exact (Kp.refl _ _).drewN _ | exact ((Kp.refl _ _).drewN _).drewN _)).mono ?_; rintro e w1 ⟨rfl, hstep⟩)
              go_end0
              rw [HR.out]
              exact ⟨rfl, MStep.trans (Hk1.out.trans (((Kp.refl (MX g r) _).old (by first | exact (Kp.refl _ _).drewN _ | exact ((Kp.refl _ _).drewN _).drewN _)).trans (Hset.out _ (by first | exact (Kp.refl _ _).drewN _ | exact ((Kp.refl _ _).drewN _).drewN _)).2 (fun _ _ h => h)) (fun _ _ h => h)) (.inl rfl) hstep⟩
            · have e2 : ((src[m.at_ + 1].toNat : Int) != 61) = true := bne_iff_ne.2 (by omega)
              have HR := Lib.hid (show R = .error (m.at_ + 1) by rw [HrC.out, if_neg (Hnn.out hin), if_pos (fun h => h61 (by rw [← hd, h]; rfl))])
              clear HrB HrC T0 hend hd h61
              go_wp2_with (first | (go_at_call_of 176 (Value.int .u8 (O : Int)); refine (HmO.out _ (Kp.refl _ _)).mono ?_; rintro e w1 ⟨rfl, rfl⟩) | (go_at_call_of 176 (Value.int .u8 (T : Int)); refine (HmT.out _ (Kp.refl _ _)).mono ?_; rintro e w1 ⟨rfl, rfl⟩))
              go_quiet (fail)
              go_wp2
              go_quiet (fail)
              go_wp2
              refine ⟨rfl, ?_⟩
              rw [HR.out]
              exact ⟨by rw [wrongV, show ((m.at_ + 1 : Nat) : Int) = (m.at_ : Int) + 1 by omega], ⟨Hk1.out.os, Hk1.out.tape, Hk1.out.output, Hk1.out.size, Hk1.out.block⟩⟩
end Go.Proofs.YtmmjcbbogokmfaaGreatDoor
