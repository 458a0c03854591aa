import Derived.Test.YtmmjcbbogokmfaaGreatDoorMt01
import Derived.Test.YtmmjcbbogokmfaaGreatDoorMt13
set_option maxRecDepth 100000
set_option maxHeartbeats 25600000
namespace Go.Proofs.YtmmjcbbogokmfaaGreatDoor
open Go.RowKit
theorem vL (s : ByteArray) (p : Nat) (h : p < s.size) : (sb s).drop p = s[p] :: (sb s).drop (p + 1) := by
  have h' : p < (sb s).length := by rw [jA]; exact h
  rw [List.drop_eq_getElem_cons h']
  rfl
theorem textGo5 (c : UInt8) (l : List UInt8) (k : Nat) : jx (c :: l) k 5 = match behindN c.toNat with | some x => jx l (k + 1) x | none => .wrong k := by
  rw [jx, behindN]
  simp only [show ¬ (5 : Nat) = 4 by decide, if_false, if_true]
  split
  · rfl
  · split <;> rfl
theorem hexC_eq (c : UInt8) : hexC c = (digC c || decide (97 <= c.toNat /\ c.toNat <= 102)) := rfl
structure TxSt (w : World) (g : Nat) (r : Option Nat) (src : ByteArray) (m : Mc) (X : TxR) (p e : Nat) (wr : World) (A : Option Addr) (c : Nat) (r' : Option Nat) : Prop where
  le : p <= src.size
  go : X = jx ((sb src).drop p) p e
  mac : Mac wr g r' src { m with at_ := p, from_ := m.at_, fin := e } A c
  kp : Kp (MX g r) w wr
  fr : MFr w r r'
def TxInv (w : World) (g : Nat) (r : Option Nat) (src : ByteArray) (m : Mc) (X : TxR) (wr : World) : Prop := ∃ p e A c r', (4 <= e /\ e <= 7) /\ TxSt w g r src m X p e wr A c r'
section
variable {w wr W : World} {g : Nat} {r r' : Option Nat} {src : ByteArray} {m : Mc} {X : TxR} {p e e' : Nat} {A : Option Addr} {c : Nat}
theorem TxSt.next (h : TxSt w g r src m X p e wr A c r') (hlt : p < src.size) (he : 4 <= e' /\ e' <= 7) (hX : X = jx ((sb src).drop (p + 1)) (p + 1) e') (hW : Kp (MX g r') wr W) (hM : Mac W g r' src { m with at_ := p, from_ := m.at_, fin := e' } A c) :
    TxInv w g r src m X (W.setCell ⟨g, 1, none⟩ (.int .i64 ((p : Int) + 1))) /\ src.size - atOf g (W.setCell ⟨g, 1, none⟩ (.int .i64 ((p : Int) + 1))) < src.size - atOf g wr := by
  obtain ⟨h1, h2⟩ := hM.setAt (p + 1)
  rw [show ((p + 1 : Nat) : Int) = (p : Int) + 1 by omega] at h1 h2
  refine ⟨⟨p + 1, e', A, c, r', he, hlt, hX, h1, (h.kp.trans hW (MX.trans h.fr)).trans h2 (MX.trans h.fr), h.fr⟩, ?_⟩
  rw [h1.atOf, h.mac.atOf]
  simp only
  omega
theorem Kp.mx (hk : Kp NoX wr W) : Kp (MX g r) wr W := hk.mono (fun _ _ f => f.elim)
end
theorem text_any (w : World) (g : Nat) (r : Option Nat) (src : ByteArray) (m : Mc) (A : Option Addr) (c : Nat) (h : Mac w g r src m A c) (hs : src.size <= 1000000) (ha : m.at_ < src.size) (hst : m.stack.length <= 1000000) :
    Calls Tryz.prog 161 #[.pointer (some ⟨g, 0, none⟩)] w (MOut w g r src (kW m ((sb src).drop m.at_))) := by
  have HM := jJ0 (may_any w g r src m A c h 3)
  have hR : kW m ((sb src).drop m.at_) = kW m ((sb src).drop m.at_) := rfl
  generalize hRR : kW m ((sb src).drop m.at_) = R at hR ⊢
  unfold kW at hRR
  by_cases hmay : mayN 3 m.stack = false
  · rw [if_pos hmay] at hRR
    rw [hmay] at HM
    have HR := jJ0 hRR.symm
    have hc1 := h.c1
    clear hRR hR hmay h
    unfold yv at HM
    go_enter Tryz.func161, Tryz.ntmps161
    go_wp2_with (go_at_call 176; refine HM.out.mono ?_; rintro e w1 ⟨rfl, rfl⟩)
    refine ⟨rfl, ?_⟩
    rw [HR.out]
    exact ⟨rfl, Kp.refl _ _⟩
  · rw [if_neg hmay] at hRR
    have hmay' : mayN 3 m.stack = true := by simpa using hmay
    rw [hmay'] at HM
    rw [vL src m.at_ ha, List.drop_one, List.tail_cons] at hRR
    obtain ⟨s, hs1, hs2⟩ := taken_may 3 (by decide) { m with from_ := m.at_, fin := 0 } 0 hmay'
    obtain ⟨n, hn, hT⟩ := takes_of hs1
    have HT := jJ0 hT
    have Hn := jJ0 (show m.stack.length + 11 * n <= 100000000 by simp only at hn; omega)
    have Hres := jJ0 (show R = match jx ((sb src).drop (m.at_ + 1)) (m.at_ + 1) 4 with
      | .wrong k => .error k
      | .shut k => .ok { m with from_ := m.at_, fin := 0, at_ := k, stack := s }
      | .ends e => .ok { m with from_ := m.at_, at_ := src.size, fin := e } by
        rw [<- hRR]
        cases hq : jx ((sb src).drop (m.at_ + 1)) (m.at_ + 1) 4 with
        | wrong k => rfl
        | shut k =>
          show kw 3 _ k = _
          unfold kw
          rw [hs1]
        | ends e =>
          show Except.ok _ = _
          rw [List.length_cons, List.length_drop, jA, show m.at_ + (src.size - (m.at_ + 1) + 1) = src.size by omega])
    clear hRR hR hmay hmay' hs1 hs2 hn hT
    have hc1 := h.c1
    have hc3 := h.c3
    have hc4 := h.c4
    have hz1 := h.z 1
    have hz3 := h.z 3
    have hz4 := h.z 4
    have H0 := jJ0 (show TxInv w g r src m (jx ((sb src).drop (m.at_ + 1)) (m.at_ + 1) 4) (((w.setCell ⟨g, 4, none⟩ (.int .i64 (m.at_ : Int))).setCell ⟨g, 3, none⟩ (.int .u8 4)).setCell ⟨g, 1, none⟩ (.int .i64 ((m.at_ : Int) + 1))) from by
      obtain ⟨m1, k1⟩ := h.setFrom m.at_
      obtain ⟨m2, k2⟩ := m1.setFin 4
      obtain ⟨m3, k3⟩ := m2.setAt (m.at_ + 1)
      rw [show ((m.at_ + 1 : Nat) : Int) = (m.at_ : Int) + 1 by omega] at m3 k3
      exact ⟨m.at_ + 1, 4, A, c, r, by omega, ha, rfl, m3, (k1.trans k2 (fun _ _ h => h)).trans k3 (fun _ _ h => h), .inl rfl⟩)
    generalize jx ((sb src).drop (m.at_ + 1)) (m.at_ + 1) 4 = X at *
    have b1 : IntKind.i64.wrap ((m.at_ : Int) + 1) = (m.at_ : Int) + 1 := IntWalk.i64_in _ (by omega)
    clear h
    unfold yv at HM
    go_enter Tryz.func161, Tryz.ntmps161
    go_wp2_with (go_at_call 176; refine HM.out.mono ?_; rintro e w1 ⟨rfl, rfl⟩)
    go_loopw [] (fun wr => TxInv w g r src m X wr) (fun wr => src.size - atOf g wr)
    case atStart => exact H0.out
    case round =>
      clear H0 HM hc1 hc3 hc4 hz1 hz3 hz4 b1
      obtain ⟨p, e, A, c, r', he, hSt⟩ := hrel
      have hc0 := hSt.mac.c0
      have hc1 := hSt.mac.c1
      have hc3 := hSt.mac.c3
      have hz1 := hSt.mac.z 1
      have hz3 := hSt.mac.z 3
      simp only at hc0 hc1 hc3
      by_cases hlt : p < src.size
      · have hgo := hSt.go
        rw [vL src p hlt] at hgo
        have a1 : (p : Int) < (src.size : Int) := by omega
        have a2 : (0 : Int) <= (p : Int) := by omega
        have a3 : (p : Int).toNat = p := by omega
        have a4 : IntKind.i64.wrap ((p : Int) + 1) = (p : Int) + 1 := IntWalk.i64_in _ (by omega)
        by_cases e4 : e = 4
        · subst e4
          rw [jx, if_pos rfl] at hgo
          by_cases y34 : src[p].toNat = 34
          · rw [if_pos y34] at hgo
            have HR := jJ0 (show R = .ok { m with from_ := m.at_, fin := 0, at_ := p + 1, stack := s } by rw [Hres.out, hgo])
            have HTk := jJ0 (fun W (hO : Old wr W) => vp W g r' src _ A c (hSt.mac.old hO) 3 n s (by decide) HT.out Hn.out)
            have Hkp := jJ0 hSt.kp
            have Hfr := jJ0 hSt.fr
            have d1 : ((src[p].toNat : Int) == 34) = true := by rw [y34]; rfl
            clear hSt hgo y34 Hres
            unfold yv at HTk
            go_wp2
            go_quiet (fail)
            go_wp2
            go_quiet (fail)
            go_wp2_with ((go_at_call 179); refine (HTk.out _ (by first | exact (Kp.refl _ _).drewN _ | exact ((Kp.refl _ _).drewN _).drewN _)).mono ?_; rintro e w1 ⟨rfl, r2, A2, c2, hM2, hk2, hf2⟩; have hc1' := hM2.c1; have hc3' := hM2.c3; have hz1' := hM2.z 1; have hz3' := hM2.z 3; simp only at hc1' hc3'; have HM2 := jJ0 hM2; have Hk2 := jJ0 hk2; have Hf2 := jJ0 hf2; clear hM2 hk2 hf2)
            refine bodyPost_ret (results_none rfl _ _ _) rfl ?_
            rw [HR.out]
            obtain ⟨m1, k1⟩ := HM2.out.setAt (p + 1)
            obtain ⟨m2, k2⟩ := m1.setFin 0
            rw [show ((p + 1 : Nat) : Int) = (p : Int) + 1 by omega] at k1 m2 k2
            have K2 : Kp (MX g r') wr w1 := ⟨Hk2.out.os, Hk2.out.tape, Hk2.out.output, Hk2.out.size, Hk2.out.block⟩
            have K := Hkp.out.trans K2 (MX.trans Hfr.out)
            have F : MFr w r r2 := Hfr.out.trans Hkp.out.size Hf2.out
            exact ⟨rfl, r2, A2, c2, m2, (K.trans k1 (MX.trans F)).trans k2 (MX.trans F), F⟩
          · rw [if_neg y34] at hgo
            have d1 : ((src[p].toNat : Int) == 34) = false := beq_eq_false_iff_ne.2 (by omega)
            by_cases y92 : src[p].toNat = 92
            · rw [if_pos y92] at hgo
              have d2 : ((src[p].toNat : Int) == 92) = true := by rw [y92]; rfl
              have Hs := jJ0 (fun W (hO : Old wr W) => by
                obtain ⟨m1, k1⟩ := (hSt.mac.old hO).setFin 5
                exact hSt.next hlt (e' := 5) (by omega) hgo (hO.mx.trans k1 (fun _ _ h => h)) m1)
              clear hSt hgo y34 y92 Hres
              go_wp2
              go_quiet (fail)
              go_wp2
              go_quiet (fail)
              go_wp2
              exact Hs.out _ (by first | exact (Kp.refl _ _).drewN _ | exact ((Kp.refl _ _).drewN _).drewN _)
            · rw [if_neg y92] at hgo
              have d2 : ((src[p].toNat : Int) == 92) = false := beq_eq_false_iff_ne.2 (by omega)
              by_cases yr : src[p].toNat < 32 \/ 126 < src[p].toNat
              · rw [if_pos yr] at hgo
                have HR := jJ0 (show R = .error p by rw [Hres.out, hgo])
                have Hkp := jJ0 hSt.kp
                clear hSt hgo y34 y92 Hres
                by_cases y32 : src[p].toNat < 32
                · have d3 : (src[p].toNat : Int) < 32 := by omega
                  clear yr
                  go_wp2
                  go_quiet (fail)
                  go_wp2
                  go_quiet (fail)
                  go_wp2
                  refine ⟨rfl, ?_⟩
                  rw [HR.out]
                  exact ⟨rfl, ⟨Hkp.out.os, Hkp.out.tape, Hkp.out.output, Hkp.out.size, Hkp.out.block⟩⟩
                · have d3 : ¬ (src[p].toNat : Int) < 32 := by omega
                  have d4 : (126 : Int) < (src[p].toNat : Int) := by omega
                  clear yr
                  go_wp2
                  go_quiet (fail)
                  go_wp2
                  go_quiet (fail)
                  go_wp2
                  refine ⟨rfl, ?_⟩
                  rw [HR.out]
                  exact ⟨rfl, ⟨Hkp.out.os, Hkp.out.tape, Hkp.out.output, Hkp.out.size, Hkp.out.block⟩⟩
              · rw [if_neg yr] at hgo
                have d3 : ¬ (src[p].toNat : Int) < 32 := by omega
                have d4 : ¬ (126 : Int) < (src[p].toNat : Int) := by omega
                have Hs := jJ0 (fun W (hO : Old wr W) => hSt.next hlt (e' := 4) (by omega) hgo hO.mx (hSt.mac.old hO))
                clear hSt hgo y34 y92 yr Hres
                go_wp2
                go_quiet (fail)
                go_wp2
                go_quiet (fail)
                go_wp2
                exact Hs.out _ (by first | exact (Kp.refl _ _).drewN _ | exact ((Kp.refl _ _).drewN _).drewN _)
        · by_cases e5 : e = 5
          · subst e5
            rw [textGo5] at hgo
            cases hb : behindN src[p].toNat with
            | some x =>
              rw [hb] at hgo
              have HB := jJ0 (fun W => (behind_any W src[p].toNat p).mono (R' := fun e w' => e = .returned (.int .u8 (x : Int)) /\ W = w') (fun e w' h => ⟨by have := h.2; rw [hb] at this; exact this, h.1⟩))
              have hx : 4 <= x /\ x <= 7 := by
                unfold behindN at hb
                split at hb
                · injection hb; omega
                · split at hb
                  · injection hb; omega
                  · cases hb
              have Hs := jJ0 (fun W (hO : Old wr W) => by
                obtain ⟨m1, k1⟩ := (hSt.mac.old hO).setFin x
                exact hSt.next hlt (e' := x) hx hgo (hO.mx.trans k1 (fun _ _ h => h)) m1)
              clear hSt hgo hb Hres hx
              go_wp2
              go_quiet (fail)
              go_wp2
              go_quiet (fail)
              go_wp2_with (go_at_call 197; refine (HB.out _).mono ?_; rintro e w1 ⟨rfl, rfl⟩)
              exact Hs.out _ (by first | exact (Kp.refl _ _).drewN _ | exact ((Kp.refl _ _).drewN _).drewN _)
            | none =>
              rw [hb] at hgo
              have HR := jJ0 (show R = .error p by rw [Hres.out, hgo])
              have Hkp := jJ0 hSt.kp
              have HB := jJ0 (fun W => (behind_any W src[p].toNat p).mono (R' := fun e w' => e = .panicked (wrongV p) /\ W = w') (fun e w' h => ⟨by have := h.2; rw [hb] at this; exact this, h.1⟩))
              clear hSt hgo hb Hres
              go_wp2
              go_quiet (fail)
              go_wp2
              go_quiet (fail)
              go_wp2_with (go_at_call 197; refine (HB.out _).mono ?_; rintro e w1 ⟨rfl, rfl⟩)
              refine ⟨rfl, ?_⟩
              rw [HR.out]
              exact ⟨rfl, ⟨Hkp.out.os, Hkp.out.tape, Hkp.out.output, Hkp.out.size, Hkp.out.block⟩⟩
          · have hexw := hexC_eq src[p]
            have Hd := jJ0 (fun W => yN W src[p])
            unfold bv at Hd
            generalize hdd : digC src[p] = d at *
            clear hdd
            rcases (show e = 6 \/ e = 7 by omega) with rfl | rfl
            · rw [jx, if_neg (by decide), if_neg (by decide)] at hgo
              by_cases hbad : d = false /\ (src[p].toNat < 97 \/ 102 < src[p].toNat)
              · obtain ⟨rfl, hy⟩ := hbad
                rw [if_pos (by rw [hexw, decide_eq_false (by omega)]; rfl)] at hgo
                have HR := jJ0 (show R = .error p by rw [Hres.out, hgo])
                have Hkp := jJ0 hSt.kp
                clear hSt hgo Hres hexw
                by_cases y97 : src[p].toNat < 97
                · have d3 : (src[p].toNat : Int) < 97 := by omega
                  clear hy
                  go_wp2
                  go_quiet (fail)
                  go_wp2
                  go_quiet (fail)
                  go_wp2_with (go_at_call 158; refine (Hd.out _).mono ?_; rintro e w1 ⟨rfl, rfl⟩)
                  refine ⟨rfl, ?_⟩
                  rw [HR.out]
                  exact ⟨rfl, ⟨Hkp.out.os, Hkp.out.tape, Hkp.out.output, Hkp.out.size, Hkp.out.block⟩⟩
                · have d3 : ¬ (src[p].toNat : Int) < 97 := by omega
                  have d4 : (102 : Int) < (src[p].toNat : Int) := by omega
                  clear hy
                  go_wp2
                  go_quiet (fail)
                  go_wp2
                  go_quiet (fail)
                  go_wp2_with (go_at_call 158; refine (Hd.out _).mono ?_; rintro e w1 ⟨rfl, rfl⟩)
                  refine ⟨rfl, ?_⟩
                  rw [HR.out]
                  exact ⟨rfl, ⟨Hkp.out.os, Hkp.out.tape, Hkp.out.output, Hkp.out.size, Hkp.out.block⟩⟩
              · rw [if_neg (by
                  rw [hexw]
                  cases d
                  · have : 97 <= src[p].toNat /\ src[p].toNat <= 102 := by
                      rcases Nat.lt_or_ge src[p].toNat 97 with h1 | h1
                      · exact absurd ⟨rfl, .inl h1⟩ hbad
                      · rcases Nat.lt_or_ge 102 src[p].toNat with h2 | h2
                        · exact absurd ⟨rfl, .inr h2⟩ hbad
                        · exact ⟨h1, h2⟩
                    rw [decide_eq_true this]; decide
                  · simp)] at hgo
                have Hs := jJ0 (fun W (hO : Old wr W) => by
                  obtain ⟨m1, k1⟩ := (hSt.mac.old hO).setFin 7
                  exact hSt.next hlt (e' := 7) (by omega) hgo (hO.mx.trans k1 (fun _ _ h => h)) m1)
                cases d
                · have d3 : ¬ (src[p].toNat : Int) < 97 := fun h => hbad ⟨rfl, .inl (by omega)⟩
                  have d4 : ¬ (102 : Int) < (src[p].toNat : Int) := fun h => hbad ⟨rfl, .inr (by omega)⟩
                  clear hSt hgo Hres hexw hbad
                  go_wp2
                  go_quiet (fail)
                  go_wp2
                  go_quiet (fail)
                  go_wp2_with (go_at_call 158; refine (Hd.out _).mono ?_; rintro e w1 ⟨rfl, rfl⟩)
                  exact Hs.out _ (by first | exact (Kp.refl _ _).drewN _ | exact ((Kp.refl _ _).drewN _).drewN _)
                · clear hSt hgo Hres hexw hbad
                  go_wp2
                  go_quiet (fail)
                  go_wp2
                  go_quiet (fail)
                  go_wp2_with (go_at_call 158; refine (Hd.out _).mono ?_; rintro e w1 ⟨rfl, rfl⟩)
                  exact Hs.out _ (by first | exact (Kp.refl _ _).drewN _ | exact ((Kp.refl _ _).drewN _).drewN _)
            · rw [jx, if_neg (by decide), if_neg (by decide)] at hgo
              by_cases hbad : d = false /\ (src[p].toNat < 97 \/ 102 < src[p].toNat)
              · obtain ⟨rfl, hy⟩ := hbad
                rw [if_pos (by rw [hexw, decide_eq_false (by omega)]; rfl)] at hgo
                have HR := jJ0 (show R = .error p by rw [Hres.out, hgo])
                have Hkp := jJ0 hSt.kp
                clear hSt hgo Hres hexw
                by_cases y97 : src[p].toNat < 97
                · have d3 : (src[p].toNat : Int) < 97 := by omega
                  clear hy
                  go_wp2
                  go_quiet (fail)
                  go_wp2
                  go_quiet (fail)
                  go_wp2_with (go_at_call 158; refine (Hd.out _).mono ?_; rintro e w1 ⟨rfl, rfl⟩)
                  refine ⟨rfl, ?_⟩
                  rw [HR.out]
                  exact ⟨rfl, ⟨Hkp.out.os, Hkp.out.tape, Hkp.out.output, Hkp.out.size, Hkp.out.block⟩⟩
                · have d3 : ¬ (src[p].toNat : Int) < 97 := by omega
                  have d4 : (102 : Int) < (src[p].toNat : Int) := by omega
                  clear hy
                  go_wp2
                  go_quiet (fail)
                  go_wp2
                  go_quiet (fail)
                  go_wp2_with (go_at_call 158; refine (Hd.out _).mono ?_; rintro e w1 ⟨rfl, rfl⟩)
                  refine ⟨rfl, ?_⟩
                  rw [HR.out]
                  exact ⟨rfl, ⟨Hkp.out.os, Hkp.out.tape, Hkp.out.output, Hkp.out.size, Hkp.out.block⟩⟩
              · rw [if_neg (by
                  rw [hexw]
                  cases d
                  · have : 97 <= src[p].toNat /\ src[p].toNat <= 102 := by
                      rcases Nat.lt_or_ge src[p].toNat 97 with h1 | h1
                      · exact absurd ⟨rfl, .inl h1⟩ hbad
                      · rcases Nat.lt_or_ge 102 src[p].toNat with h2 | h2
                        · exact absurd ⟨rfl, .inr h2⟩ hbad
                        · exact ⟨h1, h2⟩
                    rw [decide_eq_true this]; decide
                  · simp)] at hgo
                have Hs := jJ0 (fun W (hO : Old wr W) => by
                  obtain ⟨m1, k1⟩ := (hSt.mac.old hO).setFin 8
                  obtain ⟨m2, k2⟩ := m1.setFin 4
                  exact hSt.next hlt (e' := 4) (by omega) hgo ((hO.mx.trans k1 (fun _ _ h => h)).trans k2 (fun _ _ h => h)) m2)
                cases d
                · have d3 : ¬ (src[p].toNat : Int) < 97 := fun h => hbad ⟨rfl, .inl (by omega)⟩
                  have d4 : ¬ (102 : Int) < (src[p].toNat : Int) := fun h => hbad ⟨rfl, .inr (by omega)⟩
                  clear hSt hgo Hres hexw hbad
                  go_wp2
                  go_quiet (fail)
                  go_wp2
                  go_quiet (fail)
                  go_wp2_with (go_at_call 158; refine (Hd.out _).mono ?_; rintro e w1 ⟨rfl, rfl⟩)
                  exact Hs.out _ (by first | exact (Kp.refl _ _).drewN _ | exact ((Kp.refl _ _).drewN _).drewN _)
                · clear hSt hgo Hres hexw hbad
                  go_wp2
                  go_quiet (fail)
                  go_wp2
                  go_quiet (fail)
                  go_wp2_with (go_at_call 158; refine (Hd.out _).mono ?_; rintro e w1 ⟨rfl, rfl⟩)
                  exact Hs.out _ (by first | exact (Kp.refl _ _).drewN _ | exact ((Kp.refl _ _).drewN _).drewN _)
      · have hp : p = src.size := by have := hSt.le; omega
        subst hp
        have hgo := hSt.go
        rw [List.drop_of_length_le (by rw [jA]; exact Nat.le_refl _)] at hgo
        have HR := jJ0 (show R = .ok { m with from_ := m.at_, at_ := src.size, fin := e } by rw [Hres.out, hgo]; rfl)
        have Hs := jJ0 (fun W (hO : Old wr W) => (⟨r', A, c, hSt.mac.old hO, hSt.kp.old hO, hSt.fr⟩ : MStep w g r W src { m with from_ := m.at_, at_ := src.size, fin := e }))
        have a1 : ¬ (src.size : Int) < (src.size : Int) := by omega
        clear hSt hgo Hres hlt he
        go_wp2
        go_quiet (fail)
        go_wp2
        go_end0
        rw [HR.out]
        exact ⟨rfl, Hs.out _ (by first | exact (Kp.refl _ _).drewN _ | exact ((Kp.refl _ _).drewN _).drewN _)⟩
end Go.Proofs.YtmmjcbbogokmfaaGreatDoor
