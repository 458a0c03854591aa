import Derived.Test.YtnaolhjbapgjgaaGreatMg08
set_option maxRecDepth 100000
set_option maxHeartbeats 3200000
namespace Go.Proofs.YtnaolhjbapgjgaaGreat
open Go.RowKit
attribute [local go_sem ↓] Go.wp_at_zero Go.wp_at_succ
theorem Tryz.elemBytes : Tryz.prog.underlying 22 = some (.slice (Tryz.prog.elem 22)) := by kernel_rfl
theorem Tryz.sizeBytes (w : World) : (sizeOf (Tryz.prog.elem 22)).run Tryz.prog w = .ok 1 w := by kernel_rfl
def tkN (bs : List UInt8) (k : Nat) (s : Rs) : Nat × Rs :=
  if s.why ≠ 0 then (0, s) else if s.at_ + k <= bs.length then (ofBe ((bs.drop s.at_).take k), ⟨s.at_ + k, 0⟩) else (0, ⟨s.at_, 8⟩)
theorem jQ (w : World) (g : Nat) (bs : List UInt8) (s : Rs) (h : Rr w g bs s) :
    Calls Tryz.prog 40 #[.pointer (some ⟨g, 0, none⟩)] w fun e w' => e = .returned (.int .u8 (tkN bs 1 s).1) /\ Rr w' g bs (tkN bs 1 s).2 /\ Kp (RX g) w w' := by
  obtain ⟨p, y⟩ := s
  have c1 := h.atc
  have c2 := h.why
  have z1 := h.zer 1
  have hfit := h.fits
  simp only at c1 c2 hfit
  by_cases hy : y = 0
  · subst hy
    by_cases hk : p + 1 <= bs.length
    · have e : tkN bs 1 ⟨p, 0⟩ = (ofBe ((bs.drop p).take 1), ⟨p + 1, 0⟩) := by simp [tkN, hk]
      rw [e]
      clear e
      have H := jJ0 (h.setAt (p + 1) hk)
      go_enter Tryz.func40, Tryz.ntmps40
      go_wp2_with fail
      refine (ahead8_yes w g bs ⟨p, 0⟩ p h hk).mono ?_
      rintro e w' ⟨rfl, rfl⟩
      go_wp2
      go_ret
      exact ⟨rfl, H.out, (Kp.refl (RX g) _).setCell (p := ⟨g, 1, none⟩) (fun _ => rfl) _⟩
    · have e : tkN bs 1 ⟨p, 0⟩ = (0, ⟨p, 8⟩) := by simp [tkN, hk]
      rw [e]
      clear e
      go_enter Tryz.func40, Tryz.ntmps40
      go_wp2_with fail
      refine (ahead8_no w g bs ⟨p, 0⟩ p h hfit.1 (by omega)).mono ?_
      rintro e w' ⟨rfl, rfl⟩
      go_wp2_with fail
      refine (jp w g bs ⟨p, 0⟩ 8 h rfl).mono ?_
      rintro e w1 ⟨rfl, hr, hk1⟩
      go_wp2
      go_ret
      exact ⟨rfl, hr, hk1⟩
  · have e : tkN bs 1 ⟨p, y⟩ = (0, ⟨p, y⟩) := by simp [tkN, hy]
    rw [e]
    clear e
    have hy' : (y != 0) = true := by simpa using hy
    go_enter Tryz.func40, Tryz.ntmps40
    go_wp2
    go_ret
    exact ⟨rfl, h, Kp.refl _ _⟩
theorem take16_any (w : World) (g : Nat) (bs : List UInt8) (s : Rs) (h : Rr w g bs s) :
    Calls Tryz.prog 45 #[.pointer (some ⟨g, 0, none⟩)] w fun e w' => e = .returned (.int .u16 (tkN bs 2 s).1) /\ Rr w' g bs (tkN bs 2 s).2 /\ Kp (RX g) w w' := by
  obtain ⟨p, y⟩ := s
  have c1 := h.atc
  have c2 := h.why
  have z1 := h.zer 1
  have hfit := h.fits
  simp only at c1 c2 hfit
  by_cases hy : y = 0
  · subst hy
    by_cases hk : p + 2 <= bs.length
    · have e : tkN bs 2 ⟨p, 0⟩ = (ofBe ((bs.drop p).take 2), ⟨p + 2, 0⟩) := by simp [tkN, hk]
      rw [e]
      clear e
      have H := jJ0 (h.setAt (p + 2) hk)
      go_enter Tryz.func45, Tryz.ntmps45
      go_wp2_with fail
      refine (ahead16_yes w g bs ⟨p, 0⟩ p h hk).mono ?_
      rintro e w' ⟨rfl, rfl⟩
      go_wp2
      go_ret
      exact ⟨rfl, H.out, (Kp.refl (RX g) _).setCell (p := ⟨g, 1, none⟩) (fun _ => rfl) _⟩
    · have e : tkN bs 2 ⟨p, 0⟩ = (0, ⟨p, 8⟩) := by simp [tkN, hk]
      rw [e]
      clear e
      go_enter Tryz.func45, Tryz.ntmps45
      go_wp2_with fail
      refine (ahead16_no w g bs ⟨p, 0⟩ p h hfit.1 (by omega)).mono ?_
      rintro e w' ⟨rfl, rfl⟩
      go_wp2_with fail
      refine (jp w g bs ⟨p, 0⟩ 8 h rfl).mono ?_
      rintro e w1 ⟨rfl, hr, hk1⟩
      go_wp2
      go_ret
      exact ⟨rfl, hr, hk1⟩
  · have e : tkN bs 2 ⟨p, y⟩ = (0, ⟨p, y⟩) := by simp [tkN, hy]
    rw [e]
    clear e
    have hy' : (y != 0) = true := by simpa using hy
    go_enter Tryz.func45, Tryz.ntmps45
    go_wp2
    go_ret
    exact ⟨rfl, h, Kp.refl _ _⟩
theorem take32_any (w : World) (g : Nat) (bs : List UInt8) (s : Rs) (h : Rr w g bs s) :
    Calls Tryz.prog 48 #[.pointer (some ⟨g, 0, none⟩)] w fun e w' => e = .returned (.int .u32 (tkN bs 4 s).1) /\ Rr w' g bs (tkN bs 4 s).2 /\ Kp (RX g) w w' := by
  obtain ⟨p, y⟩ := s
  have c1 := h.atc
  have c2 := h.why
  have z1 := h.zer 1
  have hfit := h.fits
  simp only at c1 c2 hfit
  by_cases hy : y = 0
  · subst hy
    by_cases hk : p + 4 <= bs.length
    · have e : tkN bs 4 ⟨p, 0⟩ = (ofBe ((bs.drop p).take 4), ⟨p + 4, 0⟩) := by simp [tkN, hk]
      rw [e]
      clear e
      have H := jJ0 (h.setAt (p + 4) hk)
      go_enter Tryz.func48, Tryz.ntmps48
      go_wp2_with fail
      refine (ahead32_yes w g bs ⟨p, 0⟩ p h hk).mono ?_
      rintro e w' ⟨rfl, rfl⟩
      go_wp2
      go_ret
      exact ⟨rfl, H.out, (Kp.refl (RX g) _).setCell (p := ⟨g, 1, none⟩) (fun _ => rfl) _⟩
    · have e : tkN bs 4 ⟨p, 0⟩ = (0, ⟨p, 8⟩) := by simp [tkN, hk]
      rw [e]
      clear e
      go_enter Tryz.func48, Tryz.ntmps48
      go_wp2_with fail
      refine (ahead32_no w g bs ⟨p, 0⟩ p h hfit.1 (by omega)).mono ?_
      rintro e w' ⟨rfl, rfl⟩
      go_wp2_with fail
      refine (jp w g bs ⟨p, 0⟩ 8 h rfl).mono ?_
      rintro e w1 ⟨rfl, hr, hk1⟩
      go_wp2
      go_ret
      exact ⟨rfl, hr, hk1⟩
  · have e : tkN bs 4 ⟨p, y⟩ = (0, ⟨p, y⟩) := by simp [tkN, hy]
    rw [e]
    clear e
    have hy' : (y != 0) = true := by simpa using hy
    go_enter Tryz.func48, Tryz.ntmps48
    go_wp2
    go_ret
    exact ⟨rfl, h, Kp.refl _ _⟩
theorem vd (w : World) (g : Nat) (bs : List UInt8) (s : Rs) (h : Rr w g bs s) :
    Calls Tryz.prog 86 #[.pointer (some ⟨g, 0, none⟩)] w fun e w' => e = .returned (.int .u64 (tkN bs 8 s).1) /\ Rr w' g bs (tkN bs 8 s).2 /\ Kp (RX g) w w' := by
  obtain ⟨p, y⟩ := s
  have c1 := h.atc
  have c2 := h.why
  have z1 := h.zer 1
  have hfit := h.fits
  simp only at c1 c2 hfit
  by_cases hy : y = 0
  · subst hy
    by_cases hk : p + 8 <= bs.length
    · have e : tkN bs 8 ⟨p, 0⟩ = (ofBe ((bs.drop p).take 8), ⟨p + 8, 0⟩) := by simp [tkN, hk]
      rw [e]
      clear e
      have H := jJ0 (h.setAt (p + 8) hk)
      go_enter Tryz.func86, Tryz.ntmps86
      go_wp2_with fail
      refine (ahead64_yes w g bs ⟨p, 0⟩ p h hk).mono ?_
      rintro e w' ⟨rfl, rfl⟩
      go_wp2
      go_ret
      exact ⟨rfl, H.out, (Kp.refl (RX g) _).setCell (p := ⟨g, 1, none⟩) (fun _ => rfl) _⟩
    · have e : tkN bs 8 ⟨p, 0⟩ = (0, ⟨p, 8⟩) := by simp [tkN, hk]
      rw [e]
      clear e
      go_enter Tryz.func86, Tryz.ntmps86
      go_wp2_with fail
      refine (ahead64_no w g bs ⟨p, 0⟩ p h hfit.1 (by omega)).mono ?_
      rintro e w' ⟨rfl, rfl⟩
      go_wp2_with fail
      refine (jp w g bs ⟨p, 0⟩ 8 h rfl).mono ?_
      rintro e w1 ⟨rfl, hr, hk1⟩
      go_wp2
      go_ret
      exact ⟨rfl, hr, hk1⟩
  · have e : tkN bs 8 ⟨p, y⟩ = (0, ⟨p, y⟩) := by simp [tkN, hy]
    rw [e]
    clear e
    have hy' : (y != 0) = true := by simpa using hy
    go_enter Tryz.func86, Tryz.ntmps86
    go_wp2
    go_ret
    exact ⟨rfl, h, Kp.refl _ _⟩
theorem jR (w : World) (g : Nat) (bs : List UInt8) (s : Rs) (h : Rr w g bs s) :
    Calls Tryz.prog 46 #[.pointer (some ⟨g, 0, none⟩)] w fun e w' => e = .returned (.int .i64 s.why) /\ w = w' := by
  have c2 := h.why
  go_enter Tryz.func46, Tryz.ntmps46
  go_wp2
  go_ret
  exact ⟨rfl, rfl⟩
theorem yE (w : World) (g : Nat) (bs : List UInt8) (s : Rs) (h : Rr w g bs s) :
    Calls Tryz.prog 87 #[.pointer (some ⟨g, 0, none⟩)] w fun e w' => e = .returned (.int .i64 ((bs.length - s.at_ : Nat) : Int)) /\ ∃ n, w' = w.drewN n := by
  obtain ⟨A, c, hb, hr, ha, hc, hs, hl⟩ := h
  have c0 := hb.at_ 0 rfl
  have c1 := hb.at_ 1 rfl
  obtain ⟨p, y⟩ := s
  simp only at *
  go_enter Tryz.func87, Tryz.ntmps87
  go_wp2
  go_quiet (fail)
  go_wp2
  go_ret
  exact ⟨kR (vW (by first | omega | (rw [IntWalk.i64_in _ (by omega)]; omega))), _, rfl⟩
def jo (bs : List UInt8) (s : Rs) : Int := if s.why = 0 /\ s.at_ < bs.length then 8 else s.why
theorem jw (w : World) (g : Nat) (bs : List UInt8) (s : Rs) (h : Rr w g bs s) :
    Calls Tryz.prog 44 #[.pointer (some ⟨g, 0, none⟩)] w fun e w' => e = .returned (.int .i64 (jo bs s)) /\ Old w w' := by
  obtain ⟨p, y⟩ := s
  have c2 := h.why
  simp only at c2
  by_cases hy : y = 0
  · subst hy
    by_cases hp : p < bs.length
    · have Hp := jJ0 hp
      have hd : 0 < bs.length - p := by omega
      clear hp
      go_enter Tryz.func44, Tryz.ntmps44
      go_wp2_with fail
      refine (yE w g bs ⟨p, 0⟩ h).mono ?_
      rintro e w1 ⟨rfl, n, rfl⟩
      go_wp2
      go_ret
      exact ⟨kR (vW (by rw [jo, if_pos ⟨rfl, Hp.out⟩])), (Kp.refl _ _).drewN _⟩
    · have Hp := jJ0 hp
      have hd : ¬ 0 < bs.length - p := by omega
      clear hp
      go_enter Tryz.func44, Tryz.ntmps44
      go_wp2_with fail
      refine (yE w g bs ⟨p, 0⟩ h).mono ?_
      rintro e w1 ⟨rfl, n, rfl⟩
      go_wp2
      go_ret
      exact ⟨kR (vW (by rw [jo, if_neg (fun hh => Hp.out hh.2)])), (Kp.refl _ _).drewN _⟩
  · have hy' : (y == 0) = false := beq_eq_false_iff_ne.2 hy
    have Hy := jJ0 hy
    clear hy
    go_enter Tryz.func44, Tryz.ntmps44
    go_wp2
    go_ret
    exact ⟨kR (vW (by rw [jo, if_neg (fun hh => Hy.out hh.1)])), Kp.refl _ _⟩
def rawN (bs : List UInt8) (n : Int) (s : Rs) : List UInt8 × Rs :=
  if s.why ≠ 0 then ([], s) else if n < 0 \/ ((bs.length - s.at_ : Nat) : Int) < n then ([], ⟨s.at_, 8⟩) else ((bs.drop s.at_).take n.toNat, ⟨s.at_ + n.toNat, 0⟩)
def TookB (w : World) (g : Nat) (bs : List UInt8) (l : List UInt8) (s : Rs) (e : Ending) (w' : World) : Prop :=
  ∃ A c, e = .returned (.slice A l.length c) /\ Rd w' 1 A l.length (l.map bv) /\ Av (fun k => k < w.heap.size) l.length A /\ l.length <= c /\ Rr w' g bs s /\ Kp (RX g) w w'
theorem TookB.none_ {w w' : World} {g : Nat} {bs : List UInt8} {s : Rs} (h : Rr w' g bs s) (hk : Kp (RX g) w w') : TookB w g bs [] s (.returned (.slice none 0 0)) w' :=
  ⟨none, 0, rfl, Rd.none_, fun h => absurd h (by simp), Nat.le_refl _, h, hk⟩
theorem raw_no (w : World) (g : Nat) (bs : List UInt8) (n : Int) (s : Rs) (h : Rr w g bs s) (hn : s.why = 0 -> n < 0 \/ ((bs.length - s.at_ : Nat) : Int) < n) (hi : n <= 9223372036854775807) :
    Calls Tryz.prog 90 #[.pointer (some ⟨g, 0, none⟩), .int .i64 n] w (TookB w g bs (rawN bs n s).1 (rawN bs n s).2) := by
  obtain ⟨p, y⟩ := s
  have h' := h
  obtain ⟨A, c, hb, hr, ha, hc, hs, hl⟩ := h
  have c0 := hb.at_ 0 rfl
  have c1 := hb.at_ 1 rfl
  have c2 := hb.at_ 2 rfl
  simp only at *
  by_cases hy : y = 0
  · subst hy
    have hn := hn rfl
    rw [show rawN bs n ⟨p, 0⟩ = ([], ⟨p, 8⟩) by simp only [rawN]; rw [if_neg (by simp), if_pos hn]]
    rcases Int.lt_or_le n 0 with h0 | h0
    · have hd : decide (n < 0) = true := by simpa using h0
      clear hn
      go_enter Tryz.func90, Tryz.ntmps90
      go_wp2
      go_quiet (fail)
      go_wp2_with fail
      refine (jp _ g bs ⟨p, 0⟩ 8 (h'.old ((Kp.refl _ _).drewN _)) rfl).mono ?_
      rintro e w1 ⟨rfl, hr1, hk1⟩
      go_wp2
      go_ret
      exact TookB.none_ hr1 (Kp.trans (((Kp.refl (RX g) w)).drewN _) hk1 (fun _ _ h => h))
    · have hd : decide (n < 0) = false := by simpa using h0
      have hn2 : (bs.length : Int) - (p : Int) < n := by omega
      clear hn
      go_enter Tryz.func90, Tryz.ntmps90
      go_wp2
      have e1 : IntKind.i64.wrap ((bs.length : Int) - (p : Int)) = (bs.length : Int) - (p : Int) := IntWalk.i64_in _ (by omega)
      go_quiet (fail)
      clear e1
      go_wp2_with fail
      refine (jp _ g bs ⟨p, 0⟩ 8 (h'.old ((Kp.refl _ _).drewN _)) rfl).mono ?_
      rintro e w1 ⟨rfl, hr1, hk1⟩
      go_wp2
      go_ret
      exact TookB.none_ hr1 (Kp.trans (((Kp.refl (RX g) w)).drewN _) hk1 (fun _ _ h => h))
  · rw [show rawN bs n ⟨p, y⟩ = ([], ⟨p, y⟩) by simp [rawN, hy]]
    have hy' : (y != 0) = true := by simpa using hy
    clear hn
    go_enter Tryz.func90, Tryz.ntmps90
    go_wp2
    go_ret
    exact TookB.none_ h' (Kp.refl _ _)
theorem raw_yes (w : World) (g : Nat) (bs : List UInt8) (n p : Nat) (h : Rr w g bs ⟨p, 0⟩) (hn : p + n <= bs.length) :
    Calls Tryz.prog 90 #[.pointer (some ⟨g, 0, none⟩), .int .i64 n] w (TookB w g bs ((bs.drop p).take n) ⟨p + n, 0⟩) := by
  have h' := h
  obtain ⟨A, c, hb, hr, ha, hc, hs, hl⟩ := h
  have c0 := hb.at_ 0 rfl
  have c1 := hb.at_ 1 rfl
  have c2 := hb.at_ 2 rfl
  have z1 := hb.frozen 1
  simp only at *
  obtain ⟨i0, hi, hz0, hz1, hz2⟩ := info_parts Tryz.infoByte
  have hd : decide ((n : Int) < 0) = false := by simp
  have hn2 : ¬ (bs.length : Int) - (p : Int) < n := by omega
  have hsl : ((bs.drop p).take n).length = n := by rw [List.length_take, List.length_drop]; omega
  have H63 := jJ0 (show 0 + n <= maxLen by unfold maxLen; omega)
  have H47 := jJ0 (show (0 + n) * 1 <= 140737488355328 by omega)
  have Hsl := jJ0 hsl
  clear hsl
  clear ha hr
  go_enter Tryz.func90, Tryz.ntmps90
  go_wp2
  have e1 : IntKind.i64.wrap ((bs.length : Int) - (p : Int)) = (bs.length : Int) - (p : Int) := IntWalk.i64_in _ (by omega)
  go_quiet (fail)
  clear e1
  go_wp2
  have hW1 : Rr ((w.drewN nq).setCell ⟨g, 1, none⟩ (.int .i64 ((p : Int) + (n : Int)))) g bs ⟨p + n, 0⟩ := by
    have := (h'.old ((Kp.refl _ _).drewN nq)).setAt (p + n) hn
    rwa [Int.natCast_add] at this
  have hk1 : Kp (RX g) w ((w.drewN nq).setCell ⟨g, 1, none⟩ (.int .i64 ((p : Int) + (n : Int)))) := ((Kp.refl (RX g) w).drewN nq).setCell (p := ⟨g, 1, none⟩) (fun _ => rfl) _
  clear c0 c1 c2 z1
  generalize (w.drewN nq).setCell ⟨g, 1, none⟩ (.int .i64 ((p : Int) + (n : Int))) = W1 at hW1 hk1 ⊢
  have hW1' := hW1
  obtain ⟨A1, c1, hb1, hr1, _, hc1, _, _⟩ := hW1
  have d0 := hb1.at_ 0 rfl
  have d1 := hb1.at_ 1 rfl
  simp only [Int.natCast_add] at d1
  have hcut := (hr1.cut (k := p) (cap := c1) (by omega) hc1).take_ (k := n) (by omega)
  rw [Nat.mul_one, Nat.mul_one, <- List.map_drop, <- List.map_take] at hcut
  have b1 : (0 : Int) <= (p : Int) := by omega
  have b2 : (p : Int) <= (p : Int) + (n : Int) := by omega
  have b3 : (p : Int) + (n : Int) <= (c1 : Int) := by omega
  have e1 : IntKind.i64.wrap (p : Int) = (p : Int) := IntWalk.i64_in _ (by omega)
  have hsl := fun W => cut_lh (P := Tryz.prog) Tryz.elemBytes Tryz.sizeBytes A1 bs.length c1 p (p + n) .i64 .i64 (p : Int) ((p : Int) + (n : Int)) rfl (by omega) (by omega) (by omega) W
  rw [Nat.add_sub_cancel_left, Nat.mul_one] at hsl
  generalize (if c1 = p then A1 else A1.map (·.add p)) = AA at hcut hsl
  go_region_held3 (fun w' => w'.cell? ⟨g, 0, none⟩ = some (.slice A1 bs.length c1) /\ w'.cell? ⟨g, 1, none⟩ = some (.int .i64 ((p : Int) + (n : Int)))) (first | go_keep | exact ⟨hgrow.cell d0 (by simp [Value.ownBlock]), hgrow.cell d1 (by simp [Value.ownBlock])⟩)
    ((refine jZ _ rfl (.const (.slice none 0 0)) (.tmp 50) 22 rfl w.heap.size 5 i0 (.int .u8 0) 1 1 Tryz.underlying22 hi hz0 hz1 hz2 rfl (by decide) (.slice none 0 0) 0 [] rfl (World.ownsRow_nil _ _ _ _) AA n _ _ rfl hcut (jr _) H63.out H47.out hk1.size ?_; intro A' c' w2 hown hgrow hat))
  rw [Nat.zero_add, List.nil_append] at hown
  have hk2 : Kp (RX g) w w2 := Kp.grown (hk1.drew) hgrow (fun k e => by simp [Value.ownBlock] at e)
  have hR2 : Rr w2 g bs ⟨p + n, 0⟩ := (hW1'.old ((Kp.refl NoX _).drew)).old ((Kp.refl NoX _).grown hgrow (fun k e => by simp [Value.ownBlock] at e))
  have Hfin := jJ0 (show TookB w g bs ((bs.drop p).take n) ⟨p + n, 0⟩ (.returned (.slice A' n c')) w2 from ⟨A', c', by rw [Hsl.out], by rw [Hsl.out]; exact Rd.of_own hown, by
      intro hn ad e hlt
      have := hown.lt ad.block (by rw [jH, e]; rfl)
      omega, by
      rw [Hsl.out]
      rcases hown.2 with ⟨e, h0⟩ | ⟨g, cap, cur, e, _, _, hnc, _⟩
      · omega
      · injection e with e1 e2 e3; omega, hR2, hk2⟩)
  clear hown hgrow hat hk2 hR2 hsl hcut
  go_wp2
  go_ret
  exact Hfin.out
theorem ko (w : World) (g : Nat) (bs : List UInt8) (n : Int) (s : Rs) (h : Rr w g bs s) (hi : n <= 9223372036854775807) :
    Calls Tryz.prog 90 #[.pointer (some ⟨g, 0, none⟩), .int .i64 n] w (TookB w g bs (rawN bs n s).1 (rawN bs n s).2) := by
  by_cases hn : s.why = 0 -> n < 0 \/ ((bs.length - s.at_ : Nat) : Int) < n
  · exact raw_no w g bs n s h hn hi
  · obtain ⟨p, y⟩ := s
    have hfit := h.fits
    simp only at hn hfit
    have hy : y = 0 := by
      by_cases e : y = 0
      · exact e
      · exact absurd (fun e' => absurd e' e) hn
    subst hy
    have hn' : ¬ (n < 0 \/ ((bs.length - p : Nat) : Int) < n) := fun e => hn (fun _ => e)
    obtain ⟨m, rfl⟩ := Int.eq_ofNat_of_zero_le (show 0 <= n by omega)
    have e : rawN bs (m : Int) ⟨p, 0⟩ = ((bs.drop p).take m, ⟨p + m, 0⟩) := by
      simp only [rawN]
      rw [if_neg (by simp), if_neg hn', Int.toNat_natCast]
    rw [e]
    exact raw_yes w g bs m p h (by omega)
def jf (bs : List UInt8) (most : Int) (s : Rs) : List UInt8 × Rs :=
  if s.why ≠ 0 then ([], s)
  else if bs.length < s.at_ + 4 then ([], ⟨s.at_, 8⟩)
  else if min most 2147483647 < (ofBe ((bs.drop s.at_).take 4) : Int) then ([], ⟨s.at_, 6⟩)
  else if bs.length < s.at_ + 4 + ofBe ((bs.drop s.at_).take 4) then ([], ⟨s.at_, 8⟩)
  else ((bs.drop (s.at_ + 4)).take (ofBe ((bs.drop s.at_).take 4)), ⟨s.at_ + 4 + ofBe ((bs.drop s.at_).take 4), 0⟩)
theorem TookB.mono {w w1 w' : World} {g : Nat} {bs l : List UInt8} {s : Rs} {e : Ending} (hk : Kp (RX g) w w1) (h : TookB w1 g bs l s e w') : TookB w g bs l s e w' := by
  obtain ⟨A, c, he, hr, ha, hc, hR, hk2⟩ := h
  exact ⟨A, c, he, hr, fun hn ad ea hlt => ha hn ad ea (Nat.lt_of_lt_of_le hlt hk.size), hc, hR, hk.trans hk2 (fun _ _ h => h)⟩
theorem TookB.form {w w' : World} {g : Nat} {bs l : List UInt8} {s : Rs} {e : Ending} (h : TookB w g bs l s e w') : ∃ A n c, e = .returned (.slice A n c) /\ Hid (TookB w g bs l s (.returned (.slice A n c)) w') := by
  obtain ⟨A, c, he, rest⟩ := h
  exact ⟨A, l.length, c, he, ⟨A, c, rfl, rest⟩⟩
theorem rbytes_any (w : World) (g : Nat) (bs : List UInt8) (most : Int) (s : Rs) (h : Rr w g bs s) (hm : 0 <= most) :
    Calls Tryz.prog 84 #[.pointer (some ⟨g, 0, none⟩), .int .i64 most] w (TookB w g bs (jf bs most s).1 (jf bs most s).2) := by
  obtain ⟨p, y⟩ := s
  have h' := h
  have hfit := h.fits
  obtain ⟨A, c, hb, hr, ha, hc, hs, hl⟩ := h
  have c0 := hb.at_ 0 rfl
  have c1 := hb.at_ 1 rfl
  have c2 := hb.at_ 2 rfl
  have z1 := hb.frozen 1
  simp only at *
  clear hr ha
  by_cases hy : y = 0
  case neg =>
    rw [show jf bs most ⟨p, y⟩ = ([], ⟨p, y⟩) by simp [jf, hy]]
    have hy' : (y != 0) = true := by simpa using hy
    go_enter Tryz.func84, Tryz.ntmps84
    go_wp2
    go_ret
    exact TookB.none_ h' (Kp.refl _ _)
  subst hy
  by_cases h4 : bs.length < p + 4
  · rw [show jf bs most ⟨p, 0⟩ = ([], ⟨p, 8⟩) by simp only [jf]; rw [if_neg (by simp), if_pos h4]]
    go_enter Tryz.func84, Tryz.ntmps84
    go_wp2_with fail
    refine (ahead32_no w g bs ⟨p, 0⟩ p h' hs h4).mono ?_
    rintro e w' ⟨rfl, rfl⟩
    go_wp2_with fail
    refine (jp w g bs ⟨p, 0⟩ 8 h' rfl).mono ?_
    rintro e w1 ⟨rfl, hr1, hk1⟩
    go_wp2
    go_ret
    exact TookB.none_ hr1 hk1
  · have hN := jt (bs.drop p) 4
    have HB := jJ0 (show jf bs most ⟨p, 0⟩ = if min most 2147483647 < (ofBe ((bs.drop p).take 4) : Int) then ([], ⟨p, 6⟩) else if bs.length < p + 4 + ofBe ((bs.drop p).take 4) then ([], ⟨p, 8⟩) else ((bs.drop (p + 4)).take (ofBe ((bs.drop p).take 4)), ⟨p + 4 + ofBe ((bs.drop p).take 4), 0⟩) by
      simp only [jf]; rw [if_neg (by simp), if_neg h4])
    generalize jf bs most ⟨p, 0⟩ = BN at HB ⊢
    have Hh := jJ0 (ahead32_yes w g bs ⟨p, 0⟩ p h' (by omega))
    generalize ofBe ((bs.drop p).take 4) = n at HB hN Hh
    have hN' : (n : Int) <= 4294967295 := by omega
    by_cases hmost : min most 2147483647 < (n : Int)
    · rw [if_pos hmost] at HB
      rw [HB.out]
      go_enter Tryz.func84, Tryz.ntmps84
      go_wp2_with fail
      refine Hh.out.mono ?_
      rintro e w' ⟨rfl, rfl⟩
      go_wp2_with fail
      refine (kT _ _ _ hm).mono ?_
      rintro e w' ⟨rfl, rfl⟩
      go_wp2_with fail
      refine (jp w g bs ⟨p, 0⟩ 6 h' rfl).mono ?_
      rintro e w1 ⟨rfl, hr1, hk1⟩
      go_wp2
      go_ret
      exact TookB.none_ hr1 hk1
    · rw [if_neg hmost] at HB
      by_cases hlen : bs.length < p + 4 + n
      · rw [if_pos hlen] at HB
        rw [HB.out]
        have hd : (bs.length : Int) - ((p : Int) + 4) < (n : Int) := by omega
        go_enter Tryz.func84, Tryz.ntmps84
        go_wp2_with fail
        refine Hh.out.mono ?_
        rintro e w' ⟨rfl, rfl⟩
        go_wp2_with fail
        refine (kT _ _ _ hm).mono ?_
        rintro e w' ⟨rfl, rfl⟩
        go_wp2_with fail
        refine (jp w g bs ⟨p, 0⟩ 8 h' rfl).mono ?_
        rintro e w1 ⟨rfl, hr1, hk1⟩
        go_wp2
        go_ret
        exact TookB.none_ hr1 hk1
      · rw [if_neg hlen] at HB
        rw [HB.out]
        have hd : ¬ (bs.length : Int) - ((p : Int) + 4) < (n : Int) := by omega
        go_enter Tryz.func84, Tryz.ntmps84
        go_wp2_with fail
        refine Hh.out.mono ?_
        rintro e w' ⟨rfl, rfl⟩
        go_wp2_with fail
        refine (kT _ _ _ hm).mono ?_
        rintro e w' ⟨rfl, rfl⟩
        go_wp2_with fail
        have hset : Rr (w.setCell ⟨g, 1, none⟩ (.int .i64 ((p : Int) + 4))) g bs ⟨p + 4, 0⟩ := by
          have := h'.setAt (p + 4) (by omega)
          rwa [Int.natCast_add] at this
        refine (raw_yes _ g bs n (p + 4) hset (by omega)).mono ?_
        intro e w1 ht
        have ht' := TookB.mono ((Kp.refl (RX g) w).setCell (p := ⟨g, 1, none⟩) (fun _ => rfl) _) ht
        obtain ⟨A2, ll, c2', rfl, Hfin⟩ := ht'.form
        clear ht ht'
        go_wp2
        go_ret
        exact Hfin.out
def kO (bs : List UInt8) (s : Rs) : Bool × Rs :=
  if s.why ≠ 0 then (false, s) else if bs.length < s.at_ + 1 \/ 1 < ofBe ((bs.drop s.at_).take 1) then (false, ⟨s.at_, 8⟩) else (ofBe ((bs.drop s.at_).take 1) == 1, ⟨s.at_ + 1, 0⟩)
theorem rflag_any (w : World) (g : Nat) (bs : List UInt8) (s : Rs) (h : Rr w g bs s) :
    Calls Tryz.prog 92 #[.pointer (some ⟨g, 0, none⟩)] w fun e w' => e = .returned (.bool (kO bs s).1) /\ Rr w' g bs (kO bs s).2 /\ Kp (RX g) w w' := by
  obtain ⟨p, y⟩ := s
  have hfit := h.fits
  have c1 := h.atc
  have c2 := h.why
  have z1 := h.zer 1
  simp only at *
  by_cases hy : y = 0
  case neg =>
    rw [show kO bs ⟨p, y⟩ = (false, ⟨p, y⟩) by simp [kO, hy]]
    have hy' : (y != 0) = true := by simpa using hy
    go_enter Tryz.func92, Tryz.ntmps92
    go_wp2
    go_ret
    exact ⟨rfl, h, Kp.refl _ _⟩
  subst hy
  by_cases h4 : bs.length < p + 1
  · rw [show kO bs ⟨p, 0⟩ = (false, ⟨p, 8⟩) by simp only [kO]; rw [if_neg (by simp), if_pos (.inl h4)]]
    go_enter Tryz.func92, Tryz.ntmps92
    go_wp2_with fail
    refine (ahead8_no w g bs ⟨p, 0⟩ p h hfit.1 h4).mono ?_
    rintro e w' ⟨rfl, rfl⟩
    go_wp2_with fail
    refine (jp w g bs ⟨p, 0⟩ 8 h rfl).mono ?_
    rintro e w1 ⟨rfl, hr1, hk1⟩
    go_wp2
    go_ret
    exact ⟨rfl, hr1, hk1⟩
  · have HB := jJ0 (show kO bs ⟨p, 0⟩ = if 1 < ofBe ((bs.drop p).take 1) then (false, ⟨p, 8⟩) else (ofBe ((bs.drop p).take 1) == 1, ⟨p + 1, 0⟩) by
      simp only [kO]; rw [if_neg (by simp)]; simp [h4])
    generalize kO bs ⟨p, 0⟩ = BN at HB ⊢
    have Hh := jJ0 (ahead8_yes w g bs ⟨p, 0⟩ p h (by omega))
    generalize ofBe ((bs.drop p).take 1) = n at HB Hh
    by_cases hn : 1 < n
    · rw [if_pos hn] at HB
      rw [HB.out]
      have hn' : (1 : Int) < (n : Int) := by omega
      go_enter Tryz.func92, Tryz.ntmps92
      go_wp2_with fail
      refine Hh.out.mono ?_
      rintro e w' ⟨rfl, rfl⟩
      go_wp2_with fail
      refine (jp w g bs ⟨p, 0⟩ 8 h rfl).mono ?_
      rintro e w1 ⟨rfl, hr1, hk1⟩
      go_wp2
      go_ret
      exact ⟨rfl, hr1, hk1⟩
    · rw [if_neg hn] at HB
      rw [HB.out]
      have hn' : ¬ (1 : Int) < (n : Int) := by omega
      have hset : Rr (w.setCell ⟨g, 1, none⟩ (.int .i64 ((p : Int) + 1))) g bs ⟨p + 1, 0⟩ := by
        have := h.setAt (p + 1) (by omega)
        rwa [Int.natCast_add] at this
      have Hset := jJ0 hset
      have hnn : n = 0 \/ n = 1 := by omega
      clear hset
      rcases hnn with rfl | rfl
      all_goals
        go_enter Tryz.func92, Tryz.ntmps92
        go_wp2_with fail
        refine Hh.out.mono ?_
        rintro e w' ⟨rfl, rfl⟩
        go_wp2
        go_ret
        exact ⟨rfl, Hset.out, (Kp.refl (RX g) w).setCell (p := ⟨g, 1, none⟩) (fun _ => rfl) _⟩
def jd (bs : List UInt8) (most : Int) (p : Nat) : List UInt8 × Nat × Int :=
  if bs.length < p + 2 then ([], p, 8)
  else if min most 65535 < (ofBe ((bs.drop p).take 2) : Int) then ([], p + 2, 6)
  else if bs.length < p + 2 + ofBe ((bs.drop p).take 2) then ([], p + 2, 8)
  else ((bs.drop (p + 2)).take (ofBe ((bs.drop p).take 2)), p + 2 + ofBe ((bs.drop p).take 2), 0)
theorem rtextat_any (w : World) (g : Nat) (bs : List UInt8) (most : Int) (p : Nat) (s : Rs) (h : Rr w g bs s) (hm : 0 <= most) (hp : p <= bs.length) :
    Calls Tryz.prog 173 #[.pointer (some ⟨g, 0, none⟩), .int .i64 p, .int .i64 most] w fun e w' =>
      e = .returned (.tuple #[.string ⟨(jd bs most p).1.toArray⟩, .int .i64 (jd bs most p).2.1, .int .i64 (jd bs most p).2.2]) /\ w = w' := by
  have h' := h
  obtain ⟨A, c, hb, hr, ha, hc, hs, hl⟩ := h
  have c0 := hb.at_ 0 rfl
  clear hs
  by_cases h4 : bs.length < p + 2
  · rw [show jd bs most p = ([], p, 8) by simp only [jd]; rw [if_pos h4]]
    go_enter Tryz.func173, Tryz.ntmps173
    go_wp2_with fail
    refine (ahead16_no w g bs s p h' hp h4).mono ?_
    rintro e w' ⟨rfl, rfl⟩
    go_wp2
    go_ret3
    exact ⟨rfl, rfl⟩
  · have hN := jt (bs.drop p) 2
    have HB := jJ0 (show jd bs most p = if min most 65535 < (ofBe ((bs.drop p).take 2) : Int) then ([], p + 2, 6) else if bs.length < p + 2 + ofBe ((bs.drop p).take 2) then ([], p + 2, 8) else ((bs.drop (p + 2)).take (ofBe ((bs.drop p).take 2)), p + 2 + ofBe ((bs.drop p).take 2), 0) by
      simp only [jd]; rw [if_neg h4])
    generalize jd bs most p = BN at HB ⊢
    have Hh := jJ0 (ahead16_yes w g bs s p h' (by omega))
    generalize ofBe ((bs.drop p).take 2) = n at HB hN Hh
    have hN' : (n : Int) <= 65535 := by omega
    by_cases hmost : min most 65535 < (n : Int)
    · rw [if_pos hmost] at HB
      rw [HB.out]
      go_enter Tryz.func173, Tryz.ntmps173
      go_wp2_with fail
      refine Hh.out.mono ?_
      rintro e w' ⟨rfl, rfl⟩
      go_wp2_with fail
      refine (kT _ _ _ hm).mono ?_
      rintro e w' ⟨rfl, rfl⟩
      go_wp2
      go_ret3
      exact ⟨rfl, rfl⟩
    · rw [if_neg hmost] at HB
      by_cases hlen : bs.length < p + 2 + n
      · rw [if_pos hlen] at HB
        rw [HB.out]
        have hd : (bs.length : Int) - ((p : Int) + 2) < (n : Int) := by omega
        go_enter Tryz.func173, Tryz.ntmps173
        go_wp2_with fail
        refine Hh.out.mono ?_
        rintro e w' ⟨rfl, rfl⟩
        go_wp2_with fail
        refine (kT _ _ _ hm).mono ?_
        rintro e w' ⟨rfl, rfl⟩
        go_wp2
        go_ret3
        exact ⟨rfl, rfl⟩
      · rw [if_neg hlen] at HB
        rw [HB.out]
        have hd : ¬ (bs.length : Int) - ((p : Int) + 2) < (n : Int) := by omega
        have hcut := (hr.cut (k := p + 2) (cap := c) (by omega) hc).take_ (k := n) (by omega)
        rw [Nat.mul_one, Nat.mul_one, <- List.map_drop, <- List.map_take] at hcut
        have hsl := fun W => cut_lh (P := Tryz.prog) Tryz.elemBytes Tryz.sizeBytes A bs.length c (p + 2) (p + 2 + n) .i64 .i64 ((p : Int) + 2) ((p : Int) + 2 + (n : Int)) (by omega) (by omega) (by omega) (by omega) W
        rw [Nat.add_sub_cancel_left, Nat.mul_one] at hsl
        generalize (if c = p + 2 then A else A.map (·.add (p + 2))) = AA at hcut hsl
        have hcv := yL (P := Tryz.prog) w Tryz.underlying22 Tryz.underlying5 Tryz.underlying9 AA n (c - (p + 2)) _ hcut
        go_enter Tryz.func173, Tryz.ntmps173
        go_wp2_with fail
        refine Hh.out.mono ?_
        rintro e w' ⟨rfl, rfl⟩
        go_wp2_with fail
        refine (kT _ _ _ hm).mono ?_
        rintro e w' ⟨rfl, rfl⟩
        go_wp2
        go_ret3
        exact ⟨rfl, rfl⟩
end Go.Proofs.YtnaolhjbapgjgaaGreat
