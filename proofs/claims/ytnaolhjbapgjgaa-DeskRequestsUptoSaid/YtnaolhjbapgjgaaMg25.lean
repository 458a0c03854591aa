import Derived.Test.YtnaolhjbapgjgaaMg07
import Derived.Test.YtnaolhjbapgjgaaMg10
import Derived.Test.YtnaolhjbapgjgaaMg24
/- Contracts of docketref24's reader: next, number, text. -/
namespace Go.Proofs.Ytnaolhjbapgjgaa
open Go.RowKit

/-- The document's reader at block g reads bs; its state. -/
def Lr (w : World) (g : Nat) (bs : List UInt8) (s : Ls) : Prop :=
  ∃ A c, Blk w g 81 #[.slice A (bs.length - s.at_) c, .bool s.short] ∧ Rd w 1 A (bs.length - s.at_) ((bs.drop s.at_).map bv) ∧ Av (fun k => g ≤ k) (bs.length - s.at_) A ∧ bs.length - s.at_ ≤ c ∧ s.at_ ≤ bs.length ∧ bs.length ≤ 10000000000
section
variable {w w1 : World} {g : Nat} {bs : List UInt8} {s : Ls}
theorem Lr.old (h : Lr w g bs s) (ho : Old w w1) : Lr w1 g bs s := by
  obtain ⟨A, c, hb, hr, ha, hc, hs, hl⟩ := h
  exact ⟨A, c, hb.old ho, hr.old ho, ha, hc, hs, hl⟩
theorem Lr.kp {X : Nat → Prop} (h : Lr w g bs s) (hk : Kp X w w1) (hx : ∀ k, k ≤ g → ¬ X k) : Lr w1 g bs s := by
  obtain ⟨A, c, hb, hr, ha, hc, hs, hl⟩ := h
  refine ⟨A, c, hb.kp hk (hx g (Nat.le_refl _)), hr.kp hk (fun hn ad e hX => ?_), ha, hc, hs, hl⟩
  have h1 := ha hn ad e
  exact hx ad.block (by omega) hX
theorem Lr.lt (h : Lr w g bs s) : g < w.heap.size := by
  obtain ⟨A, c, hb, _⟩ := h
  exact hb.lt
theorem Lr.le (h : Lr w g bs s) : s.at_ ≤ bs.length ∧ bs.length ≤ 10000000000 := by
  obtain ⟨A, c, _, _, _, _, h1, h2⟩ := h
  exact ⟨h1, h2⟩
end
/-- bytes of the reader's own memory are told, the reader has gone on -/
def TookL (w : World) (g : Nat) (bs : List UInt8) (x : List UInt8 × Ls) (e : Ending) (w' : World) : Prop :=
  ∃ A c, e = .returned (.slice A x.1.length c) ∧ Rd w' 1 A x.1.length (x.1.map bv) ∧ x.1.length ≤ c ∧ Lr w' g bs x.2 ∧ Kp (RX g) w w'

theorem Lr.mk' {w : World} {g : Nat} {bs : List UInt8} {p len c : Nat} {b : Bool} {A : Option Addr} {l : List UInt8} (hb : Blk w g 81 #[.slice A len c, .bool b]) (hr : Rd w 1 A len (l.map bv)) (ha : Av (fun k => g ≤ k) len A) (hc : len ≤ c) (hp : p ≤ bs.length) (hl : bs.length ≤ 10000000000)
    (e1 : len = bs.length - p) (e2 : l = bs.drop p) : Lr w g bs ⟨p, b⟩ := by
  subst e1 e2
  exact ⟨A, c, hb, hr, ha, hc, hp, hl⟩
set_option maxRecDepth 100000 in
set_option maxHeartbeats 800000 in
theorem next_no (w : World) (g : Nat) (bs : List UInt8) (n : Nat) (s : Ls) (h : Lr w g bs s) (hn : n ≤ 10000000000) (hlt : bs.length < s.at_ + n) :
    Calls Try.prog 61 #[.pointer (some ⟨g, 0, none⟩), .int .i64 (n : Int)] w (TookL w g bs (nextL bs n s)) := by
  have HT := Lib.hid (show nextL bs n s = ([], ⟨s.at_, true⟩) by rw [nextL, if_pos hlt])
  generalize nextL bs n s = T at HT ⊢
  have Hle := Lib.hid h.le
  have hg := h.lt
  obtain ⟨A, c, hb, hr, ha, hc, hs, hl⟩ := h
  have c0 := hb.at_ 0 (v := .slice A (bs.length - s.at_) c) rfl
  have c1 := hb.at_ 1 (v := .bool s.short) rfl
  have z1 := hb.frozen 1
  have h1 : ((bs.length - s.at_ : Nat) : Int) < (n : Int) := by omega
  have h2 : ¬ (n : Int) < 0 := by omega
  have Hb := Lib.hid hb
  have Hr := Lib.hid hr
  have Ha := Lib.hid ha
  have Hc := Lib.hid hc
  clear hb hr ha hc hlt
  generalize hlen : bs.length - s.at_ = len at c0 h1 Hb Hr Ha Hc
  have Hlen := Lib.hid hlen
  clear hlen
  go_enter Try.func61, Try.ntmps61
  go_wp2
  go_ret
  rw [HT.out]
  have hk : Kp (RX g) w (w.setCell ⟨g, 1, none⟩ (.bool true)) := (Kp.refl (RX g) w).setCell (p := ⟨g, 1, none⟩) (fun _ => rfl) _
  refine ⟨none, 0, rfl, Rd.none_, Nat.le_refl _, ?_, hk⟩
  have hb2 := Hb.out.set_ 1 (.bool true)
  exact Lr.mk' (by simpa using hb2) (Hr.out.kp hk (fun hn ad e hx => Ha.out hn ad e (by have : ad.block = g := hx; omega))) Ha.out Hc.out Hle.out.1 Hle.out.2 Hlen.out.symm rfl
set_option maxRecDepth 100000 in
set_option maxHeartbeats 800000 in
theorem next_ok (w : World) (g : Nat) (bs : List UInt8) (n : Nat) (s : Ls) (h : Lr w g bs s) (hlt : ¬ bs.length < s.at_ + n) :
    Calls Try.prog 61 #[.pointer (some ⟨g, 0, none⟩), .int .i64 (n : Int)] w (TookL w g bs (nextL bs n s)) := by
  have HT := Lib.hid (show nextL bs n s = ((bs.drop s.at_).take n, ⟨s.at_ + n, s.short⟩) by rw [nextL, if_neg hlt])
  generalize nextL bs n s = T at HT ⊢
  have Hle := Lib.hid h.le
  have hg := h.lt
  obtain ⟨A, c, hb, hr, ha, hc, hs, hl⟩ := h
  have c0 := hb.at_ 0 (v := .slice A (bs.length - s.at_) c) rfl
  have z0 := hb.frozen 0
  have h1 : ¬ ((bs.length - s.at_ : Nat) : Int) < (n : Int) := by omega
  have h2 : ¬ (n : Int) < 0 := by omega
  have hnl : n ≤ bs.length - s.at_ := by omega
  have Htk := Lib.hid (show ((bs.drop s.at_).take n).length = n by rw [List.length_take, List.length_drop]; omega)
  have Hp2 := Lib.hid (show s.at_ + n ≤ bs.length by omega)
  have Hln2 := Lib.hid (show bs.length - s.at_ - n = bs.length - (s.at_ + n) by omega)
  clear hlt
  generalize bs.length - s.at_ = len at *
  have hs1 := fun W => cut_h (P := Try.prog) Try.elemBytes Try.sizeBytes A len c n .i64 (n : Int) rfl (by omega) W
  have hs2 := fun W => cut_l (P := Try.prog) Try.elemBytes Try.sizeBytes A len c n .i64 (n : Int) rfl hnl W
  rw [Nat.mul_one] at hs2
  have Hc1 := Lib.hid (hr.take_ (k := n) hnl)
  have Hc2 := Lib.hid (hr.cut (k := n) (cap := c) hnl hc)
  have Hav := Lib.hid (show Av (fun k => g ≤ k) (len - n) (if c = n then A else A.map (·.add n)) from fun hn ad e => by
    by_cases hcn : c = n
    · omega
    · rw [if_neg hcn] at e
      cases A with
      | none => cases e
      | some a0 =>
        injection e with e
        subst e
        rw [block_of_add]
        exact ha (by omega) a0 rfl)
  rw [Nat.mul_one, ← List.map_take] at Hc1
  rw [Nat.mul_one, ← List.map_drop] at Hc2
  generalize (if c = n then A else A.map (·.add n)) = AA at hs2 Hc2 Hav
  have Hb := Lib.hid hb
  have Ha := Lib.hid ha
  have Hcc := Lib.hid (show len - n ≤ c - n ∧ n ≤ c by omega)
  clear hb hr ha hc
  go_enter Try.func61, Try.ntmps61
  go_wp2
  go_ret
  rw [HT.out]
  have hk : Kp (RX g) w (w.setCell ⟨g, 0, none⟩ (.slice AA (len - n) (c - n))) := (Kp.refl (RX g) w).setCell (p := ⟨g, 0, none⟩) (fun _ => rfl) _
  have hb2 := Hb.out.set_ 0 (.slice AA (len - n) (c - n))
  refine ⟨A, c, ?_, ?_, by rw [Htk.out]; exact Hcc.out.2, ?_, hk⟩
  · rw [Htk.out]; rfl
  · rw [Htk.out]; exact Hc1.out.kp hk (fun hn ad e hx => Ha.out (by omega) ad e (by have : ad.block = g := hx; omega))
  · exact Lr.mk' (by simpa using hb2) (Hc2.out.kp hk (fun hn ad e hx => Hav.out hn ad e (by have : ad.block = g := hx; omega))) Hav.out Hcc.out.1 Hp2.out Hle.out.2 Hln2.out (by rw [List.drop_drop])
theorem next_any (w : World) (g : Nat) (bs : List UInt8) (n : Nat) (s : Ls) (h : Lr w g bs s) (hn : n ≤ 10000000000) :
    Calls Try.prog 61 #[.pointer (some ⟨g, 0, none⟩), .int .i64 (n : Int)] w (TookL w g bs (nextL bs n s)) := by
  by_cases hlt : bs.length < s.at_ + n
  · exact next_no w g bs n s h hn hlt
  · exact next_ok w g bs n s h hlt

theorem nextL_len (bs : List UInt8) (n : Nat) (s : Ls) : (nextL bs n s).1.length ≤ n := by
  unfold nextL
  split
  · simp
  · simp only [List.length_take]; omega
theorem wrap_step (x y : Nat) : wrap64 (wrap64 ((x : Int) * 256) + (y : Int)) = i64 (x * 256 + y) := by
  simp only [i64, wrap64]
  omega
set_option maxRecDepth 100000 in
set_option maxHeartbeats 800000 in
theorem number_any (w : World) (g : Nat) (bs : List UInt8) (n : Nat) (s : Ls) (h : Lr w g bs s) (hn : n ≤ 8) :
    Calls Try.prog 40 #[.pointer (some ⟨g, 0, none⟩), .int .i64 (n : Int)] w fun e w' => e = .returned (.int .i64 (numL bs n s).1) ∧ Lr w' g bs (numL bs n s).2 ∧ Kp (RX g) w w' := by
  have HN := Lib.hid (next_any w g bs n s h (by omega))
  have hll := nextL_len bs n s
  unfold numL TookL at *
  generalize nextL bs n s = T at *
  obtain ⟨l, s2⟩ := T
  simp only at HN hll ⊢
  go_enter Try.func40, Try.ntmps40
  go_wp2_with fail
  refine HN.out.mono ?_
  rintro e w1 ⟨A, c, rfl, hr, hc, hL, hk⟩
  have HL := Lib.hid hL
  have Hk := Lib.hid hk
  clear hL hk
  go_wp2_with fail
  go_loop [5, 7] (fun x i => ∃ j : Nat, j ≤ l.length ∧ i = .int .i64 j ∧ x = .int .i64 (i64 (ofBe (l.take j)))) (fun _ i => l.length - (intOf i).toNat)
  case atStart => exact ⟨0, by omega, rfl, int_eq (by simp [ofBe, i64, wrap64])⟩
  case round =>
    obtain ⟨j, hj, rfl, rfl⟩ := hrel
    by_cases hlt : j < l.length
    · obtain ⟨bb, o, rfl, hcell⟩ := hr.byte (k := j) hlt
      have hs : ofBe (l.take (j + 1)) = ofBe (l.take j) * 256 + (l.getD j 0).toNat := by
        have := ofBe_take_succ l 0 j (by omega)
        simpa using this
      have hsl := ofBe_take_lt l j
      have hsp : (256 : Nat) ^ j ≤ 256 ^ 7 := Nat.pow_le_pow_right (by decide) (by omega)
      have hbl := (l.getD j 0).toNat_lt
      have Hs := Lib.hid hs
      clear hs
      generalize (l.getD j 0).toNat = y at *
      generalize ofBe (l.take j) = x at *
      have hx7 : x < 72057594037927936 := by omega
      rw [i64_small x (by omega)]
      have e3 : IntKind.i64.wrap (y : Int) = (y : Int) := IntWalk.i64_in _ (by omega)
      clear hsl hsp
      have b1 : (j : Int) < (l.length : Int) := by omega
      have b2 : (j : Int) ≤ 8 := by omega
      go_wp2
      exact ⟨⟨j + 1, by omega, by go_num, int_eq (by rw [wrap_step, Hs.out])⟩, by simp [intOf]; omega⟩
    · obtain rfl : j = l.length := by omega
      rw [List.take_length]
      go_wp2
      go_ret
      exact ⟨rfl, HL.out, Hk.out⟩

theorem nextL_at (bs : List UInt8) (n : Nat) (s : Ls) : (nextL bs n s).2.at_ ≤ s.at_ + n := by
  unfold nextL
  split
  · simp
  · simp
set_option maxRecDepth 100000 in
set_option maxHeartbeats 800000 in
theorem btext_any (w : World) (g : Nat) (bs : List UInt8) (s : Ls) (h : Lr w g bs s) :
    Calls Try.prog 41 #[.pointer (some ⟨g, 0, none⟩)] w fun e w' => e = .returned (.string (textL bs s).1) ∧ Lr w' g bs (textL bs s).2 ∧ Kp (RX g) w w' := by
  have hlow : (lowL bs 4 s).1 < 4294967296 := by
    have h1 := nextL_len bs 4 s
    have h2 := ofBe_lt (nextL bs 4 s).1
    have h3 : (256 : Nat) ^ (nextL bs 4 s).1.length ≤ 256 ^ 4 := Nat.pow_le_pow_right (by decide) h1
    simp only [lowL]
    omega
  have HN := Lib.hid (number_any w g bs 4 s h (by decide))
  have e1 : numL bs 4 s = (((lowL bs 4 s).1 : Int), (lowL bs 4 s).2) := by
    rw [numL, ← i64_small _ (by omega : (lowL bs 4 s).1 < 9223372036854775808)]
    rfl
  rw [e1] at HN
  simp only at HN
  unfold textL
  generalize lowL bs 4 s = T at *
  obtain ⟨k, s2⟩ := T
  simp only at HN hlow ⊢
  have HX := Lib.hid (fun (W : World) (hL : Lr W g bs s2) => next_any W g bs k s2 hL (by omega))
  unfold TookL at HX
  generalize nextL bs k s2 = T2 at *
  obtain ⟨l, s3⟩ := T2
  simp only at HX ⊢
  clear e1
  go_enter Try.func41, Try.ntmps41
  go_wp2_with fail
  refine HN.out.mono ?_
  rintro e w1 ⟨rfl, hL1, hk1⟩
  have Hk1 := Lib.hid hk1
  have HX1 := Lib.hid (HX.out w1 hL1)
  clear hL1 hk1
  go_wp2_with fail
  refine HX1.out.mono ?_
  rintro e w2 ⟨A, c, rfl, hrd, _, hL2, hk2⟩
  have hcv := run_conv_bs (P := Try.prog) w2 Try.underlying27 Try.underlying5 Try.underlying9 A _ c _ hrd
  have HL := Lib.hid hL2
  have Hk := Lib.hid (Hk1.out.trans hk2 (fun _ _ h => h))
  clear hL2 hk2
  go_wp2
  go_ret
  exact ⟨rfl, HL.out, Hk.out⟩

/-- a value is told, the reader has gone on -/
def TookW (w : World) (g : Nat) (bs : List UInt8) (x : Val × Ls) (e : Ending) (w' : World) : Prop :=
  ∃ A c, e = .returned (vV x.1 A c) ∧ Rd w' 1 A x.1.s.length (x.1.s.map sv) ∧ Av (fun k => k < w.heap.size) x.1.s.length A ∧ x.1.s.length ≤ c ∧ x.1.s.length ≤ 1000000000000 ∧ Lr w' g bs x.2 ∧ Kp (RX g) w w'
theorem takeVal_few (b : List UInt8) : (takeVal b ⟨0, 0⟩).1.s.length ≤ 1000000000000 := by
  by_cases h : (takeVal b ⟨0, 0⟩).2.why = 0
  · have := (rightE_formed ((takeVal_con (bs := b) ⟨0, 0⟩).2 h)).2.2
    omega
  · have : (takeVal b ⟨0, 0⟩).1 = zeroVal := by
      unfold takeVal lookV at *
      split
      · rfl
      · rename_i h1
        split
        · rfl
        · rename_i h2
          rw [if_neg h1, if_neg h2] at h
          exact absurd (by simpa using h1) h
    rw [this]
    simp [zeroVal]
set_option maxRecDepth 100000 in
set_option maxHeartbeats 1600000 in
theorem bvalue_any (w : World) (g : Nat) (bs : List UInt8) (s : Ls) (h : Lr w g bs s) :
    Calls Try.prog 42 #[.pointer (some ⟨g, 0, none⟩)] w (TookW w g bs (valueL bs s)) := by
  have hg := h.lt
  have Hle := Lib.hid h.le
  have Hh := Lib.hid h
  obtain ⟨A0, c0, hb0, hr0, _, hc0, _, _⟩ := h
  have hdl : (bs.drop s.at_).length = bs.length - s.at_ := List.length_drop
  rw [← hdl] at hb0 hr0 hc0
  have HT := Lib.hid (fun W (ho : Old w W) => rtv_any W A0 c0 (bs.drop s.at_) (hr0.old ho) hc0 (by rw [hdl]; have := Hle.out; omega))
  have Hfew := Lib.hid (takeVal_few (bs.drop s.at_))
  have Hat := Lib.hid (show (takeVal (bs.drop s.at_) ⟨0, 0⟩).2.why = 0 → (takeVal (bs.drop s.at_) ⟨0, 0⟩).2.at_ ≤ 10000000000 from fun hz => by
    have := ((takeVal_con (bs := bs.drop s.at_) ⟨0, 0⟩).1 hz).2.2 (Nat.zero_le _)
    have h2 := Hle.out
    rw [hdl] at this
    omega)
  have HV := Lib.hid (show valueL bs s = if (takeVal (bs.drop s.at_) ⟨0, 0⟩).2.why ≠ 0 then (zeroVal, ⟨s.at_, true⟩) else ((takeVal (bs.drop s.at_) ⟨0, 0⟩).1, (nextL bs (takeVal (bs.drop s.at_) ⟨0, 0⟩).2.at_ s).2) from rfl)
  generalize valueL bs s = VL at HV ⊢
  unfold RtvPost at HT
  generalize takeVal (bs.drop s.at_) ⟨0, 0⟩ = TV at *
  obtain ⟨v, q, y0⟩ := TV
  simp only at HT Hfew Hat HV
  have d0 := (hb0.alloc (.cells zero4.toArray 25)).at_ 0 (v := .slice A0 (bs.drop s.at_).length c0) rfl
  have Hh2 := Lib.hid (Hh.out.old ((Kp.refl NoX w).alloc (.cells zero4.toArray 25)))
  have hbR := Blk.new w 25 zero4.toArray
  have hR := Lib.hid ((Kp.refl NoX w).alloc (.cells zero4.toArray 25))
  have HbR := Lib.hid hbR
  have HW := Lib.hid (show w.heap.size < (w.alloc (.cells zero4.toArray 25)).heap.size by simp)
  clear hbR hb0 hr0 hc0 hdl
  generalize (bs.drop s.at_).length = n0 at *
  unfold zero4 at d0 hR HbR Hh2 HW
  go_enter Try.func42, Try.ntmps42
  go_wp2_with fail
  refine (HT.out _ hR.out).mono ?_
  generalize w.alloc _ = W0 at *
  rintro e w1 ⟨sA, sc, n, y, rfl, hy0, hy1, hrd, hav, hcp, ho1⟩
  have Hh3 := Lib.hid (Hh2.out.old ho1)
  have HbR1 := Lib.hid (HbR.out.old ho1)
  have Hold1 := Lib.hid (hR.out.old ho1)
  have hlt1 : w.heap.size < w1.heap.size := Nat.lt_of_lt_of_le HW.out ho1.size
  have Hlt1 := Lib.hid hlt1
  have Hp := Lib.hid (show Rd w1 1 sA v.s.length (v.s.map sv) ∧ Av (fun k => k < W0.heap.size) v.s.length sA ∧ v.s.length ≤ sc from ⟨hrd, hav, hcp⟩)
  clear d0 Hh2 HbR hrd hav hcp
  obtain ⟨vk, vn, vt, vs⟩ := v
  unfold vV
  simp only at *
  have HbV := Lib.hid (Blk.new w1 25 ([.int .i64 vk, .int .i64 vn, .string vt, .slice sA vs.length sc] : List Value).toArray)
  have HbR2 := Lib.hid (HbR1.out.alloc (.cells ([.int .i64 vk, .int .i64 vn, .string vt, .slice sA vs.length sc] : List Value).toArray 25))
  have Hh4 := Lib.hid (Hh3.out.old ((Kp.refl NoX w1).alloc (.cells ([.int .i64 vk, .int .i64 vn, .string vt, .slice sA vs.length sc] : List Value).toArray 25)))
  have Hold2 := Lib.hid (Hold1.out.alloc (.cells ([.int .i64 vk, .int .i64 vn, .string vt, .slice sA vs.length sc] : List Value).toArray 25))
  have Hrd2 := Lib.hid (Hp.out.1.alloc (.cells ([.int .i64 vk, .int .i64 vn, .string vt, .slice sA vs.length sc] : List Value).toArray 25))
  clear ho1
  by_cases hy : y0 = 0
  · obtain ⟨rfl, rfl⟩ := hy0 hy
    have HV2 := Lib.hid (HV.out.trans (if_neg (fun h => h hy)))
    have Hq := Lib.hid (Hat.out hy)
    clear hy0 hy1 hy
    go_upto_region 5 with (fail)
    generalize w1.alloc _ = W2 at *
    go_wp2_with fail
    refine (next_any W2 g bs q s Hh4.out Hq.out).mono ?_
    rintro e w4 ⟨A4, c4, rfl, _, _, hL4, hk4⟩
    have hgw : g < w.heap.size := hg
    have Hb4 := Lib.hid (HbV.out.kp hk4 (fun e => by have h1 : w1.heap.size = g := e; omega))
    have HR4 := Lib.hid (HbR2.out.kp hk4 (fun e => by have h1 : w.heap.size = g := e; omega))
    have Hk4 := Lib.hid ((Hold2.out.mono (Y := RX g) (fun _ _ f => f.elim)).trans hk4 (fun _ _ h => h))
    have HL4 := Lib.hid hL4
    have Hrd4 := Lib.hid (Hrd2.out.kp hk4 (fun hn ad e hx => Hp.out.2.1 hn ad e (by have h1 : ad.block = g := hx; have := HW.out; omega)))
    have Hz := Lib.hid (HR4.out.setWhole [.int .i64 vk, .int .i64 vn, .string vt, .slice sA vs.length sc] rfl)
    have HkR := Lib.hid (Kp.setCells w.heap.size 0 [.int .i64 vk, .int .i64 vn, .string vt, .slice sA vs.length sc] w4)
    generalize w1.heap.size = VB at *
    clear hL4 hk4
    go_wp2_with (first | refine wpList_load_mid rfl 25 (.tmp 3) rfl VB 0 rfl [.int .i64 vk, .int .i64 vn, .string vt, .slice sA vs.length sc] _ Hb4.out.range Try.underlying25 rfl Try.sizeValue ?_ | refine wpList_store_mid rfl 25 (.tmp 2) (.tmp 24) rfl w.heap.size 0 _ rfl rfl (HR4.out.there 0 4 (by decide)) Try.sizeValue (all_one rfl) ?_ | fail)
    refine ret_cell (g := w.heap.size) (cs := List.toArray [.int .i64 vk, .int .i64 vn, .string vt, .slice sA vs.length sc]) rfl rfl Hz.out Try.underlying25 rfl (by kernel_rfl) rfl ?_
    rw [HV2.out]
    exact ⟨sA, sc, rfl, Hrd4.out.kp HkR.out (fun hn ad e hx => Hp.out.2.1 hn ad e (by have h1 : ad.block = w.heap.size := hx; have := HW.out; omega)), (fun hn ad e h => Hp.out.2.1 hn ad e (Nat.lt_trans h HW.out)), Hp.out.2.2, Hfew.out, HL4.out.kp HkR.out (fun k hk e => by omega), Hk4.out.trans HkR.out (fun b hb e => by omega)⟩
  · have hyb : (y != 0) = true := bne_iff_ne.2 (hy1 hy)
    have HV2 := Lib.hid (HV.out.trans (if_pos hy))
    clear hy0 hy1 hy
    go_upto_region 3 with (fail)
    generalize w1.alloc _ = W2 at *
    obtain ⟨A4, c4, hb4, hr4, ha4, hc4, hs4, hl4⟩ := Hh4.out
    have d1 := hb4.at_ 1 (v := .bool s.short) rfl
    have z1 := hb4.frozen 1
    have hk3 : Kp (RX g) W2 (W2.setCell ⟨g, 1, none⟩ (.bool true)) := (Kp.refl (RX g) W2).setCell (p := ⟨g, 1, none⟩) (fun _ => rfl) _
    have hb5 := hb4.set_ 1 (.bool true)
    have HL5 := Lib.hid (Lr.mk' (p := s.at_) (bs := bs) (by simpa using hb5) (hr4.kp hk3 (fun hn ad e hx => ha4 hn ad e (by have : ad.block = g := hx; omega))) ha4 hc4 hs4 hl4 rfl rfl)
    have Hk5 := Lib.hid ((Hold2.out.mono (Y := RX g) (fun _ _ f => f.elim)).trans hk3 (fun _ _ h => h))
    have HR5 := Lib.hid (HbR2.out.kp hk3 (fun e => by have h1 : w.heap.size = g := e; omega))
    clear hb4 hr4 ha4 hc4 hb5 hk3
    go_upto_region 4 with (fail)
    generalize W2.setCell _ _ = W3 at *
    have Hz := Lib.hid (HR5.out.setWhole zero4 rfl)
    have HkR := Lib.hid (Kp.setCells w.heap.size 0 zero4 W3)
    clear d1 z1
    go_wp2_with (first | refine wpList_store_mid rfl 25 (.tmp 2) (.tmp 20) rfl w.heap.size 0 _ rfl rfl (HR5.out.there 0 4 (by decide)) Try.sizeValue (all_one rfl) ?_ | fail)
    refine ret_cell (g := w.heap.size) (cs := zero4.toArray) rfl rfl Hz.out Try.underlying25 rfl (by kernel_rfl) rfl ?_
    rw [HV2.out]
    exact ⟨none, 0, rfl, Rd.none_, (fun h => absurd h (by simp [zeroVal])), Nat.le_refl _, Nat.zero_le _, HL5.out.kp HkR.out (fun k hk e => by omega), Hk5.out.trans HkR.out (fun b hb e => by omega)⟩
end Go.Proofs.Ytnaolhjbapgjgaa

/- Contract of docketref24.same. -/
namespace Go.Proofs.Ytnaolhjbapgjgaa
open Go.RowKit

set_option maxRecDepth 100000 in
set_option maxHeartbeats 1600000 in
theorem rsame_some (w : World) (g o : Nat) (B : Option Addr) (c d : Nat) (x y : List UInt8) (hx : Rd w 1 (some ⟨g, o, none⟩) x.length (x.map bv)) (hy : Rd w 1 B y.length (y.map bv)) (hxl : x.length ≤ 1000000000000) :
    Calls Try.prog 43 #[Value.slice (some ⟨g, o, none⟩) x.length c, .slice B y.length d] w fun e w' => e = .returned (.bool (decide (x = y))) ∧ Old w w' := by
  have hnil := fun (W : World) (a : Option Addr) (n c : Nat) => Lib.run_eql_slice_nil (P := Try.prog) W 27 5 a n c 0 0 Try.underlying27
  by_cases hl : x.length = y.length
  case neg =>
    have hne : x ≠ y := fun e => hl (by rw [e])
    have h1 : ((x.length : Int) != (y.length : Int)) = true := bne_iff_ne.2 (by omega)
    rw [decide_eq_false hne]
    go_enter Try.func43, Try.ntmps43
    go_wp2
    go_ret
    exact ⟨rfl, Kp.refl _ _⟩
  have h1 : ((x.length : Int) != (y.length : Int)) = false := bne_eq_false_iff_eq.2 (by omega)
  have Hxy := Lib.hid hl
  rw [← hl] at hy ⊢
  clear hl
  go_enter Try.func43, Try.ntmps43
  go_wp2
  go_loopw [5] (fun i wr => ∃ k : Nat, k ≤ x.length ∧ i = .int .i64 k ∧ x.take k = y.take k ∧ Old w wr) (fun i _ => x.length - (intOf i).toNat)
  case atStart => exact ⟨0, by omega, rfl, rfl, Kp.refl _ _⟩
  case round =>
    obtain ⟨k, hk, rfl, hpre, hold⟩ := hrel
    by_cases hlt : k < x.length
    · have hly : k < y.length := by have := Hxy.out; omega
      obtain ⟨b1, o1, u1, hAe, hu1, hc1⟩ := (hx.old hold).at_ hlt
      injection hAe with hAe
      injection hAe with hAe1 hAe2
      subst hAe1 hAe2
      obtain ⟨b2, o2, u2, rfl, hu2, hc2⟩ := (hy.old hold).at_ hlt
      rw [List.getElem?_map, List.getElem?_eq_getElem hlt] at hu1
      rw [List.getElem?_map, List.getElem?_eq_getElem hly] at hu2
      simp only [Option.map_some, Option.some.injEq, bv] at hu1 hu2
      subst hu1 hu2
      have hn1 : (x[k].toNat : Int) ≤ 255 := by have := x[k].toNat_lt; omega
      have hn2 : (y[k].toNat : Int) ≤ 255 := by have := y[k].toNat_lt; omega
      have b5 : (k : Int) ≤ 1000000000000 := by omega
      have b6 : (0 : Int) ≤ (k : Int) := by omega
      have b7 : (k : Int) < (x.length : Int) := by omega
      have b8 : (k : Int).toNat = k := by omega
      have Hp := Lib.hid hpre
      have Ho := Lib.hid hold
      clear hpre hold
      by_cases he : x[k] = y[k]
      · have hq : ((x[k].toNat : Int) != (y[k].toNat : Int)) = false := by simp [he]
        have Hnext := Lib.hid (show x.take (k + 1) = y.take (k + 1) by rw [List.take_succ_eq_append_getElem hlt, List.take_succ_eq_append_getElem hly, Hp.out, he])
        clear he
        generalize (x[k].toNat : Int) = xa at *
        generalize (y[k].toNat : Int) = ya at *
        go_wp2
        go_quiet (fail)
        go_wp2
        go_roundw
        case rel => exact ⟨k + 1, by omega, by go_num, Hnext.out, Ho.out.drewN _⟩
        case measure => simp [intOf]; omega
      · have hq : ((x[k].toNat : Int) != (y[k].toNat : Int)) = true := by
          simp only [bne_iff_ne, ne_eq]
          intro h
          exact he (UInt8.toNat_inj.1 (by omega))
        have hne : x ≠ y := fun e => he (by subst e; rfl)
        clear he
        generalize (x[k].toNat : Int) = xa at *
        generalize (y[k].toNat : Int) = ya at *
        go_wp2
        go_quiet (fail)
        go_wp2
        go_ret
        exact ⟨ret_eq (bool_eq (decide_eq_false hne).symm), Ho.out.drewN _⟩
    · obtain rfl : k = x.length := by omega
      have he : x = y := by
        rw [List.take_length, Hxy.out, List.take_length] at hpre
        exact hpre
      have Ho := Lib.hid hold
      clear hold
      go_wp2
      go_ret
      exact ⟨ret_eq (bool_eq (decide_eq_true he).symm), Ho.out⟩

set_option maxHeartbeats 400000 in
theorem rsame_nil (w : World) (B : Option Addr) (d n : Nat) :
    Calls Try.prog 43 #[.slice none 0 0, .slice B n d] w fun e w' => e = .returned (.bool false) ∧ Old w w' := by
  have hnil := fun (W : World) (a : Option Addr) (n c : Nat) => Lib.run_eql_slice_nil (P := Try.prog) W 27 5 a n c 0 0 Try.underlying27
  go_enter Try.func43, Try.ntmps43
  go_wp2
  go_ret
  exact ⟨rfl, Kp.refl _ _⟩
end Go.Proofs.Ytnaolhjbapgjgaa

/- Contracts of docketref1.Number, docketref14.number, name. -/
namespace Go.Proofs.Ytnaolhjbapgjgaa
open Go.RowKit

set_option maxRecDepth 100000 in
set_option maxHeartbeats 800000 in
theorem rnumber_nat (w : World) (x k : Nat) (hx : x ≤ 18446744073709551615) (hk : k ≤ 8) :
    Calls Try.prog 70 #[.int .u64 (x : Int), .int .i64 (k : Int)] w fun e w' => ∃ A, e = .returned (.slice A k k) ∧ BRow w' w.heap.size (be k x) A k ∧ Old w w' := by
  have hmk := Try.make_bytes k (by omega)
  have Hx := Lib.hid hx
  clear hx
  have Hl := Lib.hid (be_length k x)
  go_enter Try.func70, Try.ntmps70
  go_wp2
  go_loopw [6] (fun i wr => ∃ j : Nat, j ≤ k ∧ i = .int .i64 j ∧ Blk wr w.heap.size 5 (fillB (be k x) j (.int .u8 0)).toArray ∧ Old w wr) (fun i _ => k - (intOf i).toNat)
  case atStart => exact ⟨0, by omega, rfl, by rw [fillB_zero, Hl.out]; exact Blk.new _ _ _, (Kp.refl _ _).alloc _⟩
  case round =>
    obtain ⟨j, hj, rfl, hb, ho⟩ := hrel
    have Ho := Lib.hid ho
    have Hb := Lib.hid hb
    clear ho hb
    by_cases hlt : j < k
    · have hc := Hb.out.at_ (k - 1 - j) (v := .int .u8 0) (by
        rw [List.getElem?_toArray]
        have := fillB_get (be k x) j (.int .u8 0) (by rw [Hl.out]; exact hlt)
        rwa [Hl.out] at this)
      have hz := Hb.out.frozen (k - 1 - j)
      have e2 : IntKind.i64.wrap (8 * (j : Int)) = 8 * (j : Int) := IntWalk.i64_in _ (by omega)
      have e3 : IntKind.i64.wrap ((k : Int) - 1) = (k : Int) - 1 := IntWalk.i64_in _ (by omega)
      have e6 : IntKind.i64.wrap ((k : Int) - 1 - (j : Int)) = (k : Int) - 1 - (j : Int) := IntWalk.i64_in _ (by omega)
      have e4 : IntKind.u64.wrap (8 * (j : Int)) = 8 * (j : Int) := IntWalk.u64_in _ (by omega)
      have e5 : (8 * (j : Int)).toNat = 8 * j := by omega
      have b1 : (0 : Int) ≤ (k : Int) - 1 - (j : Int) := by omega
      have b2 : (k : Int) - 1 - (j : Int) < (k : Int) := by omega
      have b3 : ((k : Int) - 1 - (j : Int)).toNat = k - 1 - j := by omega
      have b4 : (0 : Int) ≤ 8 * (j : Int) := by omega
      go_wp2
      go_roundw
      case rel =>
        refine ⟨j + 1, by omega, by go_num, ?_, ?_⟩
        · rw [shr_byte']
          have := Hb.out.set_ (k - 1 - j) (bv (UInt8.ofNat (x / 256 ^ j)))
          rw [List.setIfInBounds_toArray] at this
          have h2 := fillB_set (be k x) j (.int .u8 0) (by rw [Hl.out]; exact hlt)
          rw [be_getElem] at h2
          simp only [Hl.out] at h2
          rw [show k - 1 - (k - 1 - j) = j by omega] at h2
          rw [← h2]
          exact this
        · exact Ho.out.setCell (p := ⟨w.heap.size, k - 1 - j, none⟩) (fun h => absurd h (Nat.lt_irrefl _)) _
      case measure => simp [intOf]; omega
    · obtain rfl : j = k := by omega
      go_wp2
      go_ret
      have hb := Hb.out
      have h2 := fillB_full (be j x) (.int .u8 0)
      rw [Hl.out] at h2
      rw [h2] at hb
      have h3 := own_of_blk (base := w.heap.size) hb (Nat.le_refl _) (by rw [List.length_map, Hl.out]; unfold maxLen; omega)
      rw [List.length_map, Hl.out] at h3
      exact ⟨_, rfl, ⟨by rw [Hl.out]; exact h3, Ho.out.size⟩, Ho.out⟩
theorem u64_wrap_nat (n : Int) : ∃ x : Nat, IntKind.u64.wrap n = (x : Int) ∧ x ≤ 18446744073709551615 ∧ x = (n % 18446744073709551616).toNat := by
  refine ⟨(n % 18446744073709551616).toNat, ?_, by omega, rfl⟩
  rw [IntKind.wrap_u64]
  omega
set_option maxHeartbeats 400000 in
theorem rnum_any (w : World) (n : Int) (k : Nat) (hk : k ≤ 8) :
    Calls Try.prog 53 #[.int .i64 n, .int .i64 (k : Int)] w fun e w' => ∃ A, e = .returned (.slice A k k) ∧ BRow w' w.heap.size (be k (n % 18446744073709551616).toNat) A k ∧ Old w w' := by
  obtain ⟨x, e1, hx, e2⟩ := u64_wrap_nat n
  rw [← e2]
  clear e2
  go_enter Try.func53, Try.ntmps53
  go_wp2_with fail
  refine (rnumber_nat w x k hx hk).mono ?_
  rintro e w1 ⟨A, rfl, hb, ho⟩
  go_wp2
  go_ret
  exact ⟨A, rfl, hb, ho⟩
set_option maxHeartbeats 400000 in
theorem rname_any (w : World) (s : ByteArray) (hs : s.size ≤ 2147483647) :
    Calls Try.prog 54 #[.string s] w fun e w' => ∃ A c l, l = lp 2 (sb s) ∧ e = .returned (.slice A l.length c) ∧ BRow w' w.heap.size l A c ∧ Old w w' := by
  have hl : (be 2 s.size).length = 2 := be_length _ _
  have Hq := Lib.hid (show be 2 s.size ++ sb s = lp 2 (sb s) by rw [lp, sb_length])
  go_enter Try.func54, Try.ntmps54
  go_wp2_with fail
  refine (rnum_any w _ 2 (by decide)).mono ?_
  rintro e w1 ⟨A, rfl, hb, ho⟩
  rw [nat_mod64 s.size (by omega)] at hb
  have Hl := Lib.hid hl
  clear hl
  go_wp2_with (at_builtin; refine Try.app_str (.tmp 5) (.tmp 6) hb (by rw [Hl.out]; omega) rfl rfl (by rw [Hl.out]; rfl) rfl ?_; intro l3 A3 c3 w3 e3 h3 hk3)
  go_ret
  exact ⟨A3, c3, l3, by rw [e3.out, Hq.out], rfl, h3, From.old ho hk3 (Nat.le_refl _)⟩
end Go.Proofs.Ytnaolhjbapgjgaa
