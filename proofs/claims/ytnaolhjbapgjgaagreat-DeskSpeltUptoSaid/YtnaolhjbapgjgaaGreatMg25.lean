import Derived.Test.YtnaolhjbapgjgaaGreatMg05
import Derived.Test.YtnaolhjbapgjgaaGreatMg24
set_option maxRecDepth 100000
set_option maxHeartbeats 3200000
namespace Go.Proofs.YtnaolhjbapgjgaaGreat
open Go.RowKit
theorem takeVal_len (bs : List UInt8) (s : Rs) : (jN bs s).1.s.length <= 65536 := by
  have hk : ∀ k s1, (kX bs k s1).1.s.length <= 65536 := by
    intro k s1
    have := textsN_len bs 64 1024 s1
    unfold kX
    repeat' split
    all_goals simp [*]
  unfold jN kN
  repeat' split
  all_goals first | exact hk _ _ | exact Nat.zero_le _
theorem asked_3 (w : World) (g : Nat) (bs : List UInt8) (s : Rs) (h : Rr w g bs s) (hk : (tkN bs 1 s).1 = 3) :
    Calls Tryz.prog 41 #[.pointer (some ⟨g, 0, none⟩)] w (TookO w g bs (jv bs s)) := by
  have HT := jJ0 (show jv bs s = opN bs 3 (tkN bs 1 s).2 by rw [jv, hk])
  generalize jv bs s = TV at HT ⊢
  have hgl := h.lt
  have hbl := h.fits.2
  have Hk := jJ0 hk
  clear hk
  go_enter Tryz.func41, Tryz.ntmps41
  go_wp2_with fail
  refine (jQ _ g bs s (h.old ((Kp.refl NoX w).alloc _))).mono ?_
  rintro e w1 ⟨rfl, hr1, hk1⟩
  rw [Hk.out]
  have hbR0 := (Blk.new w 32 #[.int .i64 0, .string ⟨#[]⟩, .string ⟨#[]⟩, .string ⟨#[]⟩, .int .i64 0, .int .i64 0, .string ⟨#[]⟩, .slice none 0 0, .slice none 0 0, .slice none 0 0, .int .i64 0]).kp hk1 (show ¬ RX g w.heap.size from fun e => by have : w.heap.size = g := e; omega)
  have hkk0 : Kp (RX g) w w1 := ((Kp.refl (RX g) w).alloc _).trans hk1 (fun _ _ h => h)
  generalize (tkN bs 1 s).2 = s1 at *
  clear hk1
  have hbO := Blk.new w1 32 #[.int .i64 3, .string ⟨#[]⟩, .string ⟨#[]⟩, .string ⟨#[]⟩, .int .i64 0, .int .i64 0, .string ⟨#[]⟩, .slice none 0 0, .slice none 0 0, .slice none 0 0, .int .i64 0]
  have hr := hr1.old ((Kp.refl NoX w1).alloc (.cells #[.int .i64 3, .string ⟨#[]⟩, .string ⟨#[]⟩, .string ⟨#[]⟩, .int .i64 0, .int .i64 0, .string ⟨#[]⟩, .slice none 0 0, .slice none 0 0, .slice none 0 0, .int .i64 0] 32))
  have hbR := hbR0.alloc (.cells #[.int .i64 3, .string ⟨#[]⟩, .string ⟨#[]⟩, .string ⟨#[]⟩, .int .i64 0, .int .i64 0, .string ⟨#[]⟩, .slice none 0 0, .slice none 0 0, .slice none 0 0, .int .i64 0] 32)
  have hkk := hkk0.alloc (.cells #[.int .i64 3, .string ⟨#[]⟩, .string ⟨#[]⟩, .string ⟨#[]⟩, .int .i64 0, .int .i64 0, .string ⟨#[]⟩, .slice none 0 0, .slice none 0 0, .slice none 0 0, .int .i64 0] 32)
  have hw1 := hkk0.size
  have hRlt : w.heap.size < w1.heap.size := hbR0.lt
  have hgO : ¬ RX g w1.heap.size := fun e => by have : w1.heap.size = g := e; omega
  have hgR : ¬ RX g w.heap.size := fun e => by have : w.heap.size = g := e; omega
  have HD := jJ0 (show ∀ A c, MOp.data (⟨3, (jI bs s1).1, ⟨#[]⟩, (jI bs (jI bs s1).2).1, ⟨(jN bs (jI bs (jI bs s1).2).2).1, A, c⟩, [], none, 0, [], none, 0, 0⟩ : MOp) = (opN bs 3 s1).1 by intro A c; rw [opN, if_neg (by simp), if_neg (by simp), if_pos rfl]; rfl)
  have HS := jJ0 (show (opN bs 3 s1).2 = (jN bs (jI bs (jI bs s1).2).2).2 by rw [opN, if_neg (by simp), if_neg (by simp), if_pos rfl])
  have hs1 := kC bs s1
  have hs2 := kC bs (jI bs s1).2
  have hs3 := takeVal_len bs (jI bs (jI bs s1).2).2
  go_wp2_with fail
  refine (kc _ g bs s1 hr).mono ?_
  rintro e w2 ⟨rfl, hr2, hk2⟩
  have hbO1 := hbO.kp hk2 hgO
  have hbR1 := hbR.kp hk2 hgR
  have hkk1 : Kp (RX g) w w2 := hkk.trans hk2 (fun _ _ h => h)
  have hsz1 := hk2.size
  clear hbO hbR hkk hr hk2
  have u1_0 := hbO1.at_ 0 rfl
  have u1_1 := hbO1.at_ 1 rfl
  have u1_2 := hbO1.at_ 2 rfl
  have u1_3 := hbO1.at_ 3 rfl
  have u1_4 := hbO1.at_ 4 rfl
  have u1_5 := hbO1.at_ 5 rfl
  have u1_6 := hbO1.at_ 6 rfl
  have u1_7 := hbO1.at_ 7 rfl
  have u1_8 := hbO1.at_ 8 rfl
  have u1_9 := hbO1.at_ 9 rfl
  have u1_10 := hbO1.at_ 10 rfl
  have z1_0 := hbO1.frozen 0
  have z1_1 := hbO1.frozen 1
  have z1_2 := hbO1.frozen 2
  have z1_3 := hbO1.frozen 3
  have z1_4 := hbO1.frozen 4
  have z1_5 := hbO1.frozen 5
  have z1_6 := hbO1.frozen 6
  have z1_7 := hbO1.frozen 7
  have z1_8 := hbO1.frozen 8
  have z1_9 := hbO1.frozen 9
  have z1_10 := hbO1.frozen 10
  clear u1_0 u1_1 u1_2 u1_3 u1_4 u1_5 u1_6 u1_7 u1_8 u1_9 u1_10 z1_0 z1_1 z1_2 z1_3 z1_4 z1_5 z1_6 z1_7 z1_8 z1_9 z1_10
  go_wp2_with fail
  refine (kc _ g bs _ hr2).mono ?_
  rintro e w3 ⟨rfl, hr3, hk3⟩
  have hbO2 := hbO1.kp hk3 hgO
  have hbR2 := hbR1.kp hk3 hgR
  have hkk2 : Kp (RX g) w w3 := hkk1.trans hk3 (fun _ _ h => h)
  have hsz2 := hk3.size
  clear hbO1 hbR1 hkk1 hr2 hk3
  have u2_0 := hbO2.at_ 0 rfl
  have u2_1 := hbO2.at_ 1 rfl
  have u2_2 := hbO2.at_ 2 rfl
  have u2_3 := hbO2.at_ 3 rfl
  have u2_4 := hbO2.at_ 4 rfl
  have u2_5 := hbO2.at_ 5 rfl
  have u2_6 := hbO2.at_ 6 rfl
  have u2_7 := hbO2.at_ 7 rfl
  have u2_8 := hbO2.at_ 8 rfl
  have u2_9 := hbO2.at_ 9 rfl
  have u2_10 := hbO2.at_ 10 rfl
  have z2_0 := hbO2.frozen 0
  have z2_1 := hbO2.frozen 1
  have z2_2 := hbO2.frozen 2
  have z2_3 := hbO2.frozen 3
  have z2_4 := hbO2.frozen 4
  have z2_5 := hbO2.frozen 5
  have z2_6 := hbO2.frozen 6
  have z2_7 := hbO2.frozen 7
  have z2_8 := hbO2.frozen 8
  have z2_9 := hbO2.frozen 9
  have z2_10 := hbO2.frozen 10
  generalize (jI bs (jI bs s1).2).2 = s2 at *
  generalize (jI bs (jI bs s1).2).1 = t2 at *
  generalize (jI bs s1).1 = t1 at *
  have hbO3 := hbO2.set_ 1 (.string t1)
  have hbR3 := hbR2.far (p := ⟨w1.heap.size, 1, none⟩) (by simp only; omega) (.string t1)
  have hkk3 := hkk2.setCell (p := ⟨w1.heap.size, 1, none⟩) (fun h => absurd (Nat.lt_of_lt_of_le h hw1) (Nat.lt_irrefl _)) (.string t1)
  have hrs3 := hr3.set (p := ⟨w1.heap.size, 1, none⟩) (by simp only; omega) (.string t1)
  clear hbO2 hbR2 hkk2 hr3
  have hbO4 := hbO3.set_ 3 (.string t2)
  have hbR4 := hbR3.far (p := ⟨w1.heap.size, 3, none⟩) (by simp only; omega) (.string t2)
  have hkk4 := hkk3.setCell (p := ⟨w1.heap.size, 3, none⟩) (fun h => absurd (Nat.lt_of_lt_of_le h hw1) (Nat.lt_irrefl _)) (.string t2)
  have hrs4 := hrs3.set (p := ⟨w1.heap.size, 3, none⟩) (by simp only; omega) (.string t2)
  clear hbO3 hbR3 hkk3 hrs3
  go_wp2_with fail
  refine (takev_any _ g bs _ hrs4).mono ?_
  rintro e w4 ⟨A4, c4, he4, hrd4, hav4, hcap4, hr4, hk4⟩
  have hbO5 := hbO4.kp hk4 hgO
  have hbR5 := hbR4.kp hk4 hgR
  have hkk5 : Kp (RX g) w w4 := hkk4.trans hk4 (fun _ _ h => h)
  have hsz5 := hk4.size
  clear hbO4 hbR4 hkk4 hrs4 hk4
  have u5_0 := hbO5.at_ 0 rfl
  have u5_1 := hbO5.at_ 1 rfl
  have u5_2 := hbO5.at_ 2 rfl
  have u5_3 := hbO5.at_ 3 rfl
  have u5_4 := hbO5.at_ 4 rfl
  have u5_5 := hbO5.at_ 5 rfl
  have u5_6 := hbO5.at_ 6 rfl
  have u5_7 := hbO5.at_ 7 rfl
  have u5_8 := hbO5.at_ 8 rfl
  have u5_9 := hbO5.at_ 9 rfl
  have u5_10 := hbO5.at_ 10 rfl
  have z5_0 := hbO5.frozen 0
  have z5_1 := hbO5.frozen 1
  have z5_2 := hbO5.frozen 2
  have z5_3 := hbO5.frozen 3
  have z5_4 := hbO5.frozen 4
  have z5_5 := hbO5.frozen 5
  have z5_6 := hbO5.frozen 6
  have z5_7 := hbO5.frozen 7
  have z5_8 := hbO5.frozen 8
  have z5_9 := hbO5.frozen 9
  have z5_10 := hbO5.frozen 10
  have HD := jJ0 (HD.out A4 c4)
  have hav5 : Av (fun k => k <= w1.heap.size) (jN bs s2).1.s.length A4 := hav4.weak (fun k e => by
    have := hsz1
    have := hsz2
    simp [World.setCell] at *
    omega)
  generalize jN bs s2 = tv at *
  obtain ⟨⟨vk, vn, vt, vs⟩, sz⟩ := tv
  simp only [vV] at he4
  subst he4
  simp only at *
  have hbO6 := hbO5.set_ 4 (.int .i64 vk)
  have hbR6 := hbR5.far (p := ⟨w1.heap.size, 4, none⟩) (by simp only; omega) (.int .i64 vk)
  have hkk6 := hkk5.setCell (p := ⟨w1.heap.size, 4, none⟩) (fun h => absurd (Nat.lt_of_lt_of_le h hw1) (Nat.lt_irrefl _)) (.int .i64 vk)
  have hrs6 := hr4.set (p := ⟨w1.heap.size, 4, none⟩) (by simp only; omega) (.int .i64 vk)
  clear hbO5 hbR5 hkk5 hr4
  have hbO7 := hbO6.set_ 5 (.int .i64 vn)
  have hbR7 := hbR6.far (p := ⟨w1.heap.size, 5, none⟩) (by simp only; omega) (.int .i64 vn)
  have hkk7 := hkk6.setCell (p := ⟨w1.heap.size, 5, none⟩) (fun h => absurd (Nat.lt_of_lt_of_le h hw1) (Nat.lt_irrefl _)) (.int .i64 vn)
  have hrs7 := hrs6.set (p := ⟨w1.heap.size, 5, none⟩) (by simp only; omega) (.int .i64 vn)
  clear hbO6 hbR6 hkk6 hrs6
  have hbO8 := hbO7.set_ 6 (.string vt)
  have hbR8 := hbR7.far (p := ⟨w1.heap.size, 6, none⟩) (by simp only; omega) (.string vt)
  have hkk8 := hkk7.setCell (p := ⟨w1.heap.size, 6, none⟩) (fun h => absurd (Nat.lt_of_lt_of_le h hw1) (Nat.lt_irrefl _)) (.string vt)
  have hrs8 := hrs7.set (p := ⟨w1.heap.size, 6, none⟩) (by simp only; omega) (.string vt)
  clear hbO7 hbR7 hkk7 hrs7
  have hbO9 := hbO8.set_ 7 (.slice A4 vs.length c4)
  have hbR9 := hbR8.far (p := ⟨w1.heap.size, 7, none⟩) (by simp only; omega) (.slice A4 vs.length c4)
  have hkk9 := hkk8.setCell (p := ⟨w1.heap.size, 7, none⟩) (fun h => absurd (Nat.lt_of_lt_of_le h hw1) (Nat.lt_irrefl _)) (.slice A4 vs.length c4)
  have hrs9 := hrs8.set (p := ⟨w1.heap.size, 7, none⟩) (by simp only; omega) (.slice A4 vs.length c4)
  clear hbO8 hbR8 hkk8 hrs8
  go_upto_region 20 with (fail)
  have hrdz := hrd4.kp ((((((Kp.refl (fun k => k <= w1.heap.size) w4).setCell (p := ⟨w1.heap.size, 4, none⟩) (fun _ => Nat.le_refl _) (.int .i64 vk)).setCell (p := ⟨w1.heap.size, 5, none⟩) (fun _ => Nat.le_refl _) (.int .i64 vn)).setCell (p := ⟨w1.heap.size, 6, none⟩) (fun _ => Nat.le_refl _) (.string vt)).setCell (p := ⟨w1.heap.size, 7, none⟩) (fun _ => Nat.le_refl _) (.slice A4 vs.length c4))) hav5
  clear u5_0 u5_1 u5_2 u5_3 u5_4 u5_5 u5_6 u5_7 u5_8 u5_9 u5_10 z5_0 z5_1 z5_2 z5_3 z5_4 z5_5 z5_6 z5_7 z5_8 z5_9 z5_10
  generalize hwz : ((((w4.setCell ⟨w1.heap.size, 4, none⟩ (.int .i64 vk)).setCell ⟨w1.heap.size, 5, none⟩ (.int .i64 vn)).setCell ⟨w1.heap.size, 6, none⟩ (.string vt)).setCell ⟨w1.heap.size, 7, none⟩ (.slice A4 vs.length c4)) = wz at *
  clear hwz
  have u0 := hbO9.at_ 0 rfl
  have u1 := hbO9.at_ 1 rfl
  have u2 := hbO9.at_ 2 rfl
  have u3 := hbO9.at_ 3 rfl
  have u4 := hbO9.at_ 4 rfl
  have u5 := hbO9.at_ 5 rfl
  have u6 := hbO9.at_ 6 rfl
  have u7 := hbO9.at_ 7 rfl
  have u8 := hbO9.at_ 8 rfl
  have u9 := hbO9.at_ 9 rfl
  have u10 := hbO9.at_ 10 rfl
  have v0 := hbR9.at_ 0 rfl
  have v1 := hbR9.at_ 1 rfl
  have v2 := hbR9.at_ 2 rfl
  have v3 := hbR9.at_ 3 rfl
  have v4 := hbR9.at_ 4 rfl
  have v5 := hbR9.at_ 5 rfl
  have v6 := hbR9.at_ 6 rfl
  have v7 := hbR9.at_ 7 rfl
  have v8 := hbR9.at_ 8 rfl
  have v9 := hbR9.at_ 9 rfl
  have v10 := hbR9.at_ 10 rfl
  have y0 := hbR9.frozen 0
  have y1 := hbR9.frozen 1
  have y2 := hbR9.frozen 2
  have y3 := hbR9.frozen 3
  have y4 := hbR9.frozen 4
  have y5 := hbR9.frozen 5
  have y6 := hbR9.frozen 6
  have y7 := hbR9.frozen 7
  have y8 := hbR9.frozen 8
  have y9 := hbR9.frozen 9
  have y10 := hbR9.frozen 10
  have hne : w.heap.size ≠ w1.heap.size := by omega
  have Hks := jJ0 (Kp.setL w.heap.size [.int .i64 3, .string t1, .string ⟨#[]⟩, .string t2, .int .i64 vk, .int .i64 vn, .string vt, .slice A4 vs.length c4, .slice none 0 0, .slice none 0 0, .int .i64 0] wz 0)
  have Hbz := jJ0 (Blk.setAll (cs := [.int .i64 0, .string ⟨#[]⟩, .string ⟨#[]⟩, .string ⟨#[]⟩, .int .i64 0, .int .i64 0, .string ⟨#[]⟩, .slice none 0 0, .slice none 0 0, .slice none 0 0, .int .i64 0]) hbR9 [.int .i64 3, .string t1, .string ⟨#[]⟩, .string t2, .int .i64 vk, .int .i64 vn, .string vt, .slice A4 vs.length c4, .slice none 0 0, .slice none 0 0, .int .i64 0] rfl)
  have Hok := jJ0 (show MOp.Ok wz (fun k => k <= w1.heap.size) (⟨3, t1, ⟨#[]⟩, t2, ⟨⟨vk, vn, vt, vs⟩, A4, c4⟩, [], none, 0, [], none, 0, 0⟩ : MOp) from ⟨⟨hrdz, hav5, hcap4, by simp only; omega⟩, (fun v hv => by simp at hv), Rd.none_, (fun h => absurd h (by simp)), (Nat.le_refl _), Rd.none_, (fun h => absurd h (by simp)), by refine ⟨?_, ?_, ?_, ?_, ?_⟩ <;> first | exact jg | exact Nat.zero_le _ | (simp only []; omega) | omega⟩)
  have HT2 := jJ0 (show MOp.data (⟨3, t1, ⟨#[]⟩, t2, ⟨⟨vk, vn, vt, vs⟩, A4, c4⟩, [], none, 0, [], none, 0, 0⟩ : MOp) = TV.1 by rw [HT.out]; exact HD.out)
  have hTs : TV.2 = sz := by rw [HT.out]; exact HS.out
  have HTs := jJ0 hTs
  clear hTs
  go_wp2
  have hbz := Hbz.out
  have hks := Hks.out
  refine ret_cell (g := w.heap.size) (cs := #[.int .i64 3, .string t1, .string ⟨#[]⟩, .string t2, .int .i64 vk, .int .i64 vn, .string vt, .slice A4 vs.length c4, .slice none 0 0, .slice none 0 0, .int .i64 0]) rfl rfl hbz Tryz.underlying32 rfl (by kernel_rfl) rfl ?_
  refine ⟨(⟨3, t1, ⟨#[]⟩, t2, ⟨⟨vk, vn, vt, vs⟩, A4, c4⟩, [], none, 0, [], none, 0, 0⟩ : MOp), HT2.out, rfl, ?_, ?_, ?_⟩
  · exact (Hok.out.sub hks (fun k e => by omega)).weak (fun k e => by omega)
  · rw [HTs.out]; exact hrs9.kp hks (fun k hk e => by omega)
  · exact hkk9.trans hks (fun b hb e => by omega)
theorem Tryz.info25 : (Tryz.prog.info? 29).map (fun i => (i.zero, i.size, i.bytes)) = some (some (.agg #[.int .i64 0, .int .i64 0, .string ⟨#[]⟩, .slice none 0 0]), 4, 56) := by kernel_rfl
structure AskLoop (w w1 : World) (g : Nat) (bs : List UInt8) (t1 t2 : ByteArray) (wr : World) (k : Nat) (ms : List MVal) (A : Option Addr) (c : Nat) (sr : Rs) : Prop where
  len : ms.length = k
  own : wr.ownsRow (w1.heap.size + 1) 29 4 (.slice A k c) k (ms.flatMap MVal.cells)
  vals : ∀ v ∈ ms, MVal.Ok wr (fun b => b <= w1.heap.size \/ A.map (·.block) = some b) v
  boxO : Blk wr w1.heap.size 32 #[.int .i64 4, .string t1, .string ⟨#[]⟩, .string t2, .int .i64 0, .int .i64 0, .string ⟨#[]⟩, .slice none 0 0, .slice A k c, .slice none 0 0, .int .i64 0]
  boxR : Blk wr w.heap.size 32 #[.int .i64 0, .string ⟨#[]⟩, .string ⟨#[]⟩, .string ⟨#[]⟩, .int .i64 0, .int .i64 0, .string ⟨#[]⟩, .slice none 0 0, .slice none 0 0, .slice none 0 0, .int .i64 0]
  rr : Rr wr g bs sr
  kp : Kp (RX g) w wr
  lt : w1.heap.size + 1 <= wr.heap.size
section
variable {w w1 : World} {g : Nat} {bs : List UInt8} {t1 t2 : ByteArray} {wr : World} {k : Nat} {ms : List MVal} {A : Option Addr} {c : Nat} {sr : Rs}
theorem ja {w : World} {base : Nat} {e : TypeId} {size : Nat} {A : Option Addr} {n c : Nat} {xs : List Value} (h : w.ownsRow base e size (.slice A n c) n xs) {b : Nat} (e : A.map (·.block) = some b) : base <= b /\ b < w.heap.size := by
  rcases h.2 with ⟨e', _⟩ | ⟨g', cap, cur, e', hge, hg, _⟩
  · injection e' with e1; subst e1; cases e
  · injection e' with e1; subst e1; injection e with e; subst e; exact ⟨hge, (Array.getElem?_eq_some_iff.1 hg).1⟩
theorem AskLoop.step {w5 : World} {sz : Rs} (h : AskLoop w w1 g bs t1 t2 wr k ms A c sr) (hgl : g < w.heap.size) (hw1 : w.heap.size < w1.heap.size) (hr : Rr w5 g bs sz) (hk : Kp (RX g) wr w5) : AskLoop w w1 g bs t1 t2 w5 k ms A c sz :=
  ⟨h.len, vr h.own hk (fun b e e' => by
    have := (ja h.own (b := b) (by rw [<- e, jH])).1
    have : b = g := e'
    omega), fun v hv => (h.vals v hv).sub hk (fun b e => .inl (by have : b = g := e; omega)), h.boxO.kp hk (fun e => by have : w1.heap.size = g := e; omega), h.boxR.kp hk (fun e => by have : w.heap.size = g := e; omega), hr, h.kp.trans hk (fun _ _ e => e), Nat.le_trans h.lt hk.size⟩
theorem AskLoop.old {w5 : World} (h : AskLoop w w1 g bs t1 t2 wr k ms A c sr) (hgl : g < w.heap.size) (hw1 : w.heap.size < w1.heap.size) (hk : Old wr w5) : AskLoop w w1 g bs t1 t2 w5 k ms A c sr :=
  h.step hgl hw1 (h.rr.old hk) (hk.mono (fun _ _ f => f.elim))
theorem AskLoop.put {w7 : World} {v : MVal} {A' : Option Addr} {c' : Nat} (h : AskLoop w w1 g bs t1 t2 wr k ms A c sr) (hgl : g < w.heap.size) (hw1 : w.heap.size < w1.heap.size)
    (hv : MVal.Ok wr (fun b => b <= w1.heap.size \/ A.map (·.block) = some b) v) (hown : w7.ownsRow (w1.heap.size + 1) 29 4 (.slice A' (k + 1) c') (k + 1) (ms.flatMap MVal.cells ++ v.cells))
    (hg : wr.grownBy w7 (Value.slice A k c).ownBlock) (ha : A'.map (·.block) = (Value.slice A k c).ownBlock \/ A'.map (·.block) = some wr.heap.size) :
    AskLoop w w1 g bs t1 t2 (w7.setCell ⟨w1.heap.size, 8, none⟩ (.slice A' (k + 1) c')) (k + 1) (ms ++ [v]) A' c' sr := by
  rw [jH] at hg ha
  have hkp : Kp (fun b => A.map (·.block) = some b) wr w7 := (Kp.refl _ wr).grown hg (fun b e _ => e)
  have hkz := hkp.mono (Y := fun b => b <= w1.heap.size \/ A.map (·.block) = some b) (fun b _ e => .inr e)
  have hkz2 := hkz.setCell (p := ⟨w1.heap.size, 8, none⟩) (fun _ => .inl (Nat.le_refl _)) (.slice A' (k + 1) c')
  have hok : ∀ u, MVal.Ok wr (fun b => b <= w1.heap.size \/ A.map (·.block) = some b) u -> MVal.Ok (w7.setCell ⟨w1.heap.size, 8, none⟩ (.slice A' (k + 1) c')) (fun b => b <= w1.heap.size \/ A'.map (·.block) = some b) u := by
    intro u hu
    have h1 := hu.sub hkz2 (fun _ e => e)
    refine ⟨h1.rd, fun hn ad e hx => ?_, h1.cap, h1.big⟩
    have h2 := hu.av hn ad e
    have h3 := hu.rd.lt (by decide) hn e
    rcases hx with hx | hx
    · exact h2 (.inl hx)
    · rcases ha with ha | ha
      · exact h2 (.inr (ha ▸ hx))
      · rw [ha] at hx; injection hx with hx; omega
  refine ⟨by simp [h.len], ?_, ?_, ?_, ?_, ?_, ?_, ?_⟩
  · rw [List.flatMap_append, List.flatMap_singleton]
    exact vr hown ((Kp.refl (fun b => b = w1.heap.size) w7).setCell (p := ⟨w1.heap.size, 8, none⟩) (fun _ => rfl) _) (fun b e e' => by
      have := (ja hown (b := b) (by rw [<- e, jH])).1
      omega)
  · intro u hu
    rcases List.mem_append.1 hu with hu | hu
    · exact hok u (h.vals u hu)
    · rw [List.mem_singleton.1 hu]; exact hok v hv
  · exact (h.boxO.kp hkp (fun e => by have := (ja h.own e).1; omega)).set_ 8 _
  · exact (h.boxR.kp hkp (fun e => by have := (ja h.own e).1; omega)).far (by simp only; omega) _
  · exact (h.rr.kp hkp (fun b hb e => by have := (ja h.own e).1; omega)).set (p := ⟨w1.heap.size, 8, none⟩) (by simp only; omega) _
  · exact (h.kp.trans hkp (fun b hb e => by have := (ja h.own e).1; omega)).setCell (fun hb => absurd hb (by simp only; omega)) _
  · have := hg.size
    have := h.lt
    simp only [World.size_setCell]
    omega
theorem four_value (a b c d : Value) (ha : a.oneCell' = true) (hb : b.oneCell' = true) (hc : c.oneCell' = true) (hd : d.oneCell' = true) : ∀ u ∈ [a, b, c, d], u.oneCell' = true := by
  intro u hu
  simp only [List.mem_cons, List.not_mem_nil, or_false] at hu
  rcases hu with rfl | rfl | rfl | rfl <;> assumption
theorem Rd.four_new (w : World) (t : TypeId) (a b c d : Value) : Rd (w.alloc (.cells #[a, b, c, d] t)) 4 (some ⟨w.heap.size, 0, none⟩) 1 [a, b, c, d] := by
  have h := Rd.arr_new w t [a, b, c, d]
  exact ⟨rfl, fun _ => h.2 (by simp)⟩
end
theorem asked_4 (w : World) (g : Nat) (bs : List UInt8) (s : Rs) (h : Rr w g bs s) (hk : (tkN bs 1 s).1 = 4) :
    Calls Tryz.prog 41 #[.pointer (some ⟨g, 0, none⟩)] w (TookO w g bs (jv bs s)) := by
  have HT := jJ0 (show jv bs s = opN bs 4 (tkN bs 1 s).2 by rw [jv, hk])
  generalize jv bs s = TV at HT ⊢
  have hgl := h.lt
  have hbl := h.fits.2
  have Hk := jJ0 hk
  clear hk
  go_enter Tryz.func41, Tryz.ntmps41
  go_wp2_with fail
  refine (jQ _ g bs s (h.old ((Kp.refl NoX w).alloc _))).mono ?_
  rintro e w1 ⟨rfl, hr1, hk1⟩
  rw [Hk.out]
  have hbR0 := (Blk.new w 32 #[.int .i64 0, .string ⟨#[]⟩, .string ⟨#[]⟩, .string ⟨#[]⟩, .int .i64 0, .int .i64 0, .string ⟨#[]⟩, .slice none 0 0, .slice none 0 0, .slice none 0 0, .int .i64 0]).kp hk1 (show ¬ RX g w.heap.size from fun e => by have : w.heap.size = g := e; omega)
  have hkk0 : Kp (RX g) w w1 := ((Kp.refl (RX g) w).alloc _).trans hk1 (fun _ _ h => h)
  generalize (tkN bs 1 s).2 = s1 at *
  clear hk1
  have hbO := Blk.new w1 32 #[.int .i64 4, .string ⟨#[]⟩, .string ⟨#[]⟩, .string ⟨#[]⟩, .int .i64 0, .int .i64 0, .string ⟨#[]⟩, .slice none 0 0, .slice none 0 0, .slice none 0 0, .int .i64 0]
  have hr := hr1.old ((Kp.refl NoX w1).alloc (.cells #[.int .i64 4, .string ⟨#[]⟩, .string ⟨#[]⟩, .string ⟨#[]⟩, .int .i64 0, .int .i64 0, .string ⟨#[]⟩, .slice none 0 0, .slice none 0 0, .slice none 0 0, .int .i64 0] 32))
  have hbR := hbR0.alloc (.cells #[.int .i64 4, .string ⟨#[]⟩, .string ⟨#[]⟩, .string ⟨#[]⟩, .int .i64 0, .int .i64 0, .string ⟨#[]⟩, .slice none 0 0, .slice none 0 0, .slice none 0 0, .int .i64 0] 32)
  have hkk := hkk0.alloc (.cells #[.int .i64 4, .string ⟨#[]⟩, .string ⟨#[]⟩, .string ⟨#[]⟩, .int .i64 0, .int .i64 0, .string ⟨#[]⟩, .slice none 0 0, .slice none 0 0, .slice none 0 0, .int .i64 0] 32)
  have hw1 := hkk0.size
  have hRlt : w.heap.size < w1.heap.size := hbR0.lt
  have hgO : ¬ RX g w1.heap.size := fun e => by have : w1.heap.size = g := e; omega
  have hgR : ¬ RX g w.heap.size := fun e => by have : w.heap.size = g := e; omega
  have HD := jJ0 (show (opN bs 4 s1).1 = { kI with op := 4, case_ := (jI bs s1).1, name := (jI bs (jI bs s1).2).1, args := (kb bs (tkN bs 1 (jI bs (jI bs s1).2).2).1 (tkN bs 1 (jI bs (jI bs s1).2).2).2 []).1 } by rw [opN, if_neg (by simp), if_neg (by simp), if_neg (by simp), if_pos rfl])
  have HS := jJ0 (show (opN bs 4 s1).2 = (kb bs (tkN bs 1 (jI bs (jI bs s1).2).2).1 (tkN bs 1 (jI bs (jI bs s1).2).2).2 []).2 by rw [opN, if_neg (by simp), if_neg (by simp), if_neg (by simp), if_pos rfl])
  have hs1 := kC bs s1
  have hs2 := kC bs (jI bs s1).2
  have hs3 := kE bs 1 (jI bs (jI bs s1).2).2
  rw [Nat.pow_one] at hs3
  obtain ⟨i0, hi, hz0, hz1, hz2⟩ := info_parts Tryz.info25
  go_wp2_with fail
  refine (kc _ g bs s1 hr).mono ?_
  rintro e w2 ⟨rfl, hr2, hk2⟩
  have hbO1 := hbO.kp hk2 hgO
  have hbR1 := hbR.kp hk2 hgR
  have hkk1 : Kp (RX g) w w2 := hkk.trans hk2 (fun _ _ h => h)
  have hsz1 := hk2.size
  clear hbO hbR hkk hr hk2
  have u1_0 := hbO1.at_ 0 rfl
  have u1_1 := hbO1.at_ 1 rfl
  have u1_2 := hbO1.at_ 2 rfl
  have u1_3 := hbO1.at_ 3 rfl
  have u1_4 := hbO1.at_ 4 rfl
  have u1_5 := hbO1.at_ 5 rfl
  have u1_6 := hbO1.at_ 6 rfl
  have u1_7 := hbO1.at_ 7 rfl
  have u1_8 := hbO1.at_ 8 rfl
  have u1_9 := hbO1.at_ 9 rfl
  have u1_10 := hbO1.at_ 10 rfl
  have z1_0 := hbO1.frozen 0
  have z1_1 := hbO1.frozen 1
  have z1_2 := hbO1.frozen 2
  have z1_3 := hbO1.frozen 3
  have z1_4 := hbO1.frozen 4
  have z1_5 := hbO1.frozen 5
  have z1_6 := hbO1.frozen 6
  have z1_7 := hbO1.frozen 7
  have z1_8 := hbO1.frozen 8
  have z1_9 := hbO1.frozen 9
  have z1_10 := hbO1.frozen 10
  clear u1_0 u1_1 u1_2 u1_3 u1_4 u1_5 u1_6 u1_7 u1_8 u1_9 u1_10 z1_0 z1_1 z1_2 z1_3 z1_4 z1_5 z1_6 z1_7 z1_8 z1_9 z1_10
  go_wp2_with fail
  refine (kc _ g bs _ hr2).mono ?_
  rintro e w3 ⟨rfl, hr3, hk3⟩
  have hbO2 := hbO1.kp hk3 hgO
  have hbR2 := hbR1.kp hk3 hgR
  have hkk2 : Kp (RX g) w w3 := hkk1.trans hk3 (fun _ _ h => h)
  have hsz2 := hk3.size
  clear hbO1 hbR1 hkk1 hr2 hk3
  have u2_0 := hbO2.at_ 0 rfl
  have u2_1 := hbO2.at_ 1 rfl
  have u2_2 := hbO2.at_ 2 rfl
  have u2_3 := hbO2.at_ 3 rfl
  have u2_4 := hbO2.at_ 4 rfl
  have u2_5 := hbO2.at_ 5 rfl
  have u2_6 := hbO2.at_ 6 rfl
  have u2_7 := hbO2.at_ 7 rfl
  have u2_8 := hbO2.at_ 8 rfl
  have u2_9 := hbO2.at_ 9 rfl
  have u2_10 := hbO2.at_ 10 rfl
  have z2_0 := hbO2.frozen 0
  have z2_1 := hbO2.frozen 1
  have z2_2 := hbO2.frozen 2
  have z2_3 := hbO2.frozen 3
  have z2_4 := hbO2.frozen 4
  have z2_5 := hbO2.frozen 5
  have z2_6 := hbO2.frozen 6
  have z2_7 := hbO2.frozen 7
  have z2_8 := hbO2.frozen 8
  have z2_9 := hbO2.frozen 9
  have z2_10 := hbO2.frozen 10
  generalize (jI bs (jI bs s1).2).2 = s2 at *
  generalize (jI bs (jI bs s1).2).1 = t2 at *
  generalize (jI bs s1).1 = t1 at *
  have hbO3 := hbO2.set_ 1 (.string t1)
  have hbR3 := hbR2.far (p := ⟨w1.heap.size, 1, none⟩) (by simp only; omega) (.string t1)
  have hkk3 := hkk2.setCell (p := ⟨w1.heap.size, 1, none⟩) (fun h => absurd (Nat.lt_of_lt_of_le h hw1) (Nat.lt_irrefl _)) (.string t1)
  have hrs3 := hr3.set (p := ⟨w1.heap.size, 1, none⟩) (by simp only; omega) (.string t1)
  clear hbO2 hbR2 hkk2 hr3
  have hbO4 := hbO3.set_ 3 (.string t2)
  have hbR4 := hbR3.far (p := ⟨w1.heap.size, 3, none⟩) (by simp only; omega) (.string t2)
  have hkk4 := hkk3.setCell (p := ⟨w1.heap.size, 3, none⟩) (fun h => absurd (Nat.lt_of_lt_of_le h hw1) (Nat.lt_irrefl _)) (.string t2)
  have hrs4 := hrs3.set (p := ⟨w1.heap.size, 3, none⟩) (by simp only; omega) (.string t2)
  clear hbO3 hbR3 hkk3 hrs3
  go_wp2_with fail
  refine (jQ _ g bs _ hrs4).mono ?_
  rintro e w4 ⟨rfl, hr4, hk4⟩
  have hbO5 := hbO4.kp hk4 hgO
  have hbR5 := hbR4.kp hk4 hgR
  have hkk5 : Kp (RX g) w w4 := hkk4.trans hk4 (fun _ _ h => h)
  have hsz5 := hk4.size
  clear hbO4 hbR4 hkk4 hrs4 hk4
  have u5_0 := hbO5.at_ 0 rfl
  have u5_1 := hbO5.at_ 1 rfl
  have u5_2 := hbO5.at_ 2 rfl
  have u5_3 := hbO5.at_ 3 rfl
  have u5_4 := hbO5.at_ 4 rfl
  have u5_5 := hbO5.at_ 5 rfl
  have u5_6 := hbO5.at_ 6 rfl
  have u5_7 := hbO5.at_ 7 rfl
  have u5_8 := hbO5.at_ 8 rfl
  have u5_9 := hbO5.at_ 9 rfl
  have u5_10 := hbO5.at_ 10 rfl
  have z5_0 := hbO5.frozen 0
  have z5_1 := hbO5.frozen 1
  have z5_2 := hbO5.frozen 2
  have z5_3 := hbO5.frozen 3
  have z5_4 := hbO5.frozen 4
  have z5_5 := hbO5.frozen 5
  have z5_6 := hbO5.frozen 6
  have z5_7 := hbO5.frozen 7
  have z5_8 := hbO5.frozen 8
  have z5_9 := hbO5.frozen 9
  have z5_10 := hbO5.frozen 10
  clear u5_0 u5_1 u5_2 u5_3 u5_4 u5_5 u5_6 u5_7 u5_8 u5_9 u5_10 z5_0 z5_1 z5_2 z5_3 z5_4 z5_5 z5_6 z5_7 z5_8 z5_9 z5_10
  generalize (tkN bs 1 s2).2 = s3 at *
  generalize (tkN bs 1 s2).1 = n at *
  have h14 : w1.heap.size + 1 <= w4.heap.size := hbO5.lt
  clear hw1
  have hw1 := hkk0.size
  clear hsz1 hsz2 hsz5 hbR0 hkk0 hr1
  go_wp2_with fail
  go_loopw [52] (fun i wr => ∃ (k : Nat) (ms : List MVal) (A : Option Addr) (c : Nat) (sr : Rs), k <= n /\ i = .int .u8 k /\ AskLoop w w1 g bs t1 t2 wr k ms A c sr /\ kb bs n s3 [] = kb bs (n - k) sr (ms.map MVal.v)) (fun i _ => n - (intOf i).toNat)
  case atStart => exact ⟨0, [], none, 0, s3, by omega, rfl, ⟨rfl, World.ownsRow_nil _ _ _ _, fun v hv => by simp at hv, hbO5, hbR5, hr4, hkk5, h14⟩, rfl⟩
  case round =>
    obtain ⟨k, ms, A, c, sr, hk, rfl, hL, hgo⟩ := hrel
    by_cases hlt : k < n
    · obtain ⟨m, hm⟩ : ∃ m, n - k = m + 1 := ⟨n - k - 1, by omega⟩
      rw [hm, kb] at hgo
      have hgo' := jJ0 hgo
      have HL := jJ0 hL
      have Hm := jJ0 hm
      clear hgo hm
      have hk8 : IntKind.u8.wrap ((k : Int) + 1) = (k : Int) + 1 := IntWalk.u8_in _ (by omega)
      go_wp2_with fail
      refine (takev_any wr g bs sr hL.rr).mono ?_
      rintro e w5 ⟨A5, c5, he5, hrd5, hav5, hcap5, hr5, hk5⟩
      have hlen := takeVal_len bs sr
      generalize jN bs sr = tv at *
      obtain ⟨⟨vk, vn, vt, vs⟩, sz⟩ := tv
      simp only [vV] at he5
      subst he5
      simp only at *
      have hL5 := hL.step hgl hRlt hr5 hk5
      have hv5 : MVal.Ok w5 (fun b => b <= w1.heap.size \/ A.map (·.block) = some b) ⟨⟨vk, vn, vt, vs⟩, A5, c5⟩ := ⟨hrd5, fun hn ad e hx => hav5 hn ad e (by
        rcases hx with hx | hx
        · have := hL.lt; omega
        · exact (ja hL.own hx).2), hcap5, by simp only; omega⟩
      clear hrd5 hav5 hcap5 hr5 hk5 hL HL
      go_upto_region 16 with (fail)
      have hL6 := hL5.old hgl hRlt ((Kp.refl NoX w5).alloc (.cells #[.int .i64 vk, .int .i64 vn, .string vt, .slice A5 vs.length c5] 29))
      have hv6 := hv5.old ((Kp.refl NoX w5).alloc (.cells #[.int .i64 vk, .int .i64 vn, .string vt, .slice A5 vs.length c5] 29))
      have hbV := Blk.new w5 29 #[.int .i64 vk, .int .i64 vn, .string vt, .slice A5 vs.length c5]
      have h15 := hL5.lt
      generalize w5.alloc (.cells #[.int .i64 vk, .int .i64 vn, .string vt, .slice A5 vs.length c5] 29) = w6 at *
      generalize w5.heap.size = bV at *
      clear hL5 hv5
      have d8 := hL6.boxO.at_ 8 rfl
      have e0 := hbV.at_ 0 rfl
      have e1 := hbV.at_ 1 rfl
      have e2 := hbV.at_ 2 rfl
      have e3 := hbV.at_ 3 rfl
      simp only [List.getElem_toArray, List.getElem_cons_succ, List.getElem_cons_zero] at d8 e0 e1 e2 e3
      have H63 := jJ0 (show k + 1 <= maxLen by unfold maxLen; omega)
      have H47 := jJ0 (show (k + 1) * 56 <= 140737488355328 by omega)
      have hneA : some w1.heap.size ≠ (Value.slice A k c).ownBlock := fun e => by rw [jH] at e; have := (ja hL6.own e.symm).1; omega
      have z8 := hL6.boxO.frozen 8
      have hlt1 := hL6.boxO.lt
      have hle6 := hL6.lt
      have HL6 := jJ0 hL6
      have HV6 := jJ0 hv6
      clear hL6 hv6 hbV
      go_wp2_with (at_builtin; refine jO _ rfl (.tmp 60) (.tmp 62) 30 rfl (w1.heap.size + 1) 29 i0 (.agg #[.int .i64 0, .int .i64 0, .string ⟨#[]⟩, .slice none 0 0]) 4 56 Tryz.underlying30 hi hz0 hz1 hz2 rfl (by decide) (.slice A k c) k _ rfl (HL6.out.own.alloc _) (some ⟨w6.heap.size, 0, none⟩) 1 1 _ rfl (Rd.four_new _ _ _ _ _ _) (four_value _ _ _ _ rfl rfl rfl rfl) H63.out H47.out (by simp; omega) ?_; intro A' c' w7 hown hgrow hat; have hc1 := hgrow.cell (a := ⟨w1.heap.size, 8, none⟩) (v := .slice A k c) (by simp [d8, World.cell?_alloc_lt, hlt1]) hneA; have hz1 : w7.frozen? ⟨w1.heap.size, 8, none⟩ = false := (World.frozen?_of_block (hgrow.block w1.heap.size (by simp; omega) hneA)).trans (by simp [z8, World.frozen?_alloc_past, hlt1]))
      have hput := jJ0 (AskLoop.put (HL6.out.old hgl hRlt ((Kp.refl NoX w6).alloc (.cells #[.int .i64 vk, .int .i64 vn, .string vt, .slice A5 vs.length c5] 29))) hgl hRlt (HV6.out.old ((Kp.refl NoX w6).alloc (.cells #[.int .i64 vk, .int .i64 vn, .string vt, .slice A5 vs.length c5] 29))) hown hgrow hat)
      clear hown hgrow hat HL6 HV6 e0 e1 e2 e3 d8 z8
      go_wp2
      go_roundw
      case rel => exact ⟨k + 1, _, _, _, _, by omega, rfl, hput.out, by rw [hgo'.out, List.map_append, show n - (k + 1) = m by have := Hm.out; omega]; rfl⟩
      case measure => simp [intOf]; omega
    · have hkn : k = n := by omega
      subst hkn
      rw [Nat.sub_self, kb] at hgo
      obtain rfl : ms.length = k := hL.len
      have HD := jJ0 (show MOp.data (⟨4, t1, ⟨#[]⟩, t2, ⟨⟨0, 0, ⟨#[]⟩, []⟩, none, 0⟩, ms, A, c, [], none, 0, 0⟩ : MOp) = (opN bs 4 s1).1 by rw [HD.out, hgo]; rfl)
      have HS := jJ0 (show (opN bs 4 s1).2 = sr by rw [HS.out, hgo])
      have hbO := hL.boxO
      have hbR := hL.boxR
      have hr := hL.rr
      have hkk := hL.kp
      have Hok0 := jJ0 (show MOp.Ok wr (fun k => k <= w1.heap.size) (⟨4, t1, ⟨#[]⟩, t2, ⟨⟨0, 0, ⟨#[]⟩, []⟩, none, 0⟩, ms, A, c, [], none, 0, 0⟩ : MOp) from ⟨zeroM_ok _ _ _ rfl, (fun v hv => (hL.vals v hv).weak (fun _ e => .inl e)), (Rd.of_own hL.own), (fun _ ad e hx => by have := (ja hL.own (b := ad.block) (by rw [show A = some ad from e]; rfl)).1; omega), (own_cap hL.own), Rd.none_, (fun h => absurd h (by simp)), by refine ⟨?_, ?_, ?_, ?_, ?_⟩ <;> first | exact jg | exact Nat.zero_le _ | (simp only []; omega) | omega⟩)
      generalize wr = wz at *
      generalize sr = sz at *
      clear hL hgo
      go_upto_region 20 with (fail)
      have u0 := hbO.at_ 0 rfl
      have u1 := hbO.at_ 1 rfl
      have u2 := hbO.at_ 2 rfl
      have u3 := hbO.at_ 3 rfl
      have u4 := hbO.at_ 4 rfl
      have u5 := hbO.at_ 5 rfl
      have u6 := hbO.at_ 6 rfl
      have u7 := hbO.at_ 7 rfl
      have u8 := hbO.at_ 8 rfl
      have u9 := hbO.at_ 9 rfl
      have u10 := hbO.at_ 10 rfl
      have v0 := hbR.at_ 0 rfl
      have v1 := hbR.at_ 1 rfl
      have v2 := hbR.at_ 2 rfl
      have v3 := hbR.at_ 3 rfl
      have v4 := hbR.at_ 4 rfl
      have v5 := hbR.at_ 5 rfl
      have v6 := hbR.at_ 6 rfl
      have v7 := hbR.at_ 7 rfl
      have v8 := hbR.at_ 8 rfl
      have v9 := hbR.at_ 9 rfl
      have v10 := hbR.at_ 10 rfl
      have y0 := hbR.frozen 0
      have y1 := hbR.frozen 1
      have y2 := hbR.frozen 2
      have y3 := hbR.frozen 3
      have y4 := hbR.frozen 4
      have y5 := hbR.frozen 5
      have y6 := hbR.frozen 6
      have y7 := hbR.frozen 7
      have y8 := hbR.frozen 8
      have y9 := hbR.frozen 9
      have y10 := hbR.frozen 10
      have hne : w.heap.size ≠ w1.heap.size := by omega
      have Hks := jJ0 (Kp.setL w.heap.size [.int .i64 4, .string t1, .string ⟨#[]⟩, .string t2, .int .i64 0, .int .i64 0, .string ⟨#[]⟩, .slice none 0 0, .slice A ms.length c, .slice none 0 0, .int .i64 0] wz 0)
      have Hbz := jJ0 (Blk.setAll (cs := [.int .i64 0, .string ⟨#[]⟩, .string ⟨#[]⟩, .string ⟨#[]⟩, .int .i64 0, .int .i64 0, .string ⟨#[]⟩, .slice none 0 0, .slice none 0 0, .slice none 0 0, .int .i64 0]) hbR [.int .i64 4, .string t1, .string ⟨#[]⟩, .string t2, .int .i64 0, .int .i64 0, .string ⟨#[]⟩, .slice none 0 0, .slice A ms.length c, .slice none 0 0, .int .i64 0] rfl)
      have Hok := jJ0 (show MOp.Ok wz (fun k => k <= w1.heap.size) (⟨4, t1, ⟨#[]⟩, t2, ⟨⟨0, 0, ⟨#[]⟩, []⟩, none, 0⟩, ms, A, c, [], none, 0, 0⟩ : MOp) from Hok0.out)
      have HT2 := jJ0 (show MOp.data (⟨4, t1, ⟨#[]⟩, t2, ⟨⟨0, 0, ⟨#[]⟩, []⟩, none, 0⟩, ms, A, c, [], none, 0, 0⟩ : MOp) = TV.1 by rw [HT.out]; exact HD.out)
      have hTs : TV.2 = sz := by rw [HT.out]; exact HS.out
      have HTs := jJ0 hTs
      clear hTs
      go_wp2
      have hbz := Hbz.out
      have hks := Hks.out
      refine ret_cell (g := w.heap.size) (cs := #[.int .i64 4, .string t1, .string ⟨#[]⟩, .string t2, .int .i64 0, .int .i64 0, .string ⟨#[]⟩, .slice none 0 0, .slice A ms.length c, .slice none 0 0, .int .i64 0]) rfl rfl hbz Tryz.underlying32 rfl (by kernel_rfl) rfl ?_
      refine ⟨(⟨4, t1, ⟨#[]⟩, t2, ⟨⟨0, 0, ⟨#[]⟩, []⟩, none, 0⟩, ms, A, c, [], none, 0, 0⟩ : MOp), HT2.out, rfl, ?_, ?_, ?_⟩
      · exact (Hok.out.sub hks (fun k e => by omega)).weak (fun k e => by omega)
      · rw [HTs.out]; exact hr.kp hks (fun k hk e => by omega)
      · exact hkk.trans hks (fun b hb e => by omega)
theorem asked_any (w : World) (g : Nat) (bs : List UInt8) (s : Rs) (h : Rr w g bs s) :
    Calls Tryz.prog 41 #[.pointer (some ⟨g, 0, none⟩)] w (TookO w g bs (jv bs s)) := by
  have hk : (tkN bs 1 s).1 = 1 \/ (tkN bs 1 s).1 = 2 \/ (tkN bs 1 s).1 = 3 \/ (tkN bs 1 s).1 = 4 \/ (tkN bs 1 s).1 = 5 \/ ((tkN bs 1 s).1 < 1 \/ 5 < (tkN bs 1 s).1) := by omega
  rcases hk with hk | hk | hk | hk | hk | hk
  · exact asked_1 w g bs s h hk
  · exact asked_2 w g bs s h hk
  · exact asked_3 w g bs s h hk
  · exact asked_4 w g bs s h hk
  · exact asked_5 w g bs s h hk
  · exact asked_far w g bs s h _ rfl hk
def ju : Req := ⟨0, kI, ⟨#[]⟩, 0, 0, 0, 0, 0⟩
def decN (bs : List UInt8) (k : Nat) (s : Rs) : Req × Bool × Rs :=
  if k = 1 \/ k = 2 then ({ ju with op := k, do_ := (jv bs s).1 }, decide (1 <= (jv bs s).1.op /\ (jv bs s).1.op <= 5), (jv bs s).2)
  else if k = 3 then ({ ju with op := k, name := (jI bs s).1 }, true, (jI bs s).2)
  else if k = 4 then ({ ju with op := k, number := (numN bs s).1 }, true, (numN bs s).2)
  else if k = 8 then ({ ju with op := k, number := (numN bs s).1, size := (numN bs (numN bs s).2).1 }, true, (numN bs (numN bs s).2).2)
  else if k = 9 then ({ ju with op := k, from_ := (numN bs s).1, to_ := (numN bs (numN bs s).2).1 }, true, (numN bs (numN bs s).2).2)
  else if k = 10 then ({ ju with op := k, name := (jI bs s).1, size := (numN bs (jI bs s).2).1 }, true, (numN bs (jI bs s).2).2)
  else if k = 11 then ({ ju with op := k, name := (jI bs s).1, size := (numN bs (jI bs s).2).1, first := (numN bs (numN bs (jI bs s).2).2).1 }, true, (numN bs (numN bs (jI bs s).2).2).2)
  else ({ ju with op := k }, decide (1 <= k /\ k <= 12), s)
def jc (bs : List UInt8) (d : Req × Bool × Rs) : Option Req := if d.2.1 = true /\ jo bs d.2.2 = 0 then some d.1 else none
def jS (bs : List UInt8) : Option Req := if 1048576 < bs.length then none else jc bs (decN bs (tkN bs 1 ⟨0, 0⟩).1 (tkN bs 1 ⟨0, 0⟩).2)
def zeroReqC : List Value := [.int .i64 0, .int .i64 0, .string ⟨#[]⟩, .string ⟨#[]⟩, .string ⟨#[]⟩, .int .i64 0, .int .i64 0, .string ⟨#[]⟩, .slice none 0 0, .slice none 0 0, .slice none 0 0, .int .i64 0, .string ⟨#[]⟩, .int .i64 0, .int .i64 0, .int .i64 0, .int .i64 0, .int .i64 0]
def DecPost (w : World) (d : Option Req) (e : Ending) (w' : World) : Prop :=
  (∃ m : MReq, d = some m.data /\ e = .returned (.tuple #[.agg m.cells.toArray, .int .i64 0]) /\ m.do_.Ok w' (fun k => k < w.heap.size) /\ m.name.size <= 2147483647 /\ Old w w') \/
  (d = none /\ e = .returned (.tuple #[.agg zeroReqC.toArray, .int .i64 240]) /\ Old w w')
structure DecSt (w : World) (R g Q : Nat) (bs : List UInt8) (cs : List Value) (s : Rs) (W : World) : Prop where
  boxQ : Blk W Q 34 cs.toArray
  boxR : Blk W R 34 zeroReqC.toArray
  rr : Rr W g bs s
  old : Old w W
  le : w.heap.size <= R
  lt : R < g
  gt : g < Q
section
variable {w : World} {R g Q : Nat} {bs : List UInt8} {cs : List Value} {s s' : Rs} {W W' : World}
theorem DecSt.step (h : DecSt w R g Q bs cs s W) (hr : Rr W' g bs s') (hk : Kp (RX g) W W') : DecSt w R g Q bs cs s' W' :=
  ⟨h.boxQ.kp hk (fun e => by have : Q = g := e; have := h.gt; omega), h.boxR.kp hk (fun e => by have : R = g := e; have := h.lt; omega), hr,
    h.old.trans hk (fun b hb e => by have : b = g := e; have := h.le; have := h.lt; omega), h.le, h.lt, h.gt⟩
theorem DecSt.still (h : DecSt w R g Q bs cs s W) (hk : Old W W') : DecSt w R g Q bs cs s W' :=
  ⟨h.boxQ.old hk, h.boxR.old hk, h.rr.old hk, h.old.old hk, h.le, h.lt, h.gt⟩
theorem DecSt.put (h : DecSt w R g Q bs cs s W) (hk : Kp (fun k => k = Q) W W') {cs' : List Value} (hb : Blk W' Q 34 cs'.toArray) : DecSt w R g Q bs cs' s W' :=
  ⟨hb, h.boxR.kp hk (fun e => by have := h.lt; have := h.gt; omega), h.rr.kp hk (fun b hb e => by have := h.gt; omega),
    h.old.trans hk (fun b hb e => by have := h.le; have := h.lt; have := h.gt; omega), h.le, h.lt, h.gt⟩
theorem DecSt.set (h : DecSt w R g Q bs cs s W) (i : Nat) (v : Value) : DecSt w R g Q bs (cs.set i v) s (W.setCell ⟨Q, i, none⟩ v) :=
  h.put ((Kp.refl (fun k => k = Q) W).setCell (p := ⟨Q, i, none⟩) (fun _ => rfl) v) (by rw [<- List.setIfInBounds_toArray]; exact h.boxQ.set_ i v)
theorem DecSt.told (h : DecSt w R g Q bs cs s W) (vs : List Value) (hl : 18 = vs.length) : Blk (W.setCells R 0 vs) R 34 vs.toArray /\ Old w (W.setCells R 0 vs) /\ Kp (fun k => k = R) W (W.setCells R 0 vs) :=
  ⟨h.boxR.setWhole vs hl, h.old.trans (Kp.setCells R 0 vs W) (fun b hb e => by have := h.le; omega), Kp.setCells R 0 vs W⟩
end
theorem Tryz.sizeRequest : (Tryz.prog.info? 34).map (·.size) = some 18 := by kernel_rfl
theorem Tryz.sizeOperation : (Tryz.prog.info? 32).map (·.size) = some 11 := by kernel_rfl
end Go.Proofs.YtnaolhjbapgjgaaGreat
