import Derived.Test.YtnaolhjbapgjgaaMg17
/- Contract of desk.asked: the operations 3 and 4. -/
namespace Go.Proofs.Ytnaolhjbapgjgaa
open Go.RowKit

theorem takeVal_len (bs : List UInt8) (s : Rs) : (takeVal bs s).1.s.length ≤ 65536 := by
  have hk : ∀ k s1, (kindV bs k s1).1.s.length ≤ 65536 := by
    intro k s1
    have := textsN_len bs 64 1024 s1
    unfold kindV
    repeat' split
    all_goals simp [*]
  unfold takeVal lookV
  repeat' split
  all_goals first | exact hk _ _ | exact Nat.zero_le _

set_option maxRecDepth 100000 in
set_option maxHeartbeats 3200000 in
theorem asked_3 (w : World) (g : Nat) (bs : List UInt8) (s : Rs) (h : Rr w g bs s) (hk : (tkN bs 1 s).1 = 3) :
    Calls Try.prog 36 #[.pointer (some ⟨g, 0, none⟩)] w (TookO w g bs (askedN bs s)) := by
  have HT := Lib.hid (show askedN bs s = opN bs 3 (tkN bs 1 s).2 by rw [askedN, hk])
  generalize askedN bs s = TV at HT ⊢
  have hgl := h.lt
  have hbl := h.fits.2
  have Hk := Lib.hid hk
  clear hk
  go_enter Try.func36, Try.ntmps36
  go_wp2_with fail
  refine (take8_any _ g bs s (h.old ((Kp.refl NoX w).alloc _))).mono ?_
  rintro e w1 ⟨rfl, hr1, hk1⟩
  rw [Hk.out]
  have hbR0 := (Blk.new w 29 #[.int .i64 0, .string ⟨#[]⟩, .string ⟨#[]⟩, .string ⟨#[]⟩, .int .i64 0, .int .i64 0, .string ⟨#[]⟩, .slice none 0 0, .slice none 0 0, .slice none 0 0, .int .i64 0]).kp hk1 (show ¬ RX g w.heap.size from fun e => by have : w.heap.size = g := e; omega)
  have hkk0 : Kp (RX g) w w1 := ((Kp.refl (RX g) w).alloc _).trans hk1 (fun _ _ h => h)
  generalize (tkN bs 1 s).2 = s1 at *
  clear hk1
  have hbO := Blk.new w1 29 #[.int .i64 3, .string ⟨#[]⟩, .string ⟨#[]⟩, .string ⟨#[]⟩, .int .i64 0, .int .i64 0, .string ⟨#[]⟩, .slice none 0 0, .slice none 0 0, .slice none 0 0, .int .i64 0]
  have hr := hr1.old ((Kp.refl NoX w1).alloc (.cells #[.int .i64 3, .string ⟨#[]⟩, .string ⟨#[]⟩, .string ⟨#[]⟩, .int .i64 0, .int .i64 0, .string ⟨#[]⟩, .slice none 0 0, .slice none 0 0, .slice none 0 0, .int .i64 0] 29))
  have hbR := hbR0.alloc (.cells #[.int .i64 3, .string ⟨#[]⟩, .string ⟨#[]⟩, .string ⟨#[]⟩, .int .i64 0, .int .i64 0, .string ⟨#[]⟩, .slice none 0 0, .slice none 0 0, .slice none 0 0, .int .i64 0] 29)
  have hkk := hkk0.alloc (.cells #[.int .i64 3, .string ⟨#[]⟩, .string ⟨#[]⟩, .string ⟨#[]⟩, .int .i64 0, .int .i64 0, .string ⟨#[]⟩, .slice none 0 0, .slice none 0 0, .slice none 0 0, .int .i64 0] 29)
  have hw1 := hkk0.size
  have hRlt : w.heap.size < w1.heap.size := hbR0.lt
  have hgO : ¬ RX g w1.heap.size := fun e => by have : w1.heap.size = g := e; omega
  have hgR : ¬ RX g w.heap.size := fun e => by have : w.heap.size = g := e; omega
  have HD := Lib.hid (show ∀ A c, MOp.data (⟨3, (wordN bs s1).1, ⟨#[]⟩, (wordN bs (wordN bs s1).2).1, ⟨(takeVal bs (wordN bs (wordN bs s1).2).2).1, A, c⟩, [], none, 0, [], none, 0, 0⟩ : MOp) = (opN bs 3 s1).1 by intro A c; rw [opN, if_neg (by simp), if_neg (by simp), if_pos rfl]; rfl)
  have HS := Lib.hid (show (opN bs 3 s1).2 = (takeVal bs (wordN bs (wordN bs s1).2).2).2 by rw [opN, if_neg (by simp), if_neg (by simp), if_pos rfl])
  have hs1 := wordN_size bs s1
  have hs2 := wordN_size bs (wordN bs s1).2
  have hs3 := takeVal_len bs (wordN bs (wordN bs s1).2).2
  go_wp2_with fail
  refine (word_any _ g bs s1 hr).mono ?_
  rintro e w2 ⟨rfl, hr2, hk2⟩
  have hbO1 := hbO.kp hk2 hgO
  have hbR1 := hbR.kp hk2 hgR
  have hkk1 : Kp (RX g) w w2 := hkk.trans hk2 (fun _ _ h => h)
  have hsz1 := hk2.size
  clear hbO hbR hkk hr hk2
  have u1_0 := hbO1.at_ 0 rfl
  have u1_1 := hbO1.at_ 1 rfl
  have u1_2 := hbO1.at_ 2 rfl
  have u1_3 := hbO1.at_ 3 rfl
  have u1_4 := hbO1.at_ 4 rfl
  have u1_5 := hbO1.at_ 5 rfl
  have u1_6 := hbO1.at_ 6 rfl
  have u1_7 := hbO1.at_ 7 rfl
  have u1_8 := hbO1.at_ 8 rfl
  have u1_9 := hbO1.at_ 9 rfl
  have u1_10 := hbO1.at_ 10 rfl
  have z1_0 := hbO1.frozen 0
  have z1_1 := hbO1.frozen 1
  have z1_2 := hbO1.frozen 2
  have z1_3 := hbO1.frozen 3
  have z1_4 := hbO1.frozen 4
  have z1_5 := hbO1.frozen 5
  have z1_6 := hbO1.frozen 6
  have z1_7 := hbO1.frozen 7
  have z1_8 := hbO1.frozen 8
  have z1_9 := hbO1.frozen 9
  have z1_10 := hbO1.frozen 10
  clear u1_0 u1_1 u1_2 u1_3 u1_4 u1_5 u1_6 u1_7 u1_8 u1_9 u1_10 z1_0 z1_1 z1_2 z1_3 z1_4 z1_5 z1_6 z1_7 z1_8 z1_9 z1_10
  go_wp2_with fail
  refine (word_any _ g bs _ hr2).mono ?_
  rintro e w3 ⟨rfl, hr3, hk3⟩
  have hbO2 := hbO1.kp hk3 hgO
  have hbR2 := hbR1.kp hk3 hgR
  have hkk2 : Kp (RX g) w w3 := hkk1.trans hk3 (fun _ _ h => h)
  have hsz2 := hk3.size
  clear hbO1 hbR1 hkk1 hr2 hk3
  have u2_0 := hbO2.at_ 0 rfl
  have u2_1 := hbO2.at_ 1 rfl
  have u2_2 := hbO2.at_ 2 rfl
  have u2_3 := hbO2.at_ 3 rfl
  have u2_4 := hbO2.at_ 4 rfl
  have u2_5 := hbO2.at_ 5 rfl
  have u2_6 := hbO2.at_ 6 rfl
  have u2_7 := hbO2.at_ 7 rfl
  have u2_8 := hbO2.at_ 8 rfl
  have u2_9 := hbO2.at_ 9 rfl
  have u2_10 := hbO2.at_ 10 rfl
  have z2_0 := hbO2.frozen 0
  have z2_1 := hbO2.frozen 1
  have z2_2 := hbO2.frozen 2
  have z2_3 := hbO2.frozen 3
  have z2_4 := hbO2.frozen 4
  have z2_5 := hbO2.frozen 5
  have z2_6 := hbO2.frozen 6
  have z2_7 := hbO2.frozen 7
  have z2_8 := hbO2.frozen 8
  have z2_9 := hbO2.frozen 9
  have z2_10 := hbO2.frozen 10
  generalize (wordN bs (wordN bs s1).2).2 = s2 at *
  generalize (wordN bs (wordN bs s1).2).1 = t2 at *
  generalize (wordN bs s1).1 = t1 at *
  have hbO3 := hbO2.set_ 1 (.string t1)
  have hbR3 := hbR2.far (p := ⟨w1.heap.size, 1, none⟩) (by simp only; omega) (.string t1)
  have hkk3 := hkk2.setCell (p := ⟨w1.heap.size, 1, none⟩) (fun h => absurd (Nat.lt_of_lt_of_le h hw1) (Nat.lt_irrefl _)) (.string t1)
  have hrs3 := hr3.set (p := ⟨w1.heap.size, 1, none⟩) (by simp only; omega) (.string t1)
  clear hbO2 hbR2 hkk2 hr3
  have hbO4 := hbO3.set_ 3 (.string t2)
  have hbR4 := hbR3.far (p := ⟨w1.heap.size, 3, none⟩) (by simp only; omega) (.string t2)
  have hkk4 := hkk3.setCell (p := ⟨w1.heap.size, 3, none⟩) (fun h => absurd (Nat.lt_of_lt_of_le h hw1) (Nat.lt_irrefl _)) (.string t2)
  have hrs4 := hrs3.set (p := ⟨w1.heap.size, 3, none⟩) (by simp only; omega) (.string t2)
  clear hbO3 hbR3 hkk3 hrs3
  go_wp2_with fail
  refine (takev_any _ g bs _ hrs4).mono ?_
  rintro e w4 ⟨A4, c4, he4, hrd4, hav4, hcap4, hr4, hk4⟩
  have hbO5 := hbO4.kp hk4 hgO
  have hbR5 := hbR4.kp hk4 hgR
  have hkk5 : Kp (RX g) w w4 := hkk4.trans hk4 (fun _ _ h => h)
  have hsz5 := hk4.size
  clear hbO4 hbR4 hkk4 hrs4 hk4
  have u5_0 := hbO5.at_ 0 rfl
  have u5_1 := hbO5.at_ 1 rfl
  have u5_2 := hbO5.at_ 2 rfl
  have u5_3 := hbO5.at_ 3 rfl
  have u5_4 := hbO5.at_ 4 rfl
  have u5_5 := hbO5.at_ 5 rfl
  have u5_6 := hbO5.at_ 6 rfl
  have u5_7 := hbO5.at_ 7 rfl
  have u5_8 := hbO5.at_ 8 rfl
  have u5_9 := hbO5.at_ 9 rfl
  have u5_10 := hbO5.at_ 10 rfl
  have z5_0 := hbO5.frozen 0
  have z5_1 := hbO5.frozen 1
  have z5_2 := hbO5.frozen 2
  have z5_3 := hbO5.frozen 3
  have z5_4 := hbO5.frozen 4
  have z5_5 := hbO5.frozen 5
  have z5_6 := hbO5.frozen 6
  have z5_7 := hbO5.frozen 7
  have z5_8 := hbO5.frozen 8
  have z5_9 := hbO5.frozen 9
  have z5_10 := hbO5.frozen 10
  have HD := Lib.hid (HD.out A4 c4)
  have hav5 : Av (fun k => k ≤ w1.heap.size) (takeVal bs s2).1.s.length A4 := hav4.weak (fun k e => by
    have := hsz1
    have := hsz2
    simp [World.setCell] at *
    omega)
  generalize takeVal bs s2 = tv at *
  obtain ⟨⟨vk, vn, vt, vs⟩, sz⟩ := tv
  simp only [vV] at he4
  subst he4
  simp only at *
  have hbO6 := hbO5.set_ 4 (.int .i64 vk)
  have hbR6 := hbR5.far (p := ⟨w1.heap.size, 4, none⟩) (by simp only; omega) (.int .i64 vk)
  have hkk6 := hkk5.setCell (p := ⟨w1.heap.size, 4, none⟩) (fun h => absurd (Nat.lt_of_lt_of_le h hw1) (Nat.lt_irrefl _)) (.int .i64 vk)
  have hrs6 := hr4.set (p := ⟨w1.heap.size, 4, none⟩) (by simp only; omega) (.int .i64 vk)
  clear hbO5 hbR5 hkk5 hr4
  have hbO7 := hbO6.set_ 5 (.int .i64 vn)
  have hbR7 := hbR6.far (p := ⟨w1.heap.size, 5, none⟩) (by simp only; omega) (.int .i64 vn)
  have hkk7 := hkk6.setCell (p := ⟨w1.heap.size, 5, none⟩) (fun h => absurd (Nat.lt_of_lt_of_le h hw1) (Nat.lt_irrefl _)) (.int .i64 vn)
  have hrs7 := hrs6.set (p := ⟨w1.heap.size, 5, none⟩) (by simp only; omega) (.int .i64 vn)
  clear hbO6 hbR6 hkk6 hrs6
  have hbO8 := hbO7.set_ 6 (.string vt)
  have hbR8 := hbR7.far (p := ⟨w1.heap.size, 6, none⟩) (by simp only; omega) (.string vt)
  have hkk8 := hkk7.setCell (p := ⟨w1.heap.size, 6, none⟩) (fun h => absurd (Nat.lt_of_lt_of_le h hw1) (Nat.lt_irrefl _)) (.string vt)
  have hrs8 := hrs7.set (p := ⟨w1.heap.size, 6, none⟩) (by simp only; omega) (.string vt)
  clear hbO7 hbR7 hkk7 hrs7
  have hbO9 := hbO8.set_ 7 (.slice A4 vs.length c4)
  have hbR9 := hbR8.far (p := ⟨w1.heap.size, 7, none⟩) (by simp only; omega) (.slice A4 vs.length c4)
  have hkk9 := hkk8.setCell (p := ⟨w1.heap.size, 7, none⟩) (fun h => absurd (Nat.lt_of_lt_of_le h hw1) (Nat.lt_irrefl _)) (.slice A4 vs.length c4)
  have hrs9 := hrs8.set (p := ⟨w1.heap.size, 7, none⟩) (by simp only; omega) (.slice A4 vs.length c4)
  clear hbO8 hbR8 hkk8 hrs8
  go_upto_region 20 with (fail)
  have hrdz := hrd4.kp ((((((Kp.refl (fun k => k ≤ w1.heap.size) w4).setCell (p := ⟨w1.heap.size, 4, none⟩) (fun _ => Nat.le_refl _) (.int .i64 vk)).setCell (p := ⟨w1.heap.size, 5, none⟩) (fun _ => Nat.le_refl _) (.int .i64 vn)).setCell (p := ⟨w1.heap.size, 6, none⟩) (fun _ => Nat.le_refl _) (.string vt)).setCell (p := ⟨w1.heap.size, 7, none⟩) (fun _ => Nat.le_refl _) (.slice A4 vs.length c4))) hav5
  clear u5_0 u5_1 u5_2 u5_3 u5_4 u5_5 u5_6 u5_7 u5_8 u5_9 u5_10 z5_0 z5_1 z5_2 z5_3 z5_4 z5_5 z5_6 z5_7 z5_8 z5_9 z5_10
  generalize hwz : ((((w4.setCell ⟨w1.heap.size, 4, none⟩ (.int .i64 vk)).setCell ⟨w1.heap.size, 5, none⟩ (.int .i64 vn)).setCell ⟨w1.heap.size, 6, none⟩ (.string vt)).setCell ⟨w1.heap.size, 7, none⟩ (.slice A4 vs.length c4)) = wz at *
  clear hwz
  have u0 := hbO9.at_ 0 rfl
  have u1 := hbO9.at_ 1 rfl
  have u2 := hbO9.at_ 2 rfl
  have u3 := hbO9.at_ 3 rfl
  have u4 := hbO9.at_ 4 rfl
  have u5 := hbO9.at_ 5 rfl
  have u6 := hbO9.at_ 6 rfl
  have u7 := hbO9.at_ 7 rfl
  have u8 := hbO9.at_ 8 rfl
  have u9 := hbO9.at_ 9 rfl
  have u10 := hbO9.at_ 10 rfl
  have v0 := hbR9.at_ 0 rfl
  have v1 := hbR9.at_ 1 rfl
  have v2 := hbR9.at_ 2 rfl
  have v3 := hbR9.at_ 3 rfl
  have v4 := hbR9.at_ 4 rfl
  have v5 := hbR9.at_ 5 rfl
  have v6 := hbR9.at_ 6 rfl
  have v7 := hbR9.at_ 7 rfl
  have v8 := hbR9.at_ 8 rfl
  have v9 := hbR9.at_ 9 rfl
  have v10 := hbR9.at_ 10 rfl
  have y0 := hbR9.frozen 0
  have y1 := hbR9.frozen 1
  have y2 := hbR9.frozen 2
  have y3 := hbR9.frozen 3
  have y4 := hbR9.frozen 4
  have y5 := hbR9.frozen 5
  have y6 := hbR9.frozen 6
  have y7 := hbR9.frozen 7
  have y8 := hbR9.frozen 8
  have y9 := hbR9.frozen 9
  have y10 := hbR9.frozen 10
  have hne : w.heap.size ≠ w1.heap.size := by omega
  have Hks := Lib.hid (Kp.setL w.heap.size [.int .i64 3, .string t1, .string ⟨#[]⟩, .string t2, .int .i64 vk, .int .i64 vn, .string vt, .slice A4 vs.length c4, .slice none 0 0, .slice none 0 0, .int .i64 0] wz 0)
  have Hbz := Lib.hid (Blk.setAll (cs := [.int .i64 0, .string ⟨#[]⟩, .string ⟨#[]⟩, .string ⟨#[]⟩, .int .i64 0, .int .i64 0, .string ⟨#[]⟩, .slice none 0 0, .slice none 0 0, .slice none 0 0, .int .i64 0]) hbR9 [.int .i64 3, .string t1, .string ⟨#[]⟩, .string t2, .int .i64 vk, .int .i64 vn, .string vt, .slice A4 vs.length c4, .slice none 0 0, .slice none 0 0, .int .i64 0] rfl)
  have Hok := Lib.hid (show MOp.Ok wz (fun k => k ≤ w1.heap.size) (⟨3, t1, ⟨#[]⟩, t2, ⟨⟨vk, vn, vt, vs⟩, A4, c4⟩, [], none, 0, [], none, 0, 0⟩ : MOp) from ⟨⟨hrdz, hav5, hcap4, by simp only; omega⟩, (fun v hv => by simp at hv), Rd.none_, (fun h => absurd h (by simp)), (Nat.le_refl _), Rd.none_, (fun h => absurd h (by simp)), by refine ⟨?_, ?_, ?_, ?_, ?_⟩ <;> first | exact empty_size | exact Nat.zero_le _ | (simp only []; omega) | omega⟩)
  have HT2 := Lib.hid (show MOp.data (⟨3, t1, ⟨#[]⟩, t2, ⟨⟨vk, vn, vt, vs⟩, A4, c4⟩, [], none, 0, [], none, 0, 0⟩ : MOp) = TV.1 by rw [HT.out]; exact HD.out)
  have hTs : TV.2 = sz := by rw [HT.out]; exact HS.out
  have HTs := Lib.hid hTs
  clear hTs
  go_wp2
  have hbz := Hbz.out
  have hks := Hks.out
  refine ret_cell (g := w.heap.size) (cs := #[.int .i64 3, .string t1, .string ⟨#[]⟩, .string t2, .int .i64 vk, .int .i64 vn, .string vt, .slice A4 vs.length c4, .slice none 0 0, .slice none 0 0, .int .i64 0]) rfl rfl hbz Try.underlying29 rfl (by kernel_rfl) rfl ?_
  refine ⟨(⟨3, t1, ⟨#[]⟩, t2, ⟨⟨vk, vn, vt, vs⟩, A4, c4⟩, [], none, 0, [], none, 0, 0⟩ : MOp), HT2.out, rfl, ?_, ?_, ?_⟩
  · exact (Hok.out.sub hks (fun k e => by omega)).weak (fun k e => by omega)
  · rw [HTs.out]; exact hrs9.kp hks (fun k hk e => by omega)
  · exact hkk9.trans hks (fun b hb e => by omega)

end Go.Proofs.Ytnaolhjbapgjgaa
