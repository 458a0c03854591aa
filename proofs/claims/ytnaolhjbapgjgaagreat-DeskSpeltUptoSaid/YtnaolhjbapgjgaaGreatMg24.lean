import Derived.Test.YtnaolhjbapgjgaaGreatMg05
import Derived.Test.YtnaolhjbapgjgaaGreatMg23
import Derived.Deep.DeepCutAuto
set_option maxRecDepth 100000
set_option maxHeartbeats 3200000
namespace Go.Proofs.YtnaolhjbapgjgaaGreat
open Go.RowKit
theorem MVal.Ok.sub {X Y : Nat -> Prop} {w w' : World} {m : MVal} (h : m.Ok w X) (hk : Kp Y w w') (hxy : ∀ k, Y k -> X k) : m.Ok w' X :=
  ⟨h.rd.kp hk (fun hn ad e hy => h.av hn ad e (hxy _ hy)), h.av, h.cap, h.big⟩
theorem MVal.Ok.weak {X Y : Nat -> Prop} {w : World} {m : MVal} (h : m.Ok w X) (hyx : ∀ k, Y k -> X k) : m.Ok w Y := ⟨h.rd, fun hn ad e hy => h.av hn ad e (hyx _ hy), h.cap, h.big⟩
theorem MOp.Ok.sub {X Y : Nat -> Prop} {w w' : World} {m : MOp} (h : m.Ok w X) (hk : Kp Y w w') (hxy : ∀ k, Y k -> X k) : m.Ok w' X :=
  ⟨h.value.sub hk hxy, fun v hv => (h.args v hv).sub hk hxy, h.rdArgs.kp hk (fun hn ad e hy => h.avArgs hn ad e (hxy _ hy)), h.avArgs, h.capArgs, h.rdSrc.kp hk (fun hn ad e hy => h.avSrc hn ad e (hxy _ hy)), h.avSrc, h.big⟩
theorem MOp.Ok.weak {X Y : Nat -> Prop} {w : World} {m : MOp} (h : m.Ok w X) (hyx : ∀ k, Y k -> X k) : m.Ok w Y :=
  ⟨h.value.weak hyx, fun v hv => (h.args v hv).weak hyx, h.rdArgs, fun hn ad e hy => h.avArgs hn ad e (hyx _ hy), h.capArgs, h.rdSrc, fun hn ad e hy => h.avSrc hn ad e (hyx _ hy), h.big⟩
theorem jg : ByteArray.size ⟨#[]⟩ <= 2147483647 := by decide
theorem Av.weak {X Y : Nat -> Prop} {n : Nat} {A : Option Addr} (h : Av X n A) (hyx : ∀ k, Y k -> X k) : Av Y n A := fun hn ad e hy => h hn ad e (hyx _ hy)
theorem asked_far (w : World) (g : Nat) (bs : List UInt8) (s : Rs) (h : Rr w g bs s) (k : Nat) (hk : (tkN bs 1 s).1 = k) (hkc : k < 1 \/ 5 < k) :
    Calls Tryz.prog 41 #[.pointer (some ⟨g, 0, none⟩)] w (TookO w g bs (jv bs s)) := by
  have HT := jJ0 (show jv bs s = opN bs k (tkN bs 1 s).2 by rw [jv, hk])
  generalize jv bs s = TV at HT ⊢
  have hgl := h.lt
  have hbl := h.fits.2
  have Hk := jJ0 hk
  clear hk
  go_enter Tryz.func41, Tryz.ntmps41
  go_wp2_with fail
  refine (jQ _ g bs s (h.old ((Kp.refl NoX w).alloc _))).mono ?_
  rintro e w1 ⟨rfl, hr1, hk1⟩
  rw [Hk.out]
  have hbR0 := (Blk.new w 32 #[.int .i64 0, .string ⟨#[]⟩, .string ⟨#[]⟩, .string ⟨#[]⟩, .int .i64 0, .int .i64 0, .string ⟨#[]⟩, .slice none 0 0, .slice none 0 0, .slice none 0 0, .int .i64 0]).kp hk1 (show ¬ RX g w.heap.size from fun e => by have : w.heap.size = g := e; omega)
  have hkk0 : Kp (RX g) w w1 := ((Kp.refl (RX g) w).alloc _).trans hk1 (fun _ _ h => h)
  have hk255 : (k : Int) <= 255 := by have h1 := kE bs 1 s; rw [Hk.out] at h1; omega
  generalize (tkN bs 1 s).2 = s1 at *
  clear hk1
  have hbO := Blk.new w1 32 #[.int .i64 (k : Int), .string ⟨#[]⟩, .string ⟨#[]⟩, .string ⟨#[]⟩, .int .i64 0, .int .i64 0, .string ⟨#[]⟩, .slice none 0 0, .slice none 0 0, .slice none 0 0, .int .i64 0]
  have hr := hr1.old ((Kp.refl NoX w1).alloc (.cells #[.int .i64 (k : Int), .string ⟨#[]⟩, .string ⟨#[]⟩, .string ⟨#[]⟩, .int .i64 0, .int .i64 0, .string ⟨#[]⟩, .slice none 0 0, .slice none 0 0, .slice none 0 0, .int .i64 0] 32))
  have hbR := hbR0.alloc (.cells #[.int .i64 (k : Int), .string ⟨#[]⟩, .string ⟨#[]⟩, .string ⟨#[]⟩, .int .i64 0, .int .i64 0, .string ⟨#[]⟩, .slice none 0 0, .slice none 0 0, .slice none 0 0, .int .i64 0] 32)
  have hkk := hkk0.alloc (.cells #[.int .i64 (k : Int), .string ⟨#[]⟩, .string ⟨#[]⟩, .string ⟨#[]⟩, .int .i64 0, .int .i64 0, .string ⟨#[]⟩, .slice none 0 0, .slice none 0 0, .slice none 0 0, .int .i64 0] 32)
  have hw1 := hkk0.size
  have hRlt : w.heap.size < w1.heap.size := hbR0.lt
  have hgO : ¬ RX g w1.heap.size := fun e => by have : w1.heap.size = g := e; omega
  have hgR : ¬ RX g w.heap.size := fun e => by have : w.heap.size = g := e; omega
  have HD := jJ0 (show MOp.data (⟨(k : Int), ⟨#[]⟩, ⟨#[]⟩, ⟨#[]⟩, ⟨⟨0, 0, ⟨#[]⟩, []⟩, none, 0⟩, [], none, 0, [], none, 0, 0⟩ : MOp) = (opN bs k s1).1 by rw [opN, if_neg (by omega), if_neg (by omega), if_neg (by omega), if_neg (by omega), if_neg (by omega)]; rfl)
  have HS := jJ0 (show (opN bs k s1).2 = s1 by rw [opN, if_neg (by omega), if_neg (by omega), if_neg (by omega), if_neg (by omega), if_neg (by omega)])
  have HT2 := HT.out
  clear HT
  have HT := jJ0 HT2
  have q1 : ((k : Int) == 1) = false := beq_eq_false_iff_ne.2 (by omega)
  have q2 : ((k : Int) == 2) = false := beq_eq_false_iff_ne.2 (by omega)
  have q3 : ((k : Int) == 3) = false := beq_eq_false_iff_ne.2 (by omega)
  have q4 : ((k : Int) == 4) = false := beq_eq_false_iff_ne.2 (by omega)
  have q5 : ((k : Int) == 5) = false := beq_eq_false_iff_ne.2 (by omega)
  go_upto_region 20 with (fail)
  generalize hwz : (w1.alloc (.cells #[.int .i64 (k : Int), .string ⟨#[]⟩, .string ⟨#[]⟩, .string ⟨#[]⟩, .int .i64 0, .int .i64 0, .string ⟨#[]⟩, .slice none 0 0, .slice none 0 0, .slice none 0 0, .int .i64 0] 32)) = wz at *
  clear hwz HT2
  generalize s1 = sz at *
  have u0 := hbO.at_ 0 rfl
  have u1 := hbO.at_ 1 rfl
  have u2 := hbO.at_ 2 rfl
  have u3 := hbO.at_ 3 rfl
  have u4 := hbO.at_ 4 rfl
  have u5 := hbO.at_ 5 rfl
  have u6 := hbO.at_ 6 rfl
  have u7 := hbO.at_ 7 rfl
  have u8 := hbO.at_ 8 rfl
  have u9 := hbO.at_ 9 rfl
  have u10 := hbO.at_ 10 rfl
  have v0 := hbR.at_ 0 rfl
  have v1 := hbR.at_ 1 rfl
  have v2 := hbR.at_ 2 rfl
  have v3 := hbR.at_ 3 rfl
  have v4 := hbR.at_ 4 rfl
  have v5 := hbR.at_ 5 rfl
  have v6 := hbR.at_ 6 rfl
  have v7 := hbR.at_ 7 rfl
  have v8 := hbR.at_ 8 rfl
  have v9 := hbR.at_ 9 rfl
  have v10 := hbR.at_ 10 rfl
  have y0 := hbR.frozen 0
  have y1 := hbR.frozen 1
  have y2 := hbR.frozen 2
  have y3 := hbR.frozen 3
  have y4 := hbR.frozen 4
  have y5 := hbR.frozen 5
  have y6 := hbR.frozen 6
  have y7 := hbR.frozen 7
  have y8 := hbR.frozen 8
  have y9 := hbR.frozen 9
  have y10 := hbR.frozen 10
  have hne : w.heap.size ≠ w1.heap.size := by omega
  have Hks := jJ0 (Kp.setL w.heap.size [.int .i64 (k : Int), .string ⟨#[]⟩, .string ⟨#[]⟩, .string ⟨#[]⟩, .int .i64 0, .int .i64 0, .string ⟨#[]⟩, .slice none 0 0, .slice none 0 0, .slice none 0 0, .int .i64 0] wz 0)
  have Hbz := jJ0 (Blk.setAll (cs := [.int .i64 0, .string ⟨#[]⟩, .string ⟨#[]⟩, .string ⟨#[]⟩, .int .i64 0, .int .i64 0, .string ⟨#[]⟩, .slice none 0 0, .slice none 0 0, .slice none 0 0, .int .i64 0]) hbR [.int .i64 (k : Int), .string ⟨#[]⟩, .string ⟨#[]⟩, .string ⟨#[]⟩, .int .i64 0, .int .i64 0, .string ⟨#[]⟩, .slice none 0 0, .slice none 0 0, .slice none 0 0, .int .i64 0] rfl)
  have Hok := jJ0 (show MOp.Ok wz (fun k => k <= w1.heap.size) (⟨(k : Int), ⟨#[]⟩, ⟨#[]⟩, ⟨#[]⟩, ⟨⟨0, 0, ⟨#[]⟩, []⟩, none, 0⟩, [], none, 0, [], none, 0, 0⟩ : MOp) from ⟨zeroM_ok _ _ _ rfl, (fun v hv => by simp at hv), Rd.none_, (fun h => absurd h (by simp)), (Nat.le_refl _), Rd.none_, (fun h => absurd h (by simp)), by refine ⟨?_, ?_, ?_, ?_, ?_⟩ <;> first | exact jg | exact Nat.zero_le _ | (simp only []; omega) | omega⟩)
  have HT2 := jJ0 (show MOp.data (⟨(k : Int), ⟨#[]⟩, ⟨#[]⟩, ⟨#[]⟩, ⟨⟨0, 0, ⟨#[]⟩, []⟩, none, 0⟩, [], none, 0, [], none, 0, 0⟩ : MOp) = TV.1 by rw [HT.out]; exact HD.out)
  have hTs : TV.2 = sz := by rw [HT.out]; exact HS.out
  have HTs := jJ0 hTs
  clear hTs
  go_wp2
  have hbz := Hbz.out
  have hks := Hks.out
  refine ret_cell (g := w.heap.size) (cs := #[.int .i64 (k : Int), .string ⟨#[]⟩, .string ⟨#[]⟩, .string ⟨#[]⟩, .int .i64 0, .int .i64 0, .string ⟨#[]⟩, .slice none 0 0, .slice none 0 0, .slice none 0 0, .int .i64 0]) rfl rfl hbz Tryz.underlying32 rfl (by kernel_rfl) rfl ?_
  refine ⟨(⟨(k : Int), ⟨#[]⟩, ⟨#[]⟩, ⟨#[]⟩, ⟨⟨0, 0, ⟨#[]⟩, []⟩, none, 0⟩, [], none, 0, [], none, 0, 0⟩ : MOp), HT2.out, rfl, ?_, ?_, ?_⟩
  · exact (Hok.out.sub hks (fun k e => by omega)).weak (fun k e => by omega)
  · rw [HTs.out]; exact hr.kp hks (fun k hk e => by omega)
  · exact hkk.trans hks (fun b hb e => by omega)
theorem asked_5 (w : World) (g : Nat) (bs : List UInt8) (s : Rs) (h : Rr w g bs s) (hk : (tkN bs 1 s).1 = 5) :
    Calls Tryz.prog 41 #[.pointer (some ⟨g, 0, none⟩)] w (TookO w g bs (jv bs s)) := by
  have HT := jJ0 (show jv bs s = opN bs 5 (tkN bs 1 s).2 by rw [jv, hk])
  generalize jv bs s = TV at HT ⊢
  have hgl := h.lt
  have hbl := h.fits.2
  have Hk := jJ0 hk
  clear hk
  go_enter Tryz.func41, Tryz.ntmps41
  go_wp2_with fail
  refine (jQ _ g bs s (h.old ((Kp.refl NoX w).alloc _))).mono ?_
  rintro e w1 ⟨rfl, hr1, hk1⟩
  rw [Hk.out]
  have hbR0 := (Blk.new w 32 #[.int .i64 0, .string ⟨#[]⟩, .string ⟨#[]⟩, .string ⟨#[]⟩, .int .i64 0, .int .i64 0, .string ⟨#[]⟩, .slice none 0 0, .slice none 0 0, .slice none 0 0, .int .i64 0]).kp hk1 (show ¬ RX g w.heap.size from fun e => by have : w.heap.size = g := e; omega)
  have hkk0 : Kp (RX g) w w1 := ((Kp.refl (RX g) w).alloc _).trans hk1 (fun _ _ h => h)
  generalize (tkN bs 1 s).2 = s1 at *
  clear hk1
  have hbO := Blk.new w1 32 #[.int .i64 5, .string ⟨#[]⟩, .string ⟨#[]⟩, .string ⟨#[]⟩, .int .i64 0, .int .i64 0, .string ⟨#[]⟩, .slice none 0 0, .slice none 0 0, .slice none 0 0, .int .i64 0]
  have hr := hr1.old ((Kp.refl NoX w1).alloc (.cells #[.int .i64 5, .string ⟨#[]⟩, .string ⟨#[]⟩, .string ⟨#[]⟩, .int .i64 0, .int .i64 0, .string ⟨#[]⟩, .slice none 0 0, .slice none 0 0, .slice none 0 0, .int .i64 0] 32))
  have hbR := hbR0.alloc (.cells #[.int .i64 5, .string ⟨#[]⟩, .string ⟨#[]⟩, .string ⟨#[]⟩, .int .i64 0, .int .i64 0, .string ⟨#[]⟩, .slice none 0 0, .slice none 0 0, .slice none 0 0, .int .i64 0] 32)
  have hkk := hkk0.alloc (.cells #[.int .i64 5, .string ⟨#[]⟩, .string ⟨#[]⟩, .string ⟨#[]⟩, .int .i64 0, .int .i64 0, .string ⟨#[]⟩, .slice none 0 0, .slice none 0 0, .slice none 0 0, .int .i64 0] 32)
  have hw1 := hkk0.size
  have hRlt : w.heap.size < w1.heap.size := hbR0.lt
  have hgO : ¬ RX g w1.heap.size := fun e => by have : w1.heap.size = g := e; omega
  have hgR : ¬ RX g w.heap.size := fun e => by have : w.heap.size = g := e; omega
  have HD := jJ0 (show MOp.data (⟨5, ⟨#[]⟩, ⟨#[]⟩, ⟨#[]⟩, ⟨⟨0, 0, ⟨#[]⟩, []⟩, none, 0⟩, [], none, 0, [], none, 0, (numN bs s1).1⟩ : MOp) = (opN bs 5 s1).1 by rw [opN, if_neg (by simp), if_neg (by simp), if_neg (by simp), if_neg (by simp), if_pos rfl]; rfl)
  have HS := jJ0 (show (opN bs 5 s1).2 = (numN bs s1).2 by rw [opN, if_neg (by simp), if_neg (by simp), if_neg (by simp), if_neg (by simp), if_pos rfl])
  go_wp2_with fail
  refine (kZ _ g bs s1 hr).mono ?_
  rintro e w2 ⟨rfl, hr2, hk2⟩
  have hbO1 := hbO.kp hk2 hgO
  have hbR1 := hbR.kp hk2 hgR
  have hkk1 : Kp (RX g) w w2 := hkk.trans hk2 (fun _ _ h => h)
  have hsz1 := hk2.size
  clear hbO hbR hkk hr hk2
  have u1_0 := hbO1.at_ 0 rfl
  have u1_1 := hbO1.at_ 1 rfl
  have u1_2 := hbO1.at_ 2 rfl
  have u1_3 := hbO1.at_ 3 rfl
  have u1_4 := hbO1.at_ 4 rfl
  have u1_5 := hbO1.at_ 5 rfl
  have u1_6 := hbO1.at_ 6 rfl
  have u1_7 := hbO1.at_ 7 rfl
  have u1_8 := hbO1.at_ 8 rfl
  have u1_9 := hbO1.at_ 9 rfl
  have u1_10 := hbO1.at_ 10 rfl
  have z1_0 := hbO1.frozen 0
  have z1_1 := hbO1.frozen 1
  have z1_2 := hbO1.frozen 2
  have z1_3 := hbO1.frozen 3
  have z1_4 := hbO1.frozen 4
  have z1_5 := hbO1.frozen 5
  have z1_6 := hbO1.frozen 6
  have z1_7 := hbO1.frozen 7
  have z1_8 := hbO1.frozen 8
  have z1_9 := hbO1.frozen 9
  have z1_10 := hbO1.frozen 10
  generalize (numN bs s1).2 = sz at *
  generalize (numN bs s1).1 = cl at *
  have st := trivial
  have hbO2 := hbO1.set_ 10 (.int .i64 cl)
  have hbR2 := hbR1.far (p := ⟨w1.heap.size, 10, none⟩) (by simp only; omega) (.int .i64 cl)
  have hkk2 := hkk1.setCell (p := ⟨w1.heap.size, 10, none⟩) (fun h => absurd (Nat.lt_of_lt_of_le h hw1) (Nat.lt_irrefl _)) (.int .i64 cl)
  have hrs2 := hr2.set (p := ⟨w1.heap.size, 10, none⟩) (by simp only; omega) (.int .i64 cl)
  clear hbO1 hbR1 hkk1 hr2
  go_upto_region 20 with (fail)
  clear u1_0 u1_1 u1_2 u1_3 u1_4 u1_5 u1_6 u1_7 u1_8 u1_9 u1_10 z1_0 z1_1 z1_2 z1_3 z1_4 z1_5 z1_6 z1_7 z1_8 z1_9 z1_10
  generalize hwz : (w2.setCell ⟨w1.heap.size, 10, none⟩ (.int .i64 cl)) = wz at *
  clear hwz
  have u0 := hbO2.at_ 0 rfl
  have u1 := hbO2.at_ 1 rfl
  have u2 := hbO2.at_ 2 rfl
  have u3 := hbO2.at_ 3 rfl
  have u4 := hbO2.at_ 4 rfl
  have u5 := hbO2.at_ 5 rfl
  have u6 := hbO2.at_ 6 rfl
  have u7 := hbO2.at_ 7 rfl
  have u8 := hbO2.at_ 8 rfl
  have u9 := hbO2.at_ 9 rfl
  have u10 := hbO2.at_ 10 rfl
  have v0 := hbR2.at_ 0 rfl
  have v1 := hbR2.at_ 1 rfl
  have v2 := hbR2.at_ 2 rfl
  have v3 := hbR2.at_ 3 rfl
  have v4 := hbR2.at_ 4 rfl
  have v5 := hbR2.at_ 5 rfl
  have v6 := hbR2.at_ 6 rfl
  have v7 := hbR2.at_ 7 rfl
  have v8 := hbR2.at_ 8 rfl
  have v9 := hbR2.at_ 9 rfl
  have v10 := hbR2.at_ 10 rfl
  have y0 := hbR2.frozen 0
  have y1 := hbR2.frozen 1
  have y2 := hbR2.frozen 2
  have y3 := hbR2.frozen 3
  have y4 := hbR2.frozen 4
  have y5 := hbR2.frozen 5
  have y6 := hbR2.frozen 6
  have y7 := hbR2.frozen 7
  have y8 := hbR2.frozen 8
  have y9 := hbR2.frozen 9
  have y10 := hbR2.frozen 10
  have hne : w.heap.size ≠ w1.heap.size := by omega
  have Hks := jJ0 (Kp.setL w.heap.size [.int .i64 5, .string ⟨#[]⟩, .string ⟨#[]⟩, .string ⟨#[]⟩, .int .i64 0, .int .i64 0, .string ⟨#[]⟩, .slice none 0 0, .slice none 0 0, .slice none 0 0, .int .i64 cl] wz 0)
  have Hbz := jJ0 (Blk.setAll (cs := [.int .i64 0, .string ⟨#[]⟩, .string ⟨#[]⟩, .string ⟨#[]⟩, .int .i64 0, .int .i64 0, .string ⟨#[]⟩, .slice none 0 0, .slice none 0 0, .slice none 0 0, .int .i64 0]) hbR2 [.int .i64 5, .string ⟨#[]⟩, .string ⟨#[]⟩, .string ⟨#[]⟩, .int .i64 0, .int .i64 0, .string ⟨#[]⟩, .slice none 0 0, .slice none 0 0, .slice none 0 0, .int .i64 cl] rfl)
  have Hok := jJ0 (show MOp.Ok wz (fun k => k <= w1.heap.size) (⟨5, ⟨#[]⟩, ⟨#[]⟩, ⟨#[]⟩, ⟨⟨0, 0, ⟨#[]⟩, []⟩, none, 0⟩, [], none, 0, [], none, 0, cl⟩ : MOp) from ⟨zeroM_ok _ _ _ rfl, (fun v hv => by simp at hv), Rd.none_, (fun h => absurd h (by simp)), (Nat.le_refl _), Rd.none_, (fun h => absurd h (by simp)), by refine ⟨?_, ?_, ?_, ?_, ?_⟩ <;> first | exact jg | exact Nat.zero_le _ | (simp only []; omega) | omega⟩)
  have HT2 := jJ0 (show MOp.data (⟨5, ⟨#[]⟩, ⟨#[]⟩, ⟨#[]⟩, ⟨⟨0, 0, ⟨#[]⟩, []⟩, none, 0⟩, [], none, 0, [], none, 0, cl⟩ : MOp) = TV.1 by rw [HT.out]; exact HD.out)
  have hTs : TV.2 = sz := by rw [HT.out]; exact HS.out
  have HTs := jJ0 hTs
  clear hTs
  go_wp2
  have hbz := Hbz.out
  have hks := Hks.out
  refine ret_cell (g := w.heap.size) (cs := #[.int .i64 5, .string ⟨#[]⟩, .string ⟨#[]⟩, .string ⟨#[]⟩, .int .i64 0, .int .i64 0, .string ⟨#[]⟩, .slice none 0 0, .slice none 0 0, .slice none 0 0, .int .i64 cl]) rfl rfl hbz Tryz.underlying32 rfl (by kernel_rfl) rfl ?_
  refine ⟨(⟨5, ⟨#[]⟩, ⟨#[]⟩, ⟨#[]⟩, ⟨⟨0, 0, ⟨#[]⟩, []⟩, none, 0⟩, [], none, 0, [], none, 0, cl⟩ : MOp), HT2.out, rfl, ?_, ?_, ?_⟩
  · exact (Hok.out.sub hks (fun k e => by omega)).weak (fun k e => by omega)
  · rw [HTs.out]; exact hrs2.kp hks (fun k hk e => by omega)
  · exact hkk2.trans hks (fun b hb e => by omega)
theorem asked_2 (w : World) (g : Nat) (bs : List UInt8) (s : Rs) (h : Rr w g bs s) (hk : (tkN bs 1 s).1 = 2) :
    Calls Tryz.prog 41 #[.pointer (some ⟨g, 0, none⟩)] w (TookO w g bs (jv bs s)) := by
  have HT := jJ0 (show jv bs s = opN bs 2 (tkN bs 1 s).2 by rw [jv, hk])
  generalize jv bs s = TV at HT ⊢
  have hgl := h.lt
  have hbl := h.fits.2
  have Hk := jJ0 hk
  clear hk
  go_enter Tryz.func41, Tryz.ntmps41
  go_wp2_with fail
  refine (jQ _ g bs s (h.old ((Kp.refl NoX w).alloc _))).mono ?_
  rintro e w1 ⟨rfl, hr1, hk1⟩
  rw [Hk.out]
  have hbR0 := (Blk.new w 32 #[.int .i64 0, .string ⟨#[]⟩, .string ⟨#[]⟩, .string ⟨#[]⟩, .int .i64 0, .int .i64 0, .string ⟨#[]⟩, .slice none 0 0, .slice none 0 0, .slice none 0 0, .int .i64 0]).kp hk1 (show ¬ RX g w.heap.size from fun e => by have : w.heap.size = g := e; omega)
  have hkk0 : Kp (RX g) w w1 := ((Kp.refl (RX g) w).alloc _).trans hk1 (fun _ _ h => h)
  generalize (tkN bs 1 s).2 = s1 at *
  clear hk1
  have hbO := Blk.new w1 32 #[.int .i64 2, .string ⟨#[]⟩, .string ⟨#[]⟩, .string ⟨#[]⟩, .int .i64 0, .int .i64 0, .string ⟨#[]⟩, .slice none 0 0, .slice none 0 0, .slice none 0 0, .int .i64 0]
  have hr := hr1.old ((Kp.refl NoX w1).alloc (.cells #[.int .i64 2, .string ⟨#[]⟩, .string ⟨#[]⟩, .string ⟨#[]⟩, .int .i64 0, .int .i64 0, .string ⟨#[]⟩, .slice none 0 0, .slice none 0 0, .slice none 0 0, .int .i64 0] 32))
  have hbR := hbR0.alloc (.cells #[.int .i64 2, .string ⟨#[]⟩, .string ⟨#[]⟩, .string ⟨#[]⟩, .int .i64 0, .int .i64 0, .string ⟨#[]⟩, .slice none 0 0, .slice none 0 0, .slice none 0 0, .int .i64 0] 32)
  have hkk := hkk0.alloc (.cells #[.int .i64 2, .string ⟨#[]⟩, .string ⟨#[]⟩, .string ⟨#[]⟩, .int .i64 0, .int .i64 0, .string ⟨#[]⟩, .slice none 0 0, .slice none 0 0, .slice none 0 0, .int .i64 0] 32)
  have hw1 := hkk0.size
  have hRlt : w.heap.size < w1.heap.size := hbR0.lt
  have hgO : ¬ RX g w1.heap.size := fun e => by have : w1.heap.size = g := e; omega
  have hgR : ¬ RX g w.heap.size := fun e => by have : w.heap.size = g := e; omega
  have HD := jJ0 (show MOp.data (⟨2, (jI bs s1).1, (jI bs (jI bs s1).2).1, ⟨#[]⟩, ⟨⟨0, 0, ⟨#[]⟩, []⟩, none, 0⟩, [], none, 0, [], none, 0, 0⟩ : MOp) = (opN bs 2 s1).1 by rw [opN, if_neg (by simp), if_pos rfl]; rfl)
  have HS := jJ0 (show (opN bs 2 s1).2 = (jI bs (jI bs s1).2).2 by rw [opN, if_neg (by simp), if_pos rfl])
  have hs1 := kC bs s1
  have hs2 := kC bs (jI bs s1).2
  go_wp2_with fail
  refine (kc _ g bs s1 hr).mono ?_
  rintro e w2 ⟨rfl, hr2, hk2⟩
  have hbO1 := hbO.kp hk2 hgO
  have hbR1 := hbR.kp hk2 hgR
  have hkk1 : Kp (RX g) w w2 := hkk.trans hk2 (fun _ _ h => h)
  have hsz1 := hk2.size
  clear hbO hbR hkk hr hk2
  have u1_0 := hbO1.at_ 0 rfl
  have u1_1 := hbO1.at_ 1 rfl
  have u1_2 := hbO1.at_ 2 rfl
  have u1_3 := hbO1.at_ 3 rfl
  have u1_4 := hbO1.at_ 4 rfl
  have u1_5 := hbO1.at_ 5 rfl
  have u1_6 := hbO1.at_ 6 rfl
  have u1_7 := hbO1.at_ 7 rfl
  have u1_8 := hbO1.at_ 8 rfl
  have u1_9 := hbO1.at_ 9 rfl
  have u1_10 := hbO1.at_ 10 rfl
  have z1_0 := hbO1.frozen 0
  have z1_1 := hbO1.frozen 1
  have z1_2 := hbO1.frozen 2
  have z1_3 := hbO1.frozen 3
  have z1_4 := hbO1.frozen 4
  have z1_5 := hbO1.frozen 5
  have z1_6 := hbO1.frozen 6
  have z1_7 := hbO1.frozen 7
  have z1_8 := hbO1.frozen 8
  have z1_9 := hbO1.frozen 9
  have z1_10 := hbO1.frozen 10
  clear u1_0 u1_1 u1_2 u1_3 u1_4 u1_5 u1_6 u1_7 u1_8 u1_9 u1_10 z1_0 z1_1 z1_2 z1_3 z1_4 z1_5 z1_6 z1_7 z1_8 z1_9 z1_10
  go_wp2_with fail
  refine (kc _ g bs _ hr2).mono ?_
  rintro e w3 ⟨rfl, hr3, hk3⟩
  have hbO2 := hbO1.kp hk3 hgO
  have hbR2 := hbR1.kp hk3 hgR
  have hkk2 : Kp (RX g) w w3 := hkk1.trans hk3 (fun _ _ h => h)
  have hsz2 := hk3.size
  clear hbO1 hbR1 hkk1 hr2 hk3
  have u2_0 := hbO2.at_ 0 rfl
  have u2_1 := hbO2.at_ 1 rfl
  have u2_2 := hbO2.at_ 2 rfl
  have u2_3 := hbO2.at_ 3 rfl
  have u2_4 := hbO2.at_ 4 rfl
  have u2_5 := hbO2.at_ 5 rfl
  have u2_6 := hbO2.at_ 6 rfl
  have u2_7 := hbO2.at_ 7 rfl
  have u2_8 := hbO2.at_ 8 rfl
  have u2_9 := hbO2.at_ 9 rfl
  have u2_10 := hbO2.at_ 10 rfl
  have z2_0 := hbO2.frozen 0
  have z2_1 := hbO2.frozen 1
  have z2_2 := hbO2.frozen 2
  have z2_3 := hbO2.frozen 3
  have z2_4 := hbO2.frozen 4
  have z2_5 := hbO2.frozen 5
  have z2_6 := hbO2.frozen 6
  have z2_7 := hbO2.frozen 7
  have z2_8 := hbO2.frozen 8
  have z2_9 := hbO2.frozen 9
  have z2_10 := hbO2.frozen 10
  generalize (jI bs (jI bs s1).2).2 = sz at *
  generalize (jI bs (jI bs s1).2).1 = t2 at *
  generalize (jI bs s1).1 = t1 at *
  have hbO3 := hbO2.set_ 1 (.string t1)
  have hbR3 := hbR2.far (p := ⟨w1.heap.size, 1, none⟩) (by simp only; omega) (.string t1)
  have hkk3 := hkk2.setCell (p := ⟨w1.heap.size, 1, none⟩) (fun h => absurd (Nat.lt_of_lt_of_le h hw1) (Nat.lt_irrefl _)) (.string t1)
  have hrs3 := hr3.set (p := ⟨w1.heap.size, 1, none⟩) (by simp only; omega) (.string t1)
  clear hbO2 hbR2 hkk2 hr3
  have hbO4 := hbO3.set_ 2 (.string t2)
  have hbR4 := hbR3.far (p := ⟨w1.heap.size, 2, none⟩) (by simp only; omega) (.string t2)
  have hkk4 := hkk3.setCell (p := ⟨w1.heap.size, 2, none⟩) (fun h => absurd (Nat.lt_of_lt_of_le h hw1) (Nat.lt_irrefl _)) (.string t2)
  have hrs4 := hrs3.set (p := ⟨w1.heap.size, 2, none⟩) (by simp only; omega) (.string t2)
  clear hbO3 hbR3 hkk3 hrs3
  go_upto_region 20 with (fail)
  clear u2_0 u2_1 u2_2 u2_3 u2_4 u2_5 u2_6 u2_7 u2_8 u2_9 u2_10 z2_0 z2_1 z2_2 z2_3 z2_4 z2_5 z2_6 z2_7 z2_8 z2_9 z2_10
  generalize hwz : ((w3.setCell ⟨w1.heap.size, 1, none⟩ (.string t1)).setCell ⟨w1.heap.size, 2, none⟩ (.string t2)) = wz at *
  clear hwz
  have u0 := hbO4.at_ 0 rfl
  have u1 := hbO4.at_ 1 rfl
  have u2 := hbO4.at_ 2 rfl
  have u3 := hbO4.at_ 3 rfl
  have u4 := hbO4.at_ 4 rfl
  have u5 := hbO4.at_ 5 rfl
  have u6 := hbO4.at_ 6 rfl
  have u7 := hbO4.at_ 7 rfl
  have u8 := hbO4.at_ 8 rfl
  have u9 := hbO4.at_ 9 rfl
  have u10 := hbO4.at_ 10 rfl
  have v0 := hbR4.at_ 0 rfl
  have v1 := hbR4.at_ 1 rfl
  have v2 := hbR4.at_ 2 rfl
  have v3 := hbR4.at_ 3 rfl
  have v4 := hbR4.at_ 4 rfl
  have v5 := hbR4.at_ 5 rfl
  have v6 := hbR4.at_ 6 rfl
  have v7 := hbR4.at_ 7 rfl
  have v8 := hbR4.at_ 8 rfl
  have v9 := hbR4.at_ 9 rfl
  have v10 := hbR4.at_ 10 rfl
  have y0 := hbR4.frozen 0
  have y1 := hbR4.frozen 1
  have y2 := hbR4.frozen 2
  have y3 := hbR4.frozen 3
  have y4 := hbR4.frozen 4
  have y5 := hbR4.frozen 5
  have y6 := hbR4.frozen 6
  have y7 := hbR4.frozen 7
  have y8 := hbR4.frozen 8
  have y9 := hbR4.frozen 9
  have y10 := hbR4.frozen 10
  have hne : w.heap.size ≠ w1.heap.size := by omega
  have Hks := jJ0 (Kp.setL w.heap.size [.int .i64 2, .string t1, .string t2, .string ⟨#[]⟩, .int .i64 0, .int .i64 0, .string ⟨#[]⟩, .slice none 0 0, .slice none 0 0, .slice none 0 0, .int .i64 0] wz 0)
  have Hbz := jJ0 (Blk.setAll (cs := [.int .i64 0, .string ⟨#[]⟩, .string ⟨#[]⟩, .string ⟨#[]⟩, .int .i64 0, .int .i64 0, .string ⟨#[]⟩, .slice none 0 0, .slice none 0 0, .slice none 0 0, .int .i64 0]) hbR4 [.int .i64 2, .string t1, .string t2, .string ⟨#[]⟩, .int .i64 0, .int .i64 0, .string ⟨#[]⟩, .slice none 0 0, .slice none 0 0, .slice none 0 0, .int .i64 0] rfl)
  have Hok := jJ0 (show MOp.Ok wz (fun k => k <= w1.heap.size) (⟨2, t1, t2, ⟨#[]⟩, ⟨⟨0, 0, ⟨#[]⟩, []⟩, none, 0⟩, [], none, 0, [], none, 0, 0⟩ : MOp) from ⟨zeroM_ok _ _ _ rfl, (fun v hv => by simp at hv), Rd.none_, (fun h => absurd h (by simp)), (Nat.le_refl _), Rd.none_, (fun h => absurd h (by simp)), by refine ⟨?_, ?_, ?_, ?_, ?_⟩ <;> first | exact jg | exact Nat.zero_le _ | (simp only []; omega) | omega⟩)
  have HT2 := jJ0 (show MOp.data (⟨2, t1, t2, ⟨#[]⟩, ⟨⟨0, 0, ⟨#[]⟩, []⟩, none, 0⟩, [], none, 0, [], none, 0, 0⟩ : MOp) = TV.1 by rw [HT.out]; exact HD.out)
  have hTs : TV.2 = sz := by rw [HT.out]; exact HS.out
  have HTs := jJ0 hTs
  clear hTs
  go_wp2
  have hbz := Hbz.out
  have hks := Hks.out
  refine ret_cell (g := w.heap.size) (cs := #[.int .i64 2, .string t1, .string t2, .string ⟨#[]⟩, .int .i64 0, .int .i64 0, .string ⟨#[]⟩, .slice none 0 0, .slice none 0 0, .slice none 0 0, .int .i64 0]) rfl rfl hbz Tryz.underlying32 rfl (by kernel_rfl) rfl ?_
  refine ⟨(⟨2, t1, t2, ⟨#[]⟩, ⟨⟨0, 0, ⟨#[]⟩, []⟩, none, 0⟩, [], none, 0, [], none, 0, 0⟩ : MOp), HT2.out, rfl, ?_, ?_, ?_⟩
  · exact (Hok.out.sub hks (fun k e => by omega)).weak (fun k e => by omega)
  · rw [HTs.out]; exact hrs4.kp hks (fun k hk e => by omega)
  · exact hkk4.trans hks (fun b hb e => by omega)
theorem asked_1 (w : World) (g : Nat) (bs : List UInt8) (s : Rs) (h : Rr w g bs s) (hk : (tkN bs 1 s).1 = 1) :
    Calls Tryz.prog 41 #[.pointer (some ⟨g, 0, none⟩)] w (TookO w g bs (jv bs s)) := by
  have HT := jJ0 (show jv bs s = opN bs 1 (tkN bs 1 s).2 by rw [jv, hk])
  generalize jv bs s = TV at HT ⊢
  have hgl := h.lt
  have hbl := h.fits.2
  have Hk := jJ0 hk
  clear hk
  go_enter Tryz.func41, Tryz.ntmps41
  go_wp2_with fail
  refine (jQ _ g bs s (h.old ((Kp.refl NoX w).alloc _))).mono ?_
  rintro e w1 ⟨rfl, hr1, hk1⟩
  rw [Hk.out]
  have hbR0 := (Blk.new w 32 #[.int .i64 0, .string ⟨#[]⟩, .string ⟨#[]⟩, .string ⟨#[]⟩, .int .i64 0, .int .i64 0, .string ⟨#[]⟩, .slice none 0 0, .slice none 0 0, .slice none 0 0, .int .i64 0]).kp hk1 (show ¬ RX g w.heap.size from fun e => by have : w.heap.size = g := e; omega)
  have hkk0 : Kp (RX g) w w1 := ((Kp.refl (RX g) w).alloc _).trans hk1 (fun _ _ h => h)
  generalize (tkN bs 1 s).2 = s1 at *
  clear hk1
  have hbO := Blk.new w1 32 #[.int .i64 1, .string ⟨#[]⟩, .string ⟨#[]⟩, .string ⟨#[]⟩, .int .i64 0, .int .i64 0, .string ⟨#[]⟩, .slice none 0 0, .slice none 0 0, .slice none 0 0, .int .i64 0]
  have hr := hr1.old ((Kp.refl NoX w1).alloc (.cells #[.int .i64 1, .string ⟨#[]⟩, .string ⟨#[]⟩, .string ⟨#[]⟩, .int .i64 0, .int .i64 0, .string ⟨#[]⟩, .slice none 0 0, .slice none 0 0, .slice none 0 0, .int .i64 0] 32))
  have hbR := hbR0.alloc (.cells #[.int .i64 1, .string ⟨#[]⟩, .string ⟨#[]⟩, .string ⟨#[]⟩, .int .i64 0, .int .i64 0, .string ⟨#[]⟩, .slice none 0 0, .slice none 0 0, .slice none 0 0, .int .i64 0] 32)
  have hkk := hkk0.alloc (.cells #[.int .i64 1, .string ⟨#[]⟩, .string ⟨#[]⟩, .string ⟨#[]⟩, .int .i64 0, .int .i64 0, .string ⟨#[]⟩, .slice none 0 0, .slice none 0 0, .slice none 0 0, .int .i64 0] 32)
  have hw1 := hkk0.size
  have hRlt : w.heap.size < w1.heap.size := hbR0.lt
  have hgO : ¬ RX g w1.heap.size := fun e => by have : w1.heap.size = g := e; omega
  have hgR : ¬ RX g w.heap.size := fun e => by have : w.heap.size = g := e; omega
  have HD := jJ0 (show ∀ A c, MOp.data (⟨1, ⟨#[]⟩, (jI bs s1).1, ⟨#[]⟩, ⟨⟨0, 0, ⟨#[]⟩, []⟩, none, 0⟩, [], none, 0, (jf bs 4194304 (jI bs s1).2).1, A, c, 0⟩ : MOp) = (opN bs 1 s1).1 by intro A c; rw [opN, if_pos rfl]; rfl)
  have HS := jJ0 (show (opN bs 1 s1).2 = (jf bs 4194304 (jI bs s1).2).2 by rw [opN, if_pos rfl])
  have hs1 := kC bs s1
  have hs2 := bytesN_len bs 4194304 (jI bs s1).2
  go_wp2_with fail
  refine (kc _ g bs s1 hr).mono ?_
  rintro e w2 ⟨rfl, hr2, hk2⟩
  have hbO1 := hbO.kp hk2 hgO
  have hbR1 := hbR.kp hk2 hgR
  have hkk1 : Kp (RX g) w w2 := hkk.trans hk2 (fun _ _ h => h)
  have hsz1 := hk2.size
  clear hbO hbR hkk hr hk2
  have u1_0 := hbO1.at_ 0 rfl
  have u1_1 := hbO1.at_ 1 rfl
  have u1_2 := hbO1.at_ 2 rfl
  have u1_3 := hbO1.at_ 3 rfl
  have u1_4 := hbO1.at_ 4 rfl
  have u1_5 := hbO1.at_ 5 rfl
  have u1_6 := hbO1.at_ 6 rfl
  have u1_7 := hbO1.at_ 7 rfl
  have u1_8 := hbO1.at_ 8 rfl
  have u1_9 := hbO1.at_ 9 rfl
  have u1_10 := hbO1.at_ 10 rfl
  have z1_0 := hbO1.frozen 0
  have z1_1 := hbO1.frozen 1
  have z1_2 := hbO1.frozen 2
  have z1_3 := hbO1.frozen 3
  have z1_4 := hbO1.frozen 4
  have z1_5 := hbO1.frozen 5
  have z1_6 := hbO1.frozen 6
  have z1_7 := hbO1.frozen 7
  have z1_8 := hbO1.frozen 8
  have z1_9 := hbO1.frozen 9
  have z1_10 := hbO1.frozen 10
  have hbO2 := hbO1.set_ 2 (.string (jI bs s1).1)
  have hbR2 := hbR1.far (p := ⟨w1.heap.size, 2, none⟩) (by simp only; omega) (.string (jI bs s1).1)
  have hkk2 := hkk1.setCell (p := ⟨w1.heap.size, 2, none⟩) (fun h => absurd (Nat.lt_of_lt_of_le h hw1) (Nat.lt_irrefl _)) (.string (jI bs s1).1)
  have hrs2 := hr2.set (p := ⟨w1.heap.size, 2, none⟩) (by simp only; omega) (.string (jI bs s1).1)
  clear hbO1 hbR1 hkk1 hr2
  go_wp2_with fail
  refine (rbytes_any _ g bs 4194304 _ hrs2 (by omega)).mono ?_
  rintro e w3 ⟨A3, c3, rfl, hrd3, hav3, hcap3, hr3, hk3⟩
  have hbO3 := hbO2.kp hk3 hgO
  have hbR3 := hbR2.kp hk3 hgR
  have hkk3 : Kp (RX g) w w3 := hkk2.trans hk3 (fun _ _ h => h)
  have hsz3 := hk3.size
  clear hbO2 hbR2 hkk2 hrs2 hk3
  have u3_0 := hbO3.at_ 0 rfl
  have u3_1 := hbO3.at_ 1 rfl
  have u3_2 := hbO3.at_ 2 rfl
  have u3_3 := hbO3.at_ 3 rfl
  have u3_4 := hbO3.at_ 4 rfl
  have u3_5 := hbO3.at_ 5 rfl
  have u3_6 := hbO3.at_ 6 rfl
  have u3_7 := hbO3.at_ 7 rfl
  have u3_8 := hbO3.at_ 8 rfl
  have u3_9 := hbO3.at_ 9 rfl
  have u3_10 := hbO3.at_ 10 rfl
  have z3_0 := hbO3.frozen 0
  have z3_1 := hbO3.frozen 1
  have z3_2 := hbO3.frozen 2
  have z3_3 := hbO3.frozen 3
  have z3_4 := hbO3.frozen 4
  have z3_5 := hbO3.frozen 5
  have z3_6 := hbO3.frozen 6
  have z3_7 := hbO3.frozen 7
  have z3_8 := hbO3.frozen 8
  have z3_9 := hbO3.frozen 9
  have z3_10 := hbO3.frozen 10
  have HD := jJ0 (HD.out A3 c3)
  have hav4 : Av (fun k => k <= w1.heap.size) (jf bs 4194304 (jI bs s1).2).1.length A3 := hav3.weak (fun k e => by
    have := hsz1
    simp [World.setCell] at this ⊢
    omega)
  generalize (jf bs 4194304 (jI bs s1).2).2 = sz at *
  generalize (jf bs 4194304 (jI bs s1).2).1 = sr at *
  generalize (jI bs s1).1 = t1 at *
  have hbO4 := hbO3.set_ 9 (.slice A3 sr.length c3)
  have hbR4 := hbR3.far (p := ⟨w1.heap.size, 9, none⟩) (by simp only; omega) (.slice A3 sr.length c3)
  have hkk4 := hkk3.setCell (p := ⟨w1.heap.size, 9, none⟩) (fun h => absurd (Nat.lt_of_lt_of_le h hw1) (Nat.lt_irrefl _)) (.slice A3 sr.length c3)
  have hrs4 := hr3.set (p := ⟨w1.heap.size, 9, none⟩) (by simp only; omega) (.slice A3 sr.length c3)
  clear hbO3 hbR3 hkk3 hr3
  go_upto_region 20 with (fail)
  have hrdz := hrd3.kp ((Kp.refl (fun k => k <= w1.heap.size) w3).setCell (p := ⟨w1.heap.size, 9, none⟩) (fun _ => Nat.le_refl _) (.slice A3 sr.length c3)) hav4
  clear u3_0 u3_1 u3_2 u3_3 u3_4 u3_5 u3_6 u3_7 u3_8 u3_9 u3_10 z3_0 z3_1 z3_2 z3_3 z3_4 z3_5 z3_6 z3_7 z3_8 z3_9 z3_10
  generalize hwz : (w3.setCell ⟨w1.heap.size, 9, none⟩ (.slice A3 sr.length c3)) = wz at *
  clear hwz
  have u0 := hbO4.at_ 0 rfl
  have u1 := hbO4.at_ 1 rfl
  have u2 := hbO4.at_ 2 rfl
  have u3 := hbO4.at_ 3 rfl
  have u4 := hbO4.at_ 4 rfl
  have u5 := hbO4.at_ 5 rfl
  have u6 := hbO4.at_ 6 rfl
  have u7 := hbO4.at_ 7 rfl
  have u8 := hbO4.at_ 8 rfl
  have u9 := hbO4.at_ 9 rfl
  have u10 := hbO4.at_ 10 rfl
  have v0 := hbR4.at_ 0 rfl
  have v1 := hbR4.at_ 1 rfl
  have v2 := hbR4.at_ 2 rfl
  have v3 := hbR4.at_ 3 rfl
  have v4 := hbR4.at_ 4 rfl
  have v5 := hbR4.at_ 5 rfl
  have v6 := hbR4.at_ 6 rfl
  have v7 := hbR4.at_ 7 rfl
  have v8 := hbR4.at_ 8 rfl
  have v9 := hbR4.at_ 9 rfl
  have v10 := hbR4.at_ 10 rfl
  have y0 := hbR4.frozen 0
  have y1 := hbR4.frozen 1
  have y2 := hbR4.frozen 2
  have y3 := hbR4.frozen 3
  have y4 := hbR4.frozen 4
  have y5 := hbR4.frozen 5
  have y6 := hbR4.frozen 6
  have y7 := hbR4.frozen 7
  have y8 := hbR4.frozen 8
  have y9 := hbR4.frozen 9
  have y10 := hbR4.frozen 10
  have hne : w.heap.size ≠ w1.heap.size := by omega
  have Hks := jJ0 (Kp.setL w.heap.size [.int .i64 1, .string ⟨#[]⟩, .string t1, .string ⟨#[]⟩, .int .i64 0, .int .i64 0, .string ⟨#[]⟩, .slice none 0 0, .slice none 0 0, .slice A3 sr.length c3, .int .i64 0] wz 0)
  have Hbz := jJ0 (Blk.setAll (cs := [.int .i64 0, .string ⟨#[]⟩, .string ⟨#[]⟩, .string ⟨#[]⟩, .int .i64 0, .int .i64 0, .string ⟨#[]⟩, .slice none 0 0, .slice none 0 0, .slice none 0 0, .int .i64 0]) hbR4 [.int .i64 1, .string ⟨#[]⟩, .string t1, .string ⟨#[]⟩, .int .i64 0, .int .i64 0, .string ⟨#[]⟩, .slice none 0 0, .slice none 0 0, .slice A3 sr.length c3, .int .i64 0] rfl)
  have Hok := jJ0 (show MOp.Ok wz (fun k => k <= w1.heap.size) (⟨1, ⟨#[]⟩, t1, ⟨#[]⟩, ⟨⟨0, 0, ⟨#[]⟩, []⟩, none, 0⟩, [], none, 0, sr, A3, c3, 0⟩ : MOp) from ⟨zeroM_ok _ _ _ rfl, (fun v hv => by simp at hv), Rd.none_, (fun h => absurd h (by simp)), (Nat.le_refl _), hrdz, hav4, by refine ⟨?_, ?_, ?_, ?_, ?_⟩ <;> first | exact jg | exact Nat.zero_le _ | (simp only []; omega) | omega⟩)
  have HT2 := jJ0 (show MOp.data (⟨1, ⟨#[]⟩, t1, ⟨#[]⟩, ⟨⟨0, 0, ⟨#[]⟩, []⟩, none, 0⟩, [], none, 0, sr, A3, c3, 0⟩ : MOp) = TV.1 by rw [HT.out]; exact HD.out)
  have hTs : TV.2 = sz := by rw [HT.out]; exact HS.out
  have HTs := jJ0 hTs
  clear hTs
  go_wp2
  have hbz := Hbz.out
  have hks := Hks.out
  refine ret_cell (g := w.heap.size) (cs := #[.int .i64 1, .string ⟨#[]⟩, .string t1, .string ⟨#[]⟩, .int .i64 0, .int .i64 0, .string ⟨#[]⟩, .slice none 0 0, .slice none 0 0, .slice A3 sr.length c3, .int .i64 0]) rfl rfl hbz Tryz.underlying32 rfl (by kernel_rfl) rfl ?_
  refine ⟨(⟨1, ⟨#[]⟩, t1, ⟨#[]⟩, ⟨⟨0, 0, ⟨#[]⟩, []⟩, none, 0⟩, [], none, 0, sr, A3, c3, 0⟩ : MOp), HT2.out, rfl, ?_, ?_, ?_⟩
  · exact (Hok.out.sub hks (fun k e => by omega)).weak (fun k e => by omega)
  · rw [HTs.out]; exact hrs4.kp hks (fun k hk e => by omega)
  · exact hkk4.trans hks (fun b hb e => by omega)
end Go.Proofs.YtnaolhjbapgjgaaGreat
