import Derived.Test.YtnaolhjbapgjgaaGreatMg14
set_option maxRecDepth 100000
set_option maxHeartbeats 3200000
namespace Go.Proofs.YtnaolhjbapgjgaaGreat
open Go.RowKit
theorem takev_1 (w : World) (g : Nat) (bs : List UInt8) (s : Rs) (h : Rr w g bs s) (hk : (tkN bs 1 s).1 = 1) :
    Calls Tryz.prog 85 #[.pointer (some ⟨g, 0, none⟩)] w (TookV w g bs (jN bs s)) := by
  have HT := jJ0 (show jN bs s = kN (kX bs 1 (tkN bs 1 s).2) by rw [jN, hk])
  generalize jN bs s = TV at HT ⊢
  have hgl := h.lt
  have Hk := jJ0 hk
  clear hk
  go_enter Tryz.func85, Tryz.ntmps85
  go_wp2_with fail
  refine (jQ _ g bs s (h.old ((Kp.refl NoX w).alloc _))).mono ?_
  rintro e w1 ⟨rfl, hr1, hk1⟩
  rw [Hk.out]
  have hbR := (Blk.new w 29 #[.int .i64 0, .int .i64 0, .string ⟨#[]⟩, .slice none 0 0]).kp hk1 (show ¬ RX g w.heap.size from fun e => by have : w.heap.size = g := e; omega)
  have hkk : Kp (RX g) w w1 := ((Kp.refl (RX g) w).alloc _).trans hk1 (fun _ _ h => h)
  generalize (tkN bs 1 s).2 = s1 at *
  clear hk1
  have hbV := Blk.new w1 29 #[.int .i64 1, .int .i64 0, .string ⟨#[]⟩, .slice none 0 0]
  have hr2 := hr1.old ((Kp.refl NoX w1).alloc (.cells #[.int .i64 1, .int .i64 0, .string ⟨#[]⟩, .slice none 0 0] 29))
  have hbR2 := hbR.alloc (.cells #[.int .i64 1, .int .i64 0, .string ⟨#[]⟩, .slice none 0 0] 29)
  have hkk2 := hkk.alloc (.cells #[.int .i64 1, .int .i64 0, .string ⟨#[]⟩, .slice none 0 0] 29)
  have hw1 := hkk.size
  have hRlt : w.heap.size < w1.heap.size := hbR.lt
  have hgne1 : ¬ RX g w1.heap.size := fun e => by have : w1.heap.size = g := e; omega
  have hgne0 : ¬ RX g w.heap.size := fun e => by have : w.heap.size = g := e; omega
  have Hkv := jJ0 (show kX bs 1 s1 = ((⟨1, wrap64 ((tkN bs 8 s1).1 : Int), ⟨#[]⟩, []⟩ : Val), (tkN bs 8 s1).2) by rw [kX, if_pos (by simp)]; rfl)
  go_wp2_with fail
  refine (vd _ g bs s1 hr2).mono ?_
  rintro e w3 ⟨rfl, hr3, hk3⟩
  have hbV3 := hbV.kp hk3 hgne1
  have hbR3 := hbR2.kp hk3 hgne0
  have hkk3 : Kp (RX g) w w3 := hkk2.trans hk3 (fun _ _ h => h)
  have p0 := hbV3.at_ 0 rfl
  have p1 := hbV3.at_ 1 rfl
  have p2 := hbV3.at_ 2 rfl
  have p3 := hbV3.at_ 3 rfl
  have pz := hbV3.frozen 1
  clear hk3 hbV hbR2 hkk2 hr2
  go_wp2_with fail
  have hbVz := hbV3.set_ 1 (.int .i64 (wrap64 ((tkN bs 8 s1).1 : Int)))
  have hbRz := hbR3.far (p := ⟨w1.heap.size, 1, none⟩) (by simp only; omega) (.int .i64 (wrap64 ((tkN bs 8 s1).1 : Int)))
  have hkz := hkk3.setCell (p := ⟨w1.heap.size, 1, none⟩) (fun h => absurd (Nat.lt_of_lt_of_le h hw1) (Nat.lt_irrefl _)) (.int .i64 (wrap64 ((tkN bs 8 s1).1 : Int)))
  have hrz := hr3.set (p := ⟨w1.heap.size, 1, none⟩) (by simp only; omega) (.int .i64 (wrap64 ((tkN bs 8 s1).1 : Int)))
  have Hkv2 := Hkv.out
  clear Hkv
  generalize wrap64 ((tkN bs 8 s1).1 : Int) = nn at *
  generalize (tkN bs 8 s1).2 = sz at *
  have Hkv := jJ0 Hkv2
  clear Hkv2
  generalize hwz : w3.setCell ⟨w1.heap.size, 1, none⟩ (.int .i64 nn) = wz at *
  clear hwz hr3 hbV3 hbR3 hkk3 pz p0 p1 p2 p3
  have HV := jJ0 (show TV = kN ((⟨1, nn, ⟨#[]⟩, []⟩ : Val), sz) from HT.out.trans (by rw [Hkv.out]))
  clear HT Hkv
  have u0 := hbVz.at_ 0 rfl
  have u1 := hbVz.at_ 1 rfl
  have u2 := hbVz.at_ 2 rfl
  have u3 := hbVz.at_ 3 rfl
  have v0 := hbRz.at_ 0 rfl
  have v1 := hbRz.at_ 1 rfl
  have v2 := hbRz.at_ 2 rfl
  have v3 := hbRz.at_ 3 rfl
  have y0 := hbRz.frozen 0
  have y1 := hbRz.frozen 1
  have y2 := hbRz.frozen 2
  have y3 := hbRz.frozen 3
  have hne : w.heap.size ≠ w1.heap.size := by omega
  obtain ⟨pz, yz⟩ := sz
  by_cases hyz : yz = 0
  case neg =>
    have hV : TV = (jh, ⟨pz, yz⟩) := by rw [HV.out, kN, if_pos hyz]
    have HV2 := jJ0 hV
    have hyz1 : (yz == 0) = false := beq_eq_false_iff_ne.2 hyz
    have hyz2 : (yz != 0) = true := by simpa using hyz
    clear hV hyz
    go_wp2_with fail
    refine (jR _ g bs ⟨pz, yz⟩ hrz).mono ?_
    rintro e w' ⟨rfl, rfl⟩
    go_wp2_with fail
    refine (jR _ g bs ⟨pz, yz⟩ hrz).mono ?_
    rintro e w' ⟨rfl, rfl⟩
    go_wp2
    rw [HV2.out]
    refine jA rfl rfl ((((hbRz.set_ 0 _).set_ 1 _).set_ 2 _).set_ 3 _) Tryz.underlying29 rfl (by kernel_rfl) rfl ?_
    refine ⟨none, 0, rfl, Rd.none_, fun h => absurd h (by simp [jh]), Nat.le_refl _, ?_, ?_⟩
    · exact (((hrz.set (p := ⟨w.heap.size, 0, none⟩) hgl _).set (p := ⟨w.heap.size, 1, none⟩) hgl _).set (p := ⟨w.heap.size, 2, none⟩) hgl _).set (p := ⟨w.heap.size, 3, none⟩) hgl _
    · exact (((hkz.setCell (p := ⟨w.heap.size, 0, none⟩) (fun h => absurd h (Nat.lt_irrefl _)) _).setCell (p := ⟨w.heap.size, 1, none⟩) (fun h => absurd h (Nat.lt_irrefl _)) _).setCell (p := ⟨w.heap.size, 2, none⟩) (fun h => absurd h (Nat.lt_irrefl _)) _).setCell (p := ⟨w.heap.size, 3, none⟩) (fun h => absurd h (Nat.lt_irrefl _)) _
  subst hyz
  have hrdz : Rd wz 1 none ((⟨1, nn, ⟨#[]⟩, []⟩ : Val)).s.length (((⟨1, nn, ⟨#[]⟩, []⟩ : Val)).s.map sv) := Rd.none_
  have hcapz : ((⟨1, nn, ⟨#[]⟩, []⟩ : Val)).s.length <= 0 := Nat.le_refl _
  have hbigz : ((⟨1, nn, ⟨#[]⟩, []⟩ : Val)).s.length <= 1000000000000 := (by simp)
  have Hav := jJ0 (show Av (fun k => k < w.heap.size) ((⟨1, nn, ⟨#[]⟩, []⟩ : Val)).s.length none from (fun h => absurd h (by simp)))
  by_cases hR : jP (⟨1, nn, ⟨#[]⟩, []⟩ : Val) = 0
  · have hV : TV = ((⟨1, nn, ⟨#[]⟩, []⟩ : Val), ⟨pz, 0⟩) := by rw [HV.out, kN, if_neg (by simp), if_neg (by simpa using hR)]
    have HV2 := jJ0 hV
    have HRt := jJ0 (ji (⟨1, nn, ⟨#[]⟩, []⟩ : Val) none 0 wz hrdz hcapz hbigz)
    rw [hR] at HRt
    clear hV hR
    go_wp2_with fail
    refine (jR _ g bs ⟨pz, 0⟩ hrz).mono ?_
    rintro e w' ⟨rfl, rfl⟩
    go_wp2_with fail
    refine HRt.out.mono ?_
    rintro e w3 ⟨rfl, ho3⟩
    have hrz3 := hrz.old ho3
    have hbRz3 := hbRz.old ho3
    have hbVz3 := hbVz.old ho3
    have hkz3 := hkz.old ho3
    have hrdz3 := hrdz.old ho3
    have s0 := hbVz3.at_ 0 rfl
    have s1 := hbVz3.at_ 1 rfl
    have s2 := hbVz3.at_ 2 rfl
    have s3 := hbVz3.at_ 3 rfl
    have t0 := hbRz3.at_ 0 rfl
    have t1 := hbRz3.at_ 1 rfl
    have t2 := hbRz3.at_ 2 rfl
    have t3 := hbRz3.at_ 3 rfl
    have r0 := hbRz3.frozen 0
    have r1 := hbRz3.frozen 1
    have r2 := hbRz3.frozen 2
    have r3 := hbRz3.frozen 3
    go_wp2_with fail
    refine (jR _ g bs ⟨pz, 0⟩ hrz3).mono ?_
    rintro e w' ⟨rfl, rfl⟩
    go_wp2
    rw [HV2.out]
    refine jA rfl rfl ((((hbRz3.set_ 0 _).set_ 1 _).set_ 2 _).set_ 3 _) Tryz.underlying29 rfl (by kernel_rfl) rfl ?_
    have hks : Kp (fun k => k = w.heap.size) w3 ((((w3.setCell ⟨w.heap.size, 0, none⟩ (.int .i64 1)).setCell ⟨w.heap.size, 1, none⟩ (.int .i64 nn)).setCell ⟨w.heap.size, 2, none⟩ (.string ⟨#[]⟩)).setCell ⟨w.heap.size, 3, none⟩ (.slice none ((⟨1, nn, ⟨#[]⟩, []⟩ : Val)).s.length 0)) := ((((Kp.refl (fun k => k = w.heap.size) _).setCell (p := ⟨w.heap.size, 0, none⟩) (fun _ => rfl) _).setCell (p := ⟨w.heap.size, 1, none⟩) (fun _ => rfl) _).setCell (p := ⟨w.heap.size, 2, none⟩) (fun _ => rfl) _).setCell (p := ⟨w.heap.size, 3, none⟩) (fun _ => rfl) _
    refine ⟨none, 0, rfl, ?_, Hav.out, hcapz, ?_, ?_⟩
    · exact hrdz3.kp hks (fun h => absurd h (by simp))
    · exact (((hrz3.set (p := ⟨w.heap.size, 0, none⟩) hgl _).set (p := ⟨w.heap.size, 1, none⟩) hgl _).set (p := ⟨w.heap.size, 2, none⟩) hgl _).set (p := ⟨w.heap.size, 3, none⟩) hgl _
    · exact hkz3.trans hks (fun b hb e => by omega)
  · have hV : TV = (jh, ⟨pz, 8⟩) := by rw [HV.out, kN, if_neg (by simp), if_pos (by simpa using hR)]
    have HV2 := jJ0 hV
    have HRt := jJ0 (ji (⟨1, nn, ⟨#[]⟩, []⟩ : Val) none 0 wz hrdz hcapz hbigz)
    have hRb : (jP (⟨1, nn, ⟨#[]⟩, []⟩ : Val) != 0) = true := by simpa using hR
    generalize jP (⟨1, nn, ⟨#[]⟩, []⟩ : Val) = zz at HRt hRb
    clear hV hR
    go_wp2_with fail
    refine (jR _ g bs ⟨pz, 0⟩ hrz).mono ?_
    rintro e w' ⟨rfl, rfl⟩
    go_wp2_with fail
    refine HRt.out.mono ?_
    rintro e w3 ⟨rfl, ho3⟩
    go_wp2_with fail
    refine (ko _ g bs (-1) ⟨pz, 0⟩ (hrz.old ho3) (by omega)).mono ?_
    rintro e w4 ⟨A4, c4, rfl, _, _, _, hr4, hk4⟩
    rw [show (rawN bs (-1) ⟨pz, 0⟩).2 = ⟨pz, 8⟩ from rfl] at hr4
    have hgne : ¬ RX g w.heap.size := fun e => by have : w.heap.size = g := e; omega
    have hbR4 := (hbRz.old ho3).kp hk4 hgne
    have hkz4 : Kp (RX g) w w4 := (hkz.old ho3).trans hk4 (fun _ _ h => h)
    have t0 := hbR4.at_ 0 rfl
    have t1 := hbR4.at_ 1 rfl
    have t2 := hbR4.at_ 2 rfl
    have t3 := hbR4.at_ 3 rfl
    have r0 := hbR4.frozen 0
    have r1 := hbR4.frozen 1
    have r2 := hbR4.frozen 2
    have r3 := hbR4.frozen 3
    clear hk4 ho3
    go_wp2_with fail
    refine (jR _ g bs ⟨pz, 8⟩ hr4).mono ?_
    rintro e w' ⟨rfl, rfl⟩
    go_wp2
    rw [HV2.out]
    refine jA rfl rfl ((((hbR4.set_ 0 _).set_ 1 _).set_ 2 _).set_ 3 _) Tryz.underlying29 rfl (by kernel_rfl) rfl ?_
    refine ⟨none, 0, rfl, Rd.none_, fun h => absurd h (by simp [jh]), Nat.le_refl _, ?_, ?_⟩
    · exact (((hr4.set (p := ⟨w.heap.size, 0, none⟩) hgl _).set (p := ⟨w.heap.size, 1, none⟩) hgl _).set (p := ⟨w.heap.size, 2, none⟩) hgl _).set (p := ⟨w.heap.size, 3, none⟩) hgl _
    · exact (((hkz4.setCell (p := ⟨w.heap.size, 0, none⟩) (fun h => absurd h (Nat.lt_irrefl _)) _).setCell (p := ⟨w.heap.size, 1, none⟩) (fun h => absurd h (Nat.lt_irrefl _)) _).setCell (p := ⟨w.heap.size, 2, none⟩) (fun h => absurd h (Nat.lt_irrefl _)) _).setCell (p := ⟨w.heap.size, 3, none⟩) (fun h => absurd h (Nat.lt_irrefl _)) _
theorem takev_4 (w : World) (g : Nat) (bs : List UInt8) (s : Rs) (h : Rr w g bs s) (hk : (tkN bs 1 s).1 = 4) :
    Calls Tryz.prog 85 #[.pointer (some ⟨g, 0, none⟩)] w (TookV w g bs (jN bs s)) := by
  have HT := jJ0 (show jN bs s = kN (kX bs 4 (tkN bs 1 s).2) by rw [jN, hk])
  generalize jN bs s = TV at HT ⊢
  have hgl := h.lt
  have Hk := jJ0 hk
  clear hk
  go_enter Tryz.func85, Tryz.ntmps85
  go_wp2_with fail
  refine (jQ _ g bs s (h.old ((Kp.refl NoX w).alloc _))).mono ?_
  rintro e w1 ⟨rfl, hr1, hk1⟩
  rw [Hk.out]
  have hbR := (Blk.new w 29 #[.int .i64 0, .int .i64 0, .string ⟨#[]⟩, .slice none 0 0]).kp hk1 (show ¬ RX g w.heap.size from fun e => by have : w.heap.size = g := e; omega)
  have hkk : Kp (RX g) w w1 := ((Kp.refl (RX g) w).alloc _).trans hk1 (fun _ _ h => h)
  generalize (tkN bs 1 s).2 = s1 at *
  clear hk1
  have hbV := Blk.new w1 29 #[.int .i64 4, .int .i64 0, .string ⟨#[]⟩, .slice none 0 0]
  have hr2 := hr1.old ((Kp.refl NoX w1).alloc (.cells #[.int .i64 4, .int .i64 0, .string ⟨#[]⟩, .slice none 0 0] 29))
  have hbR2 := hbR.alloc (.cells #[.int .i64 4, .int .i64 0, .string ⟨#[]⟩, .slice none 0 0] 29)
  have hkk2 := hkk.alloc (.cells #[.int .i64 4, .int .i64 0, .string ⟨#[]⟩, .slice none 0 0] 29)
  have hw1 := hkk.size
  have hRlt : w.heap.size < w1.heap.size := hbR.lt
  have hgne1 : ¬ RX g w1.heap.size := fun e => by have : w1.heap.size = g := e; omega
  have hgne0 : ¬ RX g w.heap.size := fun e => by have : w.heap.size = g := e; omega
  have Hkv := jJ0 (show kX bs 4 s1 = ((⟨4, wrap64 ((tkN bs 8 s1).1 : Int), ⟨#[]⟩, []⟩ : Val), (tkN bs 8 s1).2) by rw [kX, if_pos (by simp)]; rfl)
  go_wp2_with fail
  refine (vd _ g bs s1 hr2).mono ?_
  rintro e w3 ⟨rfl, hr3, hk3⟩
  have hbV3 := hbV.kp hk3 hgne1
  have hbR3 := hbR2.kp hk3 hgne0
  have hkk3 : Kp (RX g) w w3 := hkk2.trans hk3 (fun _ _ h => h)
  have p0 := hbV3.at_ 0 rfl
  have p1 := hbV3.at_ 1 rfl
  have p2 := hbV3.at_ 2 rfl
  have p3 := hbV3.at_ 3 rfl
  have pz := hbV3.frozen 1
  clear hk3 hbV hbR2 hkk2 hr2
  go_wp2_with fail
  have hbVz := hbV3.set_ 1 (.int .i64 (wrap64 ((tkN bs 8 s1).1 : Int)))
  have hbRz := hbR3.far (p := ⟨w1.heap.size, 1, none⟩) (by simp only; omega) (.int .i64 (wrap64 ((tkN bs 8 s1).1 : Int)))
  have hkz := hkk3.setCell (p := ⟨w1.heap.size, 1, none⟩) (fun h => absurd (Nat.lt_of_lt_of_le h hw1) (Nat.lt_irrefl _)) (.int .i64 (wrap64 ((tkN bs 8 s1).1 : Int)))
  have hrz := hr3.set (p := ⟨w1.heap.size, 1, none⟩) (by simp only; omega) (.int .i64 (wrap64 ((tkN bs 8 s1).1 : Int)))
  have Hkv2 := Hkv.out
  clear Hkv
  generalize wrap64 ((tkN bs 8 s1).1 : Int) = nn at *
  generalize (tkN bs 8 s1).2 = sz at *
  have Hkv := jJ0 Hkv2
  clear Hkv2
  generalize hwz : w3.setCell ⟨w1.heap.size, 1, none⟩ (.int .i64 nn) = wz at *
  clear hwz hr3 hbV3 hbR3 hkk3 pz p0 p1 p2 p3
  have HV := jJ0 (show TV = kN ((⟨4, nn, ⟨#[]⟩, []⟩ : Val), sz) from HT.out.trans (by rw [Hkv.out]))
  clear HT Hkv
  have u0 := hbVz.at_ 0 rfl
  have u1 := hbVz.at_ 1 rfl
  have u2 := hbVz.at_ 2 rfl
  have u3 := hbVz.at_ 3 rfl
  have v0 := hbRz.at_ 0 rfl
  have v1 := hbRz.at_ 1 rfl
  have v2 := hbRz.at_ 2 rfl
  have v3 := hbRz.at_ 3 rfl
  have y0 := hbRz.frozen 0
  have y1 := hbRz.frozen 1
  have y2 := hbRz.frozen 2
  have y3 := hbRz.frozen 3
  have hne : w.heap.size ≠ w1.heap.size := by omega
  obtain ⟨pz, yz⟩ := sz
  by_cases hyz : yz = 0
  case neg =>
    have hV : TV = (jh, ⟨pz, yz⟩) := by rw [HV.out, kN, if_pos hyz]
    have HV2 := jJ0 hV
    have hyz1 : (yz == 0) = false := beq_eq_false_iff_ne.2 hyz
    have hyz2 : (yz != 0) = true := by simpa using hyz
    clear hV hyz
    go_wp2_with fail
    refine (jR _ g bs ⟨pz, yz⟩ hrz).mono ?_
    rintro e w' ⟨rfl, rfl⟩
    go_wp2_with fail
    refine (jR _ g bs ⟨pz, yz⟩ hrz).mono ?_
    rintro e w' ⟨rfl, rfl⟩
    go_wp2
    rw [HV2.out]
    refine jA rfl rfl ((((hbRz.set_ 0 _).set_ 1 _).set_ 2 _).set_ 3 _) Tryz.underlying29 rfl (by kernel_rfl) rfl ?_
    refine ⟨none, 0, rfl, Rd.none_, fun h => absurd h (by simp [jh]), Nat.le_refl _, ?_, ?_⟩
    · exact (((hrz.set (p := ⟨w.heap.size, 0, none⟩) hgl _).set (p := ⟨w.heap.size, 1, none⟩) hgl _).set (p := ⟨w.heap.size, 2, none⟩) hgl _).set (p := ⟨w.heap.size, 3, none⟩) hgl _
    · exact (((hkz.setCell (p := ⟨w.heap.size, 0, none⟩) (fun h => absurd h (Nat.lt_irrefl _)) _).setCell (p := ⟨w.heap.size, 1, none⟩) (fun h => absurd h (Nat.lt_irrefl _)) _).setCell (p := ⟨w.heap.size, 2, none⟩) (fun h => absurd h (Nat.lt_irrefl _)) _).setCell (p := ⟨w.heap.size, 3, none⟩) (fun h => absurd h (Nat.lt_irrefl _)) _
  subst hyz
  have hrdz : Rd wz 1 none ((⟨4, nn, ⟨#[]⟩, []⟩ : Val)).s.length (((⟨4, nn, ⟨#[]⟩, []⟩ : Val)).s.map sv) := Rd.none_
  have hcapz : ((⟨4, nn, ⟨#[]⟩, []⟩ : Val)).s.length <= 0 := Nat.le_refl _
  have hbigz : ((⟨4, nn, ⟨#[]⟩, []⟩ : Val)).s.length <= 1000000000000 := (by simp)
  have Hav := jJ0 (show Av (fun k => k < w.heap.size) ((⟨4, nn, ⟨#[]⟩, []⟩ : Val)).s.length none from (fun h => absurd h (by simp)))
  by_cases hR : jP (⟨4, nn, ⟨#[]⟩, []⟩ : Val) = 0
  · have hV : TV = ((⟨4, nn, ⟨#[]⟩, []⟩ : Val), ⟨pz, 0⟩) := by rw [HV.out, kN, if_neg (by simp), if_neg (by simpa using hR)]
    have HV2 := jJ0 hV
    have HRt := jJ0 (ji (⟨4, nn, ⟨#[]⟩, []⟩ : Val) none 0 wz hrdz hcapz hbigz)
    rw [hR] at HRt
    clear hV hR
    go_wp2_with fail
    refine (jR _ g bs ⟨pz, 0⟩ hrz).mono ?_
    rintro e w' ⟨rfl, rfl⟩
    go_wp2_with fail
    refine HRt.out.mono ?_
    rintro e w3 ⟨rfl, ho3⟩
    have hrz3 := hrz.old ho3
    have hbRz3 := hbRz.old ho3
    have hbVz3 := hbVz.old ho3
    have hkz3 := hkz.old ho3
    have hrdz3 := hrdz.old ho3
    have s0 := hbVz3.at_ 0 rfl
    have s1 := hbVz3.at_ 1 rfl
    have s2 := hbVz3.at_ 2 rfl
    have s3 := hbVz3.at_ 3 rfl
    have t0 := hbRz3.at_ 0 rfl
    have t1 := hbRz3.at_ 1 rfl
    have t2 := hbRz3.at_ 2 rfl
    have t3 := hbRz3.at_ 3 rfl
    have r0 := hbRz3.frozen 0
    have r1 := hbRz3.frozen 1
    have r2 := hbRz3.frozen 2
    have r3 := hbRz3.frozen 3
    go_wp2_with fail
    refine (jR _ g bs ⟨pz, 0⟩ hrz3).mono ?_
    rintro e w' ⟨rfl, rfl⟩
    go_wp2
    rw [HV2.out]
    refine jA rfl rfl ((((hbRz3.set_ 0 _).set_ 1 _).set_ 2 _).set_ 3 _) Tryz.underlying29 rfl (by kernel_rfl) rfl ?_
    have hks : Kp (fun k => k = w.heap.size) w3 ((((w3.setCell ⟨w.heap.size, 0, none⟩ (.int .i64 4)).setCell ⟨w.heap.size, 1, none⟩ (.int .i64 nn)).setCell ⟨w.heap.size, 2, none⟩ (.string ⟨#[]⟩)).setCell ⟨w.heap.size, 3, none⟩ (.slice none ((⟨4, nn, ⟨#[]⟩, []⟩ : Val)).s.length 0)) := ((((Kp.refl (fun k => k = w.heap.size) _).setCell (p := ⟨w.heap.size, 0, none⟩) (fun _ => rfl) _).setCell (p := ⟨w.heap.size, 1, none⟩) (fun _ => rfl) _).setCell (p := ⟨w.heap.size, 2, none⟩) (fun _ => rfl) _).setCell (p := ⟨w.heap.size, 3, none⟩) (fun _ => rfl) _
    refine ⟨none, 0, rfl, ?_, Hav.out, hcapz, ?_, ?_⟩
    · exact hrdz3.kp hks (fun h => absurd h (by simp))
    · exact (((hrz3.set (p := ⟨w.heap.size, 0, none⟩) hgl _).set (p := ⟨w.heap.size, 1, none⟩) hgl _).set (p := ⟨w.heap.size, 2, none⟩) hgl _).set (p := ⟨w.heap.size, 3, none⟩) hgl _
    · exact hkz3.trans hks (fun b hb e => by omega)
  · have hV : TV = (jh, ⟨pz, 8⟩) := by rw [HV.out, kN, if_neg (by simp), if_pos (by simpa using hR)]
    have HV2 := jJ0 hV
    have HRt := jJ0 (ji (⟨4, nn, ⟨#[]⟩, []⟩ : Val) none 0 wz hrdz hcapz hbigz)
    have hRb : (jP (⟨4, nn, ⟨#[]⟩, []⟩ : Val) != 0) = true := by simpa using hR
    generalize jP (⟨4, nn, ⟨#[]⟩, []⟩ : Val) = zz at HRt hRb
    clear hV hR
    go_wp2_with fail
    refine (jR _ g bs ⟨pz, 0⟩ hrz).mono ?_
    rintro e w' ⟨rfl, rfl⟩
    go_wp2_with fail
    refine HRt.out.mono ?_
    rintro e w3 ⟨rfl, ho3⟩
    go_wp2_with fail
    refine (ko _ g bs (-1) ⟨pz, 0⟩ (hrz.old ho3) (by omega)).mono ?_
    rintro e w4 ⟨A4, c4, rfl, _, _, _, hr4, hk4⟩
    rw [show (rawN bs (-1) ⟨pz, 0⟩).2 = ⟨pz, 8⟩ from rfl] at hr4
    have hgne : ¬ RX g w.heap.size := fun e => by have : w.heap.size = g := e; omega
    have hbR4 := (hbRz.old ho3).kp hk4 hgne
    have hkz4 : Kp (RX g) w w4 := (hkz.old ho3).trans hk4 (fun _ _ h => h)
    have t0 := hbR4.at_ 0 rfl
    have t1 := hbR4.at_ 1 rfl
    have t2 := hbR4.at_ 2 rfl
    have t3 := hbR4.at_ 3 rfl
    have r0 := hbR4.frozen 0
    have r1 := hbR4.frozen 1
    have r2 := hbR4.frozen 2
    have r3 := hbR4.frozen 3
    clear hk4 ho3
    go_wp2_with fail
    refine (jR _ g bs ⟨pz, 8⟩ hr4).mono ?_
    rintro e w' ⟨rfl, rfl⟩
    go_wp2
    rw [HV2.out]
    refine jA rfl rfl ((((hbR4.set_ 0 _).set_ 1 _).set_ 2 _).set_ 3 _) Tryz.underlying29 rfl (by kernel_rfl) rfl ?_
    refine ⟨none, 0, rfl, Rd.none_, fun h => absurd h (by simp [jh]), Nat.le_refl _, ?_, ?_⟩
    · exact (((hr4.set (p := ⟨w.heap.size, 0, none⟩) hgl _).set (p := ⟨w.heap.size, 1, none⟩) hgl _).set (p := ⟨w.heap.size, 2, none⟩) hgl _).set (p := ⟨w.heap.size, 3, none⟩) hgl _
    · exact (((hkz4.setCell (p := ⟨w.heap.size, 0, none⟩) (fun h => absurd h (Nat.lt_irrefl _)) _).setCell (p := ⟨w.heap.size, 1, none⟩) (fun h => absurd h (Nat.lt_irrefl _)) _).setCell (p := ⟨w.heap.size, 2, none⟩) (fun h => absurd h (Nat.lt_irrefl _)) _).setCell (p := ⟨w.heap.size, 3, none⟩) (fun h => absurd h (Nat.lt_irrefl _)) _
theorem takev_3 (w : World) (g : Nat) (bs : List UInt8) (s : Rs) (h : Rr w g bs s) (hk : (tkN bs 1 s).1 = 3) :
    Calls Tryz.prog 85 #[.pointer (some ⟨g, 0, none⟩)] w (TookV w g bs (jN bs s)) := by
  have HT := jJ0 (show jN bs s = kN (kX bs 3 (tkN bs 1 s).2) by rw [jN, hk])
  generalize jN bs s = TV at HT ⊢
  have hgl := h.lt
  have Hk := jJ0 hk
  clear hk
  go_enter Tryz.func85, Tryz.ntmps85
  go_wp2_with fail
  refine (jQ _ g bs s (h.old ((Kp.refl NoX w).alloc _))).mono ?_
  rintro e w1 ⟨rfl, hr1, hk1⟩
  rw [Hk.out]
  have hbR := (Blk.new w 29 #[.int .i64 0, .int .i64 0, .string ⟨#[]⟩, .slice none 0 0]).kp hk1 (show ¬ RX g w.heap.size from fun e => by have : w.heap.size = g := e; omega)
  have hkk : Kp (RX g) w w1 := ((Kp.refl (RX g) w).alloc _).trans hk1 (fun _ _ h => h)
  generalize (tkN bs 1 s).2 = s1 at *
  clear hk1
  have hbV := Blk.new w1 29 #[.int .i64 3, .int .i64 0, .string ⟨#[]⟩, .slice none 0 0]
  have hr2 := hr1.old ((Kp.refl NoX w1).alloc (.cells #[.int .i64 3, .int .i64 0, .string ⟨#[]⟩, .slice none 0 0] 29))
  have hbR2 := hbR.alloc (.cells #[.int .i64 3, .int .i64 0, .string ⟨#[]⟩, .slice none 0 0] 29)
  have hkk2 := hkk.alloc (.cells #[.int .i64 3, .int .i64 0, .string ⟨#[]⟩, .slice none 0 0] 29)
  have hw1 := hkk.size
  have hRlt : w.heap.size < w1.heap.size := hbR.lt
  have hgne1 : ¬ RX g w1.heap.size := fun e => by have : w1.heap.size = g := e; omega
  have hgne0 : ¬ RX g w.heap.size := fun e => by have : w.heap.size = g := e; omega
  have Hkv := jJ0 (show kX bs 3 s1 = ((⟨3, 0, ⟨(va bs 1024 s1).1.toArray⟩, []⟩ : Val), (va bs 1024 s1).2) by rw [kX, if_neg (by simp), if_neg (by simp), if_pos rfl])
  go_wp2_with fail
  refine (rtext_any _ g bs 1024 s1 hr2 (by omega)).mono ?_
  rintro e w3 ⟨rfl, hr3, hk3⟩
  have hbV3 := hbV.kp hk3 hgne1
  have hbR3 := hbR2.kp hk3 hgne0
  have hkk3 : Kp (RX g) w w3 := hkk2.trans hk3 (fun _ _ h => h)
  have p0 := hbV3.at_ 0 rfl
  have p1 := hbV3.at_ 1 rfl
  have p2 := hbV3.at_ 2 rfl
  have p3 := hbV3.at_ 3 rfl
  have pz := hbV3.frozen 2
  clear hk3 hbV hbR2 hkk2 hr2
  go_wp2_with fail
  have hbVz := hbV3.set_ 2 (.string ⟨(va bs 1024 s1).1.toArray⟩)
  have hbRz := hbR3.far (p := ⟨w1.heap.size, 2, none⟩) (by simp only; omega) (.string ⟨(va bs 1024 s1).1.toArray⟩)
  have hkz := hkk3.setCell (p := ⟨w1.heap.size, 2, none⟩) (fun h => absurd (Nat.lt_of_lt_of_le h hw1) (Nat.lt_irrefl _)) (.string ⟨(va bs 1024 s1).1.toArray⟩)
  have hrz := hr3.set (p := ⟨w1.heap.size, 2, none⟩) (by simp only; omega) (.string ⟨(va bs 1024 s1).1.toArray⟩)
  have Hkv2 := Hkv.out
  clear Hkv
  generalize (⟨(va bs 1024 s1).1.toArray⟩ : ByteArray) = tt at *
  generalize (va bs 1024 s1).2 = sz at *
  have Hkv := jJ0 Hkv2
  clear Hkv2
  generalize hwz : w3.setCell ⟨w1.heap.size, 2, none⟩ (.string tt) = wz at *
  clear hwz hr3 hbV3 hbR3 hkk3 pz p0 p1 p2 p3
  have HV := jJ0 (show TV = kN ((⟨3, 0, tt, []⟩ : Val), sz) from HT.out.trans (by rw [Hkv.out]))
  clear HT Hkv
  have u0 := hbVz.at_ 0 rfl
  have u1 := hbVz.at_ 1 rfl
  have u2 := hbVz.at_ 2 rfl
  have u3 := hbVz.at_ 3 rfl
  have v0 := hbRz.at_ 0 rfl
  have v1 := hbRz.at_ 1 rfl
  have v2 := hbRz.at_ 2 rfl
  have v3 := hbRz.at_ 3 rfl
  have y0 := hbRz.frozen 0
  have y1 := hbRz.frozen 1
  have y2 := hbRz.frozen 2
  have y3 := hbRz.frozen 3
  have hne : w.heap.size ≠ w1.heap.size := by omega
  obtain ⟨pz, yz⟩ := sz
  by_cases hyz : yz = 0
  case neg =>
    have hV : TV = (jh, ⟨pz, yz⟩) := by rw [HV.out, kN, if_pos hyz]
    have HV2 := jJ0 hV
    have hyz1 : (yz == 0) = false := beq_eq_false_iff_ne.2 hyz
    have hyz2 : (yz != 0) = true := by simpa using hyz
    clear hV hyz
    go_wp2_with fail
    refine (jR _ g bs ⟨pz, yz⟩ hrz).mono ?_
    rintro e w' ⟨rfl, rfl⟩
    go_wp2_with fail
    refine (jR _ g bs ⟨pz, yz⟩ hrz).mono ?_
    rintro e w' ⟨rfl, rfl⟩
    go_wp2
    rw [HV2.out]
    refine jA rfl rfl ((((hbRz.set_ 0 _).set_ 1 _).set_ 2 _).set_ 3 _) Tryz.underlying29 rfl (by kernel_rfl) rfl ?_
    refine ⟨none, 0, rfl, Rd.none_, fun h => absurd h (by simp [jh]), Nat.le_refl _, ?_, ?_⟩
    · exact (((hrz.set (p := ⟨w.heap.size, 0, none⟩) hgl _).set (p := ⟨w.heap.size, 1, none⟩) hgl _).set (p := ⟨w.heap.size, 2, none⟩) hgl _).set (p := ⟨w.heap.size, 3, none⟩) hgl _
    · exact (((hkz.setCell (p := ⟨w.heap.size, 0, none⟩) (fun h => absurd h (Nat.lt_irrefl _)) _).setCell (p := ⟨w.heap.size, 1, none⟩) (fun h => absurd h (Nat.lt_irrefl _)) _).setCell (p := ⟨w.heap.size, 2, none⟩) (fun h => absurd h (Nat.lt_irrefl _)) _).setCell (p := ⟨w.heap.size, 3, none⟩) (fun h => absurd h (Nat.lt_irrefl _)) _
  subst hyz
  have hrdz : Rd wz 1 none ((⟨3, 0, tt, []⟩ : Val)).s.length (((⟨3, 0, tt, []⟩ : Val)).s.map sv) := Rd.none_
  have hcapz : ((⟨3, 0, tt, []⟩ : Val)).s.length <= 0 := Nat.le_refl _
  have hbigz : ((⟨3, 0, tt, []⟩ : Val)).s.length <= 1000000000000 := (by simp)
  have Hav := jJ0 (show Av (fun k => k < w.heap.size) ((⟨3, 0, tt, []⟩ : Val)).s.length none from (fun h => absurd h (by simp)))
  by_cases hR : jP (⟨3, 0, tt, []⟩ : Val) = 0
  · have hV : TV = ((⟨3, 0, tt, []⟩ : Val), ⟨pz, 0⟩) := by rw [HV.out, kN, if_neg (by simp), if_neg (by simpa using hR)]
    have HV2 := jJ0 hV
    have HRt := jJ0 (ji (⟨3, 0, tt, []⟩ : Val) none 0 wz hrdz hcapz hbigz)
    rw [hR] at HRt
    clear hV hR
    go_wp2_with fail
    refine (jR _ g bs ⟨pz, 0⟩ hrz).mono ?_
    rintro e w' ⟨rfl, rfl⟩
    go_wp2_with fail
    refine HRt.out.mono ?_
    rintro e w3 ⟨rfl, ho3⟩
    have hrz3 := hrz.old ho3
    have hbRz3 := hbRz.old ho3
    have hbVz3 := hbVz.old ho3
    have hkz3 := hkz.old ho3
    have hrdz3 := hrdz.old ho3
    have s0 := hbVz3.at_ 0 rfl
    have s1 := hbVz3.at_ 1 rfl
    have s2 := hbVz3.at_ 2 rfl
    have s3 := hbVz3.at_ 3 rfl
    have t0 := hbRz3.at_ 0 rfl
    have t1 := hbRz3.at_ 1 rfl
    have t2 := hbRz3.at_ 2 rfl
    have t3 := hbRz3.at_ 3 rfl
    have r0 := hbRz3.frozen 0
    have r1 := hbRz3.frozen 1
    have r2 := hbRz3.frozen 2
    have r3 := hbRz3.frozen 3
    go_wp2_with fail
    refine (jR _ g bs ⟨pz, 0⟩ hrz3).mono ?_
    rintro e w' ⟨rfl, rfl⟩
    go_wp2
    rw [HV2.out]
    refine jA rfl rfl ((((hbRz3.set_ 0 _).set_ 1 _).set_ 2 _).set_ 3 _) Tryz.underlying29 rfl (by kernel_rfl) rfl ?_
    have hks : Kp (fun k => k = w.heap.size) w3 ((((w3.setCell ⟨w.heap.size, 0, none⟩ (.int .i64 3)).setCell ⟨w.heap.size, 1, none⟩ (.int .i64 0)).setCell ⟨w.heap.size, 2, none⟩ (.string tt)).setCell ⟨w.heap.size, 3, none⟩ (.slice none ((⟨3, 0, tt, []⟩ : Val)).s.length 0)) := ((((Kp.refl (fun k => k = w.heap.size) _).setCell (p := ⟨w.heap.size, 0, none⟩) (fun _ => rfl) _).setCell (p := ⟨w.heap.size, 1, none⟩) (fun _ => rfl) _).setCell (p := ⟨w.heap.size, 2, none⟩) (fun _ => rfl) _).setCell (p := ⟨w.heap.size, 3, none⟩) (fun _ => rfl) _
    refine ⟨none, 0, rfl, ?_, Hav.out, hcapz, ?_, ?_⟩
    · exact hrdz3.kp hks (fun h => absurd h (by simp))
    · exact (((hrz3.set (p := ⟨w.heap.size, 0, none⟩) hgl _).set (p := ⟨w.heap.size, 1, none⟩) hgl _).set (p := ⟨w.heap.size, 2, none⟩) hgl _).set (p := ⟨w.heap.size, 3, none⟩) hgl _
    · exact hkz3.trans hks (fun b hb e => by omega)
  · have hV : TV = (jh, ⟨pz, 8⟩) := by rw [HV.out, kN, if_neg (by simp), if_pos (by simpa using hR)]
    have HV2 := jJ0 hV
    have HRt := jJ0 (ji (⟨3, 0, tt, []⟩ : Val) none 0 wz hrdz hcapz hbigz)
    have hRb : (jP (⟨3, 0, tt, []⟩ : Val) != 0) = true := by simpa using hR
    generalize jP (⟨3, 0, tt, []⟩ : Val) = zz at HRt hRb
    clear hV hR
    go_wp2_with fail
    refine (jR _ g bs ⟨pz, 0⟩ hrz).mono ?_
    rintro e w' ⟨rfl, rfl⟩
    go_wp2_with fail
    refine HRt.out.mono ?_
    rintro e w3 ⟨rfl, ho3⟩
    go_wp2_with fail
    refine (ko _ g bs (-1) ⟨pz, 0⟩ (hrz.old ho3) (by omega)).mono ?_
    rintro e w4 ⟨A4, c4, rfl, _, _, _, hr4, hk4⟩
    rw [show (rawN bs (-1) ⟨pz, 0⟩).2 = ⟨pz, 8⟩ from rfl] at hr4
    have hgne : ¬ RX g w.heap.size := fun e => by have : w.heap.size = g := e; omega
    have hbR4 := (hbRz.old ho3).kp hk4 hgne
    have hkz4 : Kp (RX g) w w4 := (hkz.old ho3).trans hk4 (fun _ _ h => h)
    have t0 := hbR4.at_ 0 rfl
    have t1 := hbR4.at_ 1 rfl
    have t2 := hbR4.at_ 2 rfl
    have t3 := hbR4.at_ 3 rfl
    have r0 := hbR4.frozen 0
    have r1 := hbR4.frozen 1
    have r2 := hbR4.frozen 2
    have r3 := hbR4.frozen 3
    clear hk4 ho3
    go_wp2_with fail
    refine (jR _ g bs ⟨pz, 8⟩ hr4).mono ?_
    rintro e w' ⟨rfl, rfl⟩
    go_wp2
    rw [HV2.out]
    refine jA rfl rfl ((((hbR4.set_ 0 _).set_ 1 _).set_ 2 _).set_ 3 _) Tryz.underlying29 rfl (by kernel_rfl) rfl ?_
    refine ⟨none, 0, rfl, Rd.none_, fun h => absurd h (by simp [jh]), Nat.le_refl _, ?_, ?_⟩
    · exact (((hr4.set (p := ⟨w.heap.size, 0, none⟩) hgl _).set (p := ⟨w.heap.size, 1, none⟩) hgl _).set (p := ⟨w.heap.size, 2, none⟩) hgl _).set (p := ⟨w.heap.size, 3, none⟩) hgl _
    · exact (((hkz4.setCell (p := ⟨w.heap.size, 0, none⟩) (fun h => absurd h (Nat.lt_irrefl _)) _).setCell (p := ⟨w.heap.size, 1, none⟩) (fun h => absurd h (Nat.lt_irrefl _)) _).setCell (p := ⟨w.heap.size, 2, none⟩) (fun h => absurd h (Nat.lt_irrefl _)) _).setCell (p := ⟨w.heap.size, 3, none⟩) (fun h => absurd h (Nat.lt_irrefl _)) _
end Go.Proofs.YtnaolhjbapgjgaaGreat
