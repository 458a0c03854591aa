import Derived.Test.YtnaolhjbapgjgaaGreatMg11
import Derived.Test.YtnaolhjbapgjgaaGreatMg14
import Derived.Test.YtnaolhjbapgjgaaGreatMg15
set_option maxRecDepth 100000
set_option maxHeartbeats 3200000
namespace Go.Proofs.YtnaolhjbapgjgaaGreat
open Go.RowKit
theorem textsGo_len (bs : List UInt8) (each : Int) : ∀ (n p : Nat) (acc : List ByteArray), (jY bs each n p acc).2.1.length <= acc.length + n := by
  intro n
  induction n with
  | zero => intro p acc; simp [jY]
  | succ n ih =>
    intro p acc
    rw [jY]
    split
    · simp
    · refine Nat.le_trans (ih _ _) ?_
      simp
      omega
theorem textsN_len (bs : List UInt8) (most each : Int) (s : Rs) : (kY bs most each s).1.length <= 65536 := by
  unfold kY
  split
  · simp
  · split
    · simp
    · split
      · simp
      · split
        · simp
        · refine Nat.le_trans (textsGo_len _ _ _ _ _) ?_
          have := jt (bs.drop s.at_) 2
          simp
          omega
theorem takev_2 (w : World) (g : Nat) (bs : List UInt8) (s : Rs) (h : Rr w g bs s) (hk : (tkN bs 1 s).1 = 2) :
    Calls Tryz.prog 85 #[.pointer (some ⟨g, 0, none⟩)] w (TookV w g bs (jN bs s)) := by
  have HT := jJ0 (show jN bs s = kN (kX bs 2 (tkN bs 1 s).2) by rw [jN, hk])
  generalize jN bs s = TV at HT ⊢
  have hgl := h.lt
  have Hk := jJ0 hk
  clear hk
  go_enter Tryz.func85, Tryz.ntmps85
  go_wp2_with fail
  refine (jQ _ g bs s (h.old ((Kp.refl NoX w).alloc _))).mono ?_
  rintro e w1 ⟨rfl, hr1, hk1⟩
  rw [Hk.out]
  have hbR := (Blk.new w 29 #[.int .i64 0, .int .i64 0, .string ⟨#[]⟩, .slice none 0 0]).kp hk1 (show ¬ RX g w.heap.size from fun e => by have : w.heap.size = g := e; omega)
  have hkk : Kp (RX g) w w1 := ((Kp.refl (RX g) w).alloc _).trans hk1 (fun _ _ h => h)
  generalize (tkN bs 1 s).2 = s1 at *
  clear hk1
  have hbV := Blk.new w1 29 #[.int .i64 2, .int .i64 0, .string ⟨#[]⟩, .slice none 0 0]
  have hr2 := hr1.old ((Kp.refl NoX w1).alloc (.cells #[.int .i64 2, .int .i64 0, .string ⟨#[]⟩, .slice none 0 0] 29))
  have hbR2 := hbR.alloc (.cells #[.int .i64 2, .int .i64 0, .string ⟨#[]⟩, .slice none 0 0] 29)
  have hkk2 := hkk.alloc (.cells #[.int .i64 2, .int .i64 0, .string ⟨#[]⟩, .slice none 0 0] 29)
  have hw1 := hkk.size
  have hRlt : w.heap.size < w1.heap.size := hbR.lt
  have hgne1 : ¬ RX g w1.heap.size := fun e => by have : w1.heap.size = g := e; omega
  have hgne0 : ¬ RX g w.heap.size := fun e => by have : w.heap.size = g := e; omega
  have Hkv := jJ0 (show kX bs 2 s1 = ((⟨2, if (kO bs s1).1 then 1 else 0, ⟨#[]⟩, []⟩ : Val), (kO bs s1).2) by rw [kX, if_neg (by simp), if_pos rfl]; rfl)
  go_wp2_with fail
  refine (rflag_any _ g bs s1 hr2).mono ?_
  rintro e w3 ⟨rfl, hr3, hk3⟩
  have hbV3 := hbV.kp hk3 hgne1
  have hbR3 := hbR2.kp hk3 hgne0
  have hkk3 : Kp (RX g) w w3 := hkk2.trans hk3 (fun _ _ h => h)
  have p0 := hbV3.at_ 0 rfl
  have p1 := hbV3.at_ 1 rfl
  have p2 := hbV3.at_ 2 rfl
  have p3 := hbV3.at_ 3 rfl
  have pz := hbV3.frozen 1
  clear hk3 hbV hbR2 hkk2 hr2
  have Hkv2 := Hkv.out
  clear Hkv
  generalize (kO bs s1).2 = sz at *
  generalize (kO bs s1).1 = fl at *
  cases fl
  · have Hkv := jJ0 (show kX bs 2 s1 = ((⟨2, 0, ⟨#[]⟩, []⟩ : Val), sz) from Hkv2)
    clear Hkv2
    have hbVz := hbV3
    have hbRz := hbR3
    have hkz := hkk3
    have hrz := hr3
    go_wp2_with fail
    generalize w3 = wz at *
    clear hr3 hbV3 hbR3 hkk3 pz p0 p1 p2 p3
    have HV := jJ0 (show TV = kN ((⟨2, 0, ⟨#[]⟩, []⟩ : Val), sz) from HT.out.trans (by rw [Hkv.out]))
    clear HT Hkv
    have u0 := hbVz.at_ 0 rfl
    have u1 := hbVz.at_ 1 rfl
    have u2 := hbVz.at_ 2 rfl
    have u3 := hbVz.at_ 3 rfl
    have v0 := hbRz.at_ 0 rfl
    have v1 := hbRz.at_ 1 rfl
    have v2 := hbRz.at_ 2 rfl
    have v3 := hbRz.at_ 3 rfl
    have y0 := hbRz.frozen 0
    have y1 := hbRz.frozen 1
    have y2 := hbRz.frozen 2
    have y3 := hbRz.frozen 3
    have hne : w.heap.size ≠ w1.heap.size := by omega
    obtain ⟨pz, yz⟩ := sz
    by_cases hyz : yz = 0
    case neg =>
      have hV : TV = (jh, ⟨pz, yz⟩) := by rw [HV.out, kN, if_pos hyz]
      have HV2 := jJ0 hV
      have hyz1 : (yz == 0) = false := beq_eq_false_iff_ne.2 hyz
      have hyz2 : (yz != 0) = true := by simpa using hyz
      clear hV hyz
      go_wp2_with fail
      refine (jR _ g bs ⟨pz, yz⟩ hrz).mono ?_
      rintro e w' ⟨rfl, rfl⟩
      go_wp2_with fail
      refine (jR _ g bs ⟨pz, yz⟩ hrz).mono ?_
      rintro e w' ⟨rfl, rfl⟩
      go_wp2
      rw [HV2.out]
      refine jA rfl rfl ((((hbRz.set_ 0 _).set_ 1 _).set_ 2 _).set_ 3 _) Tryz.underlying29 rfl (by kernel_rfl) rfl ?_
      refine ⟨none, 0, rfl, Rd.none_, fun h => absurd h (by simp [jh]), Nat.le_refl _, ?_, ?_⟩
      · exact (((hrz.set (p := ⟨w.heap.size, 0, none⟩) hgl _).set (p := ⟨w.heap.size, 1, none⟩) hgl _).set (p := ⟨w.heap.size, 2, none⟩) hgl _).set (p := ⟨w.heap.size, 3, none⟩) hgl _
      · exact (((hkz.setCell (p := ⟨w.heap.size, 0, none⟩) (fun h => absurd h (Nat.lt_irrefl _)) _).setCell (p := ⟨w.heap.size, 1, none⟩) (fun h => absurd h (Nat.lt_irrefl _)) _).setCell (p := ⟨w.heap.size, 2, none⟩) (fun h => absurd h (Nat.lt_irrefl _)) _).setCell (p := ⟨w.heap.size, 3, none⟩) (fun h => absurd h (Nat.lt_irrefl _)) _
    subst hyz
    have hrdz : Rd wz 1 none ((⟨2, 0, ⟨#[]⟩, []⟩ : Val)).s.length (((⟨2, 0, ⟨#[]⟩, []⟩ : Val)).s.map sv) := Rd.none_
    have hcapz : ((⟨2, 0, ⟨#[]⟩, []⟩ : Val)).s.length <= 0 := Nat.le_refl _
    have hbigz : ((⟨2, 0, ⟨#[]⟩, []⟩ : Val)).s.length <= 1000000000000 := (by simp)
    have Hav := jJ0 (show Av (fun k => k < w.heap.size) ((⟨2, 0, ⟨#[]⟩, []⟩ : Val)).s.length none from (fun h => absurd h (by simp)))
    by_cases hR : jP (⟨2, 0, ⟨#[]⟩, []⟩ : Val) = 0
    · have hV : TV = ((⟨2, 0, ⟨#[]⟩, []⟩ : Val), ⟨pz, 0⟩) := by rw [HV.out, kN, if_neg (by simp), if_neg (by simpa using hR)]
      have HV2 := jJ0 hV
      have HRt := jJ0 (ji (⟨2, 0, ⟨#[]⟩, []⟩ : Val) none 0 wz hrdz hcapz hbigz)
      rw [hR] at HRt
      clear hV hR
      go_wp2_with fail
      refine (jR _ g bs ⟨pz, 0⟩ hrz).mono ?_
      rintro e w' ⟨rfl, rfl⟩
      go_wp2_with fail
      refine HRt.out.mono ?_
      rintro e w3 ⟨rfl, ho3⟩
      have hrz3 := hrz.old ho3
      have hbRz3 := hbRz.old ho3
      have hbVz3 := hbVz.old ho3
      have hkz3 := hkz.old ho3
      have hrdz3 := hrdz.old ho3
      have s0 := hbVz3.at_ 0 rfl
      have s1 := hbVz3.at_ 1 rfl
      have s2 := hbVz3.at_ 2 rfl
      have s3 := hbVz3.at_ 3 rfl
      have t0 := hbRz3.at_ 0 rfl
      have t1 := hbRz3.at_ 1 rfl
      have t2 := hbRz3.at_ 2 rfl
      have t3 := hbRz3.at_ 3 rfl
      have r0 := hbRz3.frozen 0
      have r1 := hbRz3.frozen 1
      have r2 := hbRz3.frozen 2
      have r3 := hbRz3.frozen 3
      go_wp2_with fail
      refine (jR _ g bs ⟨pz, 0⟩ hrz3).mono ?_
      rintro e w' ⟨rfl, rfl⟩
      go_wp2
      rw [HV2.out]
      refine jA rfl rfl ((((hbRz3.set_ 0 _).set_ 1 _).set_ 2 _).set_ 3 _) Tryz.underlying29 rfl (by kernel_rfl) rfl ?_
      have hks : Kp (fun k => k = w.heap.size) w3 ((((w3.setCell ⟨w.heap.size, 0, none⟩ (.int .i64 2)).setCell ⟨w.heap.size, 1, none⟩ (.int .i64 0)).setCell ⟨w.heap.size, 2, none⟩ (.string ⟨#[]⟩)).setCell ⟨w.heap.size, 3, none⟩ (.slice none ((⟨2, 0, ⟨#[]⟩, []⟩ : Val)).s.length 0)) := ((((Kp.refl (fun k => k = w.heap.size) _).setCell (p := ⟨w.heap.size, 0, none⟩) (fun _ => rfl) _).setCell (p := ⟨w.heap.size, 1, none⟩) (fun _ => rfl) _).setCell (p := ⟨w.heap.size, 2, none⟩) (fun _ => rfl) _).setCell (p := ⟨w.heap.size, 3, none⟩) (fun _ => rfl) _
      refine ⟨none, 0, rfl, ?_, Hav.out, hcapz, ?_, ?_⟩
      · exact hrdz3.kp hks (fun h => absurd h (by simp))
      · exact (((hrz3.set (p := ⟨w.heap.size, 0, none⟩) hgl _).set (p := ⟨w.heap.size, 1, none⟩) hgl _).set (p := ⟨w.heap.size, 2, none⟩) hgl _).set (p := ⟨w.heap.size, 3, none⟩) hgl _
      · exact hkz3.trans hks (fun b hb e => by omega)
    · have hV : TV = (jh, ⟨pz, 8⟩) := by rw [HV.out, kN, if_neg (by simp), if_pos (by simpa using hR)]
      have HV2 := jJ0 hV
      have HRt := jJ0 (ji (⟨2, 0, ⟨#[]⟩, []⟩ : Val) none 0 wz hrdz hcapz hbigz)
      have hRb : (jP (⟨2, 0, ⟨#[]⟩, []⟩ : Val) != 0) = true := by simpa using hR
      generalize jP (⟨2, 0, ⟨#[]⟩, []⟩ : Val) = zz at HRt hRb
      clear hV hR
      go_wp2_with fail
      refine (jR _ g bs ⟨pz, 0⟩ hrz).mono ?_
      rintro e w' ⟨rfl, rfl⟩
      go_wp2_with fail
      refine HRt.out.mono ?_
      rintro e w3 ⟨rfl, ho3⟩
      go_wp2_with fail
      refine (ko _ g bs (-1) ⟨pz, 0⟩ (hrz.old ho3) (by omega)).mono ?_
      rintro e w4 ⟨A4, c4, rfl, _, _, _, hr4, hk4⟩
      rw [show (rawN bs (-1) ⟨pz, 0⟩).2 = ⟨pz, 8⟩ from rfl] at hr4
      have hgne : ¬ RX g w.heap.size := fun e => by have : w.heap.size = g := e; omega
      have hbR4 := (hbRz.old ho3).kp hk4 hgne
      have hkz4 : Kp (RX g) w w4 := (hkz.old ho3).trans hk4 (fun _ _ h => h)
      have t0 := hbR4.at_ 0 rfl
      have t1 := hbR4.at_ 1 rfl
      have t2 := hbR4.at_ 2 rfl
      have t3 := hbR4.at_ 3 rfl
      have r0 := hbR4.frozen 0
      have r1 := hbR4.frozen 1
      have r2 := hbR4.frozen 2
      have r3 := hbR4.frozen 3
      clear hk4 ho3
      go_wp2_with fail
      refine (jR _ g bs ⟨pz, 8⟩ hr4).mono ?_
      rintro e w' ⟨rfl, rfl⟩
      go_wp2
      rw [HV2.out]
      refine jA rfl rfl ((((hbR4.set_ 0 _).set_ 1 _).set_ 2 _).set_ 3 _) Tryz.underlying29 rfl (by kernel_rfl) rfl ?_
      refine ⟨none, 0, rfl, Rd.none_, fun h => absurd h (by simp [jh]), Nat.le_refl _, ?_, ?_⟩
      · exact (((hr4.set (p := ⟨w.heap.size, 0, none⟩) hgl _).set (p := ⟨w.heap.size, 1, none⟩) hgl _).set (p := ⟨w.heap.size, 2, none⟩) hgl _).set (p := ⟨w.heap.size, 3, none⟩) hgl _
      · exact (((hkz4.setCell (p := ⟨w.heap.size, 0, none⟩) (fun h => absurd h (Nat.lt_irrefl _)) _).setCell (p := ⟨w.heap.size, 1, none⟩) (fun h => absurd h (Nat.lt_irrefl _)) _).setCell (p := ⟨w.heap.size, 2, none⟩) (fun h => absurd h (Nat.lt_irrefl _)) _).setCell (p := ⟨w.heap.size, 3, none⟩) (fun h => absurd h (Nat.lt_irrefl _)) _
  · have Hkv := jJ0 (show kX bs 2 s1 = ((⟨2, 1, ⟨#[]⟩, []⟩ : Val), sz) from Hkv2)
    clear Hkv2
    have hbVz := hbV3.set_ 1 (.int .i64 1)
    have hbRz := hbR3.far (p := ⟨w1.heap.size, 1, none⟩) (by simp only; omega) (.int .i64 1)
    have hkz := hkk3.setCell (p := ⟨w1.heap.size, 1, none⟩) (fun h => absurd (Nat.lt_of_lt_of_le h hw1) (Nat.lt_irrefl _)) (.int .i64 1)
    have hrz := hr3.set (p := ⟨w1.heap.size, 1, none⟩) (by simp only; omega) (.int .i64 1)
    go_wp2_with fail
    generalize hwz : w3.setCell ⟨w1.heap.size, 1, none⟩ (.int .i64 1) = wz at *
    clear hwz hr3 hbV3 hbR3 hkk3 pz p0 p1 p2 p3
    have HV := jJ0 (show TV = kN ((⟨2, 1, ⟨#[]⟩, []⟩ : Val), sz) from HT.out.trans (by rw [Hkv.out]))
    clear HT Hkv
    have u0 := hbVz.at_ 0 rfl
    have u1 := hbVz.at_ 1 rfl
    have u2 := hbVz.at_ 2 rfl
    have u3 := hbVz.at_ 3 rfl
    have v0 := hbRz.at_ 0 rfl
    have v1 := hbRz.at_ 1 rfl
    have v2 := hbRz.at_ 2 rfl
    have v3 := hbRz.at_ 3 rfl
    have y0 := hbRz.frozen 0
    have y1 := hbRz.frozen 1
    have y2 := hbRz.frozen 2
    have y3 := hbRz.frozen 3
    have hne : w.heap.size ≠ w1.heap.size := by omega
    obtain ⟨pz, yz⟩ := sz
    by_cases hyz : yz = 0
    case neg =>
      have hV : TV = (jh, ⟨pz, yz⟩) := by rw [HV.out, kN, if_pos hyz]
      have HV2 := jJ0 hV
      have hyz1 : (yz == 0) = false := beq_eq_false_iff_ne.2 hyz
      have hyz2 : (yz != 0) = true := by simpa using hyz
      clear hV hyz
      go_wp2_with fail
      refine (jR _ g bs ⟨pz, yz⟩ hrz).mono ?_
      rintro e w' ⟨rfl, rfl⟩
      go_wp2_with fail
      refine (jR _ g bs ⟨pz, yz⟩ hrz).mono ?_
      rintro e w' ⟨rfl, rfl⟩
      go_wp2
      rw [HV2.out]
      refine jA rfl rfl ((((hbRz.set_ 0 _).set_ 1 _).set_ 2 _).set_ 3 _) Tryz.underlying29 rfl (by kernel_rfl) rfl ?_
      refine ⟨none, 0, rfl, Rd.none_, fun h => absurd h (by simp [jh]), Nat.le_refl _, ?_, ?_⟩
      · exact (((hrz.set (p := ⟨w.heap.size, 0, none⟩) hgl _).set (p := ⟨w.heap.size, 1, none⟩) hgl _).set (p := ⟨w.heap.size, 2, none⟩) hgl _).set (p := ⟨w.heap.size, 3, none⟩) hgl _
      · exact (((hkz.setCell (p := ⟨w.heap.size, 0, none⟩) (fun h => absurd h (Nat.lt_irrefl _)) _).setCell (p := ⟨w.heap.size, 1, none⟩) (fun h => absurd h (Nat.lt_irrefl _)) _).setCell (p := ⟨w.heap.size, 2, none⟩) (fun h => absurd h (Nat.lt_irrefl _)) _).setCell (p := ⟨w.heap.size, 3, none⟩) (fun h => absurd h (Nat.lt_irrefl _)) _
    subst hyz
    have hrdz : Rd wz 1 none ((⟨2, 1, ⟨#[]⟩, []⟩ : Val)).s.length (((⟨2, 1, ⟨#[]⟩, []⟩ : Val)).s.map sv) := Rd.none_
    have hcapz : ((⟨2, 1, ⟨#[]⟩, []⟩ : Val)).s.length <= 0 := Nat.le_refl _
    have hbigz : ((⟨2, 1, ⟨#[]⟩, []⟩ : Val)).s.length <= 1000000000000 := (by simp)
    have Hav := jJ0 (show Av (fun k => k < w.heap.size) ((⟨2, 1, ⟨#[]⟩, []⟩ : Val)).s.length none from (fun h => absurd h (by simp)))
    by_cases hR : jP (⟨2, 1, ⟨#[]⟩, []⟩ : Val) = 0
    · have hV : TV = ((⟨2, 1, ⟨#[]⟩, []⟩ : Val), ⟨pz, 0⟩) := by rw [HV.out, kN, if_neg (by simp), if_neg (by simpa using hR)]
      have HV2 := jJ0 hV
      have HRt := jJ0 (ji (⟨2, 1, ⟨#[]⟩, []⟩ : Val) none 0 wz hrdz hcapz hbigz)
      rw [hR] at HRt
      clear hV hR
      go_wp2_with fail
      refine (jR _ g bs ⟨pz, 0⟩ hrz).mono ?_
      rintro e w' ⟨rfl, rfl⟩
      go_wp2_with fail
      refine HRt.out.mono ?_
      rintro e w3 ⟨rfl, ho3⟩
      have hrz3 := hrz.old ho3
      have hbRz3 := hbRz.old ho3
      have hbVz3 := hbVz.old ho3
      have hkz3 := hkz.old ho3
      have hrdz3 := hrdz.old ho3
      have s0 := hbVz3.at_ 0 rfl
      have s1 := hbVz3.at_ 1 rfl
      have s2 := hbVz3.at_ 2 rfl
      have s3 := hbVz3.at_ 3 rfl
      have t0 := hbRz3.at_ 0 rfl
      have t1 := hbRz3.at_ 1 rfl
      have t2 := hbRz3.at_ 2 rfl
      have t3 := hbRz3.at_ 3 rfl
      have r0 := hbRz3.frozen 0
      have r1 := hbRz3.frozen 1
      have r2 := hbRz3.frozen 2
      have r3 := hbRz3.frozen 3
      go_wp2_with fail
      refine (jR _ g bs ⟨pz, 0⟩ hrz3).mono ?_
      rintro e w' ⟨rfl, rfl⟩
      go_wp2
      rw [HV2.out]
      refine jA rfl rfl ((((hbRz3.set_ 0 _).set_ 1 _).set_ 2 _).set_ 3 _) Tryz.underlying29 rfl (by kernel_rfl) rfl ?_
      have hks : Kp (fun k => k = w.heap.size) w3 ((((w3.setCell ⟨w.heap.size, 0, none⟩ (.int .i64 2)).setCell ⟨w.heap.size, 1, none⟩ (.int .i64 1)).setCell ⟨w.heap.size, 2, none⟩ (.string ⟨#[]⟩)).setCell ⟨w.heap.size, 3, none⟩ (.slice none ((⟨2, 1, ⟨#[]⟩, []⟩ : Val)).s.length 0)) := ((((Kp.refl (fun k => k = w.heap.size) _).setCell (p := ⟨w.heap.size, 0, none⟩) (fun _ => rfl) _).setCell (p := ⟨w.heap.size, 1, none⟩) (fun _ => rfl) _).setCell (p := ⟨w.heap.size, 2, none⟩) (fun _ => rfl) _).setCell (p := ⟨w.heap.size, 3, none⟩) (fun _ => rfl) _
      refine ⟨none, 0, rfl, ?_, Hav.out, hcapz, ?_, ?_⟩
      · exact hrdz3.kp hks (fun h => absurd h (by simp))
      · exact (((hrz3.set (p := ⟨w.heap.size, 0, none⟩) hgl _).set (p := ⟨w.heap.size, 1, none⟩) hgl _).set (p := ⟨w.heap.size, 2, none⟩) hgl _).set (p := ⟨w.heap.size, 3, none⟩) hgl _
      · exact hkz3.trans hks (fun b hb e => by omega)
    · have hV : TV = (jh, ⟨pz, 8⟩) := by rw [HV.out, kN, if_neg (by simp), if_pos (by simpa using hR)]
      have HV2 := jJ0 hV
      have HRt := jJ0 (ji (⟨2, 1, ⟨#[]⟩, []⟩ : Val) none 0 wz hrdz hcapz hbigz)
      have hRb : (jP (⟨2, 1, ⟨#[]⟩, []⟩ : Val) != 0) = true := by simpa using hR
      generalize jP (⟨2, 1, ⟨#[]⟩, []⟩ : Val) = zz at HRt hRb
      clear hV hR
      go_wp2_with fail
      refine (jR _ g bs ⟨pz, 0⟩ hrz).mono ?_
      rintro e w' ⟨rfl, rfl⟩
      go_wp2_with fail
      refine HRt.out.mono ?_
      rintro e w3 ⟨rfl, ho3⟩
      go_wp2_with fail
      refine (ko _ g bs (-1) ⟨pz, 0⟩ (hrz.old ho3) (by omega)).mono ?_
      rintro e w4 ⟨A4, c4, rfl, _, _, _, hr4, hk4⟩
      rw [show (rawN bs (-1) ⟨pz, 0⟩).2 = ⟨pz, 8⟩ from rfl] at hr4
      have hgne : ¬ RX g w.heap.size := fun e => by have : w.heap.size = g := e; omega
      have hbR4 := (hbRz.old ho3).kp hk4 hgne
      have hkz4 : Kp (RX g) w w4 := (hkz.old ho3).trans hk4 (fun _ _ h => h)
      have t0 := hbR4.at_ 0 rfl
      have t1 := hbR4.at_ 1 rfl
      have t2 := hbR4.at_ 2 rfl
      have t3 := hbR4.at_ 3 rfl
      have r0 := hbR4.frozen 0
      have r1 := hbR4.frozen 1
      have r2 := hbR4.frozen 2
      have r3 := hbR4.frozen 3
      clear hk4 ho3
      go_wp2_with fail
      refine (jR _ g bs ⟨pz, 8⟩ hr4).mono ?_
      rintro e w' ⟨rfl, rfl⟩
      go_wp2
      rw [HV2.out]
      refine jA rfl rfl ((((hbR4.set_ 0 _).set_ 1 _).set_ 2 _).set_ 3 _) Tryz.underlying29 rfl (by kernel_rfl) rfl ?_
      refine ⟨none, 0, rfl, Rd.none_, fun h => absurd h (by simp [jh]), Nat.le_refl _, ?_, ?_⟩
      · exact (((hr4.set (p := ⟨w.heap.size, 0, none⟩) hgl _).set (p := ⟨w.heap.size, 1, none⟩) hgl _).set (p := ⟨w.heap.size, 2, none⟩) hgl _).set (p := ⟨w.heap.size, 3, none⟩) hgl _
      · exact (((hkz4.setCell (p := ⟨w.heap.size, 0, none⟩) (fun h => absurd h (Nat.lt_irrefl _)) _).setCell (p := ⟨w.heap.size, 1, none⟩) (fun h => absurd h (Nat.lt_irrefl _)) _).setCell (p := ⟨w.heap.size, 2, none⟩) (fun h => absurd h (Nat.lt_irrefl _)) _).setCell (p := ⟨w.heap.size, 3, none⟩) (fun h => absurd h (Nat.lt_irrefl _)) _
theorem takev_5 (w : World) (g : Nat) (bs : List UInt8) (s : Rs) (h : Rr w g bs s) (hk : (tkN bs 1 s).1 = 5) :
    Calls Tryz.prog 85 #[.pointer (some ⟨g, 0, none⟩)] w (TookV w g bs (jN bs s)) := by
  have HT := jJ0 (show jN bs s = kN (kX bs 5 (tkN bs 1 s).2) by rw [jN, hk])
  generalize jN bs s = TV at HT ⊢
  have hgl := h.lt
  have Hk := jJ0 hk
  clear hk
  go_enter Tryz.func85, Tryz.ntmps85
  go_wp2_with fail
  refine (jQ _ g bs s (h.old ((Kp.refl NoX w).alloc _))).mono ?_
  rintro e w1 ⟨rfl, hr1, hk1⟩
  rw [Hk.out]
  have hbR := (Blk.new w 29 #[.int .i64 0, .int .i64 0, .string ⟨#[]⟩, .slice none 0 0]).kp hk1 (show ¬ RX g w.heap.size from fun e => by have : w.heap.size = g := e; omega)
  have hkk : Kp (RX g) w w1 := ((Kp.refl (RX g) w).alloc _).trans hk1 (fun _ _ h => h)
  generalize (tkN bs 1 s).2 = s1 at *
  clear hk1
  have hbV := Blk.new w1 29 #[.int .i64 5, .int .i64 0, .string ⟨#[]⟩, .slice none 0 0]
  have hr2 := hr1.old ((Kp.refl NoX w1).alloc (.cells #[.int .i64 5, .int .i64 0, .string ⟨#[]⟩, .slice none 0 0] 29))
  have hbR2 := hbR.alloc (.cells #[.int .i64 5, .int .i64 0, .string ⟨#[]⟩, .slice none 0 0] 29)
  have hkk2 := hkk.alloc (.cells #[.int .i64 5, .int .i64 0, .string ⟨#[]⟩, .slice none 0 0] 29)
  have hw1 := hkk.size
  have hRlt : w.heap.size < w1.heap.size := hbR.lt
  have hgne1 : ¬ RX g w1.heap.size := fun e => by have : w1.heap.size = g := e; omega
  have hgne0 : ¬ RX g w.heap.size := fun e => by have : w.heap.size = g := e; omega
  have Hkv := jJ0 (show kX bs 5 s1 = ((⟨5, 0, ⟨#[]⟩, (kY bs 64 1024 s1).1⟩ : Val), (kY bs 64 1024 s1).2) by rw [kX, if_neg (by simp), if_neg (by simp), if_neg (by simp), if_pos rfl]; rfl)
  have hlen := textsN_len bs 64 1024 s1
  go_wp2_with fail
  refine (rtexts_any _ g bs 64 1024 s1 hr2 (by omega) (by omega)).mono ?_
  rintro e w3 ⟨A3, c3, rfl, hrd3, hav3, hcap3, hr3, hk3⟩
  have hbV3 := hbV.kp hk3 hgne1
  have hbR3 := hbR2.kp hk3 hgne0
  have hkk3 : Kp (RX g) w w3 := hkk2.trans hk3 (fun _ _ h => h)
  have p0 := hbV3.at_ 0 rfl
  have p1 := hbV3.at_ 1 rfl
  have p2 := hbV3.at_ 2 rfl
  have p3 := hbV3.at_ 3 rfl
  have pz := hbV3.frozen 3
  clear hk3 hbV hbR2 hkk2 hr2
  have Hkv2 := Hkv.out
  clear Hkv
  generalize (kY bs 64 1024 s1).2 = sz at *
  generalize (kY bs 64 1024 s1).1 = ll at *
  have Hkv := jJ0 Hkv2
  clear Hkv2
  have hav4 : Av (fun k => k <= w1.heap.size) ll.length A3 := fun hn ad e hx => hav3 hn ad e (by simp; omega)
  have hbVz := hbV3.set_ 3 (.slice A3 ll.length c3)
  have hbRz := hbR3.far (p := ⟨w1.heap.size, 3, none⟩) (by simp only; omega) (.slice A3 ll.length c3)
  have hkz := hkk3.setCell (p := ⟨w1.heap.size, 3, none⟩) (fun h => absurd (Nat.lt_of_lt_of_le h hw1) (Nat.lt_irrefl _)) (.slice A3 ll.length c3)
  have hrz := hr3.set (p := ⟨w1.heap.size, 3, none⟩) (by simp only; omega) (.slice A3 ll.length c3)
  have hrd4 := hrd3.kp ((Kp.refl (fun k => k = w1.heap.size) w3).setCell (p := ⟨w1.heap.size, 3, none⟩) (fun _ => rfl) (.slice A3 ll.length c3)) (fun hn ad e hx => hav4 hn ad e (by omega))
  clear hrd3 hav3
  go_wp2_with fail
  generalize hwz : w3.setCell ⟨w1.heap.size, 3, none⟩ (.slice A3 ll.length c3) = wz at *
  clear hwz hr3 hbV3 hbR3 hkk3 pz p0 p1 p2 p3
  have HV := jJ0 (show TV = kN ((⟨5, 0, ⟨#[]⟩, ll⟩ : Val), sz) from HT.out.trans (by rw [Hkv.out]))
  clear HT Hkv
  have u0 := hbVz.at_ 0 rfl
  have u1 := hbVz.at_ 1 rfl
  have u2 := hbVz.at_ 2 rfl
  have u3 := hbVz.at_ 3 rfl
  have v0 := hbRz.at_ 0 rfl
  have v1 := hbRz.at_ 1 rfl
  have v2 := hbRz.at_ 2 rfl
  have v3 := hbRz.at_ 3 rfl
  have y0 := hbRz.frozen 0
  have y1 := hbRz.frozen 1
  have y2 := hbRz.frozen 2
  have y3 := hbRz.frozen 3
  have hne : w.heap.size ≠ w1.heap.size := by omega
  obtain ⟨pz, yz⟩ := sz
  by_cases hyz : yz = 0
  case neg =>
    have hV : TV = (jh, ⟨pz, yz⟩) := by rw [HV.out, kN, if_pos hyz]
    have HV2 := jJ0 hV
    have hyz1 : (yz == 0) = false := beq_eq_false_iff_ne.2 hyz
    have hyz2 : (yz != 0) = true := by simpa using hyz
    clear hV hyz
    go_wp2_with fail
    refine (jR _ g bs ⟨pz, yz⟩ hrz).mono ?_
    rintro e w' ⟨rfl, rfl⟩
    go_wp2_with fail
    refine (jR _ g bs ⟨pz, yz⟩ hrz).mono ?_
    rintro e w' ⟨rfl, rfl⟩
    go_wp2
    rw [HV2.out]
    refine jA rfl rfl ((((hbRz.set_ 0 _).set_ 1 _).set_ 2 _).set_ 3 _) Tryz.underlying29 rfl (by kernel_rfl) rfl ?_
    refine ⟨none, 0, rfl, Rd.none_, fun h => absurd h (by simp [jh]), Nat.le_refl _, ?_, ?_⟩
    · exact (((hrz.set (p := ⟨w.heap.size, 0, none⟩) hgl _).set (p := ⟨w.heap.size, 1, none⟩) hgl _).set (p := ⟨w.heap.size, 2, none⟩) hgl _).set (p := ⟨w.heap.size, 3, none⟩) hgl _
    · exact (((hkz.setCell (p := ⟨w.heap.size, 0, none⟩) (fun h => absurd h (Nat.lt_irrefl _)) _).setCell (p := ⟨w.heap.size, 1, none⟩) (fun h => absurd h (Nat.lt_irrefl _)) _).setCell (p := ⟨w.heap.size, 2, none⟩) (fun h => absurd h (Nat.lt_irrefl _)) _).setCell (p := ⟨w.heap.size, 3, none⟩) (fun h => absurd h (Nat.lt_irrefl _)) _
  subst hyz
  have hrdz : Rd wz 1 A3 ((⟨5, 0, ⟨#[]⟩, ll⟩ : Val)).s.length (((⟨5, 0, ⟨#[]⟩, ll⟩ : Val)).s.map sv) := hrd4
  have hcapz : ((⟨5, 0, ⟨#[]⟩, ll⟩ : Val)).s.length <= c3 := hcap3
  have hbigz : ((⟨5, 0, ⟨#[]⟩, ll⟩ : Val)).s.length <= 1000000000000 := (Nat.le_trans hlen (by decide))
  have Hav := jJ0 (show Av (fun k => k < w.heap.size) ((⟨5, 0, ⟨#[]⟩, ll⟩ : Val)).s.length A3 from (fun hn ad e hx => hav4 hn ad e (by omega)))
  by_cases hR : jP (⟨5, 0, ⟨#[]⟩, ll⟩ : Val) = 0
  · have hV : TV = ((⟨5, 0, ⟨#[]⟩, ll⟩ : Val), ⟨pz, 0⟩) := by rw [HV.out, kN, if_neg (by simp), if_neg (by simpa using hR)]
    have HV2 := jJ0 hV
    have HRt := jJ0 (ji (⟨5, 0, ⟨#[]⟩, ll⟩ : Val) A3 c3 wz hrdz hcapz hbigz)
    rw [hR] at HRt
    clear hV hR
    go_wp2_with fail
    refine (jR _ g bs ⟨pz, 0⟩ hrz).mono ?_
    rintro e w' ⟨rfl, rfl⟩
    go_wp2_with fail
    refine HRt.out.mono ?_
    rintro e w3 ⟨rfl, ho3⟩
    have hrz3 := hrz.old ho3
    have hbRz3 := hbRz.old ho3
    have hbVz3 := hbVz.old ho3
    have hkz3 := hkz.old ho3
    have hrdz3 := hrdz.old ho3
    have s0 := hbVz3.at_ 0 rfl
    have s1 := hbVz3.at_ 1 rfl
    have s2 := hbVz3.at_ 2 rfl
    have s3 := hbVz3.at_ 3 rfl
    have t0 := hbRz3.at_ 0 rfl
    have t1 := hbRz3.at_ 1 rfl
    have t2 := hbRz3.at_ 2 rfl
    have t3 := hbRz3.at_ 3 rfl
    have r0 := hbRz3.frozen 0
    have r1 := hbRz3.frozen 1
    have r2 := hbRz3.frozen 2
    have r3 := hbRz3.frozen 3
    go_wp2_with fail
    refine (jR _ g bs ⟨pz, 0⟩ hrz3).mono ?_
    rintro e w' ⟨rfl, rfl⟩
    go_wp2
    rw [HV2.out]
    refine jA rfl rfl ((((hbRz3.set_ 0 _).set_ 1 _).set_ 2 _).set_ 3 _) Tryz.underlying29 rfl (by kernel_rfl) rfl ?_
    have hks : Kp (fun k => k = w.heap.size) w3 ((((w3.setCell ⟨w.heap.size, 0, none⟩ (.int .i64 5)).setCell ⟨w.heap.size, 1, none⟩ (.int .i64 0)).setCell ⟨w.heap.size, 2, none⟩ (.string ⟨#[]⟩)).setCell ⟨w.heap.size, 3, none⟩ (.slice A3 ((⟨5, 0, ⟨#[]⟩, ll⟩ : Val)).s.length c3)) := ((((Kp.refl (fun k => k = w.heap.size) _).setCell (p := ⟨w.heap.size, 0, none⟩) (fun _ => rfl) _).setCell (p := ⟨w.heap.size, 1, none⟩) (fun _ => rfl) _).setCell (p := ⟨w.heap.size, 2, none⟩) (fun _ => rfl) _).setCell (p := ⟨w.heap.size, 3, none⟩) (fun _ => rfl) _
    refine ⟨A3, c3, rfl, ?_, Hav.out, hcapz, ?_, ?_⟩
    · exact hrdz3.kp hks (fun hn ad e hx => hav4 hn ad e (by omega))
    · exact (((hrz3.set (p := ⟨w.heap.size, 0, none⟩) hgl _).set (p := ⟨w.heap.size, 1, none⟩) hgl _).set (p := ⟨w.heap.size, 2, none⟩) hgl _).set (p := ⟨w.heap.size, 3, none⟩) hgl _
    · exact hkz3.trans hks (fun b hb e => by omega)
  · have hV : TV = (jh, ⟨pz, 8⟩) := by rw [HV.out, kN, if_neg (by simp), if_pos (by simpa using hR)]
    have HV2 := jJ0 hV
    have HRt := jJ0 (ji (⟨5, 0, ⟨#[]⟩, ll⟩ : Val) A3 c3 wz hrdz hcapz hbigz)
    have hRb : (jP (⟨5, 0, ⟨#[]⟩, ll⟩ : Val) != 0) = true := by simpa using hR
    generalize jP (⟨5, 0, ⟨#[]⟩, ll⟩ : Val) = zz at HRt hRb
    clear hV hR
    go_wp2_with fail
    refine (jR _ g bs ⟨pz, 0⟩ hrz).mono ?_
    rintro e w' ⟨rfl, rfl⟩
    go_wp2_with fail
    refine HRt.out.mono ?_
    rintro e w3 ⟨rfl, ho3⟩
    go_wp2_with fail
    refine (ko _ g bs (-1) ⟨pz, 0⟩ (hrz.old ho3) (by omega)).mono ?_
    rintro e w4 ⟨A4, c4, rfl, _, _, _, hr4, hk4⟩
    rw [show (rawN bs (-1) ⟨pz, 0⟩).2 = ⟨pz, 8⟩ from rfl] at hr4
    have hgne : ¬ RX g w.heap.size := fun e => by have : w.heap.size = g := e; omega
    have hbR4 := (hbRz.old ho3).kp hk4 hgne
    have hkz4 : Kp (RX g) w w4 := (hkz.old ho3).trans hk4 (fun _ _ h => h)
    have t0 := hbR4.at_ 0 rfl
    have t1 := hbR4.at_ 1 rfl
    have t2 := hbR4.at_ 2 rfl
    have t3 := hbR4.at_ 3 rfl
    have r0 := hbR4.frozen 0
    have r1 := hbR4.frozen 1
    have r2 := hbR4.frozen 2
    have r3 := hbR4.frozen 3
    clear hk4 ho3
    go_wp2_with fail
    refine (jR _ g bs ⟨pz, 8⟩ hr4).mono ?_
    rintro e w' ⟨rfl, rfl⟩
    go_wp2
    rw [HV2.out]
    refine jA rfl rfl ((((hbR4.set_ 0 _).set_ 1 _).set_ 2 _).set_ 3 _) Tryz.underlying29 rfl (by kernel_rfl) rfl ?_
    refine ⟨none, 0, rfl, Rd.none_, fun h => absurd h (by simp [jh]), Nat.le_refl _, ?_, ?_⟩
    · exact (((hr4.set (p := ⟨w.heap.size, 0, none⟩) hgl _).set (p := ⟨w.heap.size, 1, none⟩) hgl _).set (p := ⟨w.heap.size, 2, none⟩) hgl _).set (p := ⟨w.heap.size, 3, none⟩) hgl _
    · exact (((hkz4.setCell (p := ⟨w.heap.size, 0, none⟩) (fun h => absurd h (Nat.lt_irrefl _)) _).setCell (p := ⟨w.heap.size, 1, none⟩) (fun h => absurd h (Nat.lt_irrefl _)) _).setCell (p := ⟨w.heap.size, 2, none⟩) (fun h => absurd h (Nat.lt_irrefl _)) _).setCell (p := ⟨w.heap.size, 3, none⟩) (fun h => absurd h (Nat.lt_irrefl _)) _
theorem takev_any (w : World) (g : Nat) (bs : List UInt8) (s : Rs) (h : Rr w g bs s) :
    Calls Tryz.prog 85 #[.pointer (some ⟨g, 0, none⟩)] w (TookV w g bs (jN bs s)) := by
  have hk : (tkN bs 1 s).1 = 0 \/ (tkN bs 1 s).1 = 1 \/ (tkN bs 1 s).1 = 2 \/ (tkN bs 1 s).1 = 3 \/ (tkN bs 1 s).1 = 4 \/ (tkN bs 1 s).1 = 5 \/ 5 < (tkN bs 1 s).1 := by omega
  rcases hk with hk | hk | hk | hk | hk | hk | hk
  · exact takev_0 w g bs s h hk
  · exact takev_1 w g bs s h hk
  · exact takev_2 w g bs s h hk
  · exact takev_3 w g bs s h hk
  · exact takev_4 w g bs s h hk
  · exact takev_5 w g bs s h hk
  · exact takev_far w g bs s h _ rfl hk
def ptkN (bs : List UInt8) (s : Rs) : Int × Bool × Rs := (i64 (tkN bs 8 s).1, decide ((tkN bs 8 s).1 <= 1099511627776), (tkN bs 8 s).2)
theorem vq (w : World) (g : Nat) (bs : List UInt8) (s : Rs) (h : Rr w g bs s) :
    Calls Tryz.prog 143 #[.pointer (some ⟨g, 0, none⟩)] w fun e w' => e = .returned (.tuple #[.int .i64 (ptkN bs s).1, .bool (ptkN bs s).2.1]) /\ Rr w' g bs (ptkN bs s).2.2 /\ Kp (RX g) w w' := by
  have HT := jJ0 (show ptkN bs s = (i64 (tkN bs 8 s).1, decide ((tkN bs 8 s).1 <= 1099511627776), (tkN bs 8 s).2) from rfl)
  have HR := jJ0 (vd w g bs s h)
  generalize ptkN bs s = T at *
  generalize tkN bs 8 s = t at *
  obtain ⟨n, s1⟩ := t
  simp only at HT HR
  go_enter Tryz.func143, Tryz.ntmps143
  go_wp2_with fail
  refine HR.out.mono ?_
  rintro e w1 ⟨rfl, hr, hk⟩
  go_wp2
  go_ret2
  rw [HT.out]
  refine ⟨?_, hr, hk⟩
  have e : decide (n <= 1099511627776) = decide ((n : Int) <= 1099511627776) := decide_eq_decide.2 (by omega)
  rw [e]
  rfl
def kt (bs : List UInt8) (most kind : Nat) : Option Rs :=
  if most < bs.length then none else if (tkN bs 1 ⟨0, 0⟩).1 = kind /\ (tkN bs 1 ⟨0, 0⟩).2.why = 0 then some (tkN bs 1 ⟨0, 0⟩).2 else none
def BegunP (w : World) (bs : List UInt8) (o : Option Rs) (e : Ending) (w' : World) : Prop :=
  (∃ g s, o = some s /\ e = .returned (.tuple #[.pointer (some ⟨g, 0, none⟩), .int .i64 0]) /\ w.heap.size <= g /\ Rr w' g bs s /\ Old w w') \/
  (∃ er : Int, o = none /\ er ≠ 0 /\ e = .returned (.tuple #[.pointer none, .int .i64 er]) /\ Old w w')
theorem begun_any (w : World) (A : Option Addr) (c : Nat) (bs : List UInt8) (most kind : Nat) (hrd : Rd w 1 A bs.length (bs.map bv)) (hm : most <= 100000000) :
    Calls Tryz.prog 142 #[.slice A bs.length c, .int .i64 most, .int .u8 kind] w (BegunP w bs (kt bs most kind)) := by
  have HB := jJ0 (show kt bs most kind = if most < bs.length then none else if (tkN bs 1 ⟨0, 0⟩).1 = kind /\ (tkN bs 1 ⟨0, 0⟩).2.why = 0 then some (tkN bs 1 ⟨0, 0⟩).2 else none from rfl)
  generalize kt bs most kind = B at *
  by_cases hl : most < bs.length
  · have hl' : (most : Int) < (bs.length : Int) := by omega
    have Hno := jJ0 (show B = none by rw [HB.out, if_pos hl])
    clear hl
    go_enter Tryz.func142, Tryz.ntmps142
    go_wp2
    go_ret2
    exact .inr ⟨170, Hno.out, by decide, rfl, Kp.refl _ _⟩
  · have hl' : ¬ (most : Int) < (bs.length : Int) := by omega
    rw [if_neg hl] at HB
    have HR := jJ0 (kS w A bs.length c bs hrd (by omega))
    have HT := jJ0 (fun W g (hR : Rr W g bs ⟨0, 0⟩) => jQ W g bs ⟨0, 0⟩ hR)
    clear hl
    generalize tkN bs 1 ⟨0, 0⟩ = t at *
    obtain ⟨n, s1⟩ := t
    simp only at HB HT
    go_enter Tryz.func142, Tryz.ntmps142
    go_wp2_with fail
    refine HR.out.mono ?_
    rintro e w1 ⟨g, rfl, hg, hr1, ho1⟩
    go_wp2_with fail
    refine (HT.out w1 g hr1).mono ?_
    rintro e w2 ⟨rfl, hr2, hk2⟩
    have HO := jJ0 (show Old w w2 from ho1.trans hk2 (fun b hb e => by have : b = g := e; omega))
    by_cases hn : n = kind
    · subst hn
      have b1 : ((n : Int) != (n : Int)) = false := by simp
      by_cases hy : s1.why = 0
      · have Hyes := jJ0 (show B = some s1 by rw [HB.out, if_pos ⟨rfl, hy⟩])
        have HW := jJ0 (jR w2 g bs s1 hr2)
        rw [hy] at HW
        clear hy hk2 ho1
        go_wp2_with fail
        refine HW.out.mono ?_
        rintro e w3 ⟨rfl, rfl⟩
        go_wp2
        go_ret2
        exact .inl ⟨g, s1, Hyes.out, rfl, hg, hr2, HO.out⟩
      · have Hno := jJ0 (show B = none by rw [HB.out, if_neg (fun h => hy h.2)])
        have HW := jJ0 (jR w2 g bs s1 hr2)
        have hy' : (s1.why != 0) = true := by simpa using hy
        clear hy hk2 ho1
        go_wp2_with fail
        refine HW.out.mono ?_
        rintro e w3 ⟨rfl, rfl⟩
        go_wp2
        go_ret2
        exact .inr ⟨8, Hno.out, by decide, rfl, HO.out⟩
    · have b1 : ((n : Int) != (kind : Int)) = true := by simp; omega
      have Hno := jJ0 (show B = none by rw [HB.out, if_neg (fun h => hn h.1)])
      clear hn hk2 ho1
      go_wp2
      go_ret2
      exact .inr ⟨8, Hno.out, by decide, rfl, HO.out⟩
theorem jE {P : Program} {ops : Array Oper} {rest : List Oper} {d : Option Tmp} {ty : TypeId} {pos : String} {after : Array Edge} {gd : Option (Nat × Bool)} {a : Act} {w : World} {Q : Exit -> Act -> World -> Prop} (t : TypeId) (x y : Operand)
    (h : wpList P ops Q (⟨d, .store t x y, ty, pos, after, gd⟩ :: rest) a w) : wpList P ops Q (⟨d, .store t x y, ty, pos, after, gd⟩ :: rest) a w := h
structure DecR (T : TypeId) (z : List Value) (w : World) (g : Nat) (bs : List UInt8) (s : Rs) (W : World) : Prop where
  box : Blk W w.heap.size T z.toArray
  rr : Rr W g bs s
  old : Old w W
  lt : w.heap.size < g
section
variable {T : TypeId} {z : List Value} {w : World} {g : Nat} {bs : List UInt8} {s s' : Rs} {W W' : World}
theorem DecR.step (h : DecR T z w g bs s W) (hr : Rr W' g bs s') (hk : Kp (RX g) W W') : DecR T z w g bs s' W' :=
  ⟨h.box.kp hk (fun e => by have : w.heap.size = g := e; have := h.lt; omega), hr, h.old.trans hk (fun b hb e => by have : b = g := e; have := h.lt; omega), h.lt⟩
theorem DecR.still (h : DecR T z w g bs s W) (hk : Old W W') : DecR T z w g bs s W' := ⟨h.box.old hk, h.rr.old hk, h.old.old hk, h.lt⟩
theorem DecR.put (h : DecR T z w g bs s W) {X : Nat -> Prop} (hk : Kp X W W') (hx : ∀ b, X b -> g < b) : DecR T z w g bs s W' :=
  ⟨h.box.kp hk (fun e => by have := hx _ e; have := h.lt; omega), h.rr.kp hk (fun b hb e => by have := hx _ e; omega), h.old.trans hk (fun b hb e => by have := hx _ e; have := h.lt; omega), h.lt⟩
theorem DecR.th (h : DecR T z w g bs s W) (vs : List Value) (hl : z.length = vs.length) : W.there w.heap.size 0 vs.toArray.size := h.box.there 0 _ (by rw [List.size_toArray, List.size_toArray]; omega)
structure Told (T : TypeId) (vs : List Value) (w W W' : World) : Prop where
  box : Blk W' w.heap.size T vs.toArray
  old : Old w W'
  kp : Kp (fun k => k = w.heap.size) W W'
theorem DecR.told (h : DecR T z w g bs s W) (vs : List Value) (hl : z.length = vs.length) : Told T vs w W (W.setCells w.heap.size 0 vs) :=
  ⟨h.box.setWhole vs hl, h.old.trans (Kp.setCells _ 0 vs W) (fun b hb e => by omega), Kp.setCells _ 0 vs W⟩
end
theorem Rd.told {T : TypeId} {vs : List Value} {w W W' : World} {s n : Nat} {A : Option Addr} {xs : List Value} (h : Rd W s A n xs) (t : Told T vs w W W') (ha : Av (fun k => k <= w.heap.size) n A) : Rd W' s A n xs :=
  h.kp t.kp (fun hn ad e hx => ha hn ad e (by have : ad.block = w.heap.size := hx; omega))
end Go.Proofs.YtnaolhjbapgjgaaGreat
