import Derived.Test.YtnaolhjbapgjgaaMg13
/- Contract of event.TakeValue: flags, sets; all kinds. -/
namespace Go.Proofs.Ytnaolhjbapgjgaa
open Go.RowKit

theorem textsGo_len (bs : List UInt8) (each : Int) : ∀ (n p : Nat) (acc : List ByteArray), (textsGo bs each n p acc).2.1.length ≤ acc.length + n := by
  intro n
  induction n with
  | zero => intro p acc; simp [textsGo]
  | succ n ih =>
    intro p acc
    rw [textsGo]
    split
    · simp
    · refine Nat.le_trans (ih _ _) ?_
      simp
      omega
theorem textsN_len (bs : List UInt8) (most each : Int) (s : Rs) : (textsN bs most each s).1.length ≤ 65536 := by
  unfold textsN
  split
  · simp
  · split
    · simp
    · split
      · simp
      · split
        · simp
        · refine Nat.le_trans (textsGo_len _ _ _ _ _) ?_
          have := ofBe_take_lt (bs.drop s.at_) 2
          simp
          omega

set_option maxRecDepth 100000 in
set_option maxHeartbeats 3200000 in
theorem takev_2 (w : World) (g : Nat) (bs : List UInt8) (s : Rs) (h : Rr w g bs s) (hk : (tkN bs 1 s).1 = 2) :
    Calls Try.prog 58 #[.pointer (some ⟨g, 0, none⟩)] w (TookV w g bs (takeVal bs s)) := by
  have HT := Lib.hid (show takeVal bs s = lookV (kindV bs 2 (tkN bs 1 s).2) by rw [takeVal, hk])
  generalize takeVal bs s = TV at HT ⊢
  have hgl := h.lt
  have Hk := Lib.hid hk
  clear hk
  go_enter Try.func58, Try.ntmps58
  go_wp2_with fail
  refine (take8_any _ g bs s (h.old ((Kp.refl NoX w).alloc _))).mono ?_
  rintro e w1 ⟨rfl, hr1, hk1⟩
  rw [Hk.out]
  have hbR := (Blk.new w 25 #[.int .i64 0, .int .i64 0, .string ⟨#[]⟩, .slice none 0 0]).kp hk1 (show ¬ RX g w.heap.size from fun e => by have : w.heap.size = g := e; omega)
  have hkk : Kp (RX g) w w1 := ((Kp.refl (RX g) w).alloc _).trans hk1 (fun _ _ h => h)
  generalize (tkN bs 1 s).2 = s1 at *
  clear hk1
  have hbV := Blk.new w1 25 #[.int .i64 2, .int .i64 0, .string ⟨#[]⟩, .slice none 0 0]
  have hr2 := hr1.old ((Kp.refl NoX w1).alloc (.cells #[.int .i64 2, .int .i64 0, .string ⟨#[]⟩, .slice none 0 0] 25))
  have hbR2 := hbR.alloc (.cells #[.int .i64 2, .int .i64 0, .string ⟨#[]⟩, .slice none 0 0] 25)
  have hkk2 := hkk.alloc (.cells #[.int .i64 2, .int .i64 0, .string ⟨#[]⟩, .slice none 0 0] 25)
  have hw1 := hkk.size
  have hRlt : w.heap.size < w1.heap.size := hbR.lt
  have hgne1 : ¬ RX g w1.heap.size := fun e => by have : w1.heap.size = g := e; omega
  have hgne0 : ¬ RX g w.heap.size := fun e => by have : w.heap.size = g := e; omega
  have Hkv := Lib.hid (show kindV bs 2 s1 = ((⟨2, if (flagN bs s1).1 then 1 else 0, ⟨#[]⟩, []⟩ : Val), (flagN bs s1).2) by rw [kindV, if_neg (by simp), if_pos rfl]; rfl)
  go_wp2_with fail
  refine (rflag_any _ g bs s1 hr2).mono ?_
  rintro e w3 ⟨rfl, hr3, hk3⟩
  have hbV3 := hbV.kp hk3 hgne1
  have hbR3 := hbR2.kp hk3 hgne0
  have hkk3 : Kp (RX g) w w3 := hkk2.trans hk3 (fun _ _ h => h)
  have p0 := hbV3.at_ 0 rfl
  have p1 := hbV3.at_ 1 rfl
  have p2 := hbV3.at_ 2 rfl
  have p3 := hbV3.at_ 3 rfl
  have pz := hbV3.frozen 1
  clear hk3 hbV hbR2 hkk2 hr2
  have Hkv2 := Hkv.out
  clear Hkv
  generalize (flagN bs s1).2 = sz at *
  generalize (flagN bs s1).1 = fl at *
  cases fl
  · have Hkv := Lib.hid (show kindV bs 2 s1 = ((⟨2, 0, ⟨#[]⟩, []⟩ : Val), sz) from Hkv2)
    clear Hkv2
    have hbVz := hbV3
    have hbRz := hbR3
    have hkz := hkk3
    have hrz := hr3
    go_wp2_with fail
    generalize w3 = wz at *
    clear hr3 hbV3 hbR3 hkk3 pz p0 p1 p2 p3
    have HV := Lib.hid (show TV = lookV ((⟨2, 0, ⟨#[]⟩, []⟩ : Val), sz) from HT.out.trans (by rw [Hkv.out]))
    clear HT Hkv
    have u0 := hbVz.at_ 0 rfl
    have u1 := hbVz.at_ 1 rfl
    have u2 := hbVz.at_ 2 rfl
    have u3 := hbVz.at_ 3 rfl
    have v0 := hbRz.at_ 0 rfl
    have v1 := hbRz.at_ 1 rfl
    have v2 := hbRz.at_ 2 rfl
    have v3 := hbRz.at_ 3 rfl
    have y0 := hbRz.frozen 0
    have y1 := hbRz.frozen 1
    have y2 := hbRz.frozen 2
    have y3 := hbRz.frozen 3
    have hne : w.heap.size ≠ w1.heap.size := by omega
    obtain ⟨pz, yz⟩ := sz
    by_cases hyz : yz = 0
    case neg =>
      have hV : TV = (zeroVal, ⟨pz, yz⟩) := by rw [HV.out, lookV, if_pos hyz]
      have HV2 := Lib.hid hV
      have hyz1 : (yz == 0) = false := beq_eq_false_iff_ne.2 hyz
      have hyz2 : (yz != 0) = true := by simpa using hyz
      clear hV hyz
      go_wp2_with fail
      refine (why_any _ g bs ⟨pz, yz⟩ hrz).mono ?_
      rintro e w' ⟨rfl, rfl⟩
      go_wp2_with fail
      refine (why_any _ g bs ⟨pz, yz⟩ hrz).mono ?_
      rintro e w' ⟨rfl, rfl⟩
      go_wp2
      rw [HV2.out]
      refine ret_cell_tmp rfl rfl ((((hbRz.set_ 0 _).set_ 1 _).set_ 2 _).set_ 3 _) Try.underlying25 rfl (by kernel_rfl) rfl ?_
      refine ⟨none, 0, rfl, Rd.none_, fun h => absurd h (by simp [zeroVal]), Nat.le_refl _, ?_, ?_⟩
      · exact (((hrz.set (p := ⟨w.heap.size, 0, none⟩) hgl _).set (p := ⟨w.heap.size, 1, none⟩) hgl _).set (p := ⟨w.heap.size, 2, none⟩) hgl _).set (p := ⟨w.heap.size, 3, none⟩) hgl _
      · exact (((hkz.setCell (p := ⟨w.heap.size, 0, none⟩) (fun h => absurd h (Nat.lt_irrefl _)) _).setCell (p := ⟨w.heap.size, 1, none⟩) (fun h => absurd h (Nat.lt_irrefl _)) _).setCell (p := ⟨w.heap.size, 2, none⟩) (fun h => absurd h (Nat.lt_irrefl _)) _).setCell (p := ⟨w.heap.size, 3, none⟩) (fun h => absurd h (Nat.lt_irrefl _)) _
    subst hyz
    have hrdz : Rd wz 1 none ((⟨2, 0, ⟨#[]⟩, []⟩ : Val)).s.length (((⟨2, 0, ⟨#[]⟩, []⟩ : Val)).s.map sv) := Rd.none_
    have hcapz : ((⟨2, 0, ⟨#[]⟩, []⟩ : Val)).s.length ≤ 0 := Nat.le_refl _
    have hbigz : ((⟨2, 0, ⟨#[]⟩, []⟩ : Val)).s.length ≤ 1000000000000 := (by simp)
    have Hav := Lib.hid (show Av (fun k => k < w.heap.size) ((⟨2, 0, ⟨#[]⟩, []⟩ : Val)).s.length none from (fun h => absurd h (by simp)))
    by_cases hR : rightE (⟨2, 0, ⟨#[]⟩, []⟩ : Val) = 0
    · have hV : TV = ((⟨2, 0, ⟨#[]⟩, []⟩ : Val), ⟨pz, 0⟩) := by rw [HV.out, lookV, if_neg (by simp), if_neg (by simpa using hR)]
      have HV2 := Lib.hid hV
      have HRt := Lib.hid (right_any (⟨2, 0, ⟨#[]⟩, []⟩ : Val) none 0 wz hrdz hcapz hbigz)
      rw [hR] at HRt
      clear hV hR
      go_wp2_with fail
      refine (why_any _ g bs ⟨pz, 0⟩ hrz).mono ?_
      rintro e w' ⟨rfl, rfl⟩
      go_wp2_with fail
      refine HRt.out.mono ?_
      rintro e w3 ⟨rfl, ho3⟩
      have hrz3 := hrz.old ho3
      have hbRz3 := hbRz.old ho3
      have hbVz3 := hbVz.old ho3
      have hkz3 := hkz.old ho3
      have hrdz3 := hrdz.old ho3
      have s0 := hbVz3.at_ 0 rfl
      have s1 := hbVz3.at_ 1 rfl
      have s2 := hbVz3.at_ 2 rfl
      have s3 := hbVz3.at_ 3 rfl
      have t0 := hbRz3.at_ 0 rfl
      have t1 := hbRz3.at_ 1 rfl
      have t2 := hbRz3.at_ 2 rfl
      have t3 := hbRz3.at_ 3 rfl
      have r0 := hbRz3.frozen 0
      have r1 := hbRz3.frozen 1
      have r2 := hbRz3.frozen 2
      have r3 := hbRz3.frozen 3
      go_wp2_with fail
      refine (why_any _ g bs ⟨pz, 0⟩ hrz3).mono ?_
      rintro e w' ⟨rfl, rfl⟩
      go_wp2
      rw [HV2.out]
      refine ret_cell_tmp rfl rfl ((((hbRz3.set_ 0 _).set_ 1 _).set_ 2 _).set_ 3 _) Try.underlying25 rfl (by kernel_rfl) rfl ?_
      have hks : Kp (fun k => k = w.heap.size) w3 ((((w3.setCell ⟨w.heap.size, 0, none⟩ (.int .i64 2)).setCell ⟨w.heap.size, 1, none⟩ (.int .i64 0)).setCell ⟨w.heap.size, 2, none⟩ (.string ⟨#[]⟩)).setCell ⟨w.heap.size, 3, none⟩ (.slice none ((⟨2, 0, ⟨#[]⟩, []⟩ : Val)).s.length 0)) := ((((Kp.refl (fun k => k = w.heap.size) _).setCell (p := ⟨w.heap.size, 0, none⟩) (fun _ => rfl) _).setCell (p := ⟨w.heap.size, 1, none⟩) (fun _ => rfl) _).setCell (p := ⟨w.heap.size, 2, none⟩) (fun _ => rfl) _).setCell (p := ⟨w.heap.size, 3, none⟩) (fun _ => rfl) _
      refine ⟨none, 0, rfl, ?_, Hav.out, hcapz, ?_, ?_⟩
      · exact hrdz3.kp hks (fun h => absurd h (by simp))
      · exact (((hrz3.set (p := ⟨w.heap.size, 0, none⟩) hgl _).set (p := ⟨w.heap.size, 1, none⟩) hgl _).set (p := ⟨w.heap.size, 2, none⟩) hgl _).set (p := ⟨w.heap.size, 3, none⟩) hgl _
      · exact hkz3.trans hks (fun b hb e => by omega)
    · have hV : TV = (zeroVal, ⟨pz, 8⟩) := by rw [HV.out, lookV, if_neg (by simp), if_pos (by simpa using hR)]
      have HV2 := Lib.hid hV
      have HRt := Lib.hid (right_any (⟨2, 0, ⟨#[]⟩, []⟩ : Val) none 0 wz hrdz hcapz hbigz)
      have hRb : (rightE (⟨2, 0, ⟨#[]⟩, []⟩ : Val) != 0) = true := by simpa using hR
      generalize rightE (⟨2, 0, ⟨#[]⟩, []⟩ : Val) = zz at HRt hRb
      clear hV hR
      go_wp2_with fail
      refine (why_any _ g bs ⟨pz, 0⟩ hrz).mono ?_
      rintro e w' ⟨rfl, rfl⟩
      go_wp2_with fail
      refine HRt.out.mono ?_
      rintro e w3 ⟨rfl, ho3⟩
      go_wp2_with fail
      refine (raw_any _ g bs (-1) ⟨pz, 0⟩ (hrz.old ho3) (by omega)).mono ?_
      rintro e w4 ⟨A4, c4, rfl, _, _, _, hr4, hk4⟩
      rw [show (rawN bs (-1) ⟨pz, 0⟩).2 = ⟨pz, 8⟩ from rfl] at hr4
      have hgne : ¬ RX g w.heap.size := fun e => by have : w.heap.size = g := e; omega
      have hbR4 := (hbRz.old ho3).kp hk4 hgne
      have hkz4 : Kp (RX g) w w4 := (hkz.old ho3).trans hk4 (fun _ _ h => h)
      have t0 := hbR4.at_ 0 rfl
      have t1 := hbR4.at_ 1 rfl
      have t2 := hbR4.at_ 2 rfl
      have t3 := hbR4.at_ 3 rfl
      have r0 := hbR4.frozen 0
      have r1 := hbR4.frozen 1
      have r2 := hbR4.frozen 2
      have r3 := hbR4.frozen 3
      clear hk4 ho3
      go_wp2_with fail
      refine (why_any _ g bs ⟨pz, 8⟩ hr4).mono ?_
      rintro e w' ⟨rfl, rfl⟩
      go_wp2
      rw [HV2.out]
      refine ret_cell_tmp rfl rfl ((((hbR4.set_ 0 _).set_ 1 _).set_ 2 _).set_ 3 _) Try.underlying25 rfl (by kernel_rfl) rfl ?_
      refine ⟨none, 0, rfl, Rd.none_, fun h => absurd h (by simp [zeroVal]), Nat.le_refl _, ?_, ?_⟩
      · exact (((hr4.set (p := ⟨w.heap.size, 0, none⟩) hgl _).set (p := ⟨w.heap.size, 1, none⟩) hgl _).set (p := ⟨w.heap.size, 2, none⟩) hgl _).set (p := ⟨w.heap.size, 3, none⟩) hgl _
      · exact (((hkz4.setCell (p := ⟨w.heap.size, 0, none⟩) (fun h => absurd h (Nat.lt_irrefl _)) _).setCell (p := ⟨w.heap.size, 1, none⟩) (fun h => absurd h (Nat.lt_irrefl _)) _).setCell (p := ⟨w.heap.size, 2, none⟩) (fun h => absurd h (Nat.lt_irrefl _)) _).setCell (p := ⟨w.heap.size, 3, none⟩) (fun h => absurd h (Nat.lt_irrefl _)) _
  · have Hkv := Lib.hid (show kindV bs 2 s1 = ((⟨2, 1, ⟨#[]⟩, []⟩ : Val), sz) from Hkv2)
    clear Hkv2
    have hbVz := hbV3.set_ 1 (.int .i64 1)
    have hbRz := hbR3.far (p := ⟨w1.heap.size, 1, none⟩) (by simp only; omega) (.int .i64 1)
    have hkz := hkk3.setCell (p := ⟨w1.heap.size, 1, none⟩) (fun h => absurd (Nat.lt_of_lt_of_le h hw1) (Nat.lt_irrefl _)) (.int .i64 1)
    have hrz := hr3.set (p := ⟨w1.heap.size, 1, none⟩) (by simp only; omega) (.int .i64 1)
    go_wp2_with fail
    generalize hwz : w3.setCell ⟨w1.heap.size, 1, none⟩ (.int .i64 1) = wz at *
    clear hwz hr3 hbV3 hbR3 hkk3 pz p0 p1 p2 p3
    have HV := Lib.hid (show TV = lookV ((⟨2, 1, ⟨#[]⟩, []⟩ : Val), sz) from HT.out.trans (by rw [Hkv.out]))
    clear HT Hkv
    have u0 := hbVz.at_ 0 rfl
    have u1 := hbVz.at_ 1 rfl
    have u2 := hbVz.at_ 2 rfl
    have u3 := hbVz.at_ 3 rfl
    have v0 := hbRz.at_ 0 rfl
    have v1 := hbRz.at_ 1 rfl
    have v2 := hbRz.at_ 2 rfl
    have v3 := hbRz.at_ 3 rfl
    have y0 := hbRz.frozen 0
    have y1 := hbRz.frozen 1
    have y2 := hbRz.frozen 2
    have y3 := hbRz.frozen 3
    have hne : w.heap.size ≠ w1.heap.size := by omega
    obtain ⟨pz, yz⟩ := sz
    by_cases hyz : yz = 0
    case neg =>
      have hV : TV = (zeroVal, ⟨pz, yz⟩) := by rw [HV.out, lookV, if_pos hyz]
      have HV2 := Lib.hid hV
      have hyz1 : (yz == 0) = false := beq_eq_false_iff_ne.2 hyz
      have hyz2 : (yz != 0) = true := by simpa using hyz
      clear hV hyz
      go_wp2_with fail
      refine (why_any _ g bs ⟨pz, yz⟩ hrz).mono ?_
      rintro e w' ⟨rfl, rfl⟩
      go_wp2_with fail
      refine (why_any _ g bs ⟨pz, yz⟩ hrz).mono ?_
      rintro e w' ⟨rfl, rfl⟩
      go_wp2
      rw [HV2.out]
      refine ret_cell_tmp rfl rfl ((((hbRz.set_ 0 _).set_ 1 _).set_ 2 _).set_ 3 _) Try.underlying25 rfl (by kernel_rfl) rfl ?_
      refine ⟨none, 0, rfl, Rd.none_, fun h => absurd h (by simp [zeroVal]), Nat.le_refl _, ?_, ?_⟩
      · exact (((hrz.set (p := ⟨w.heap.size, 0, none⟩) hgl _).set (p := ⟨w.heap.size, 1, none⟩) hgl _).set (p := ⟨w.heap.size, 2, none⟩) hgl _).set (p := ⟨w.heap.size, 3, none⟩) hgl _
      · exact (((hkz.setCell (p := ⟨w.heap.size, 0, none⟩) (fun h => absurd h (Nat.lt_irrefl _)) _).setCell (p := ⟨w.heap.size, 1, none⟩) (fun h => absurd h (Nat.lt_irrefl _)) _).setCell (p := ⟨w.heap.size, 2, none⟩) (fun h => absurd h (Nat.lt_irrefl _)) _).setCell (p := ⟨w.heap.size, 3, none⟩) (fun h => absurd h (Nat.lt_irrefl _)) _
    subst hyz
    have hrdz : Rd wz 1 none ((⟨2, 1, ⟨#[]⟩, []⟩ : Val)).s.length (((⟨2, 1, ⟨#[]⟩, []⟩ : Val)).s.map sv) := Rd.none_
    have hcapz : ((⟨2, 1, ⟨#[]⟩, []⟩ : Val)).s.length ≤ 0 := Nat.le_refl _
    have hbigz : ((⟨2, 1, ⟨#[]⟩, []⟩ : Val)).s.length ≤ 1000000000000 := (by simp)
    have Hav := Lib.hid (show Av (fun k => k < w.heap.size) ((⟨2, 1, ⟨#[]⟩, []⟩ : Val)).s.length none from (fun h => absurd h (by simp)))
    by_cases hR : rightE (⟨2, 1, ⟨#[]⟩, []⟩ : Val) = 0
    · have hV : TV = ((⟨2, 1, ⟨#[]⟩, []⟩ : Val), ⟨pz, 0⟩) := by rw [HV.out, lookV, if_neg (by simp), if_neg (by simpa using hR)]
      have HV2 := Lib.hid hV
      have HRt := Lib.hid (right_any (⟨2, 1, ⟨#[]⟩, []⟩ : Val) none 0 wz hrdz hcapz hbigz)
      rw [hR] at HRt
      clear hV hR
      go_wp2_with fail
      refine (why_any _ g bs ⟨pz, 0⟩ hrz).mono ?_
      rintro e w' ⟨rfl, rfl⟩
      go_wp2_with fail
      refine HRt.out.mono ?_
      rintro e w3 ⟨rfl, ho3⟩
      have hrz3 := hrz.old ho3
      have hbRz3 := hbRz.old ho3
      have hbVz3 := hbVz.old ho3
      have hkz3 := hkz.old ho3
      have hrdz3 := hrdz.old ho3
      have s0 := hbVz3.at_ 0 rfl
      have s1 := hbVz3.at_ 1 rfl
      have s2 := hbVz3.at_ 2 rfl
      have s3 := hbVz3.at_ 3 rfl
      have t0 := hbRz3.at_ 0 rfl
      have t1 := hbRz3.at_ 1 rfl
      have t2 := hbRz3.at_ 2 rfl
      have t3 := hbRz3.at_ 3 rfl
      have r0 := hbRz3.frozen 0
      have r1 := hbRz3.frozen 1
      have r2 := hbRz3.frozen 2
      have r3 := hbRz3.frozen 3
      go_wp2_with fail
      refine (why_any _ g bs ⟨pz, 0⟩ hrz3).mono ?_
      rintro e w' ⟨rfl, rfl⟩
      go_wp2
      rw [HV2.out]
      refine ret_cell_tmp rfl rfl ((((hbRz3.set_ 0 _).set_ 1 _).set_ 2 _).set_ 3 _) Try.underlying25 rfl (by kernel_rfl) rfl ?_
      have hks : Kp (fun k => k = w.heap.size) w3 ((((w3.setCell ⟨w.heap.size, 0, none⟩ (.int .i64 2)).setCell ⟨w.heap.size, 1, none⟩ (.int .i64 1)).setCell ⟨w.heap.size, 2, none⟩ (.string ⟨#[]⟩)).setCell ⟨w.heap.size, 3, none⟩ (.slice none ((⟨2, 1, ⟨#[]⟩, []⟩ : Val)).s.length 0)) := ((((Kp.refl (fun k => k = w.heap.size) _).setCell (p := ⟨w.heap.size, 0, none⟩) (fun _ => rfl) _).setCell (p := ⟨w.heap.size, 1, none⟩) (fun _ => rfl) _).setCell (p := ⟨w.heap.size, 2, none⟩) (fun _ => rfl) _).setCell (p := ⟨w.heap.size, 3, none⟩) (fun _ => rfl) _
      refine ⟨none, 0, rfl, ?_, Hav.out, hcapz, ?_, ?_⟩
      · exact hrdz3.kp hks (fun h => absurd h (by simp))
      · exact (((hrz3.set (p := ⟨w.heap.size, 0, none⟩) hgl _).set (p := ⟨w.heap.size, 1, none⟩) hgl _).set (p := ⟨w.heap.size, 2, none⟩) hgl _).set (p := ⟨w.heap.size, 3, none⟩) hgl _
      · exact hkz3.trans hks (fun b hb e => by omega)
    · have hV : TV = (zeroVal, ⟨pz, 8⟩) := by rw [HV.out, lookV, if_neg (by simp), if_pos (by simpa using hR)]
      have HV2 := Lib.hid hV
      have HRt := Lib.hid (right_any (⟨2, 1, ⟨#[]⟩, []⟩ : Val) none 0 wz hrdz hcapz hbigz)
      have hRb : (rightE (⟨2, 1, ⟨#[]⟩, []⟩ : Val) != 0) = true := by simpa using hR
      generalize rightE (⟨2, 1, ⟨#[]⟩, []⟩ : Val) = zz at HRt hRb
      clear hV hR
      go_wp2_with fail
      refine (why_any _ g bs ⟨pz, 0⟩ hrz).mono ?_
      rintro e w' ⟨rfl, rfl⟩
      go_wp2_with fail
      refine HRt.out.mono ?_
      rintro e w3 ⟨rfl, ho3⟩
      go_wp2_with fail
      refine (raw_any _ g bs (-1) ⟨pz, 0⟩ (hrz.old ho3) (by omega)).mono ?_
      rintro e w4 ⟨A4, c4, rfl, _, _, _, hr4, hk4⟩
      rw [show (rawN bs (-1) ⟨pz, 0⟩).2 = ⟨pz, 8⟩ from rfl] at hr4
      have hgne : ¬ RX g w.heap.size := fun e => by have : w.heap.size = g := e; omega
      have hbR4 := (hbRz.old ho3).kp hk4 hgne
      have hkz4 : Kp (RX g) w w4 := (hkz.old ho3).trans hk4 (fun _ _ h => h)
      have t0 := hbR4.at_ 0 rfl
      have t1 := hbR4.at_ 1 rfl
      have t2 := hbR4.at_ 2 rfl
      have t3 := hbR4.at_ 3 rfl
      have r0 := hbR4.frozen 0
      have r1 := hbR4.frozen 1
      have r2 := hbR4.frozen 2
      have r3 := hbR4.frozen 3
      clear hk4 ho3
      go_wp2_with fail
      refine (why_any _ g bs ⟨pz, 8⟩ hr4).mono ?_
      rintro e w' ⟨rfl, rfl⟩
      go_wp2
      rw [HV2.out]
      refine ret_cell_tmp rfl rfl ((((hbR4.set_ 0 _).set_ 1 _).set_ 2 _).set_ 3 _) Try.underlying25 rfl (by kernel_rfl) rfl ?_
      refine ⟨none, 0, rfl, Rd.none_, fun h => absurd h (by simp [zeroVal]), Nat.le_refl _, ?_, ?_⟩
      · exact (((hr4.set (p := ⟨w.heap.size, 0, none⟩) hgl _).set (p := ⟨w.heap.size, 1, none⟩) hgl _).set (p := ⟨w.heap.size, 2, none⟩) hgl _).set (p := ⟨w.heap.size, 3, none⟩) hgl _
      · exact (((hkz4.setCell (p := ⟨w.heap.size, 0, none⟩) (fun h => absurd h (Nat.lt_irrefl _)) _).setCell (p := ⟨w.heap.size, 1, none⟩) (fun h => absurd h (Nat.lt_irrefl _)) _).setCell (p := ⟨w.heap.size, 2, none⟩) (fun h => absurd h (Nat.lt_irrefl _)) _).setCell (p := ⟨w.heap.size, 3, none⟩) (fun h => absurd h (Nat.lt_irrefl _)) _

set_option maxRecDepth 100000 in
set_option maxHeartbeats 3200000 in
theorem takev_5 (w : World) (g : Nat) (bs : List UInt8) (s : Rs) (h : Rr w g bs s) (hk : (tkN bs 1 s).1 = 5) :
    Calls Try.prog 58 #[.pointer (some ⟨g, 0, none⟩)] w (TookV w g bs (takeVal bs s)) := by
  have HT := Lib.hid (show takeVal bs s = lookV (kindV bs 5 (tkN bs 1 s).2) by rw [takeVal, hk])
  generalize takeVal bs s = TV at HT ⊢
  have hgl := h.lt
  have Hk := Lib.hid hk
  clear hk
  go_enter Try.func58, Try.ntmps58
  go_wp2_with fail
  refine (take8_any _ g bs s (h.old ((Kp.refl NoX w).alloc _))).mono ?_
  rintro e w1 ⟨rfl, hr1, hk1⟩
  rw [Hk.out]
  have hbR := (Blk.new w 25 #[.int .i64 0, .int .i64 0, .string ⟨#[]⟩, .slice none 0 0]).kp hk1 (show ¬ RX g w.heap.size from fun e => by have : w.heap.size = g := e; omega)
  have hkk : Kp (RX g) w w1 := ((Kp.refl (RX g) w).alloc _).trans hk1 (fun _ _ h => h)
  generalize (tkN bs 1 s).2 = s1 at *
  clear hk1
  have hbV := Blk.new w1 25 #[.int .i64 5, .int .i64 0, .string ⟨#[]⟩, .slice none 0 0]
  have hr2 := hr1.old ((Kp.refl NoX w1).alloc (.cells #[.int .i64 5, .int .i64 0, .string ⟨#[]⟩, .slice none 0 0] 25))
  have hbR2 := hbR.alloc (.cells #[.int .i64 5, .int .i64 0, .string ⟨#[]⟩, .slice none 0 0] 25)
  have hkk2 := hkk.alloc (.cells #[.int .i64 5, .int .i64 0, .string ⟨#[]⟩, .slice none 0 0] 25)
  have hw1 := hkk.size
  have hRlt : w.heap.size < w1.heap.size := hbR.lt
  have hgne1 : ¬ RX g w1.heap.size := fun e => by have : w1.heap.size = g := e; omega
  have hgne0 : ¬ RX g w.heap.size := fun e => by have : w.heap.size = g := e; omega
  have Hkv := Lib.hid (show kindV bs 5 s1 = ((⟨5, 0, ⟨#[]⟩, (textsN bs 64 1024 s1).1⟩ : Val), (textsN bs 64 1024 s1).2) by rw [kindV, if_neg (by simp), if_neg (by simp), if_neg (by simp), if_pos rfl]; rfl)
  have hlen := textsN_len bs 64 1024 s1
  go_wp2_with fail
  refine (rtexts_any _ g bs 64 1024 s1 hr2 (by omega) (by omega)).mono ?_
  rintro e w3 ⟨A3, c3, rfl, hrd3, hav3, hcap3, hr3, hk3⟩
  have hbV3 := hbV.kp hk3 hgne1
  have hbR3 := hbR2.kp hk3 hgne0
  have hkk3 : Kp (RX g) w w3 := hkk2.trans hk3 (fun _ _ h => h)
  have p0 := hbV3.at_ 0 rfl
  have p1 := hbV3.at_ 1 rfl
  have p2 := hbV3.at_ 2 rfl
  have p3 := hbV3.at_ 3 rfl
  have pz := hbV3.frozen 3
  clear hk3 hbV hbR2 hkk2 hr2
  have Hkv2 := Hkv.out
  clear Hkv
  generalize (textsN bs 64 1024 s1).2 = sz at *
  generalize (textsN bs 64 1024 s1).1 = ll at *
  have Hkv := Lib.hid Hkv2
  clear Hkv2
  have hav4 : Av (fun k => k ≤ w1.heap.size) ll.length A3 := fun hn ad e hx => hav3 hn ad e (by simp; omega)
  have hbVz := hbV3.set_ 3 (.slice A3 ll.length c3)
  have hbRz := hbR3.far (p := ⟨w1.heap.size, 3, none⟩) (by simp only; omega) (.slice A3 ll.length c3)
  have hkz := hkk3.setCell (p := ⟨w1.heap.size, 3, none⟩) (fun h => absurd (Nat.lt_of_lt_of_le h hw1) (Nat.lt_irrefl _)) (.slice A3 ll.length c3)
  have hrz := hr3.set (p := ⟨w1.heap.size, 3, none⟩) (by simp only; omega) (.slice A3 ll.length c3)
  have hrd4 := hrd3.kp ((Kp.refl (fun k => k = w1.heap.size) w3).setCell (p := ⟨w1.heap.size, 3, none⟩) (fun _ => rfl) (.slice A3 ll.length c3)) (fun hn ad e hx => hav4 hn ad e (by omega))
  clear hrd3 hav3
  go_wp2_with fail
  generalize hwz : w3.setCell ⟨w1.heap.size, 3, none⟩ (.slice A3 ll.length c3) = wz at *
  clear hwz hr3 hbV3 hbR3 hkk3 pz p0 p1 p2 p3
  have HV := Lib.hid (show TV = lookV ((⟨5, 0, ⟨#[]⟩, ll⟩ : Val), sz) from HT.out.trans (by rw [Hkv.out]))
  clear HT Hkv
  have u0 := hbVz.at_ 0 rfl
  have u1 := hbVz.at_ 1 rfl
  have u2 := hbVz.at_ 2 rfl
  have u3 := hbVz.at_ 3 rfl
  have v0 := hbRz.at_ 0 rfl
  have v1 := hbRz.at_ 1 rfl
  have v2 := hbRz.at_ 2 rfl
  have v3 := hbRz.at_ 3 rfl
  have y0 := hbRz.frozen 0
  have y1 := hbRz.frozen 1
  have y2 := hbRz.frozen 2
  have y3 := hbRz.frozen 3
  have hne : w.heap.size ≠ w1.heap.size := by omega
  obtain ⟨pz, yz⟩ := sz
  by_cases hyz : yz = 0
  case neg =>
    have hV : TV = (zeroVal, ⟨pz, yz⟩) := by rw [HV.out, lookV, if_pos hyz]
    have HV2 := Lib.hid hV
    have hyz1 : (yz == 0) = false := beq_eq_false_iff_ne.2 hyz
    have hyz2 : (yz != 0) = true := by simpa using hyz
    clear hV hyz
    go_wp2_with fail
    refine (why_any _ g bs ⟨pz, yz⟩ hrz).mono ?_
    rintro e w' ⟨rfl, rfl⟩
    go_wp2_with fail
    refine (why_any _ g bs ⟨pz, yz⟩ hrz).mono ?_
    rintro e w' ⟨rfl, rfl⟩
    go_wp2
    rw [HV2.out]
    refine ret_cell_tmp rfl rfl ((((hbRz.set_ 0 _).set_ 1 _).set_ 2 _).set_ 3 _) Try.underlying25 rfl (by kernel_rfl) rfl ?_
    refine ⟨none, 0, rfl, Rd.none_, fun h => absurd h (by simp [zeroVal]), Nat.le_refl _, ?_, ?_⟩
    · exact (((hrz.set (p := ⟨w.heap.size, 0, none⟩) hgl _).set (p := ⟨w.heap.size, 1, none⟩) hgl _).set (p := ⟨w.heap.size, 2, none⟩) hgl _).set (p := ⟨w.heap.size, 3, none⟩) hgl _
    · exact (((hkz.setCell (p := ⟨w.heap.size, 0, none⟩) (fun h => absurd h (Nat.lt_irrefl _)) _).setCell (p := ⟨w.heap.size, 1, none⟩) (fun h => absurd h (Nat.lt_irrefl _)) _).setCell (p := ⟨w.heap.size, 2, none⟩) (fun h => absurd h (Nat.lt_irrefl _)) _).setCell (p := ⟨w.heap.size, 3, none⟩) (fun h => absurd h (Nat.lt_irrefl _)) _
  subst hyz
  have hrdz : Rd wz 1 A3 ((⟨5, 0, ⟨#[]⟩, ll⟩ : Val)).s.length (((⟨5, 0, ⟨#[]⟩, ll⟩ : Val)).s.map sv) := hrd4
  have hcapz : ((⟨5, 0, ⟨#[]⟩, ll⟩ : Val)).s.length ≤ c3 := hcap3
  have hbigz : ((⟨5, 0, ⟨#[]⟩, ll⟩ : Val)).s.length ≤ 1000000000000 := (Nat.le_trans hlen (by decide))
  have Hav := Lib.hid (show Av (fun k => k < w.heap.size) ((⟨5, 0, ⟨#[]⟩, ll⟩ : Val)).s.length A3 from (fun hn ad e hx => hav4 hn ad e (by omega)))
  by_cases hR : rightE (⟨5, 0, ⟨#[]⟩, ll⟩ : Val) = 0
  · have hV : TV = ((⟨5, 0, ⟨#[]⟩, ll⟩ : Val), ⟨pz, 0⟩) := by rw [HV.out, lookV, if_neg (by simp), if_neg (by simpa using hR)]
    have HV2 := Lib.hid hV
    have HRt := Lib.hid (right_any (⟨5, 0, ⟨#[]⟩, ll⟩ : Val) A3 c3 wz hrdz hcapz hbigz)
    rw [hR] at HRt
    clear hV hR
    go_wp2_with fail
    refine (why_any _ g bs ⟨pz, 0⟩ hrz).mono ?_
    rintro e w' ⟨rfl, rfl⟩
    go_wp2_with fail
    refine HRt.out.mono ?_
    rintro e w3 ⟨rfl, ho3⟩
    have hrz3 := hrz.old ho3
    have hbRz3 := hbRz.old ho3
    have hbVz3 := hbVz.old ho3
    have hkz3 := hkz.old ho3
    have hrdz3 := hrdz.old ho3
    have s0 := hbVz3.at_ 0 rfl
    have s1 := hbVz3.at_ 1 rfl
    have s2 := hbVz3.at_ 2 rfl
    have s3 := hbVz3.at_ 3 rfl
    have t0 := hbRz3.at_ 0 rfl
    have t1 := hbRz3.at_ 1 rfl
    have t2 := hbRz3.at_ 2 rfl
    have t3 := hbRz3.at_ 3 rfl
    have r0 := hbRz3.frozen 0
    have r1 := hbRz3.frozen 1
    have r2 := hbRz3.frozen 2
    have r3 := hbRz3.frozen 3
    go_wp2_with fail
    refine (why_any _ g bs ⟨pz, 0⟩ hrz3).mono ?_
    rintro e w' ⟨rfl, rfl⟩
    go_wp2
    rw [HV2.out]
    refine ret_cell_tmp rfl rfl ((((hbRz3.set_ 0 _).set_ 1 _).set_ 2 _).set_ 3 _) Try.underlying25 rfl (by kernel_rfl) rfl ?_
    have hks : Kp (fun k => k = w.heap.size) w3 ((((w3.setCell ⟨w.heap.size, 0, none⟩ (.int .i64 5)).setCell ⟨w.heap.size, 1, none⟩ (.int .i64 0)).setCell ⟨w.heap.size, 2, none⟩ (.string ⟨#[]⟩)).setCell ⟨w.heap.size, 3, none⟩ (.slice A3 ((⟨5, 0, ⟨#[]⟩, ll⟩ : Val)).s.length c3)) := ((((Kp.refl (fun k => k = w.heap.size) _).setCell (p := ⟨w.heap.size, 0, none⟩) (fun _ => rfl) _).setCell (p := ⟨w.heap.size, 1, none⟩) (fun _ => rfl) _).setCell (p := ⟨w.heap.size, 2, none⟩) (fun _ => rfl) _).setCell (p := ⟨w.heap.size, 3, none⟩) (fun _ => rfl) _
    refine ⟨A3, c3, rfl, ?_, Hav.out, hcapz, ?_, ?_⟩
    · exact hrdz3.kp hks (fun hn ad e hx => hav4 hn ad e (by omega))
    · exact (((hrz3.set (p := ⟨w.heap.size, 0, none⟩) hgl _).set (p := ⟨w.heap.size, 1, none⟩) hgl _).set (p := ⟨w.heap.size, 2, none⟩) hgl _).set (p := ⟨w.heap.size, 3, none⟩) hgl _
    · exact hkz3.trans hks (fun b hb e => by omega)
  · have hV : TV = (zeroVal, ⟨pz, 8⟩) := by rw [HV.out, lookV, if_neg (by simp), if_pos (by simpa using hR)]
    have HV2 := Lib.hid hV
    have HRt := Lib.hid (right_any (⟨5, 0, ⟨#[]⟩, ll⟩ : Val) A3 c3 wz hrdz hcapz hbigz)
    have hRb : (rightE (⟨5, 0, ⟨#[]⟩, ll⟩ : Val) != 0) = true := by simpa using hR
    generalize rightE (⟨5, 0, ⟨#[]⟩, ll⟩ : Val) = zz at HRt hRb
    clear hV hR
    go_wp2_with fail
    refine (why_any _ g bs ⟨pz, 0⟩ hrz).mono ?_
    rintro e w' ⟨rfl, rfl⟩
    go_wp2_with fail
    refine HRt.out.mono ?_
    rintro e w3 ⟨rfl, ho3⟩
    go_wp2_with fail
    refine (raw_any _ g bs (-1) ⟨pz, 0⟩ (hrz.old ho3) (by omega)).mono ?_
    rintro e w4 ⟨A4, c4, rfl, _, _, _, hr4, hk4⟩
    rw [show (rawN bs (-1) ⟨pz, 0⟩).2 = ⟨pz, 8⟩ from rfl] at hr4
    have hgne : ¬ RX g w.heap.size := fun e => by have : w.heap.size = g := e; omega
    have hbR4 := (hbRz.old ho3).kp hk4 hgne
    have hkz4 : Kp (RX g) w w4 := (hkz.old ho3).trans hk4 (fun _ _ h => h)
    have t0 := hbR4.at_ 0 rfl
    have t1 := hbR4.at_ 1 rfl
    have t2 := hbR4.at_ 2 rfl
    have t3 := hbR4.at_ 3 rfl
    have r0 := hbR4.frozen 0
    have r1 := hbR4.frozen 1
    have r2 := hbR4.frozen 2
    have r3 := hbR4.frozen 3
    clear hk4 ho3
    go_wp2_with fail
    refine (why_any _ g bs ⟨pz, 8⟩ hr4).mono ?_
    rintro e w' ⟨rfl, rfl⟩
    go_wp2
    rw [HV2.out]
    refine ret_cell_tmp rfl rfl ((((hbR4.set_ 0 _).set_ 1 _).set_ 2 _).set_ 3 _) Try.underlying25 rfl (by kernel_rfl) rfl ?_
    refine ⟨none, 0, rfl, Rd.none_, fun h => absurd h (by simp [zeroVal]), Nat.le_refl _, ?_, ?_⟩
    · exact (((hr4.set (p := ⟨w.heap.size, 0, none⟩) hgl _).set (p := ⟨w.heap.size, 1, none⟩) hgl _).set (p := ⟨w.heap.size, 2, none⟩) hgl _).set (p := ⟨w.heap.size, 3, none⟩) hgl _
    · exact (((hkz4.setCell (p := ⟨w.heap.size, 0, none⟩) (fun h => absurd h (Nat.lt_irrefl _)) _).setCell (p := ⟨w.heap.size, 1, none⟩) (fun h => absurd h (Nat.lt_irrefl _)) _).setCell (p := ⟨w.heap.size, 2, none⟩) (fun h => absurd h (Nat.lt_irrefl _)) _).setCell (p := ⟨w.heap.size, 3, none⟩) (fun h => absurd h (Nat.lt_irrefl _)) _

theorem takev_any (w : World) (g : Nat) (bs : List UInt8) (s : Rs) (h : Rr w g bs s) :
    Calls Try.prog 58 #[.pointer (some ⟨g, 0, none⟩)] w (TookV w g bs (takeVal bs s)) := by
  have hk : (tkN bs 1 s).1 = 0 ∨ (tkN bs 1 s).1 = 1 ∨ (tkN bs 1 s).1 = 2 ∨ (tkN bs 1 s).1 = 3 ∨ (tkN bs 1 s).1 = 4 ∨ (tkN bs 1 s).1 = 5 ∨ 5 < (tkN bs 1 s).1 := by omega
  rcases hk with hk | hk | hk | hk | hk | hk | hk
  · exact takev_0 w g bs s h hk
  · exact takev_1 w g bs s h hk
  · exact takev_2 w g bs s h hk
  · exact takev_3 w g bs s h hk
  · exact takev_4 w g bs s h hk
  · exact takev_5 w g bs s h hk
  · exact takev_far w g bs s h _ rfl hk
end Go.Proofs.Ytnaolhjbapgjgaa
