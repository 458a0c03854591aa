import Derived.Test.YtnaolhjbapgjgaaMg05
import Derived.Test.YtnaolhjbapgjgaaMg09
import Derived.Test.YtnaolhjbapgjgaaMg11
/- Contract of event.TakeValue. -/
namespace Go.Proofs.Ytnaolhjbapgjgaa
open Go.RowKit

def zeroVal : Val := ⟨0, 0, ByteArray.empty, []⟩
/-- a number of 8 bytes as an int -/
def i64 (n : Nat) : Int := wrap64 (n : Int)
/-- a value of this kind is taken, unlooked at -/
def kindV (bs : List UInt8) (k : Nat) (s : Rs) : Val × Rs :=
  if k = 1 ∨ k = 4 then (⟨k, i64 (tkN bs 8 s).1, ByteArray.empty, []⟩, (tkN bs 8 s).2)
  else if k = 2 then (⟨2, if (flagN bs s).1 then 1 else 0, ByteArray.empty, []⟩, (flagN bs s).2)
  else if k = 3 then (⟨3, 0, ⟨(textN bs 1024 s).1.toArray⟩, []⟩, (textN bs 1024 s).2)
  else if k = 5 then (⟨5, 0, ByteArray.empty, (textsN bs 64 1024 s).1⟩, (textsN bs 64 1024 s).2)
  else (⟨k, 0, ByteArray.empty, []⟩, s)
/-- what is told of a value that was taken -/
def lookV (vs : Val × Rs) : Val × Rs :=
  if vs.2.why ≠ 0 then (zeroVal, vs.2) else if rightE vs.1 ≠ 0 then (zeroVal, ⟨vs.2.at_, 8⟩) else vs
def takeVal (bs : List UInt8) (s : Rs) : Val × Rs := lookV (kindV bs (tkN bs 1 s).1 (tkN bs 1 s).2)

/-- a value in new memory is told, the Reader has gone on -/
def TookV (w : World) (g : Nat) (bs : List UInt8) (vs : Val × Rs) (e : Ending) (w' : World) : Prop :=
  ∃ A c, e = .returned (.tuple #[vV vs.1 A c, .int .i64 vs.2.why]) ∧ Rd w' 1 A vs.1.s.length (vs.1.s.map sv) ∧ Av (fun k => k < w.heap.size) vs.1.s.length A ∧ vs.1.s.length ≤ c ∧ Rr w' g bs vs.2 ∧ Kp (RX g) w w'

theorem tkN_lt (bs : List UInt8) (k : Nat) (s : Rs) : (tkN bs k s).1 < 256 ^ k := by
  unfold tkN
  split
  · exact Nat.pow_pos (by decide)
  · split
    · exact ofBe_take_lt _ _
    · exact Nat.pow_pos (by decide)
theorem Try.zeroValue25 (w : World) : (zeroValue 25).run Try.prog w = .ok (.agg #[.int .i64 0, .int .i64 0, .string ⟨#[]⟩, .slice none 0 0]) w := by kernel_rfl

set_option maxRecDepth 100000 in
set_option maxHeartbeats 3200000 in
theorem takev_0 (w : World) (g : Nat) (bs : List UInt8) (s : Rs) (h : Rr w g bs s) (hk : (tkN bs 1 s).1 = 0) :
    Calls Try.prog 58 #[.pointer (some ⟨g, 0, none⟩)] w (TookV w g bs (takeVal bs s)) := by
  have HT := Lib.hid (show takeVal bs s = lookV (kindV bs 0 (tkN bs 1 s).2) by rw [takeVal, hk])
  generalize takeVal bs s = TV at HT ⊢
  have hgl := h.lt
  have Hk := Lib.hid hk
  clear hk
  go_enter Try.func58, Try.ntmps58
  go_wp2_with fail
  refine (take8_any _ g bs s (h.old ((Kp.refl NoX w).alloc _))).mono ?_
  rintro e w1 ⟨rfl, hr1, hk1⟩
  rw [Hk.out]
  have hbR := (Blk.new w 25 #[.int .i64 0, .int .i64 0, .string ⟨#[]⟩, .slice none 0 0]).kp hk1 (show ¬ RX g w.heap.size from fun e => by have : w.heap.size = g := e; omega)
  have hkk : Kp (RX g) w w1 := ((Kp.refl (RX g) w).alloc _).trans hk1 (fun _ _ h => h)
  generalize (tkN bs 1 s).2 = s1 at *
  clear hk1
  have hbV := Blk.new w1 25 #[.int .i64 0, .int .i64 0, .string ⟨#[]⟩, .slice none 0 0]
  have hr2 := hr1.old ((Kp.refl NoX w1).alloc (.cells #[.int .i64 0, .int .i64 0, .string ⟨#[]⟩, .slice none 0 0] 25))
  have hbR2 := hbR.alloc (.cells #[.int .i64 0, .int .i64 0, .string ⟨#[]⟩, .slice none 0 0] 25)
  have hkk2 := hkk.alloc (.cells #[.int .i64 0, .int .i64 0, .string ⟨#[]⟩, .slice none 0 0] 25)
  have hw1 := hkk.size
  have hRlt : w.heap.size < w1.heap.size := hbR.lt
  have Hkv := Lib.hid (show kindV bs 0 s1 = ((⟨0, 0, ⟨#[]⟩, []⟩ : Val), s1) by simp [kindV]; rfl)
  have hrz := hr2
  have hbVz := hbV
  have hbRz := hbR2
  have hkz := hkk2
  generalize s1 = sz at *
  clear hr2 hbV hbR2 hkk2
  go_wp2_with fail
  generalize hwz : w1.alloc (.cells #[.int .i64 0, .int .i64 0, .string ⟨#[]⟩, .slice none 0 0] 25) = wz at *
  clear hwz
  have HV := Lib.hid (show TV = lookV ((⟨0, 0, ⟨#[]⟩, []⟩ : Val), sz) from HT.out.trans (by rw [Hkv.out]))
  clear HT Hkv
  have u0 := hbVz.at_ 0 rfl
  have u1 := hbVz.at_ 1 rfl
  have u2 := hbVz.at_ 2 rfl
  have u3 := hbVz.at_ 3 rfl
  have v0 := hbRz.at_ 0 rfl
  have v1 := hbRz.at_ 1 rfl
  have v2 := hbRz.at_ 2 rfl
  have v3 := hbRz.at_ 3 rfl
  have y0 := hbRz.frozen 0
  have y1 := hbRz.frozen 1
  have y2 := hbRz.frozen 2
  have y3 := hbRz.frozen 3
  have hne : w.heap.size ≠ w1.heap.size := by omega
  obtain ⟨pz, yz⟩ := sz
  by_cases hyz : yz = 0
  case neg =>
    have hV : TV = (zeroVal, ⟨pz, yz⟩) := by rw [HV.out, lookV, if_pos hyz]
    have HV2 := Lib.hid hV
    have hyz1 : (yz == 0) = false := beq_eq_false_iff_ne.2 hyz
    have hyz2 : (yz != 0) = true := by simpa using hyz
    clear hV hyz
    go_wp2_with fail
    refine (why_any _ g bs ⟨pz, yz⟩ hrz).mono ?_
    rintro e w' ⟨rfl, rfl⟩
    go_wp2_with fail
    refine (why_any _ g bs ⟨pz, yz⟩ hrz).mono ?_
    rintro e w' ⟨rfl, rfl⟩
    go_wp2
    rw [HV2.out]
    refine ret_cell_tmp rfl rfl ((((hbRz.set_ 0 _).set_ 1 _).set_ 2 _).set_ 3 _) Try.underlying25 rfl (by kernel_rfl) rfl ?_
    refine ⟨none, 0, rfl, Rd.none_, fun h => absurd h (by simp [zeroVal]), Nat.le_refl _, ?_, ?_⟩
    · exact (((hrz.set (p := ⟨w.heap.size, 0, none⟩) hgl _).set (p := ⟨w.heap.size, 1, none⟩) hgl _).set (p := ⟨w.heap.size, 2, none⟩) hgl _).set (p := ⟨w.heap.size, 3, none⟩) hgl _
    · exact (((hkz.setCell (p := ⟨w.heap.size, 0, none⟩) (fun h => absurd h (Nat.lt_irrefl _)) _).setCell (p := ⟨w.heap.size, 1, none⟩) (fun h => absurd h (Nat.lt_irrefl _)) _).setCell (p := ⟨w.heap.size, 2, none⟩) (fun h => absurd h (Nat.lt_irrefl _)) _).setCell (p := ⟨w.heap.size, 3, none⟩) (fun h => absurd h (Nat.lt_irrefl _)) _
  subst hyz
  have hrdz : Rd wz 1 none ((⟨0, 0, ⟨#[]⟩, []⟩ : Val)).s.length (((⟨0, 0, ⟨#[]⟩, []⟩ : Val)).s.map sv) := Rd.none_
  have hcapz : ((⟨0, 0, ⟨#[]⟩, []⟩ : Val)).s.length ≤ 0 := Nat.le_refl _
  have hbigz : ((⟨0, 0, ⟨#[]⟩, []⟩ : Val)).s.length ≤ 1000000000000 := (by simp)
  have Hav := Lib.hid (show Av (fun k => k < w.heap.size) ((⟨0, 0, ⟨#[]⟩, []⟩ : Val)).s.length none from (fun h => absurd h (by simp)))
  by_cases hR : rightE (⟨0, 0, ⟨#[]⟩, []⟩ : Val) = 0
  · have hV : TV = ((⟨0, 0, ⟨#[]⟩, []⟩ : Val), ⟨pz, 0⟩) := by rw [HV.out, lookV, if_neg (by simp), if_neg (by simpa using hR)]
    have HV2 := Lib.hid hV
    have HRt := Lib.hid (right_any (⟨0, 0, ⟨#[]⟩, []⟩ : Val) none 0 wz hrdz hcapz hbigz)
    rw [hR] at HRt
    clear hV hR
    go_wp2_with fail
    refine (why_any _ g bs ⟨pz, 0⟩ hrz).mono ?_
    rintro e w' ⟨rfl, rfl⟩
    go_wp2_with fail
    refine HRt.out.mono ?_
    rintro e w3 ⟨rfl, ho3⟩
    have hrz3 := hrz.old ho3
    have hbRz3 := hbRz.old ho3
    have hbVz3 := hbVz.old ho3
    have hkz3 := hkz.old ho3
    have hrdz3 := hrdz.old ho3
    have s0 := hbVz3.at_ 0 rfl
    have s1 := hbVz3.at_ 1 rfl
    have s2 := hbVz3.at_ 2 rfl
    have s3 := hbVz3.at_ 3 rfl
    have t0 := hbRz3.at_ 0 rfl
    have t1 := hbRz3.at_ 1 rfl
    have t2 := hbRz3.at_ 2 rfl
    have t3 := hbRz3.at_ 3 rfl
    have r0 := hbRz3.frozen 0
    have r1 := hbRz3.frozen 1
    have r2 := hbRz3.frozen 2
    have r3 := hbRz3.frozen 3
    go_wp2_with fail
    refine (why_any _ g bs ⟨pz, 0⟩ hrz3).mono ?_
    rintro e w' ⟨rfl, rfl⟩
    go_wp2
    rw [HV2.out]
    refine ret_cell_tmp rfl rfl ((((hbRz3.set_ 0 _).set_ 1 _).set_ 2 _).set_ 3 _) Try.underlying25 rfl (by kernel_rfl) rfl ?_
    have hks : Kp (fun k => k = w.heap.size) w3 ((((w3.setCell ⟨w.heap.size, 0, none⟩ (.int .i64 0)).setCell ⟨w.heap.size, 1, none⟩ (.int .i64 0)).setCell ⟨w.heap.size, 2, none⟩ (.string ⟨#[]⟩)).setCell ⟨w.heap.size, 3, none⟩ (.slice none ((⟨0, 0, ⟨#[]⟩, []⟩ : Val)).s.length 0)) := ((((Kp.refl (fun k => k = w.heap.size) _).setCell (p := ⟨w.heap.size, 0, none⟩) (fun _ => rfl) _).setCell (p := ⟨w.heap.size, 1, none⟩) (fun _ => rfl) _).setCell (p := ⟨w.heap.size, 2, none⟩) (fun _ => rfl) _).setCell (p := ⟨w.heap.size, 3, none⟩) (fun _ => rfl) _
    refine ⟨none, 0, rfl, ?_, Hav.out, hcapz, ?_, ?_⟩
    · exact hrdz3.kp hks (fun h => absurd h (by simp))
    · exact (((hrz3.set (p := ⟨w.heap.size, 0, none⟩) hgl _).set (p := ⟨w.heap.size, 1, none⟩) hgl _).set (p := ⟨w.heap.size, 2, none⟩) hgl _).set (p := ⟨w.heap.size, 3, none⟩) hgl _
    · exact hkz3.trans hks (fun b hb e => by omega)
  · have hV : TV = (zeroVal, ⟨pz, 8⟩) := by rw [HV.out, lookV, if_neg (by simp), if_pos (by simpa using hR)]
    have HV2 := Lib.hid hV
    have HRt := Lib.hid (right_any (⟨0, 0, ⟨#[]⟩, []⟩ : Val) none 0 wz hrdz hcapz hbigz)
    have hRb : (rightE (⟨0, 0, ⟨#[]⟩, []⟩ : Val) != 0) = true := by simpa using hR
    generalize rightE (⟨0, 0, ⟨#[]⟩, []⟩ : Val) = zz at HRt hRb
    clear hV hR
    go_wp2_with fail
    refine (why_any _ g bs ⟨pz, 0⟩ hrz).mono ?_
    rintro e w' ⟨rfl, rfl⟩
    go_wp2_with fail
    refine HRt.out.mono ?_
    rintro e w3 ⟨rfl, ho3⟩
    go_wp2_with fail
    refine (raw_any _ g bs (-1) ⟨pz, 0⟩ (hrz.old ho3) (by omega)).mono ?_
    rintro e w4 ⟨A4, c4, rfl, _, _, _, hr4, hk4⟩
    rw [show (rawN bs (-1) ⟨pz, 0⟩).2 = ⟨pz, 8⟩ from rfl] at hr4
    have hgne : ¬ RX g w.heap.size := fun e => by have : w.heap.size = g := e; omega
    have hbR4 := (hbRz.old ho3).kp hk4 hgne
    have hkz4 : Kp (RX g) w w4 := (hkz.old ho3).trans hk4 (fun _ _ h => h)
    have t0 := hbR4.at_ 0 rfl
    have t1 := hbR4.at_ 1 rfl
    have t2 := hbR4.at_ 2 rfl
    have t3 := hbR4.at_ 3 rfl
    have r0 := hbR4.frozen 0
    have r1 := hbR4.frozen 1
    have r2 := hbR4.frozen 2
    have r3 := hbR4.frozen 3
    clear hk4 ho3
    go_wp2_with fail
    refine (why_any _ g bs ⟨pz, 8⟩ hr4).mono ?_
    rintro e w' ⟨rfl, rfl⟩
    go_wp2
    rw [HV2.out]
    refine ret_cell_tmp rfl rfl ((((hbR4.set_ 0 _).set_ 1 _).set_ 2 _).set_ 3 _) Try.underlying25 rfl (by kernel_rfl) rfl ?_
    refine ⟨none, 0, rfl, Rd.none_, fun h => absurd h (by simp [zeroVal]), Nat.le_refl _, ?_, ?_⟩
    · exact (((hr4.set (p := ⟨w.heap.size, 0, none⟩) hgl _).set (p := ⟨w.heap.size, 1, none⟩) hgl _).set (p := ⟨w.heap.size, 2, none⟩) hgl _).set (p := ⟨w.heap.size, 3, none⟩) hgl _
    · exact (((hkz4.setCell (p := ⟨w.heap.size, 0, none⟩) (fun h => absurd h (Nat.lt_irrefl _)) _).setCell (p := ⟨w.heap.size, 1, none⟩) (fun h => absurd h (Nat.lt_irrefl _)) _).setCell (p := ⟨w.heap.size, 2, none⟩) (fun h => absurd h (Nat.lt_irrefl _)) _).setCell (p := ⟨w.heap.size, 3, none⟩) (fun h => absurd h (Nat.lt_irrefl _)) _

set_option maxRecDepth 100000 in
set_option maxHeartbeats 3200000 in
theorem takev_far (w : World) (g : Nat) (bs : List UInt8) (s : Rs) (h : Rr w g bs s) (k : Nat) (hk : (tkN bs 1 s).1 = k) (hkc : 5 < k) :
    Calls Try.prog 58 #[.pointer (some ⟨g, 0, none⟩)] w (TookV w g bs (takeVal bs s)) := by
  have HT := Lib.hid (show takeVal bs s = lookV (kindV bs k (tkN bs 1 s).2) by rw [takeVal, hk])
  generalize takeVal bs s = TV at HT ⊢
  have hgl := h.lt
  have Hk := Lib.hid hk
  clear hk
  go_enter Try.func58, Try.ntmps58
  go_wp2_with fail
  refine (take8_any _ g bs s (h.old ((Kp.refl NoX w).alloc _))).mono ?_
  rintro e w1 ⟨rfl, hr1, hk1⟩
  rw [Hk.out]
  have hbR := (Blk.new w 25 #[.int .i64 0, .int .i64 0, .string ⟨#[]⟩, .slice none 0 0]).kp hk1 (show ¬ RX g w.heap.size from fun e => by have : w.heap.size = g := e; omega)
  have hkk : Kp (RX g) w w1 := ((Kp.refl (RX g) w).alloc _).trans hk1 (fun _ _ h => h)
  have hk255 : (k : Int) ≤ 255 := by have h1 := tkN_lt bs 1 s; rw [Hk.out] at h1; omega
  generalize (tkN bs 1 s).2 = s1 at *
  clear hk1
  have hbV := Blk.new w1 25 #[.int .i64 (k : Int), .int .i64 0, .string ⟨#[]⟩, .slice none 0 0]
  have hr2 := hr1.old ((Kp.refl NoX w1).alloc (.cells #[.int .i64 (k : Int), .int .i64 0, .string ⟨#[]⟩, .slice none 0 0] 25))
  have hbR2 := hbR.alloc (.cells #[.int .i64 (k : Int), .int .i64 0, .string ⟨#[]⟩, .slice none 0 0] 25)
  have hkk2 := hkk.alloc (.cells #[.int .i64 (k : Int), .int .i64 0, .string ⟨#[]⟩, .slice none 0 0] 25)
  have hw1 := hkk.size
  have hRlt : w.heap.size < w1.heap.size := hbR.lt
  have Hkv := Lib.hid (show kindV bs k s1 = ((⟨(k : Int), 0, ⟨#[]⟩, []⟩ : Val), s1) by rw [kindV, if_neg (by omega), if_neg (by omega), if_neg (by omega), if_neg (by omega)]; rfl)
  have hrz := hr2
  have hbVz := hbV
  have hbRz := hbR2
  have hkz := hkk2
  generalize s1 = sz at *
  clear hr2 hbV hbR2 hkk2
  have q0 : ((k : Int) == 0) = false := beq_eq_false_iff_ne.2 (by omega)
  have q1 : ((k : Int) == 1) = false := beq_eq_false_iff_ne.2 (by omega)
  have q2 : ((k : Int) == 2) = false := beq_eq_false_iff_ne.2 (by omega)
  have q3 : ((k : Int) == 3) = false := beq_eq_false_iff_ne.2 (by omega)
  have q4 : ((k : Int) == 4) = false := beq_eq_false_iff_ne.2 (by omega)
  have q5 : ((k : Int) == 5) = false := beq_eq_false_iff_ne.2 (by omega)
  go_wp2_with fail
  generalize hwz : w1.alloc (.cells #[.int .i64 (k : Int), .int .i64 0, .string ⟨#[]⟩, .slice none 0 0] 25) = wz at *
  clear hwz
  have HV := Lib.hid (show TV = lookV ((⟨(k : Int), 0, ⟨#[]⟩, []⟩ : Val), sz) from HT.out.trans (by rw [Hkv.out]))
  clear HT Hkv
  have u0 := hbVz.at_ 0 rfl
  have u1 := hbVz.at_ 1 rfl
  have u2 := hbVz.at_ 2 rfl
  have u3 := hbVz.at_ 3 rfl
  have v0 := hbRz.at_ 0 rfl
  have v1 := hbRz.at_ 1 rfl
  have v2 := hbRz.at_ 2 rfl
  have v3 := hbRz.at_ 3 rfl
  have y0 := hbRz.frozen 0
  have y1 := hbRz.frozen 1
  have y2 := hbRz.frozen 2
  have y3 := hbRz.frozen 3
  have hne : w.heap.size ≠ w1.heap.size := by omega
  obtain ⟨pz, yz⟩ := sz
  by_cases hyz : yz = 0
  case neg =>
    have hV : TV = (zeroVal, ⟨pz, yz⟩) := by rw [HV.out, lookV, if_pos hyz]
    have HV2 := Lib.hid hV
    have hyz1 : (yz == 0) = false := beq_eq_false_iff_ne.2 hyz
    have hyz2 : (yz != 0) = true := by simpa using hyz
    clear hV hyz
    go_wp2_with fail
    refine (why_any _ g bs ⟨pz, yz⟩ hrz).mono ?_
    rintro e w' ⟨rfl, rfl⟩
    go_wp2_with fail
    refine (why_any _ g bs ⟨pz, yz⟩ hrz).mono ?_
    rintro e w' ⟨rfl, rfl⟩
    go_wp2
    rw [HV2.out]
    refine ret_cell_tmp rfl rfl ((((hbRz.set_ 0 _).set_ 1 _).set_ 2 _).set_ 3 _) Try.underlying25 rfl (by kernel_rfl) rfl ?_
    refine ⟨none, 0, rfl, Rd.none_, fun h => absurd h (by simp [zeroVal]), Nat.le_refl _, ?_, ?_⟩
    · exact (((hrz.set (p := ⟨w.heap.size, 0, none⟩) hgl _).set (p := ⟨w.heap.size, 1, none⟩) hgl _).set (p := ⟨w.heap.size, 2, none⟩) hgl _).set (p := ⟨w.heap.size, 3, none⟩) hgl _
    · exact (((hkz.setCell (p := ⟨w.heap.size, 0, none⟩) (fun h => absurd h (Nat.lt_irrefl _)) _).setCell (p := ⟨w.heap.size, 1, none⟩) (fun h => absurd h (Nat.lt_irrefl _)) _).setCell (p := ⟨w.heap.size, 2, none⟩) (fun h => absurd h (Nat.lt_irrefl _)) _).setCell (p := ⟨w.heap.size, 3, none⟩) (fun h => absurd h (Nat.lt_irrefl _)) _
  subst hyz
  have hrdz : Rd wz 1 none ((⟨(k : Int), 0, ⟨#[]⟩, []⟩ : Val)).s.length (((⟨(k : Int), 0, ⟨#[]⟩, []⟩ : Val)).s.map sv) := Rd.none_
  have hcapz : ((⟨(k : Int), 0, ⟨#[]⟩, []⟩ : Val)).s.length ≤ 0 := Nat.le_refl _
  have hbigz : ((⟨(k : Int), 0, ⟨#[]⟩, []⟩ : Val)).s.length ≤ 1000000000000 := (by simp)
  have Hav := Lib.hid (show Av (fun k => k < w.heap.size) ((⟨(k : Int), 0, ⟨#[]⟩, []⟩ : Val)).s.length none from (fun h => absurd h (by simp)))
  by_cases hR : rightE (⟨(k : Int), 0, ⟨#[]⟩, []⟩ : Val) = 0
  · have hV : TV = ((⟨(k : Int), 0, ⟨#[]⟩, []⟩ : Val), ⟨pz, 0⟩) := by rw [HV.out, lookV, if_neg (by simp), if_neg (by simpa using hR)]
    have HV2 := Lib.hid hV
    have HRt := Lib.hid (right_any (⟨(k : Int), 0, ⟨#[]⟩, []⟩ : Val) none 0 wz hrdz hcapz hbigz)
    rw [hR] at HRt
    clear hV hR
    go_wp2_with fail
    refine (why_any _ g bs ⟨pz, 0⟩ hrz).mono ?_
    rintro e w' ⟨rfl, rfl⟩
    go_wp2_with fail
    refine HRt.out.mono ?_
    rintro e w3 ⟨rfl, ho3⟩
    have hrz3 := hrz.old ho3
    have hbRz3 := hbRz.old ho3
    have hbVz3 := hbVz.old ho3
    have hkz3 := hkz.old ho3
    have hrdz3 := hrdz.old ho3
    have s0 := hbVz3.at_ 0 rfl
    have s1 := hbVz3.at_ 1 rfl
    have s2 := hbVz3.at_ 2 rfl
    have s3 := hbVz3.at_ 3 rfl
    have t0 := hbRz3.at_ 0 rfl
    have t1 := hbRz3.at_ 1 rfl
    have t2 := hbRz3.at_ 2 rfl
    have t3 := hbRz3.at_ 3 rfl
    have r0 := hbRz3.frozen 0
    have r1 := hbRz3.frozen 1
    have r2 := hbRz3.frozen 2
    have r3 := hbRz3.frozen 3
    go_wp2_with fail
    refine (why_any _ g bs ⟨pz, 0⟩ hrz3).mono ?_
    rintro e w' ⟨rfl, rfl⟩
    go_wp2
    rw [HV2.out]
    refine ret_cell_tmp rfl rfl ((((hbRz3.set_ 0 _).set_ 1 _).set_ 2 _).set_ 3 _) Try.underlying25 rfl (by kernel_rfl) rfl ?_
    have hks : Kp (fun k => k = w.heap.size) w3 ((((w3.setCell ⟨w.heap.size, 0, none⟩ (.int .i64 (k : Int))).setCell ⟨w.heap.size, 1, none⟩ (.int .i64 0)).setCell ⟨w.heap.size, 2, none⟩ (.string ⟨#[]⟩)).setCell ⟨w.heap.size, 3, none⟩ (.slice none ((⟨(k : Int), 0, ⟨#[]⟩, []⟩ : Val)).s.length 0)) := ((((Kp.refl (fun k => k = w.heap.size) _).setCell (p := ⟨w.heap.size, 0, none⟩) (fun _ => rfl) _).setCell (p := ⟨w.heap.size, 1, none⟩) (fun _ => rfl) _).setCell (p := ⟨w.heap.size, 2, none⟩) (fun _ => rfl) _).setCell (p := ⟨w.heap.size, 3, none⟩) (fun _ => rfl) _
    refine ⟨none, 0, rfl, ?_, Hav.out, hcapz, ?_, ?_⟩
    · exact hrdz3.kp hks (fun h => absurd h (by simp))
    · exact (((hrz3.set (p := ⟨w.heap.size, 0, none⟩) hgl _).set (p := ⟨w.heap.size, 1, none⟩) hgl _).set (p := ⟨w.heap.size, 2, none⟩) hgl _).set (p := ⟨w.heap.size, 3, none⟩) hgl _
    · exact hkz3.trans hks (fun b hb e => by omega)
  · have hV : TV = (zeroVal, ⟨pz, 8⟩) := by rw [HV.out, lookV, if_neg (by simp), if_pos (by simpa using hR)]
    have HV2 := Lib.hid hV
    have HRt := Lib.hid (right_any (⟨(k : Int), 0, ⟨#[]⟩, []⟩ : Val) none 0 wz hrdz hcapz hbigz)
    have hRb : (rightE (⟨(k : Int), 0, ⟨#[]⟩, []⟩ : Val) != 0) = true := by simpa using hR
    generalize rightE (⟨(k : Int), 0, ⟨#[]⟩, []⟩ : Val) = zz at HRt hRb
    clear hV hR
    go_wp2_with fail
    refine (why_any _ g bs ⟨pz, 0⟩ hrz).mono ?_
    rintro e w' ⟨rfl, rfl⟩
    go_wp2_with fail
    refine HRt.out.mono ?_
    rintro e w3 ⟨rfl, ho3⟩
    go_wp2_with fail
    refine (raw_any _ g bs (-1) ⟨pz, 0⟩ (hrz.old ho3) (by omega)).mono ?_
    rintro e w4 ⟨A4, c4, rfl, _, _, _, hr4, hk4⟩
    rw [show (rawN bs (-1) ⟨pz, 0⟩).2 = ⟨pz, 8⟩ from rfl] at hr4
    have hgne : ¬ RX g w.heap.size := fun e => by have : w.heap.size = g := e; omega
    have hbR4 := (hbRz.old ho3).kp hk4 hgne
    have hkz4 : Kp (RX g) w w4 := (hkz.old ho3).trans hk4 (fun _ _ h => h)
    have t0 := hbR4.at_ 0 rfl
    have t1 := hbR4.at_ 1 rfl
    have t2 := hbR4.at_ 2 rfl
    have t3 := hbR4.at_ 3 rfl
    have r0 := hbR4.frozen 0
    have r1 := hbR4.frozen 1
    have r2 := hbR4.frozen 2
    have r3 := hbR4.frozen 3
    clear hk4 ho3
    go_wp2_with fail
    refine (why_any _ g bs ⟨pz, 8⟩ hr4).mono ?_
    rintro e w' ⟨rfl, rfl⟩
    go_wp2
    rw [HV2.out]
    refine ret_cell_tmp rfl rfl ((((hbR4.set_ 0 _).set_ 1 _).set_ 2 _).set_ 3 _) Try.underlying25 rfl (by kernel_rfl) rfl ?_
    refine ⟨none, 0, rfl, Rd.none_, fun h => absurd h (by simp [zeroVal]), Nat.le_refl _, ?_, ?_⟩
    · exact (((hr4.set (p := ⟨w.heap.size, 0, none⟩) hgl _).set (p := ⟨w.heap.size, 1, none⟩) hgl _).set (p := ⟨w.heap.size, 2, none⟩) hgl _).set (p := ⟨w.heap.size, 3, none⟩) hgl _
    · exact (((hkz4.setCell (p := ⟨w.heap.size, 0, none⟩) (fun h => absurd h (Nat.lt_irrefl _)) _).setCell (p := ⟨w.heap.size, 1, none⟩) (fun h => absurd h (Nat.lt_irrefl _)) _).setCell (p := ⟨w.heap.size, 2, none⟩) (fun h => absurd h (Nat.lt_irrefl _)) _).setCell (p := ⟨w.heap.size, 3, none⟩) (fun h => absurd h (Nat.lt_irrefl _)) _

end Go.Proofs.Ytnaolhjbapgjgaa
