/- Contract of event.PutValue. -/
import Derived.Test.YtnaolhjbapgjgaaGreatOctT
namespace Go.Proofs.YtnaolhjbapgjgaaGreat
open Go.RowKit

theorem wx_new {w : World} {g : Nat} {r : Option Nat} {bs : List UInt8} (h : Wr w g r bs) {k : Nat} (hk : w.heap.size ≤ k) : ¬ WX g r k := by
  obtain ⟨h1, h2⟩ := h.lt
  rintro (rfl | e)
  · omega
  · have := h2 k e.symm; omega

theorem wrap64_range (n : Int) : 0 ≤ IntKind.u64.wrap n ∧ IntKind.u64.wrap n ≤ 18446744073709551615 := by
  rw [IntKind.wrap_u64]; omega
theorem rightE_formed {v : Val} (h : rightE v = 0) : formedB v = true ∧ longB v = false ∧ v.s.length ≤ 64 := by
  unfold rightE at h
  split at h
  · cases h
  · split at h
    · cases h
    · split at h
      · cases h
      · split at h
        · cases h
        · rename_i h1 _ h2 h3
          exact ⟨by simpa using h1, by simpa using h2, by omega⟩
theorem long_none {v : Val} (h : longB v = false) : v.t.size ≤ 1024 ∧ ∀ k, k < v.s.length → (v.s.getD k ByteArray.empty).size ≤ 1024 := by
  unfold longB at h
  rw [Bool.or_eq_false_iff] at h
  refine ⟨by simpa using h.1, fun k hk => ?_⟩
  rcases Nat.lt_or_ge 1024 (v.s.getD k ByteArray.empty).size with hl | hl
  · rw [any_of v.s k hk hl] at h; cases h.2
  · exact hl

set_option maxRecDepth 100000 in
set_option maxHeartbeats 800000 in
theorem putv_bad (v : Val) (A : Option Addr) (c g : Nat) (w : World) (hr : Rd w 1 A v.s.length (v.s.map sv)) (hc : v.s.length ≤ c) (hs : v.s.length ≤ 1000000000000) (hbad : rightE v ≠ 0) :
    Calls Tryz.prog 50 #[.pointer (some ⟨g, 0, none⟩), vV v A c] w fun e w' => e = .returned (.int .i64 (rightE v)) ∧ Old w w' := by
  have HR := Lib.hid (fun W (h : Old w W) => right_any v A c W (hr.old h) hc hs)
  have hne : (rightE v != 0) = true := by simpa using hbad
  generalize rightE v = z at HR hne
  clear hs hc hbad
  obtain ⟨k, n, t, s⟩ := v
  simp only [vV] at *
  go_enter Tryz.func50, Tryz.ntmps50
  go_wp2_with fail
  refine (HR.out _ ((Kp.refl _ _).alloc _)).mono ?_
  rintro e w1 ⟨rfl, ho1⟩
  have ho := Lib.hid (((Kp.refl NoX w).alloc (.cells #[.int .i64 k, .int .i64 n, .string t, .slice A s.length c] 29)).old ho1)
  clear ho1
  go_wp2
  go_ret
  exact ⟨rfl, ho.out⟩

set_option maxRecDepth 100000 in
set_option maxHeartbeats 800000 in
theorem putv_0 (n : Int) (t : ByteArray) (s : List ByteArray) (A : Option Addr) (c g : Nat) (r : Option Nat) (bs : List UInt8) (w : World) (hW : Wr w g r bs) (hl : bs.length ≤ 800000000000)
    (hr : Rd w 1 A s.length (s.map sv)) (hav : Av (WX g r) s.length A) (hc : s.length ≤ c) (hs : s.length ≤ 1000000000000) (hok : rightE ⟨0, n, t, s⟩ = 0) :
    Calls Tryz.prog 50 #[.pointer (some ⟨g, 0, none⟩), vV ⟨0, n, t, s⟩ A c] w fun e w' => e = .returned (.int .i64 0) ∧ WStep w g r w' (bs ++ valB ⟨0, n, t, s⟩) := by
  have HR := Lib.hid (fun W (h : Old w W) => right_any ⟨0, n, t, s⟩ A c W (hr.old h) hc hs)
  rw [hok] at HR
  obtain ⟨hform, hlong, hmany⟩ := rightE_formed hok
  obtain ⟨htl, hsl⟩ := long_none hlong
  simp only at htl hsl hmany
  have Hl := Lib.hid hl
  have Hsl := Lib.hid hsl
  have Hform := Lib.hid hform
  clear hs hc hok hl hsl hform hlong
  simp only [vV] at *
  go_enter Tryz.func50, Tryz.ntmps50
  go_wp2_with fail
  refine (HR.out _ ((Kp.refl _ _).alloc _)).mono ?_
  rintro e w1 ⟨rfl, ho1⟩
  have ho := ((Kp.refl NoX w).alloc (.cells #[.int .i64 0, .int .i64 n, .string t, .slice A s.length c] 29)).old ho1
  have hb := (Blk.new w 29 #[.int .i64 0, .int .i64 n, .string t, .slice A s.length c]).old ho1
  have hc0 := hb.at_ 0 rfl
  clear ho1
  have hW1 := hW.old ho
  go_wp2_with fail
  refine (put8_any _ g r bs _ (by omega) (by omega) hW1 (Nat.le_trans Hl.out (by decide))).mono ?_
  rintro e w2 ⟨rfl, r2, hW2, hk2, hf2⟩
  have hb2 := hb.kp hk2 (wx_new hW (Nat.le_refl _))
  have d0 := hb2.at_ 0 rfl
  have d1 := hb2.at_ 1 rfl
  have d2 := hb2.at_ 2 rfl
  have d3 := hb2.at_ 3 rfl
  have hkp := (ho.mono (Y := WX g r) (fun _ _ f => f.elim)).trans hk2 (fun _ _ h => h)
  have hfr : Fr w r r2 := by
    rcases hf2 with rfl | ⟨k, rfl, hle⟩
    · exact .inl rfl
    · exact .inr ⟨k, rfl, Nat.le_trans ho.size hle⟩
  have hcl : (bs ++ be 1 (0 : Int).toNat).length ≤ 810000000000 := by rw [List.length_append, be_length]; have := Hl.out; omega
  have Hcl := Lib.hid hcl
  clear hcl hc0 hb hf2 hk2
  go_wp2
  go_ret
  refine ⟨rfl, r2, ?_, hkp, hfr⟩
  simpa [valB] using hW2
set_option maxRecDepth 100000 in
set_option maxHeartbeats 800000 in
theorem putv_1 (n : Int) (t : ByteArray) (s : List ByteArray) (A : Option Addr) (c g : Nat) (r : Option Nat) (bs : List UInt8) (w : World) (hW : Wr w g r bs) (hl : bs.length ≤ 800000000000)
    (hr : Rd w 1 A s.length (s.map sv)) (hav : Av (WX g r) s.length A) (hc : s.length ≤ c) (hs : s.length ≤ 1000000000000) (hok : rightE ⟨1, n, t, s⟩ = 0) :
    Calls Tryz.prog 50 #[.pointer (some ⟨g, 0, none⟩), vV ⟨1, n, t, s⟩ A c] w fun e w' => e = .returned (.int .i64 0) ∧ WStep w g r w' (bs ++ valB ⟨1, n, t, s⟩) := by
  have HR := Lib.hid (fun W (h : Old w W) => right_any ⟨1, n, t, s⟩ A c W (hr.old h) hc hs)
  rw [hok] at HR
  obtain ⟨hform, hlong, hmany⟩ := rightE_formed hok
  obtain ⟨htl, hsl⟩ := long_none hlong
  simp only at htl hsl hmany
  have Hl := Lib.hid hl
  have Hsl := Lib.hid hsl
  have Hform := Lib.hid hform
  clear hs hc hok hl hsl hform hlong
  simp only [vV] at *
  go_enter Tryz.func50, Tryz.ntmps50
  go_wp2_with fail
  refine (HR.out _ ((Kp.refl _ _).alloc _)).mono ?_
  rintro e w1 ⟨rfl, ho1⟩
  have ho := ((Kp.refl NoX w).alloc (.cells #[.int .i64 1, .int .i64 n, .string t, .slice A s.length c] 29)).old ho1
  have hb := (Blk.new w 29 #[.int .i64 1, .int .i64 n, .string t, .slice A s.length c]).old ho1
  have hc0 := hb.at_ 0 rfl
  clear ho1
  have hW1 := hW.old ho
  go_wp2_with fail
  refine (put8_any _ g r bs _ (by omega) (by omega) hW1 (Nat.le_trans Hl.out (by decide))).mono ?_
  rintro e w2 ⟨rfl, r2, hW2, hk2, hf2⟩
  have hb2 := hb.kp hk2 (wx_new hW (Nat.le_refl _))
  have d0 := hb2.at_ 0 rfl
  have d1 := hb2.at_ 1 rfl
  have d2 := hb2.at_ 2 rfl
  have d3 := hb2.at_ 3 rfl
  have hkp := (ho.mono (Y := WX g r) (fun _ _ f => f.elim)).trans hk2 (fun _ _ h => h)
  have hfr : Fr w r r2 := by
    rcases hf2 with rfl | ⟨k, rfl, hle⟩
    · exact .inl rfl
    · exact .inr ⟨k, rfl, Nat.le_trans ho.size hle⟩
  have hcl : (bs ++ be 1 (1 : Int).toNat).length ≤ 810000000000 := by rw [List.length_append, be_length]; have := Hl.out; omega
  have Hcl := Lib.hid hcl
  clear hcl hc0 hb hf2 hk2
  go_wp2_with fail
  have hrg := wrap64_range n
  refine (put64_any _ g r2 _ _ hrg.1 hrg.2 hW2 (Nat.le_trans Hcl.out (by decide))).mono ?_
  rintro e w3 ⟨rfl, hst⟩
  go_wp2
  go_ret
  refine ⟨rfl, WStep.trans hkp hfr ?_⟩
  rw [valB, if_pos (by simp), ← List.append_assoc, ← IntKind.wrap_u64]
  exact hst
set_option maxRecDepth 100000 in
set_option maxHeartbeats 800000 in
theorem putv_2 (n : Int) (t : ByteArray) (s : List ByteArray) (A : Option Addr) (c g : Nat) (r : Option Nat) (bs : List UInt8) (w : World) (hW : Wr w g r bs) (hl : bs.length ≤ 800000000000)
    (hr : Rd w 1 A s.length (s.map sv)) (hav : Av (WX g r) s.length A) (hc : s.length ≤ c) (hs : s.length ≤ 1000000000000) (hok : rightE ⟨2, n, t, s⟩ = 0) :
    Calls Tryz.prog 50 #[.pointer (some ⟨g, 0, none⟩), vV ⟨2, n, t, s⟩ A c] w fun e w' => e = .returned (.int .i64 0) ∧ WStep w g r w' (bs ++ valB ⟨2, n, t, s⟩) := by
  have HR := Lib.hid (fun W (h : Old w W) => right_any ⟨2, n, t, s⟩ A c W (hr.old h) hc hs)
  rw [hok] at HR
  obtain ⟨hform, hlong, hmany⟩ := rightE_formed hok
  obtain ⟨htl, hsl⟩ := long_none hlong
  simp only at htl hsl hmany
  have Hl := Lib.hid hl
  have Hsl := Lib.hid hsl
  have Hform := Lib.hid hform
  clear hs hc hok hl hsl hform hlong
  simp only [vV] at *
  go_enter Tryz.func50, Tryz.ntmps50
  go_wp2_with fail
  refine (HR.out _ ((Kp.refl _ _).alloc _)).mono ?_
  rintro e w1 ⟨rfl, ho1⟩
  have ho := ((Kp.refl NoX w).alloc (.cells #[.int .i64 2, .int .i64 n, .string t, .slice A s.length c] 29)).old ho1
  have hb := (Blk.new w 29 #[.int .i64 2, .int .i64 n, .string t, .slice A s.length c]).old ho1
  have hc0 := hb.at_ 0 rfl
  clear ho1
  have hW1 := hW.old ho
  go_wp2_with fail
  refine (put8_any _ g r bs _ (by omega) (by omega) hW1 (Nat.le_trans Hl.out (by decide))).mono ?_
  rintro e w2 ⟨rfl, r2, hW2, hk2, hf2⟩
  have hb2 := hb.kp hk2 (wx_new hW (Nat.le_refl _))
  have d0 := hb2.at_ 0 rfl
  have d1 := hb2.at_ 1 rfl
  have d2 := hb2.at_ 2 rfl
  have d3 := hb2.at_ 3 rfl
  have hkp := (ho.mono (Y := WX g r) (fun _ _ f => f.elim)).trans hk2 (fun _ _ h => h)
  have hfr : Fr w r r2 := by
    rcases hf2 with rfl | ⟨k, rfl, hle⟩
    · exact .inl rfl
    · exact .inr ⟨k, rfl, Nat.le_trans ho.size hle⟩
  have hcl : (bs ++ be 1 (2 : Int).toNat).length ≤ 810000000000 := by rw [List.length_append, be_length]; have := Hl.out; omega
  have Hcl := Lib.hid hcl
  clear hcl hc0 hb hf2 hk2
  go_wp2_with fail
  refine (flag_any _ g r2 _ _ hW2 (Nat.le_trans Hcl.out (by decide))).mono ?_
  rintro e w3 ⟨rfl, hst⟩
  go_wp2
  go_ret
  refine ⟨rfl, WStep.trans hkp hfr ?_⟩
  rw [valB, if_neg (by simp), if_pos rfl, ← List.append_assoc]
  simpa using hst
set_option maxRecDepth 100000 in
set_option maxHeartbeats 800000 in
theorem putv_3 (n : Int) (t : ByteArray) (s : List ByteArray) (A : Option Addr) (c g : Nat) (r : Option Nat) (bs : List UInt8) (w : World) (hW : Wr w g r bs) (hl : bs.length ≤ 800000000000)
    (hr : Rd w 1 A s.length (s.map sv)) (hav : Av (WX g r) s.length A) (hc : s.length ≤ c) (hs : s.length ≤ 1000000000000) (hok : rightE ⟨3, n, t, s⟩ = 0) :
    Calls Tryz.prog 50 #[.pointer (some ⟨g, 0, none⟩), vV ⟨3, n, t, s⟩ A c] w fun e w' => e = .returned (.int .i64 0) ∧ WStep w g r w' (bs ++ valB ⟨3, n, t, s⟩) := by
  have HR := Lib.hid (fun W (h : Old w W) => right_any ⟨3, n, t, s⟩ A c W (hr.old h) hc hs)
  rw [hok] at HR
  obtain ⟨hform, hlong, hmany⟩ := rightE_formed hok
  obtain ⟨htl, hsl⟩ := long_none hlong
  simp only at htl hsl hmany
  have Hl := Lib.hid hl
  have Hsl := Lib.hid hsl
  have Hform := Lib.hid hform
  clear hs hc hok hl hsl hform hlong
  simp only [vV] at *
  go_enter Tryz.func50, Tryz.ntmps50
  go_wp2_with fail
  refine (HR.out _ ((Kp.refl _ _).alloc _)).mono ?_
  rintro e w1 ⟨rfl, ho1⟩
  have ho := ((Kp.refl NoX w).alloc (.cells #[.int .i64 3, .int .i64 n, .string t, .slice A s.length c] 29)).old ho1
  have hb := (Blk.new w 29 #[.int .i64 3, .int .i64 n, .string t, .slice A s.length c]).old ho1
  have hc0 := hb.at_ 0 rfl
  clear ho1
  have hW1 := hW.old ho
  go_wp2_with fail
  refine (put8_any _ g r bs _ (by omega) (by omega) hW1 (Nat.le_trans Hl.out (by decide))).mono ?_
  rintro e w2 ⟨rfl, r2, hW2, hk2, hf2⟩
  have hb2 := hb.kp hk2 (wx_new hW (Nat.le_refl _))
  have d0 := hb2.at_ 0 rfl
  have d1 := hb2.at_ 1 rfl
  have d2 := hb2.at_ 2 rfl
  have d3 := hb2.at_ 3 rfl
  have hkp := (ho.mono (Y := WX g r) (fun _ _ f => f.elim)).trans hk2 (fun _ _ h => h)
  have hfr : Fr w r r2 := by
    rcases hf2 with rfl | ⟨k, rfl, hle⟩
    · exact .inl rfl
    · exact .inr ⟨k, rfl, Nat.le_trans ho.size hle⟩
  have hcl : (bs ++ be 1 (3 : Int).toNat).length ≤ 810000000000 := by rw [List.length_append, be_length]; have := Hl.out; omega
  have Hcl := Lib.hid hcl
  clear hcl hc0 hb hf2 hk2
  go_wp2_with fail
  refine (text_ok _ g r2 _ t _ hW2 (Nat.le_trans Hcl.out (by decide)) (by omega) (by omega)).mono ?_
  rintro e w3 ⟨rfl, hst⟩
  go_wp2
  go_ret
  refine ⟨rfl, WStep.trans hkp hfr ?_⟩
  rw [valB, if_neg (by simp), if_neg (by simp), if_pos rfl, ← List.append_assoc]
  exact hst
set_option maxRecDepth 100000 in
set_option maxHeartbeats 800000 in
theorem putv_4 (n : Int) (t : ByteArray) (s : List ByteArray) (A : Option Addr) (c g : Nat) (r : Option Nat) (bs : List UInt8) (w : World) (hW : Wr w g r bs) (hl : bs.length ≤ 800000000000)
    (hr : Rd w 1 A s.length (s.map sv)) (hav : Av (WX g r) s.length A) (hc : s.length ≤ c) (hs : s.length ≤ 1000000000000) (hok : rightE ⟨4, n, t, s⟩ = 0) :
    Calls Tryz.prog 50 #[.pointer (some ⟨g, 0, none⟩), vV ⟨4, n, t, s⟩ A c] w fun e w' => e = .returned (.int .i64 0) ∧ WStep w g r w' (bs ++ valB ⟨4, n, t, s⟩) := by
  have HR := Lib.hid (fun W (h : Old w W) => right_any ⟨4, n, t, s⟩ A c W (hr.old h) hc hs)
  rw [hok] at HR
  obtain ⟨hform, hlong, hmany⟩ := rightE_formed hok
  obtain ⟨htl, hsl⟩ := long_none hlong
  simp only at htl hsl hmany
  have Hl := Lib.hid hl
  have Hsl := Lib.hid hsl
  have Hform := Lib.hid hform
  clear hs hc hok hl hsl hform hlong
  simp only [vV] at *
  go_enter Tryz.func50, Tryz.ntmps50
  go_wp2_with fail
  refine (HR.out _ ((Kp.refl _ _).alloc _)).mono ?_
  rintro e w1 ⟨rfl, ho1⟩
  have ho := ((Kp.refl NoX w).alloc (.cells #[.int .i64 4, .int .i64 n, .string t, .slice A s.length c] 29)).old ho1
  have hb := (Blk.new w 29 #[.int .i64 4, .int .i64 n, .string t, .slice A s.length c]).old ho1
  have hc0 := hb.at_ 0 rfl
  clear ho1
  have hW1 := hW.old ho
  go_wp2_with fail
  refine (put8_any _ g r bs _ (by omega) (by omega) hW1 (Nat.le_trans Hl.out (by decide))).mono ?_
  rintro e w2 ⟨rfl, r2, hW2, hk2, hf2⟩
  have hb2 := hb.kp hk2 (wx_new hW (Nat.le_refl _))
  have d0 := hb2.at_ 0 rfl
  have d1 := hb2.at_ 1 rfl
  have d2 := hb2.at_ 2 rfl
  have d3 := hb2.at_ 3 rfl
  have hkp := (ho.mono (Y := WX g r) (fun _ _ f => f.elim)).trans hk2 (fun _ _ h => h)
  have hfr : Fr w r r2 := by
    rcases hf2 with rfl | ⟨k, rfl, hle⟩
    · exact .inl rfl
    · exact .inr ⟨k, rfl, Nat.le_trans ho.size hle⟩
  have hcl : (bs ++ be 1 (4 : Int).toNat).length ≤ 810000000000 := by rw [List.length_append, be_length]; have := Hl.out; omega
  have Hcl := Lib.hid hcl
  clear hcl hc0 hb hf2 hk2
  go_wp2_with fail
  have hrg := wrap64_range n
  refine (put64_any _ g r2 _ _ hrg.1 hrg.2 hW2 (Nat.le_trans Hcl.out (by decide))).mono ?_
  rintro e w3 ⟨rfl, hst⟩
  go_wp2
  go_ret
  refine ⟨rfl, WStep.trans hkp hfr ?_⟩
  rw [valB, if_pos (by simp), ← List.append_assoc, ← IntKind.wrap_u64]
  exact hst
set_option maxRecDepth 100000 in
set_option maxHeartbeats 800000 in
theorem putv_5 (n : Int) (t : ByteArray) (s : List ByteArray) (A : Option Addr) (c g : Nat) (r : Option Nat) (bs : List UInt8) (w : World) (hW : Wr w g r bs) (hl : bs.length ≤ 800000000000)
    (hr : Rd w 1 A s.length (s.map sv)) (hav : Av (WX g r) s.length A) (hc : s.length ≤ c) (hs : s.length ≤ 1000000000000) (hok : rightE ⟨5, n, t, s⟩ = 0) :
    Calls Tryz.prog 50 #[.pointer (some ⟨g, 0, none⟩), vV ⟨5, n, t, s⟩ A c] w fun e w' => e = .returned (.int .i64 0) ∧ WStep w g r w' (bs ++ valB ⟨5, n, t, s⟩) := by
  have HR := Lib.hid (fun W (h : Old w W) => right_any ⟨5, n, t, s⟩ A c W (hr.old h) hc hs)
  rw [hok] at HR
  obtain ⟨hform, hlong, hmany⟩ := rightE_formed hok
  obtain ⟨htl, hsl⟩ := long_none hlong
  simp only at htl hsl hmany
  have Hl := Lib.hid hl
  have Hsl := Lib.hid hsl
  have Hform := Lib.hid hform
  clear hs hc hok hl hsl hform hlong
  simp only [vV] at *
  go_enter Tryz.func50, Tryz.ntmps50
  go_wp2_with fail
  refine (HR.out _ ((Kp.refl _ _).alloc _)).mono ?_
  rintro e w1 ⟨rfl, ho1⟩
  have ho := ((Kp.refl NoX w).alloc (.cells #[.int .i64 5, .int .i64 n, .string t, .slice A s.length c] 29)).old ho1
  have hb := (Blk.new w 29 #[.int .i64 5, .int .i64 n, .string t, .slice A s.length c]).old ho1
  have hc0 := hb.at_ 0 rfl
  clear ho1
  have hW1 := hW.old ho
  go_wp2_with fail
  refine (put8_any _ g r bs _ (by omega) (by omega) hW1 (Nat.le_trans Hl.out (by decide))).mono ?_
  rintro e w2 ⟨rfl, r2, hW2, hk2, hf2⟩
  have hb2 := hb.kp hk2 (wx_new hW (Nat.le_refl _))
  have d0 := hb2.at_ 0 rfl
  have d1 := hb2.at_ 1 rfl
  have d2 := hb2.at_ 2 rfl
  have d3 := hb2.at_ 3 rfl
  have hkp := (ho.mono (Y := WX g r) (fun _ _ f => f.elim)).trans hk2 (fun _ _ h => h)
  have hfr : Fr w r r2 := by
    rcases hf2 with rfl | ⟨k, rfl, hle⟩
    · exact .inl rfl
    · exact .inr ⟨k, rfl, Nat.le_trans ho.size hle⟩
  have hcl : (bs ++ be 1 (5 : Int).toNat).length ≤ 810000000000 := by rw [List.length_append, be_length]; have := Hl.out; omega
  have Hcl := Lib.hid hcl
  clear hcl hc0 hb hf2 hk2
  go_wp2_with fail
  have hrd2 := hr.kp hkp hav
  have hris : rising s = true := by have := Hform.out; simp [formedB] at this; exact this.2.1
  refine (texts_ok _ g r2 _ A c s hW2 (Nat.le_trans Hcl.out (by decide)) hrd2 ?_ hmany Hsl.out hris).mono ?_
  · exact hav.fresh hfr hr (by decide)
  rintro e w3 ⟨rfl, hst⟩
  go_wp2
  go_ret
  refine ⟨rfl, WStep.trans hkp hfr ?_⟩
  rw [valB, if_neg (by simp), if_neg (by simp), if_neg (by simp), if_pos rfl, ← List.append_assoc]
  exact hst

theorem putv_ok (v : Val) (A : Option Addr) (c g : Nat) (r : Option Nat) (bs : List UInt8) (w : World) (hW : Wr w g r bs) (hl : bs.length ≤ 800000000000)
    (hr : Rd w 1 A v.s.length (v.s.map sv)) (hav : Av (WX g r) v.s.length A) (hc : v.s.length ≤ c) (hs : v.s.length ≤ 1000000000000) (hok : rightE v = 0) :
    Calls Tryz.prog 50 #[.pointer (some ⟨g, 0, none⟩), vV v A c] w fun e w' => e = .returned (.int .i64 0) ∧ WStep w g r w' (bs ++ valB v) := by
  obtain ⟨k, n, t, s⟩ := v
  have hk : k = 0 ∨ k = 1 ∨ k = 2 ∨ k = 3 ∨ k = 4 ∨ k = 5 := by
    have hf := (rightE_formed hok).1
    simp only [formedB] at hf
    by_cases h0 : k = 0
    · omega
    · by_cases h1 : k = 1
      · omega
      · by_cases h2 : k = 2
        · omega
        · by_cases h3 : k = 3
          · omega
          · by_cases h4 : k = 4
            · omega
            · by_cases h5 : k = 5
              · omega
              · rw [if_neg (by omega), if_neg (by omega), if_neg (by omega), if_neg (by omega)] at hf
                simp at hf
  rcases hk with rfl | rfl | rfl | rfl | rfl | rfl
  · exact putv_0 n t s A c g r bs w hW hl hr hav hc hs hok
  · exact putv_1 n t s A c g r bs w hW hl hr hav hc hs hok
  · exact putv_2 n t s A c g r bs w hW hl hr hav hc hs hok
  · exact putv_3 n t s A c g r bs w hW hl hr hav hc hs hok
  · exact putv_4 n t s A c g r bs w hW hl hr hav hc hs hok
  · exact putv_5 n t s A c g r bs w hW hl hr hav hc hs hok
/-- a value has few bytes -/
theorem valB_length (v : Val) (hok : rightE v = 0) : (valB v).length ≤ 100000 := by
  obtain ⟨_, hlong, hmany⟩ := rightE_formed hok
  obtain ⟨ht, hs⟩ := long_none hlong
  have h5 : (textsB v.s).length ≤ 2 + 64 * 1026 := by
    rw [textsB, List.length_append, be_length]
    have : ∀ k, k ≤ v.s.length → (lps (v.s.take k)).length ≤ k * 1026 := by
      intro k
      induction k with
      | zero => intro _; simp [lps]
      | succ k ih =>
        intro hk
        have h1 := ih (by omega)
        have h2 := hs k (by omega)
        rw [lps_take_succ v.s k (by omega), List.length_append, lp_length, sb_length]
        omega
    have h := this v.s.length (Nat.le_refl _)
    rw [List.take_of_length_le (Nat.le_refl _)] at h
    omega
  unfold valB
  rw [List.length_append, be_length]
  split
  · rw [be_length]; omega
  · split
    · simp
    · split
      · rw [lp_length, sb_length]; omega
      · split
        · omega
        · simp
end Go.Proofs.YtnaolhjbapgjgaaGreat
