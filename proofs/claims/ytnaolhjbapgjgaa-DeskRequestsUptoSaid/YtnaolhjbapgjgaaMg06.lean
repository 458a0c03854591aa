import Derived.Test.YtnaolhjbapgjgaaMg05
/- Contract of event.PutValue. -/
namespace Go.Proofs.Ytnaolhjbapgjgaa
open Go.RowKit

theorem wx_new {w : World} {g : Nat} {r : Option Nat} {bs : List UInt8} (h : Wr w g r bs) {k : Nat} (hk : w.heap.size ≤ k) : ¬ WX g r k := by
  obtain ⟨h1, h2⟩ := h.lt
  rintro (rfl | e)
  · omega
  · have := h2 k e.symm; omega

theorem wrap64_range (n : Int) : 0 ≤ IntKind.u64.wrap n ∧ IntKind.u64.wrap n ≤ 18446744073709551615 := by
  rw [IntKind.wrap_u64]; omega
theorem rightE_formed {v : Val} (h : rightE v = 0) : formedB v = true ∧ longB v = false ∧ v.s.length ≤ 64 := by
  unfold rightE at h
  split at h
  · cases h
  · split at h
    · cases h
    · split at h
      · cases h
      · split at h
        · cases h
        · rename_i h1 _ h2 h3
          exact ⟨by simpa using h1, by simpa using h2, by omega⟩
theorem long_none {v : Val} (h : longB v = false) : v.t.size ≤ 1024 ∧ ∀ k, k < v.s.length → (v.s.getD k ByteArray.empty).size ≤ 1024 := by
  unfold longB at h
  rw [Bool.or_eq_false_iff] at h
  refine ⟨by simpa using h.1, fun k hk => ?_⟩
  rcases Nat.lt_or_ge 1024 (v.s.getD k ByteArray.empty).size with hl | hl
  · rw [any_of v.s k hk hl] at h; cases h.2
  · exact hl

set_option maxRecDepth 100000 in
set_option maxHeartbeats 800000 in
theorem putv_bad (v : Val) (A : Option Addr) (c g : Nat) (w : World) (hr : Rd w 1 A v.s.length (v.s.map sv)) (hc : v.s.length ≤ c) (hs : v.s.length ≤ 1000000000000) (hbad : rightE v ≠ 0) :
    Calls Try.prog 29 #[.pointer (some ⟨g, 0, none⟩), vV v A c] w fun e w' => e = .returned (.int .i64 (rightE v)) ∧ Old w w' := by
  have HR := Lib.hid (fun W (h : Old w W) => right_any v A c W (hr.old h) hc hs)
  have hne : (rightE v != 0) = true := by simpa using hbad
  generalize rightE v = z at HR hne
  clear hs hc hbad
  obtain ⟨k, n, t, s⟩ := v
  simp only [vV] at *
  go_enter Try.func29, Try.ntmps29
  go_wp2_with fail
  refine (HR.out _ ((Kp.refl _ _).alloc _)).mono ?_
  rintro e w1 ⟨rfl, ho1⟩
  have ho := Lib.hid (((Kp.refl NoX w).alloc (.cells #[.int .i64 k, .int .i64 n, .string t, .slice A s.length c] 25)).old ho1)
  clear ho1
  go_wp2
  go_ret
  exact ⟨rfl, ho.out⟩

set_option maxRecDepth 100000 in
set_option maxHeartbeats 800000 in
theorem putv_0 (n : Int) (t : ByteArray) (s : List ByteArray) (A : Option Addr) (c g : Nat) (r : Option Nat) (bs : List UInt8) (w : World) (hW : Wr w g r bs) (hl : bs.length ≤ 800000000000)
    (hr : Rd w 1 A s.length (s.map sv)) (hav : Av (WX g r) s.length A) (hc : s.length ≤ c) (hs : s.length ≤ 1000000000000) (hok : rightE ⟨0, n, t, s⟩ = 0) :
    Calls Try.prog 29 #[.pointer (some ⟨g, 0, none⟩), vV ⟨0, n, t, s⟩ A c] w fun e w' => e = .returned (.int .i64 0) ∧ WStep w g r w' (bs ++ valB ⟨0, n, t, s⟩) := by
  have HR := Lib.hid (fun W (h : Old w W) => right_any ⟨0, n, t, s⟩ A c W (hr.old h) hc hs)
  rw [hok] at HR
  obtain ⟨hform, hlong, hmany⟩ := rightE_formed hok
  obtain ⟨htl, hsl⟩ := long_none hlong
  simp only at htl hsl hmany
  have Hl := Lib.hid hl
  have Hsl := Lib.hid hsl
  have Hform := Lib.hid hform
  clear hs hc hok hl hsl hform hlong
  simp only [vV] at *
  go_enter Try.func29, Try.ntmps29
  go_wp2_with fail
  refine (HR.out _ ((Kp.refl _ _).alloc _)).mono ?_
  rintro e w1 ⟨rfl, ho1⟩
  have ho := ((Kp.refl NoX w).alloc (.cells #[.int .i64 0, .int .i64 n, .string t, .slice A s.length c] 25)).old ho1
  have hb := (Blk.new w 25 #[.int .i64 0, .int .i64 n, .string t, .slice A s.length c]).old ho1
  have hc0 := hb.at_ 0 rfl
  clear ho1
  have hW1 := hW.old ho
  go_wp2_with fail
  refine (put8_any _ g r bs _ (by omega) (by omega) hW1 (Nat.le_trans Hl.out (by decide))).mono ?_
  rintro e w2 ⟨rfl, r2, hW2, hk2, hf2⟩
  have hb2 := hb.kp hk2 (wx_new hW (Nat.le_refl _))
  have d0 := hb2.at_ 0 rfl
  have d1 := hb2.at_ 1 rfl
  have d2 := hb2.at_ 2 rfl
  have d3 := hb2.at_ 3 rfl
  have hkp := (ho.mono (Y := WX g r) (fun _ _ f => f.elim)).trans hk2 (fun _ _ h => h)
  have hfr : Fr w r r2 := by
    rcases hf2 with rfl | ⟨k, rfl, hle⟩
    · exact .inl rfl
    · exact .inr ⟨k, rfl, Nat.le_trans ho.size hle⟩
  have hcl : (bs ++ be 1 (0 : Int).toNat).length ≤ 810000000000 := by rw [List.length_append, be_length]; have := Hl.out; omega
  have Hcl := Lib.hid hcl
  clear hcl hc0 hb hf2 hk2
  go_wp2
  go_ret
  refine ⟨rfl, r2, ?_, hkp, hfr⟩
  simpa [valB] using hW2
set_option maxRecDepth 100000 in
set_option maxHeartbeats 800000 in
theorem putv_1 (n : Int) (t : ByteArray) (s : List ByteArray) (A : Option Addr) (c g : Nat) (r : Option Nat) (bs : List UInt8) (w : World) (hW : Wr w g r bs) (hl : bs.length ≤ 800000000000)
    (hr : Rd w 1 A s.length (s.map sv)) (hav : Av (WX g r) s.length A) (hc : s.length ≤ c) (hs : s.length ≤ 1000000000000) (hok : rightE ⟨1, n, t, s⟩ = 0) :
    Calls Try.prog 29 #[.pointer (some ⟨g, 0, none⟩), vV ⟨1, n, t, s⟩ A c] w fun e w' => e = .returned (.int .i64 0) ∧ WStep w g r w' (bs ++ valB ⟨1, n, t, s⟩) := by
  have HR := Lib.hid (fun W (h : Old w W) => right_any ⟨1, n, t, s⟩ A c W (hr.old h) hc hs)
  rw [hok] at HR
  obtain ⟨hform, hlong, hmany⟩ := rightE_formed hok
  obtain ⟨htl, hsl⟩ := long_none hlong
  simp only at htl hsl hmany
  have Hl := Lib.hid hl
  have Hsl := Lib.hid hsl
  have Hform := Lib.hid hform
  clear hs hc hok hl hsl hform hlong
  simp only [vV] at *
  go_enter Try.func29, Try.ntmps29
  go_wp2_with fail
  refine (HR.out _ ((Kp.refl _ _).alloc _)).mono ?_
  rintro e w1 ⟨rfl, ho1⟩
  have ho := ((Kp.refl NoX w).alloc (.cells #[.int .i64 1, .int .i64 n, .string t, .slice A s.length c] 25)).old ho1
  have hb := (Blk.new w 25 #[.int .i64 1, .int .i64 n, .string t, .slice A s.length c]).old ho1
  have hc0 := hb.at_ 0 rfl
  clear ho1
  have hW1 := hW.old ho
  go_wp2_with fail
  refine (put8_any _ g r bs _ (by omega) (by omega) hW1 (Nat.le_trans Hl.out (by decide))).mono ?_
  rintro e w2 ⟨rfl, r2, hW2, hk2, hf2⟩
  have hb2 := hb.kp hk2 (wx_new hW (Nat.le_refl _))
  have d0 := hb2.at_ 0 rfl
  have d1 := hb2.at_ 1 rfl
  have d2 := hb2.at_ 2 rfl
  have d3 := hb2.at_ 3 rfl
  have hkp := (ho.mono (Y := WX g r) (fun _ _ f => f.elim)).trans hk2 (fun _ _ h => h)
  have hfr : Fr w r r2 := by
    rcases hf2 with rfl | ⟨k, rfl, hle⟩
    · exact .inl rfl
    · exact .inr ⟨k, rfl, Nat.le_trans ho.size hle⟩
  have hcl : (bs ++ be 1 (1 : Int).toNat).length ≤ 810000000000 := by rw [List.length_append, be_length]; have := Hl.out; omega
  have Hcl := Lib.hid hcl
  clear hcl hc0 hb hf2 hk2
  go_wp2_with fail
  have hrg := wrap64_range n
  refine (put64_any _ g r2 _ _ hrg.1 hrg.2 hW2 (Nat.le_trans Hcl.out (by decide))).mono ?_
  rintro e w3 ⟨rfl, hst⟩
  go_wp2
  go_ret
  refine ⟨rfl, WStep.trans hkp hfr ?_⟩
  rw [valB, if_pos (by simp), ← List.append_assoc, ← IntKind.wrap_u64]
  exact hst
set_option maxRecDepth 100000 in
set_option maxHeartbeats 800000 in
theorem putv_2 (n : Int) (t : ByteArray) (s : List ByteArray) (A : Option Addr) (c g : Nat) (r : Option Nat) (bs : List UInt8) (w : World) (hW : Wr w g r bs) (hl : bs.length ≤ 800000000000)
    (hr : Rd w 1 A s.length (s.map sv)) (hav : Av (WX g r) s.length A) (hc : s.length ≤ c) (hs : s.length ≤ 1000000000000) (hok : rightE ⟨2, n, t, s⟩ = 0) :
    Calls Try.prog 29 #[.pointer (some ⟨g, 0, none⟩), vV ⟨2, n, t, s⟩ A c] w fun e w' => e = .returned (.int .i64 0) ∧ WStep w g r w' (bs ++ valB ⟨2, n, t, s⟩) := by
  have HR := Lib.hid (fun W (h : Old w W) => right_any ⟨2, n, t, s⟩ A c W (hr.old h) hc hs)
  rw [hok] at HR
  obtain ⟨hform, hlong, hmany⟩ := rightE_formed hok
  obtain ⟨htl, hsl⟩ := long_none hlong
  simp only at htl hsl hmany
  have Hl := Lib.hid hl
  have Hsl := Lib.hid hsl
  have Hform := Lib.hid hform
  clear hs hc hok hl hsl hform hlong
  simp only [vV] at *
  go_enter Try.func29, Try.ntmps29
  go_wp2_with fail
  refine (HR.out _ ((Kp.refl _ _).alloc _)).mono ?_
  rintro e w1 ⟨rfl, ho1⟩
  have ho := ((Kp.refl NoX w).alloc (.cells #[.int .i64 2, .int .i64 n, .string t, .slice A s.length c] 25)).old ho1
  have hb := (Blk.new w 25 #[.int .i64 2, .int .i64 n, .string t, .slice A s.length c]).old ho1
  have hc0 := hb.at_ 0 rfl
  clear ho1
  have hW1 := hW.old ho
  go_wp2_with fail
  refine (put8_any _ g r bs _ (by omega) (by omega) hW1 (Nat.le_trans Hl.out (by decide))).mono ?_
  rintro e w2 ⟨rfl, r2, hW2, hk2, hf2⟩
  have hb2 := hb.kp hk2 (wx_new hW (Nat.le_refl _))
  have d0 := hb2.at_ 0 rfl
  have d1 := hb2.at_ 1 rfl
  have d2 := hb2.at_ 2 rfl
  have d3 := hb2.at_ 3 rfl
  have hkp := (ho.mono (Y := WX g r) (fun _ _ f => f.elim)).trans hk2 (fun _ _ h => h)
  have hfr : Fr w r r2 := by
    rcases hf2 with rfl | ⟨k, rfl, hle⟩
    · exact .inl rfl
    · exact .inr ⟨k, rfl, Nat.le_trans ho.size hle⟩
  have hcl : (bs ++ be 1 (2 : Int).toNat).length ≤ 810000000000 := by rw [List.length_append, be_length]; have := Hl.out; omega
  have Hcl := Lib.hid hcl
  clear hcl hc0 hb hf2 hk2
  go_wp2_with fail
  refine (flag_any _ g r2 _ _ hW2 (Nat.le_trans Hcl.out (by decide))).mono ?_
  rintro e w3 ⟨rfl, hst⟩
  go_wp2
  go_ret
  refine ⟨rfl, WStep.trans hkp hfr ?_⟩
  rw [valB, if_neg (by simp), if_pos rfl, ← List.append_assoc]
  simpa using hst
set_option maxRecDepth 100000 in
set_option maxHeartbeats 800000 in
theorem putv_3 (n : Int) (t : ByteArray) (s : List ByteArray) (A : Option Addr) (c g : Nat) (r : Option Nat) (bs : List UInt8) (w : World) (hW : Wr w g r bs) (hl : bs.length ≤ 800000000000)
    (hr : Rd w 1 A s.length (s.map sv)) (hav : Av (WX g r) s.length A) (hc : s.length ≤ c) (hs : s.length ≤ 1000000000000) (hok : rightE ⟨3, n, t, s⟩ = 0) :
    Calls Try.prog 29 #[.pointer (some ⟨g, 0, none⟩), vV ⟨3, n, t, s⟩ A c] w fun e w' => e = .returned (.int .i64 0) ∧ WStep w g r w' (bs ++ valB ⟨3, n, t, s⟩) := by
  have HR := Lib.hid (fun W (h : Old w W) => right_any ⟨3, n, t, s⟩ A c W (hr.old h) hc hs)
  rw [hok] at HR
  obtain ⟨hform, hlong, hmany⟩ := rightE_formed hok
  obtain ⟨htl, hsl⟩ := long_none hlong
  simp only at htl hsl hmany
  have Hl := Lib.hid hl
  have Hsl := Lib.hid hsl
  have Hform := Lib.hid hform
  clear hs hc hok hl hsl hform hlong
  simp only [vV] at *
  go_enter Try.func29, Try.ntmps29
  go_wp2_with fail
  refine (HR.out _ ((Kp.refl _ _).alloc _)).mono ?_
  rintro e w1 ⟨rfl, ho1⟩
  have ho := ((Kp.refl NoX w).alloc (.cells #[.int .i64 3, .int .i64 n, .string t, .slice A s.length c] 25)).old ho1
  have hb := (Blk.new w 25 #[.int .i64 3, .int .i64 n, .string t, .slice A s.length c]).old ho1
  have hc0 := hb.at_ 0 rfl
  clear ho1
  have hW1 := hW.old ho
  go_wp2_with fail
  refine (put8_any _ g r bs _ (by omega) (by omega) hW1 (Nat.le_trans Hl.out (by decide))).mono ?_
  rintro e w2 ⟨rfl, r2, hW2, hk2, hf2⟩
  have hb2 := hb.kp hk2 (wx_new hW (Nat.le_refl _))
  have d0 := hb2.at_ 0 rfl
  have d1 := hb2.at_ 1 rfl
  have d2 := hb2.at_ 2 rfl
  have d3 := hb2.at_ 3 rfl
  have hkp := (ho.mono (Y := WX g r) (fun _ _ f => f.elim)).trans hk2 (fun _ _ h => h)
  have hfr : Fr w r r2 := by
    rcases hf2 with rfl | ⟨k, rfl, hle⟩
    · exact .inl rfl
    · exact .inr ⟨k, rfl, Nat.le_trans ho.size hle⟩
  have hcl : (bs ++ be 1 (3 : Int).toNat).length ≤ 810000000000 := by rw [List.length_append, be_length]; have := Hl.out; omega
  have Hcl := Lib.hid hcl
  clear hcl hc0 hb hf2 hk2
  go_wp2_with fail
  refine (text_ok _ g r2 _ t _ hW2 (Nat.le_trans Hcl.out (by decide)) (by omega) (by omega)).mono ?_
  rintro e w3 ⟨rfl, hst⟩
  go_wp2
  go_ret
  refine ⟨rfl, WStep.trans hkp hfr ?_⟩
  rw [valB, if_neg (by simp), if_neg (by simp), if_pos rfl, ← List.append_assoc]
  exact hst
set_option maxRecDepth 100000 in
set_option maxHeartbeats 800000 in
theorem putv_4 (n : Int) (t : ByteArray) (s : List ByteArray) (A : Option Addr) (c g : Nat) (r : Option Nat) (bs : List UInt8) (w : World) (hW : Wr w g r bs) (hl : bs.length ≤ 800000000000)
    (hr : Rd w 1 A s.length (s.map sv)) (hav : Av (WX g r) s.length A) (hc : s.length ≤ c) (hs : s.length ≤ 1000000000000) (hok : rightE ⟨4, n, t, s⟩ = 0) :
    Calls Try.prog 29 #[.pointer (some ⟨g, 0, none⟩), vV ⟨4, n, t, s⟩ A c] w fun e w' => e = .returned (.int .i64 0) ∧ WStep w g r w' (bs ++ valB ⟨4, n, t, s⟩) := by
  have HR := Lib.hid (fun W (h : Old w W) => right_any ⟨4, n, t, s⟩ A c W (hr.old h) hc hs)
  rw [hok] at HR
  obtain ⟨hform, hlong, hmany⟩ := rightE_formed hok
  obtain ⟨htl, hsl⟩ := long_none hlong
  simp only at htl hsl hmany
  have Hl := Lib.hid hl
  have Hsl := Lib.hid hsl
  have Hform := Lib.hid hform
  clear hs hc hok hl hsl hform hlong
  simp only [vV] at *
  go_enter Try.func29, Try.ntmps29
  go_wp2_with fail
  refine (HR.out _ ((Kp.refl _ _).alloc _)).mono ?_
  rintro e w1 ⟨rfl, ho1⟩
  have ho := ((Kp.refl NoX w).alloc (.cells #[.int .i64 4, .int .i64 n, .string t, .slice A s.length c] 25)).old ho1
  have hb := (Blk.new w 25 #[.int .i64 4, .int .i64 n, .string t, .slice A s.length c]).old ho1
  have hc0 := hb.at_ 0 rfl
  clear ho1
  have hW1 := hW.old ho
  go_wp2_with fail
  refine (put8_any _ g r bs _ (by omega) (by omega) hW1 (Nat.le_trans Hl.out (by decide))).mono ?_
  rintro e w2 ⟨rfl, r2, hW2, hk2, hf2⟩
  have hb2 := hb.kp hk2 (wx_new hW (Nat.le_refl _))
  have d0 := hb2.at_ 0 rfl
  have d1 := hb2.at_ 1 rfl
  have d2 := hb2.at_ 2 rfl
  have d3 := hb2.at_ 3 rfl
  have hkp := (ho.mono (Y := WX g r) (fun _ _ f => f.elim)).trans hk2 (fun _ _ h => h)
  have hfr : Fr w r r2 := by
    rcases hf2 with rfl | ⟨k, rfl, hle⟩
    · exact .inl rfl
    · exact .inr ⟨k, rfl, Nat.le_trans ho.size hle⟩
  have hcl : (bs ++ be 1 (4 : Int).toNat).length ≤ 810000000000 := by rw [List.length_append, be_length]; have := Hl.out; omega
  have Hcl := Lib.hid hcl
  clear hcl hc0 hb hf2 hk2
  go_wp2_with fail
  have hrg := wrap64_range n
  refine (put64_any _ g r2 _ _ hrg.1 hrg.2 hW2 (Nat.le_trans Hcl.out (by decide))).mono ?_
  rintro e w3 ⟨rfl, hst⟩
  go_wp2
  go_ret
  refine ⟨rfl, WStep.trans hkp hfr ?_⟩
  rw [valB, if_pos (by simp), ← List.append_assoc, ← IntKind.wrap_u64]
  exact hst
set_option maxRecDepth 100000 in
set_option maxHeartbeats 800000 in
theorem putv_5 (n : Int) (t : ByteArray) (s : List ByteArray) (A : Option Addr) (c g : Nat) (r : Option Nat) (bs : List UInt8) (w : World) (hW : Wr w g r bs) (hl : bs.length ≤ 800000000000)
    (hr : Rd w 1 A s.length (s.map sv)) (hav : Av (WX g r) s.length A) (hc : s.length ≤ c) (hs : s.length ≤ 1000000000000) (hok : rightE ⟨5, n, t, s⟩ = 0) :
    Calls Try.prog 29 #[.pointer (some ⟨g, 0, none⟩), vV ⟨5, n, t, s⟩ A c] w fun e w' => e = .returned (.int .i64 0) ∧ WStep w g r w' (bs ++ valB ⟨5, n, t, s⟩) := by
  have HR := Lib.hid (fun W (h : Old w W) => right_any ⟨5, n, t, s⟩ A c W (hr.old h) hc hs)
  rw [hok] at HR
  obtain ⟨hform, hlong, hmany⟩ := rightE_formed hok
  obtain ⟨htl, hsl⟩ := long_none hlong
  simp only at htl hsl hmany
  have Hl := Lib.hid hl
  have Hsl := Lib.hid hsl
  have Hform := Lib.hid hform
  clear hs hc hok hl hsl hform hlong
  simp only [vV] at *
  go_enter Try.func29, Try.ntmps29
  go_wp2_with fail
  refine (HR.out _ ((Kp.refl _ _).alloc _)).mono ?_
  rintro e w1 ⟨rfl, ho1⟩
  have ho := ((Kp.refl NoX w).alloc (.cells #[.int .i64 5, .int .i64 n, .string t, .slice A s.length c] 25)).old ho1
  have hb := (Blk.new w 25 #[.int .i64 5, .int .i64 n, .string t, .slice A s.length c]).old ho1
  have hc0 := hb.at_ 0 rfl
  clear ho1
  have hW1 := hW.old ho
  go_wp2_with fail
  refine (put8_any _ g r bs _ (by omega) (by omega) hW1 (Nat.le_trans Hl.out (by decide))).mono ?_
  rintro e w2 ⟨rfl, r2, hW2, hk2, hf2⟩
  have hb2 := hb.kp hk2 (wx_new hW (Nat.le_refl _))
  have d0 := hb2.at_ 0 rfl
  have d1 := hb2.at_ 1 rfl
  have d2 := hb2.at_ 2 rfl
  have d3 := hb2.at_ 3 rfl
  have hkp := (ho.mono (Y := WX g r) (fun _ _ f => f.elim)).trans hk2 (fun _ _ h => h)
  have hfr : Fr w r r2 := by
    rcases hf2 with rfl | ⟨k, rfl, hle⟩
    · exact .inl rfl
    · exact .inr ⟨k, rfl, Nat.le_trans ho.size hle⟩
  have hcl : (bs ++ be 1 (5 : Int).toNat).length ≤ 810000000000 := by rw [List.length_append, be_length]; have := Hl.out; omega
  have Hcl := Lib.hid hcl
  clear hcl hc0 hb hf2 hk2
  go_wp2_with fail
  have hrd2 := hr.kp hkp hav
  have hris : rising s = true := by have := Hform.out; simp [formedB] at this; exact this.2.1
  refine (texts_ok _ g r2 _ A c s hW2 (Nat.le_trans Hcl.out (by decide)) hrd2 ?_ hmany Hsl.out hris).mono ?_
  · exact hav.fresh hfr hr (by decide)
  rintro e w3 ⟨rfl, hst⟩
  go_wp2
  go_ret
  refine ⟨rfl, WStep.trans hkp hfr ?_⟩
  rw [valB, if_neg (by simp), if_neg (by simp), if_neg (by simp), if_pos rfl, ← List.append_assoc]
  exact hst

theorem putv_ok (v : Val) (A : Option Addr) (c g : Nat) (r : Option Nat) (bs : List UInt8) (w : World) (hW : Wr w g r bs) (hl : bs.length ≤ 800000000000)
    (hr : Rd w 1 A v.s.length (v.s.map sv)) (hav : Av (WX g r) v.s.length A) (hc : v.s.length ≤ c) (hs : v.s.length ≤ 1000000000000) (hok : rightE v = 0) :
    Calls Try.prog 29 #[.pointer (some ⟨g, 0, none⟩), vV v A c] w fun e w' => e = .returned (.int .i64 0) ∧ WStep w g r w' (bs ++ valB v) := by
  obtain ⟨k, n, t, s⟩ := v
  have hk : k = 0 ∨ k = 1 ∨ k = 2 ∨ k = 3 ∨ k = 4 ∨ k = 5 := by
    have hf := (rightE_formed hok).1
    simp only [formedB] at hf
    by_cases h0 : k = 0
    · omega
    · by_cases h1 : k = 1
      · omega
      · by_cases h2 : k = 2
        · omega
        · by_cases h3 : k = 3
          · omega
          · by_cases h4 : k = 4
            · omega
            · by_cases h5 : k = 5
              · omega
              · rw [if_neg (by omega), if_neg (by omega), if_neg (by omega), if_neg (by omega)] at hf
                simp at hf
  rcases hk with rfl | rfl | rfl | rfl | rfl | rfl
  · exact putv_0 n t s A c g r bs w hW hl hr hav hc hs hok
  · exact putv_1 n t s A c g r bs w hW hl hr hav hc hs hok
  · exact putv_2 n t s A c g r bs w hW hl hr hav hc hs hok
  · exact putv_3 n t s A c g r bs w hW hl hr hav hc hs hok
  · exact putv_4 n t s A c g r bs w hW hl hr hav hc hs hok
  · exact putv_5 n t s A c g r bs w hW hl hr hav hc hs hok
/-- a value has few bytes -/
theorem valB_length (v : Val) (hok : rightE v = 0) : (valB v).length ≤ 100000 := by
  obtain ⟨_, hlong, hmany⟩ := rightE_formed hok
  obtain ⟨ht, hs⟩ := long_none hlong
  have h5 : (textsB v.s).length ≤ 2 + 64 * 1026 := by
    rw [textsB, List.length_append, be_length]
    have : ∀ k, k ≤ v.s.length → (lps (v.s.take k)).length ≤ k * 1026 := by
      intro k
      induction k with
      | zero => intro _; simp [lps]
      | succ k ih =>
        intro hk
        have h1 := ih (by omega)
        have h2 := hs k (by omega)
        rw [lps_take_succ v.s k (by omega), List.length_append, lp_length, sb_length]
        omega
    have h := this v.s.length (Nat.le_refl _)
    rw [List.take_of_length_le (Nat.le_refl _)] at h
    omega
  unfold valB
  rw [List.length_append, be_length]
  split
  · rw [be_length]; omega
  · split
    · simp
    · split
      · rw [lp_length, sb_length]; omega
      · split
        · omega
        · simp
end Go.Proofs.Ytnaolhjbapgjgaa

/- Contracts of desk.text, desk.number. -/
namespace Go.Proofs.Ytnaolhjbapgjgaa
open Go.RowKit

/-- texts one behind the other, each behind its length in four bytes -/
def lps4 (l : List ByteArray) : List UInt8 := (l.map fun s => lp 4 (sb s)).flatten
theorem lps4_take_succ (l : List ByteArray) (k : Nat) (h : k < l.length) : lps4 (l.take (k + 1)) = lps4 (l.take k) ++ lp 4 (sb (l.getD k ByteArray.empty)) := by
  have e : l.getD k ByteArray.empty = l[k] := by simp [List.getD, List.getElem?_eq_getElem h]
  rw [e, List.take_succ_eq_append_getElem h]
  unfold lps4
  rw [List.map_append, List.flatten_append]
  congr 1
  simp
theorem lps4_length_le (l : List ByteArray) (m : Nat) : ∀ k, k ≤ l.length → (∀ j, j < k → (l.getD j ByteArray.empty).size ≤ m) → (lps4 (l.take k)).length ≤ k * (m + 4) := by
  intro k
  induction k with
  | zero => intro _ _; simp [lps4]
  | succ k ih =>
    intro hk h
    have h1 := ih (by omega) (fun j hj => h j (by omega))
    have h2 := h k (by omega)
    rw [lps4_take_succ l k (by omega), List.length_append, lp_length, sb_length, Nat.add_mul]
    omega

set_option maxRecDepth 100000 in
set_option maxHeartbeats 1600000 in
/-- text: k texts have been laid down; all of them, if it says true -/
def TextPost (w : World) (g : Nat) (r : Option Nat) (bs : List UInt8) (l : List ByteArray) (e : Ending) (w' : World) : Prop :=
  ∃ k, k ≤ l.length ∧ e = .returned (.bool (decide (k = l.length))) ∧ (∀ j, j < k → (l.getD j ByteArray.empty).size ≤ 4194304) ∧ (k < l.length → 4194304 < (l.getD k ByteArray.empty).size) ∧ WStep w g r w' (bs ++ lps4 (l.take k))

set_option maxRecDepth 100000 in
set_option maxHeartbeats 1600000 in
theorem dtext_any (w : World) (g : Nat) (r : Option Nat) (bs : List UInt8) (A : Option Addr) (c : Nat) (l : List ByteArray) (hW : Wr w g r bs) (hl : bs.length ≤ 700000000000)
    (hrd : Rd w 1 A l.length (l.map sv)) (hav : Av (WX g r) l.length A) (hn : l.length ≤ 1000) (hbig : ∀ k, k < l.length → (l.getD k ByteArray.empty).size ≤ 2147483647) :
    Calls Try.prog 14 #[.pointer (some ⟨g, 0, none⟩), .slice A l.length c] w (TextPost w g r bs l) := by
  have Hl := Lib.hid hl
  have Hbig := Lib.hid hbig
  clear hl hbig
  go_enter Try.func14, Try.ntmps14
  go_wp2
  go_loopw [9] (fun i wr => ∃ k : Nat, k ≤ l.length ∧ i = .int .i64 k ∧ (∀ j, j < k → (l.getD j ByteArray.empty).size ≤ 4194304) ∧ WStep w g r wr (bs ++ lps4 (l.take k))) (fun i _ => l.length - (intOf i).toNat)
  case atStart => exact ⟨0, by omega, rfl, fun j hj => by omega, by simpa [lps4] using hW.step⟩
  case round =>
    obtain ⟨k, hk, rfl, hsm, hst⟩ := hrel
    have hcl := lps4_length_le l 4194304 k hk hsm
    have Hsm := Lib.hid hsm
    clear hsm
    by_cases hlt : k < l.length
    · obtain ⟨r', hWr, hkp, hfr⟩ := hst
      obtain ⟨b, o, rfl, hy⟩ := (hrd.kp hkp hav).text (k := k) hlt
      have hcl : (bs ++ lps4 (l.take k)).length ≤ 800000000000 := by
        have := Hl.out
        rw [List.length_append]
        omega
      have hby := Hbig.out k hlt
      have Hfin := Lib.hid (show bs ++ lps4 (l.take (k + 1)) = (bs ++ lps4 (l.take k)) ++ lp 4 (sb (l.getD k ByteArray.empty)) by
        rw [lps4_take_succ l k hlt]; simp)
      generalize hyy : l.getD k ByteArray.empty = y at hy hby Hfin
      generalize hcc : bs ++ lps4 (l.take k) = cs at hWr hcl Hfin
      have Hyy := Lib.hid hyy
      have Hcc := Lib.hid hcc
      have Hcl := Lib.hid hcl
      clear hcl hyy hcc
      have b5 : (k : Int) ≤ 1000 := by omega
      go_wp2_with (first | (with_reducible refine at_conv 9 27 ?_; refine wpList_conv_sb _ Try.underlying9 Try.underlying27 Try.underlying5 y rfl ?_; intro A1 c1 w1 hrd1 ho1 hav1) | fail)
      have hW1 := hWr.old ho1
      have hav2 : Av (WX g r') y.size A1 := fun hn ad e hx => by
        have h1 := hav1 hn ad e
        exact wx_new hWr (by omega) hx
      by_cases hsz : y.size ≤ 4194304
      · refine (bytes_ok _ g r' cs A1 y.size _ (sb y) _ hW1 (Nat.le_trans Hcl.out (by decide)) hrd1 hav2 (by omega) (by omega)).mono ?_
        rintro e w2 ⟨rfl, hst⟩
        have Hst := Lib.hid (WStep.trans hkp hfr (WStep.trans (ho1.mono (Y := WX g r') (fun _ _ f => f.elim)) (.inl rfl) hst))
        clear hst
        go_wp2
        go_roundw
        case rel =>
          refine ⟨k + 1, by omega, by go_num, fun j hj => ?_, by rw [Hfin.out]; exact Hst.out⟩
          by_cases e : j = k
          · subst e; rw [Hyy.out]; exact hsz
          · exact Hsm.out j (by omega)
        case measure => simp [intOf]; omega
      · refine (bytes_long _ g A1 y.size _ _ (by omega) (by omega)).mono ?_
        rintro e w2 ⟨rfl, rfl⟩
        go_wp2
        go_ret
        refine ⟨k, hk, ret_eq (bool_eq (by simp; omega)), Hsm.out, fun _ => by rw [Hyy.out]; omega, ?_⟩
        rw [Hcc.out]
        exact WStep.trans hkp hfr (WStep.trans (ho1.mono (Y := WX g r') (fun _ _ f => f.elim)) (.inl rfl) hW1.step)
    · obtain rfl : k = l.length := by omega
      go_wp2
      go_ret
      exact ⟨l.length, hk, ret_eq (bool_eq (by simp)), Hsm.out, fun h => absurd h (by omega), hst⟩
end Go.Proofs.Ytnaolhjbapgjgaa
