import Derived.Test.YtnaolhjbapgjgaaGreatMg02
set_option maxRecDepth 100000
set_option maxHeartbeats 3200000
namespace Go.Proofs.YtnaolhjbapgjgaaGreat
open Go.RowKit
theorem formed_any (v : Val) (A : Option Addr) (c : Nat) (w : World) (hr : Rd w 1 A v.s.length (v.s.map sv)) (hc : v.s.length <= c) (hs : v.s.length <= 1000000000000) :
    Calls Tryz.prog 146 #[vV v A c] w fun e w' => e = .returned (.bool (kD v)) /\ Old w w' := by
  obtain ⟨k, n, t, s⟩ := v
  by_cases h : k < 0 \/ 5 < k
  · exact formed_far k n t s A c w h
  · have hk : k = 0 \/ k = 1 \/ k = 2 \/ k = 3 \/ k = 4 \/ k = 5 := by omega
    rcases hk with rfl | rfl | rfl | rfl | rfl | rfl
    · exact formed_0 n t s A c w
    · exact formed_1 n t s A c w
    · exact formed_2 n t s A c w
    · exact formed_3 n t s A c w
    · exact formed_4 n t s A c w
    · exact formed_5 n t s A c w hr hc hs
def LongAt (s : List ByteArray) (w : World) (e : Ending) (w' : World) : Prop :=
  ∃ r : Int, e = .returned (.int .i64 r) /\ decide (0 <= r) = (s.any fun x => decide (1024 < x.size)) /\ w = w'
theorem any_of (s : List ByteArray) (k : Nat) (hk : k < s.length) (h : 1024 < (s.getD k ByteArray.empty).size) : (s.any fun x => decide (1024 < x.size)) = true := by
  rw [List.any_eq_true]
  refine ⟨s[k], List.getElem_mem hk, ?_⟩
  simpa [List.getD, List.getElem?_eq_getElem hk] using h
theorem none_of (s : List ByteArray) (h : ∀ k, k < s.length -> (s.getD k ByteArray.empty).size <= 1024) : (s.any fun x => decide (1024 < x.size)) = false := by
  rw [<- Bool.not_eq_true, List.any_eq_true]
  rintro ⟨x, hx, hl⟩
  obtain ⟨k, hk, rfl⟩ := List.getElem_of_mem hx
  have := h k hk
  simp [List.getD, List.getElem?_eq_getElem hk] at this
  simp at hl
  omega
theorem index_any (s : List ByteArray) (A : Option Addr) (c : Nat) (w : World) (hr : Rd w 1 A s.length (s.map sv)) (hs : s.length <= 1000000000000) :
    Calls Tryz.prog 175 #[.slice A s.length c, .func (.func 149) #[] #[]] w (LongAt s w) := by
  have Hs := jJ0 hs
  clear hs
  go_enter Tryz.func175, Tryz.ntmps175
  go_wp2
  go_loop [8] (fun i => ∃ k : Nat, k <= s.length /\ i = .int .i64 k /\ ∀ j, j < k -> (s.getD j ByteArray.empty).size <= 1024) (fun i => s.length - (intOf i).toNat)
  case atStart => exact ⟨0, by omega, rfl, fun j hj => by omega⟩
  case round =>
    obtain ⟨k, hk, rfl, hno⟩ := hrel
    have Hno := jJ0 hno
    clear hno
    by_cases hlt : k < s.length
    · obtain ⟨b, o, rfl, hx⟩ := hr.text (k := k) hlt
      generalize hxx : s.getD k ByteArray.empty = x at hx
      have Hx := jJ0 hxx
      clear hxx
      have b5 : (k : Int) <= 1000000000000 := by have := Hs.out; omega
      by_cases hl : 1024 < x.size
      · have hd : decide (1024 < x.size) = true := by simpa using hl
        go_wp2_with (go_at_call 149; refine (lit_any _ _).mono ?_; rintro e w' ⟨rfl, rfl⟩)
        go_ret
        exact ⟨k, rfl, by rw [any_of s k hlt (by rw [Hx.out]; exact hl)]; simp, rfl⟩
      · have hd : decide (1024 < x.size) = false := by simpa using hl
        go_wp2_with (go_at_call 149; refine (lit_any _ _).mono ?_; rintro e w' ⟨rfl, rfl⟩)
        go_round
        case rel =>
          refine ⟨k + 1, by omega, by go_num, fun j hj => ?_⟩
          by_cases e : j = k
          · subst e; rw [Hx.out]; omega
          · exact Hno.out j (by omega)
        case measure => simp [intOf]; omega
    · go_wp2
      go_ret
      exact ⟨-1, rfl, by rw [none_of s (fun j hj => Hno.out j (by omega))]; rfl, rfl⟩
theorem contains_any (s : List ByteArray) (A : Option Addr) (c : Nat) (w : World) (hr : Rd w 1 A s.length (s.map sv)) (hs : s.length <= 1000000000000) :
    Calls Tryz.prog 148 #[.slice A s.length c, .func (.func 149) #[] #[]] w fun e w' =>
      e = .returned (.bool (s.any fun x => decide (1024 < x.size))) /\ w = w' := by
  have Hs := jJ0 hs
  clear hs
  go_enter Tryz.func148, Tryz.ntmps148
  go_wp2_with fail
  refine (index_any s A c w hr Hs.out).mono ?_
  rintro e w' ⟨r, rfl, hd, rfl⟩
  have Hd := jJ0 hd
  clear hd
  go_wp2
  go_ret
  exact ⟨kR (kr Hd.out), rfl⟩
theorem ji (v : Val) (A : Option Addr) (c : Nat) (w : World) (hr : Rd w 1 A v.s.length (v.s.map sv)) (hc : v.s.length <= c) (hs : v.s.length <= 1000000000000) :
    Calls Tryz.prog 98 #[vV v A c] w fun e w' => e = .returned (.int .i64 (jP v)) /\ Old w w' := by
  have Hs := jJ0 hs
  have Hc := jJ0 hc
  clear hs hc
  have Hf := jJ0 (fun W (h : Old w W) => formed_any v A c W (hr.old h) Hc.out Hs.out)
  have Hk := jJ0 (fun W (h : Old w W) => contains_any v.s A c W (hr.old h) Hs.out)
  obtain ⟨k, n, t, s⟩ := v
  simp only [vV] at *
  go_enter Tryz.func98, Tryz.ntmps98
  go_wp2_with fail
  refine (Hf.out _ ((Kp.refl _ _).alloc _)).mono ?_
  rintro e w1 ⟨rfl, ho1⟩
  have hb := (Blk.new w 29 #[.int .i64 k, .int .i64 n, .string t, .slice A s.length c]).old ho1
  have hc0 := hb.cell 0
  have hc1 := hb.cell 1
  have hc2 := hb.cell 2
  have hc3 := hb.cell 3
  have ho := jJ0 (((Kp.refl NoX w).alloc (.cells #[.int .i64 k, .int .i64 n, .string t, .slice A s.length c] 29)).old ho1)
  simp only [List.getElem?_toArray, List.getElem?_cons_zero, List.getElem?_cons_succ] at hc0 hc1 hc2 hc3
  clear ho1
  cases hf : kD ⟨k, n, t, s⟩
  · go_wp2
    go_ret
    exact ⟨kR (vW (by simp [jP, hf])), ho.out⟩
  · generalize ha : (s.any fun x => decide (1024 < x.size)) = anyLong at Hk
    have Ha := jJ0 ha
    have Hff := jJ0 hf
    clear ha hf
    cases anyLong
    all_goals
      go_wp2_with (first | (go_at_call 147; refine (timely_any _ _).mono ?_; rintro e w' ⟨rfl, rfl⟩) | (go_at_call 148; refine (Hk.out _ ho.out).mono ?_; rintro e w' ⟨rfl, rfl⟩))
      all_goals
        go_ret
        refine ⟨kR (vW ?_), ho.out⟩
        have hf := Hff.out
        have ha := Ha.out
        simp only [jP, longB, hf, ha]
        simp_all <;> omega
theorem blt_ge (s : List ByteArray) (h : yM s = true) (k : Nat) (hk : k + 1 < s.length) : Op.bytesLess (s.getD k ByteArray.empty).toList (s.getD (k + 1) ByteArray.empty).toList = true := by
  rw [yM, List.all_eq_true] at h
  exact h k (by rw [List.mem_range]; omega)
theorem texts_ok (w : World) (g : Nat) (r : Option Nat) (bs : List UInt8) (A : Option Addr) (c : Nat) (l : List ByteArray) (hW : Wr w g r bs) (hl : bs.length <= 900000000000)
    (hrd : Rd w 1 A l.length (l.map sv)) (hav : Av (WX g r) l.length A) (hn : l.length <= 64) (hx : ∀ k, k < l.length -> (l.getD k ByteArray.empty).size <= 1024) (hris : yM l = true) :
    Calls Tryz.prog 100 #[.pointer (some ⟨g, 0, none⟩), .slice A l.length c, .int .i64 64, .int .i64 1024] w fun e w' => e = .returned (.int .i64 0) /\ WStep w g r w' (bs ++ vY l) := by
  have Hl := jJ0 hl
  have Hx := jJ0 hx
  have Hris := jJ0 hris
  clear hl hx hris
  have hmin : ¬ ((64 : Int) < (l.length : Int)) := by omega
  go_enter Tryz.func100, Tryz.ntmps100
  go_wp2_with (go_at_call 101; refine (kT _ _ _ (by omega)).mono ?_; rintro e w' ⟨rfl, rfl⟩)
  go_loop [20] (fun i => ∃ k : Nat, k <= l.length /\ i = .int .i64 k) (fun i => l.length - (intOf i).toNat)
  case atStart => exact ⟨0, by omega, rfl⟩
  case round =>
    obtain ⟨k, hk, rfl⟩ := hrel
    by_cases hlt : k < l.length
    · obtain ⟨b, o, rfl, hy⟩ := hrd.text (k := k) hlt
      have hsz : ¬ ((1024 : Int) < ((l.getD k ByteArray.empty).size : Int)) := by have := Hx.out k hlt; omega
      rcases Nat.eq_zero_or_pos k with rfl | hpos
      · simp only [Nat.add_zero] at hy
        generalize l.getD 0 ByteArray.empty = y at hy hsz
        go_wp2_with (go_at_call 101; refine (kT _ _ _ (by omega)).mono ?_; rintro e w' ⟨rfl, rfl⟩)
        go_round
        case rel => exact ⟨1, by omega, rfl⟩
        case measure => simp [intOf]; omega
      · obtain ⟨j, rfl⟩ : ∃ j, k = j + 1 := ⟨k - 1, by omega⟩
        obtain ⟨b', o', e, hz⟩ := hrd.text (k := j) (by omega)
        obtain ⟨rfl, rfl⟩ : b = b' /\ o = o' := by injection e with e; injection e with e1 e2; exact ⟨e1, e2⟩
        have hge := blt_ge l Hris.out j hlt
        clear e
        generalize l.getD (j + 1) ByteArray.empty = y at hy hsz hge
        generalize l.getD j ByteArray.empty = z at hz hge
        go_wp2_with (go_at_call 101; refine (kT _ _ _ (by omega)).mono ?_; rintro e w' ⟨rfl, rfl⟩)
        go_round
        case rel => exact ⟨j + 1 + 1, by omega, by go_num⟩
        case measure => simp [intOf]; omega
    · skip
      go_wp2_with fail
      refine (put16_any _ g r bs _ (by omega) (by omega) hW (Nat.le_trans Hl.out (by decide))).mono ?_
      rintro e w1 ⟨rfl, hw⟩
      rw [Int.toNat_natCast] at hw
      go_wp2
      go_loopw [49] (fun i wr => ∃ k : Nat, k <= l.length /\ i = .int .i64 k /\ WStep w g r wr (bs ++ (be 2 l.length ++ lps (l.take k)))) (fun i _ => l.length - (intOf i).toNat)
      case atStart => exact ⟨0, by omega, rfl, by simpa [lps] using hw⟩
      case round =>
        obtain ⟨k, hk, rfl, hst⟩ := hrel
        by_cases hlt : k < l.length
        · obtain ⟨r', hWr, hkp, hfr⟩ := hst
          obtain ⟨b, o, rfl, hy⟩ := (hrd.kp hkp hav).text (k := k) hlt
          have hsz := Hx.out k hlt
          have hll := lps_length_le l (fun k hk => Nat.le_trans (Hx.out k hk) (by decide)) k hk
          have hcl : (bs ++ (be 2 l.length ++ lps (l.take k))).length <= 1000000000000 := by
            have := Hl.out
            rw [List.length_append, List.length_append, jC]
            omega
          have Hfin := jJ0 (show bs ++ (be 2 l.length ++ lps (l.take (k + 1))) = (bs ++ (be 2 l.length ++ lps (l.take k))) ++ lp 2 (sb (l.getD k ByteArray.empty)) by
            rw [lps_take_succ l k hlt]; simp)
          generalize l.getD k ByteArray.empty = y at hy hsz Hfin
          generalize bs ++ (be 2 l.length ++ lps (l.take k)) = cs at hWr hcl Hfin
          have Hcl := jJ0 hcl
          clear hcl hll
          go_wp2_with fail
          refine (text_ok _ g r' cs y _ hWr Hcl.out (by omega) (by omega)).mono ?_
          rintro e w2 ⟨rfl, hst⟩
          have Hst := jJ0 (WStep.trans hkp hfr hst)
          clear hst
          go_wp2
          go_roundw
          case rel => exact ⟨k + 1, by omega, by go_num, by rw [Hfin.out]; exact Hst.out⟩
          case measure => simp [intOf]; omega
        · go_wp2
          go_ret
          refine ⟨rfl, ?_⟩
          rw [List.take_of_length_le (by omega)] at hst
          exact hst
theorem kW {w : World} {g : Nat} {r : Option Nat} {bs : List UInt8} (h : Wr w g r bs) {k : Nat} (hk : w.heap.size <= k) : ¬ WX g r k := by
  obtain ⟨h1, h2⟩ := h.lt
  rintro (rfl | e)
  · omega
  · have := h2 k e.symm; omega
theorem vN (n : Int) : 0 <= IntKind.u64.wrap n /\ IntKind.u64.wrap n <= 18446744073709551615 := by
  rw [IntKind.wrap_u64]; omega
theorem kJ {v : Val} (h : jP v = 0) : kD v = true /\ longB v = false /\ v.s.length <= 64 := by
  unfold jP at h
  split at h
  · cases h
  · split at h
    · cases h
    · split at h
      · cases h
      · split at h
        · cases h
        · rename_i h1 _ h2 h3
          exact ⟨by simpa using h1, by simpa using h2, by omega⟩
theorem long_none {v : Val} (h : longB v = false) : v.t.size <= 1024 /\ ∀ k, k < v.s.length -> (v.s.getD k ByteArray.empty).size <= 1024 := by
  unfold longB at h
  rw [Bool.or_eq_false_iff] at h
  refine ⟨by simpa using h.1, fun k hk => ?_⟩
  rcases Nat.lt_or_ge 1024 (v.s.getD k ByteArray.empty).size with hl | hl
  · rw [any_of v.s k hk hl] at h; cases h.2
  · exact hl
theorem putv_bad (v : Val) (A : Option Addr) (c g : Nat) (w : World) (hr : Rd w 1 A v.s.length (v.s.map sv)) (hc : v.s.length <= c) (hs : v.s.length <= 1000000000000) (hbad : jP v ≠ 0) :
    Calls Tryz.prog 50 #[.pointer (some ⟨g, 0, none⟩), vV v A c] w fun e w' => e = .returned (.int .i64 (jP v)) /\ Old w w' := by
  have HR := jJ0 (fun W (h : Old w W) => ji v A c W (hr.old h) hc hs)
  have hne : (jP v != 0) = true := by simpa using hbad
  generalize jP v = z at HR hne
  clear hs hc hbad
  obtain ⟨k, n, t, s⟩ := v
  simp only [vV] at *
  go_enter Tryz.func50, Tryz.ntmps50
  go_wp2_with fail
  refine (HR.out _ ((Kp.refl _ _).alloc _)).mono ?_
  rintro e w1 ⟨rfl, ho1⟩
  have ho := jJ0 (((Kp.refl NoX w).alloc (.cells #[.int .i64 k, .int .i64 n, .string t, .slice A s.length c] 29)).old ho1)
  clear ho1
  go_wp2
  go_ret
  exact ⟨rfl, ho.out⟩
theorem putv_0 (n : Int) (t : ByteArray) (s : List ByteArray) (A : Option Addr) (c g : Nat) (r : Option Nat) (bs : List UInt8) (w : World) (hW : Wr w g r bs) (hl : bs.length <= 800000000000)
    (hr : Rd w 1 A s.length (s.map sv)) (hav : Av (WX g r) s.length A) (hc : s.length <= c) (hs : s.length <= 1000000000000) (hok : jP ⟨0, n, t, s⟩ = 0) :
    Calls Tryz.prog 50 #[.pointer (some ⟨g, 0, none⟩), vV ⟨0, n, t, s⟩ A c] w fun e w' => e = .returned (.int .i64 0) /\ WStep w g r w' (bs ++ valB ⟨0, n, t, s⟩) := by
  have HR := jJ0 (fun W (h : Old w W) => ji ⟨0, n, t, s⟩ A c W (hr.old h) hc hs)
  rw [hok] at HR
  obtain ⟨hform, hlong, hmany⟩ := kJ hok
  obtain ⟨htl, hsl⟩ := long_none hlong
  simp only at htl hsl hmany
  have Hl := jJ0 hl
  have Hsl := jJ0 hsl
  have Hform := jJ0 hform
  clear hs hc hok hl hsl hform hlong
  simp only [vV] at *
  go_enter Tryz.func50, Tryz.ntmps50
  go_wp2_with fail
  refine (HR.out _ ((Kp.refl _ _).alloc _)).mono ?_
  rintro e w1 ⟨rfl, ho1⟩
  have ho := ((Kp.refl NoX w).alloc (.cells #[.int .i64 0, .int .i64 n, .string t, .slice A s.length c] 29)).old ho1
  have hb := (Blk.new w 29 #[.int .i64 0, .int .i64 n, .string t, .slice A s.length c]).old ho1
  have hc0 := hb.at_ 0 rfl
  clear ho1
  have hW1 := hW.old ho
  go_wp2_with fail
  refine (jV _ g r bs _ (by omega) (by omega) hW1 (Nat.le_trans Hl.out (by decide))).mono ?_
  rintro e w2 ⟨rfl, r2, hW2, hk2, hf2⟩
  have hb2 := hb.kp hk2 (kW hW (Nat.le_refl _))
  have d0 := hb2.at_ 0 rfl
  have d1 := hb2.at_ 1 rfl
  have d2 := hb2.at_ 2 rfl
  have d3 := hb2.at_ 3 rfl
  have hkp := (ho.mono (Y := WX g r) (fun _ _ f => f.elim)).trans hk2 (fun _ _ h => h)
  have hfr : Fr w r r2 := by
    rcases hf2 with rfl | ⟨k, rfl, hle⟩
    · exact .inl rfl
    · exact .inr ⟨k, rfl, Nat.le_trans ho.size hle⟩
  have hcl : (bs ++ be 1 (0 : Int).toNat).length <= 810000000000 := by rw [List.length_append, jC]; have := Hl.out; omega
  have Hcl := jJ0 hcl
  clear hcl hc0 hb hf2 hk2
  go_wp2
  go_ret
  refine ⟨rfl, r2, ?_, hkp, hfr⟩
  simpa [valB] using hW2
theorem putv_1 (n : Int) (t : ByteArray) (s : List ByteArray) (A : Option Addr) (c g : Nat) (r : Option Nat) (bs : List UInt8) (w : World) (hW : Wr w g r bs) (hl : bs.length <= 800000000000)
    (hr : Rd w 1 A s.length (s.map sv)) (hav : Av (WX g r) s.length A) (hc : s.length <= c) (hs : s.length <= 1000000000000) (hok : jP ⟨1, n, t, s⟩ = 0) :
    Calls Tryz.prog 50 #[.pointer (some ⟨g, 0, none⟩), vV ⟨1, n, t, s⟩ A c] w fun e w' => e = .returned (.int .i64 0) /\ WStep w g r w' (bs ++ valB ⟨1, n, t, s⟩) := by
  have HR := jJ0 (fun W (h : Old w W) => ji ⟨1, n, t, s⟩ A c W (hr.old h) hc hs)
  rw [hok] at HR
  obtain ⟨hform, hlong, hmany⟩ := kJ hok
  obtain ⟨htl, hsl⟩ := long_none hlong
  simp only at htl hsl hmany
  have Hl := jJ0 hl
  have Hsl := jJ0 hsl
  have Hform := jJ0 hform
  clear hs hc hok hl hsl hform hlong
  simp only [vV] at *
  go_enter Tryz.func50, Tryz.ntmps50
  go_wp2_with fail
  refine (HR.out _ ((Kp.refl _ _).alloc _)).mono ?_
  rintro e w1 ⟨rfl, ho1⟩
  have ho := ((Kp.refl NoX w).alloc (.cells #[.int .i64 1, .int .i64 n, .string t, .slice A s.length c] 29)).old ho1
  have hb := (Blk.new w 29 #[.int .i64 1, .int .i64 n, .string t, .slice A s.length c]).old ho1
  have hc0 := hb.at_ 0 rfl
  clear ho1
  have hW1 := hW.old ho
  go_wp2_with fail
  refine (jV _ g r bs _ (by omega) (by omega) hW1 (Nat.le_trans Hl.out (by decide))).mono ?_
  rintro e w2 ⟨rfl, r2, hW2, hk2, hf2⟩
  have hb2 := hb.kp hk2 (kW hW (Nat.le_refl _))
  have d0 := hb2.at_ 0 rfl
  have d1 := hb2.at_ 1 rfl
  have d2 := hb2.at_ 2 rfl
  have d3 := hb2.at_ 3 rfl
  have hkp := (ho.mono (Y := WX g r) (fun _ _ f => f.elim)).trans hk2 (fun _ _ h => h)
  have hfr : Fr w r r2 := by
    rcases hf2 with rfl | ⟨k, rfl, hle⟩
    · exact .inl rfl
    · exact .inr ⟨k, rfl, Nat.le_trans ho.size hle⟩
  have hcl : (bs ++ be 1 (1 : Int).toNat).length <= 810000000000 := by rw [List.length_append, jC]; have := Hl.out; omega
  have Hcl := jJ0 hcl
  clear hcl hc0 hb hf2 hk2
  go_wp2_with fail
  have hrg := vN n
  refine (put64_any _ g r2 _ _ hrg.1 hrg.2 hW2 (Nat.le_trans Hcl.out (by decide))).mono ?_
  rintro e w3 ⟨rfl, hst⟩
  go_wp2
  go_ret
  refine ⟨rfl, WStep.trans hkp hfr ?_⟩
  rw [valB, if_pos (by simp), <- List.append_assoc, <- IntKind.wrap_u64]
  exact hst
theorem putv_2 (n : Int) (t : ByteArray) (s : List ByteArray) (A : Option Addr) (c g : Nat) (r : Option Nat) (bs : List UInt8) (w : World) (hW : Wr w g r bs) (hl : bs.length <= 800000000000)
    (hr : Rd w 1 A s.length (s.map sv)) (hav : Av (WX g r) s.length A) (hc : s.length <= c) (hs : s.length <= 1000000000000) (hok : jP ⟨2, n, t, s⟩ = 0) :
    Calls Tryz.prog 50 #[.pointer (some ⟨g, 0, none⟩), vV ⟨2, n, t, s⟩ A c] w fun e w' => e = .returned (.int .i64 0) /\ WStep w g r w' (bs ++ valB ⟨2, n, t, s⟩) := by
  have HR := jJ0 (fun W (h : Old w W) => ji ⟨2, n, t, s⟩ A c W (hr.old h) hc hs)
  rw [hok] at HR
  obtain ⟨hform, hlong, hmany⟩ := kJ hok
  obtain ⟨htl, hsl⟩ := long_none hlong
  simp only at htl hsl hmany
  have Hl := jJ0 hl
  have Hsl := jJ0 hsl
  have Hform := jJ0 hform
  clear hs hc hok hl hsl hform hlong
  simp only [vV] at *
  go_enter Tryz.func50, Tryz.ntmps50
  go_wp2_with fail
  refine (HR.out _ ((Kp.refl _ _).alloc _)).mono ?_
  rintro e w1 ⟨rfl, ho1⟩
  have ho := ((Kp.refl NoX w).alloc (.cells #[.int .i64 2, .int .i64 n, .string t, .slice A s.length c] 29)).old ho1
  have hb := (Blk.new w 29 #[.int .i64 2, .int .i64 n, .string t, .slice A s.length c]).old ho1
  have hc0 := hb.at_ 0 rfl
  clear ho1
  have hW1 := hW.old ho
  go_wp2_with fail
  refine (jV _ g r bs _ (by omega) (by omega) hW1 (Nat.le_trans Hl.out (by decide))).mono ?_
  rintro e w2 ⟨rfl, r2, hW2, hk2, hf2⟩
  have hb2 := hb.kp hk2 (kW hW (Nat.le_refl _))
  have d0 := hb2.at_ 0 rfl
  have d1 := hb2.at_ 1 rfl
  have d2 := hb2.at_ 2 rfl
  have d3 := hb2.at_ 3 rfl
  have hkp := (ho.mono (Y := WX g r) (fun _ _ f => f.elim)).trans hk2 (fun _ _ h => h)
  have hfr : Fr w r r2 := by
    rcases hf2 with rfl | ⟨k, rfl, hle⟩
    · exact .inl rfl
    · exact .inr ⟨k, rfl, Nat.le_trans ho.size hle⟩
  have hcl : (bs ++ be 1 (2 : Int).toNat).length <= 810000000000 := by rw [List.length_append, jC]; have := Hl.out; omega
  have Hcl := jJ0 hcl
  clear hcl hc0 hb hf2 hk2
  go_wp2_with fail
  refine (flag_any _ g r2 _ _ hW2 (Nat.le_trans Hcl.out (by decide))).mono ?_
  rintro e w3 ⟨rfl, hst⟩
  go_wp2
  go_ret
  refine ⟨rfl, WStep.trans hkp hfr ?_⟩
  rw [valB, if_neg (by simp), if_pos rfl, <- List.append_assoc]
  simpa using hst
theorem putv_3 (n : Int) (t : ByteArray) (s : List ByteArray) (A : Option Addr) (c g : Nat) (r : Option Nat) (bs : List UInt8) (w : World) (hW : Wr w g r bs) (hl : bs.length <= 800000000000)
    (hr : Rd w 1 A s.length (s.map sv)) (hav : Av (WX g r) s.length A) (hc : s.length <= c) (hs : s.length <= 1000000000000) (hok : jP ⟨3, n, t, s⟩ = 0) :
    Calls Tryz.prog 50 #[.pointer (some ⟨g, 0, none⟩), vV ⟨3, n, t, s⟩ A c] w fun e w' => e = .returned (.int .i64 0) /\ WStep w g r w' (bs ++ valB ⟨3, n, t, s⟩) := by
  have HR := jJ0 (fun W (h : Old w W) => ji ⟨3, n, t, s⟩ A c W (hr.old h) hc hs)
  rw [hok] at HR
  obtain ⟨hform, hlong, hmany⟩ := kJ hok
  obtain ⟨htl, hsl⟩ := long_none hlong
  simp only at htl hsl hmany
  have Hl := jJ0 hl
  have Hsl := jJ0 hsl
  have Hform := jJ0 hform
  clear hs hc hok hl hsl hform hlong
  simp only [vV] at *
  go_enter Tryz.func50, Tryz.ntmps50
  go_wp2_with fail
  refine (HR.out _ ((Kp.refl _ _).alloc _)).mono ?_
  rintro e w1 ⟨rfl, ho1⟩
  have ho := ((Kp.refl NoX w).alloc (.cells #[.int .i64 3, .int .i64 n, .string t, .slice A s.length c] 29)).old ho1
  have hb := (Blk.new w 29 #[.int .i64 3, .int .i64 n, .string t, .slice A s.length c]).old ho1
  have hc0 := hb.at_ 0 rfl
  clear ho1
  have hW1 := hW.old ho
  go_wp2_with fail
  refine (jV _ g r bs _ (by omega) (by omega) hW1 (Nat.le_trans Hl.out (by decide))).mono ?_
  rintro e w2 ⟨rfl, r2, hW2, hk2, hf2⟩
  have hb2 := hb.kp hk2 (kW hW (Nat.le_refl _))
  have d0 := hb2.at_ 0 rfl
  have d1 := hb2.at_ 1 rfl
  have d2 := hb2.at_ 2 rfl
  have d3 := hb2.at_ 3 rfl
  have hkp := (ho.mono (Y := WX g r) (fun _ _ f => f.elim)).trans hk2 (fun _ _ h => h)
  have hfr : Fr w r r2 := by
    rcases hf2 with rfl | ⟨k, rfl, hle⟩
    · exact .inl rfl
    · exact .inr ⟨k, rfl, Nat.le_trans ho.size hle⟩
  have hcl : (bs ++ be 1 (3 : Int).toNat).length <= 810000000000 := by rw [List.length_append, jC]; have := Hl.out; omega
  have Hcl := jJ0 hcl
  clear hcl hc0 hb hf2 hk2
  go_wp2_with fail
  refine (text_ok _ g r2 _ t _ hW2 (Nat.le_trans Hcl.out (by decide)) (by omega) (by omega)).mono ?_
  rintro e w3 ⟨rfl, hst⟩
  go_wp2
  go_ret
  refine ⟨rfl, WStep.trans hkp hfr ?_⟩
  rw [valB, if_neg (by simp), if_neg (by simp), if_pos rfl, <- List.append_assoc]
  exact hst
theorem putv_4 (n : Int) (t : ByteArray) (s : List ByteArray) (A : Option Addr) (c g : Nat) (r : Option Nat) (bs : List UInt8) (w : World) (hW : Wr w g r bs) (hl : bs.length <= 800000000000)
    (hr : Rd w 1 A s.length (s.map sv)) (hav : Av (WX g r) s.length A) (hc : s.length <= c) (hs : s.length <= 1000000000000) (hok : jP ⟨4, n, t, s⟩ = 0) :
    Calls Tryz.prog 50 #[.pointer (some ⟨g, 0, none⟩), vV ⟨4, n, t, s⟩ A c] w fun e w' => e = .returned (.int .i64 0) /\ WStep w g r w' (bs ++ valB ⟨4, n, t, s⟩) := by
  have HR := jJ0 (fun W (h : Old w W) => ji ⟨4, n, t, s⟩ A c W (hr.old h) hc hs)
  rw [hok] at HR
  obtain ⟨hform, hlong, hmany⟩ := kJ hok
  obtain ⟨htl, hsl⟩ := long_none hlong
  simp only at htl hsl hmany
  have Hl := jJ0 hl
  have Hsl := jJ0 hsl
  have Hform := jJ0 hform
  clear hs hc hok hl hsl hform hlong
  simp only [vV] at *
  go_enter Tryz.func50, Tryz.ntmps50
  go_wp2_with fail
  refine (HR.out _ ((Kp.refl _ _).alloc _)).mono ?_
  rintro e w1 ⟨rfl, ho1⟩
  have ho := ((Kp.refl NoX w).alloc (.cells #[.int .i64 4, .int .i64 n, .string t, .slice A s.length c] 29)).old ho1
  have hb := (Blk.new w 29 #[.int .i64 4, .int .i64 n, .string t, .slice A s.length c]).old ho1
  have hc0 := hb.at_ 0 rfl
  clear ho1
  have hW1 := hW.old ho
  go_wp2_with fail
  refine (jV _ g r bs _ (by omega) (by omega) hW1 (Nat.le_trans Hl.out (by decide))).mono ?_
  rintro e w2 ⟨rfl, r2, hW2, hk2, hf2⟩
  have hb2 := hb.kp hk2 (kW hW (Nat.le_refl _))
  have d0 := hb2.at_ 0 rfl
  have d1 := hb2.at_ 1 rfl
  have d2 := hb2.at_ 2 rfl
  have d3 := hb2.at_ 3 rfl
  have hkp := (ho.mono (Y := WX g r) (fun _ _ f => f.elim)).trans hk2 (fun _ _ h => h)
  have hfr : Fr w r r2 := by
    rcases hf2 with rfl | ⟨k, rfl, hle⟩
    · exact .inl rfl
    · exact .inr ⟨k, rfl, Nat.le_trans ho.size hle⟩
  have hcl : (bs ++ be 1 (4 : Int).toNat).length <= 810000000000 := by rw [List.length_append, jC]; have := Hl.out; omega
  have Hcl := jJ0 hcl
  clear hcl hc0 hb hf2 hk2
  go_wp2_with fail
  have hrg := vN n
  refine (put64_any _ g r2 _ _ hrg.1 hrg.2 hW2 (Nat.le_trans Hcl.out (by decide))).mono ?_
  rintro e w3 ⟨rfl, hst⟩
  go_wp2
  go_ret
  refine ⟨rfl, WStep.trans hkp hfr ?_⟩
  rw [valB, if_pos (by simp), <- List.append_assoc, <- IntKind.wrap_u64]
  exact hst
theorem putv_5 (n : Int) (t : ByteArray) (s : List ByteArray) (A : Option Addr) (c g : Nat) (r : Option Nat) (bs : List UInt8) (w : World) (hW : Wr w g r bs) (hl : bs.length <= 800000000000)
    (hr : Rd w 1 A s.length (s.map sv)) (hav : Av (WX g r) s.length A) (hc : s.length <= c) (hs : s.length <= 1000000000000) (hok : jP ⟨5, n, t, s⟩ = 0) :
    Calls Tryz.prog 50 #[.pointer (some ⟨g, 0, none⟩), vV ⟨5, n, t, s⟩ A c] w fun e w' => e = .returned (.int .i64 0) /\ WStep w g r w' (bs ++ valB ⟨5, n, t, s⟩) := by
  have HR := jJ0 (fun W (h : Old w W) => ji ⟨5, n, t, s⟩ A c W (hr.old h) hc hs)
  rw [hok] at HR
  obtain ⟨hform, hlong, hmany⟩ := kJ hok
  obtain ⟨htl, hsl⟩ := long_none hlong
  simp only at htl hsl hmany
  have Hl := jJ0 hl
  have Hsl := jJ0 hsl
  have Hform := jJ0 hform
  clear hs hc hok hl hsl hform hlong
  simp only [vV] at *
  go_enter Tryz.func50, Tryz.ntmps50
  go_wp2_with fail
  refine (HR.out _ ((Kp.refl _ _).alloc _)).mono ?_
  rintro e w1 ⟨rfl, ho1⟩
  have ho := ((Kp.refl NoX w).alloc (.cells #[.int .i64 5, .int .i64 n, .string t, .slice A s.length c] 29)).old ho1
  have hb := (Blk.new w 29 #[.int .i64 5, .int .i64 n, .string t, .slice A s.length c]).old ho1
  have hc0 := hb.at_ 0 rfl
  clear ho1
  have hW1 := hW.old ho
  go_wp2_with fail
  refine (jV _ g r bs _ (by omega) (by omega) hW1 (Nat.le_trans Hl.out (by decide))).mono ?_
  rintro e w2 ⟨rfl, r2, hW2, hk2, hf2⟩
  have hb2 := hb.kp hk2 (kW hW (Nat.le_refl _))
  have d0 := hb2.at_ 0 rfl
  have d1 := hb2.at_ 1 rfl
  have d2 := hb2.at_ 2 rfl
  have d3 := hb2.at_ 3 rfl
  have hkp := (ho.mono (Y := WX g r) (fun _ _ f => f.elim)).trans hk2 (fun _ _ h => h)
  have hfr : Fr w r r2 := by
    rcases hf2 with rfl | ⟨k, rfl, hle⟩
    · exact .inl rfl
    · exact .inr ⟨k, rfl, Nat.le_trans ho.size hle⟩
  have hcl : (bs ++ be 1 (5 : Int).toNat).length <= 810000000000 := by rw [List.length_append, jC]; have := Hl.out; omega
  have Hcl := jJ0 hcl
  clear hcl hc0 hb hf2 hk2
  go_wp2_with fail
  have hrd2 := hr.kp hkp hav
  have hris : yM s = true := by have := Hform.out; simp [kD] at this; exact this.2.1
  refine (texts_ok _ g r2 _ A c s hW2 (Nat.le_trans Hcl.out (by decide)) hrd2 ?_ hmany Hsl.out hris).mono ?_
  · exact hav.fresh hfr hr (by decide)
  rintro e w3 ⟨rfl, hst⟩
  go_wp2
  go_ret
  refine ⟨rfl, WStep.trans hkp hfr ?_⟩
  rw [valB, if_neg (by simp), if_neg (by simp), if_neg (by simp), if_pos rfl, <- List.append_assoc]
  exact hst
theorem putv_ok (v : Val) (A : Option Addr) (c g : Nat) (r : Option Nat) (bs : List UInt8) (w : World) (hW : Wr w g r bs) (hl : bs.length <= 800000000000)
    (hr : Rd w 1 A v.s.length (v.s.map sv)) (hav : Av (WX g r) v.s.length A) (hc : v.s.length <= c) (hs : v.s.length <= 1000000000000) (hok : jP v = 0) :
    Calls Tryz.prog 50 #[.pointer (some ⟨g, 0, none⟩), vV v A c] w fun e w' => e = .returned (.int .i64 0) /\ WStep w g r w' (bs ++ valB v) := by
  obtain ⟨k, n, t, s⟩ := v
  have hk : k = 0 \/ k = 1 \/ k = 2 \/ k = 3 \/ k = 4 \/ k = 5 := by
    have hf := (kJ hok).1
    simp only [kD] at hf
    by_cases h0 : k = 0
    · omega
    · by_cases h1 : k = 1
      · omega
      · by_cases h2 : k = 2
        · omega
        · by_cases h3 : k = 3
          · omega
          · by_cases h4 : k = 4
            · omega
            · by_cases h5 : k = 5
              · omega
              · rw [if_neg (by omega), if_neg (by omega), if_neg (by omega), if_neg (by omega)] at hf
                simp at hf
  rcases hk with rfl | rfl | rfl | rfl | rfl | rfl
  · exact putv_0 n t s A c g r bs w hW hl hr hav hc hs hok
  · exact putv_1 n t s A c g r bs w hW hl hr hav hc hs hok
  · exact putv_2 n t s A c g r bs w hW hl hr hav hc hs hok
  · exact putv_3 n t s A c g r bs w hW hl hr hav hc hs hok
  · exact putv_4 n t s A c g r bs w hW hl hr hav hc hs hok
  · exact putv_5 n t s A c g r bs w hW hl hr hav hc hs hok
theorem valB_length (v : Val) (hok : jP v = 0) : (valB v).length <= 100000 := by
  obtain ⟨_, hlong, hmany⟩ := kJ hok
  obtain ⟨ht, hs⟩ := long_none hlong
  have h5 : (vY v.s).length <= 2 + 64 * 1026 := by
    rw [vY, List.length_append, jC]
    have : ∀ k, k <= v.s.length -> (lps (v.s.take k)).length <= k * 1026 := by
      intro k
      induction k with
      | zero => intro _; simp [lps]
      | succ k ih =>
        intro hk
        have h1 := ih (by omega)
        have h2 := hs k (by omega)
        rw [lps_take_succ v.s k (by omega), List.length_append, jL, jF]
        omega
    have h := this v.s.length (Nat.le_refl _)
    rw [List.take_of_length_le (Nat.le_refl _)] at h
    omega
  unfold valB
  rw [List.length_append, jC]
  split
  · rw [jC]; omega
  · split
    · simp
    · split
      · rw [jL, jF]; omega
      · split
        · omega
        · simp
def lps4 (l : List ByteArray) : List UInt8 := (l.map fun s => lp 4 (sb s)).flatten
theorem lps4_take_succ (l : List ByteArray) (k : Nat) (h : k < l.length) : lps4 (l.take (k + 1)) = lps4 (l.take k) ++ lp 4 (sb (l.getD k ByteArray.empty)) := by
  have e : l.getD k ByteArray.empty = l[k] := by simp [List.getD, List.getElem?_eq_getElem h]
  rw [e, List.take_succ_eq_append_getElem h]
  unfold lps4
  rw [List.map_append, List.flatten_append]
  congr 1
  simp
theorem lps4_length_le (l : List ByteArray) (m : Nat) : ∀ k, k <= l.length -> (∀ j, j < k -> (l.getD j ByteArray.empty).size <= m) -> (lps4 (l.take k)).length <= k * (m + 4) := by
  intro k
  induction k with
  | zero => intro _ _; simp [lps4]
  | succ k ih =>
    intro hk h
    have h1 := ih (by omega) (fun j hj => h j (by omega))
    have h2 := h k (by omega)
    rw [lps4_take_succ l k (by omega), List.length_append, jL, jF, Nat.add_mul]
    omega
def TextPost (w : World) (g : Nat) (r : Option Nat) (bs : List UInt8) (l : List ByteArray) (e : Ending) (w' : World) : Prop :=
  ∃ k, k <= l.length /\ e = .returned (.bool (decide (k = l.length))) /\ (∀ j, j < k -> (l.getD j ByteArray.empty).size <= 4194304) /\ (k < l.length -> 4194304 < (l.getD k ByteArray.empty).size) /\ WStep w g r w' (bs ++ lps4 (l.take k))
theorem vB (w : World) (g : Nat) (r : Option Nat) (bs : List UInt8) (A : Option Addr) (c : Nat) (l : List ByteArray) (hW : Wr w g r bs) (hl : bs.length <= 700000000000)
    (hrd : Rd w 1 A l.length (l.map sv)) (hav : Av (WX g r) l.length A) (hn : l.length <= 1000) (hbig : ∀ k, k < l.length -> (l.getD k ByteArray.empty).size <= 2147483647) :
    Calls Tryz.prog 21 #[.pointer (some ⟨g, 0, none⟩), .slice A l.length c] w (TextPost w g r bs l) := by
  have Hl := jJ0 hl
  have Hbig := jJ0 hbig
  clear hl hbig
  go_enter Tryz.func21, Tryz.ntmps21
  go_wp2
  go_loopw [9] (fun i wr => ∃ k : Nat, k <= l.length /\ i = .int .i64 k /\ (∀ j, j < k -> (l.getD j ByteArray.empty).size <= 4194304) /\ WStep w g r wr (bs ++ lps4 (l.take k))) (fun i _ => l.length - (intOf i).toNat)
  case atStart => exact ⟨0, by omega, rfl, fun j hj => by omega, by simpa [lps4] using hW.step⟩
  case round =>
    obtain ⟨k, hk, rfl, hsm, hst⟩ := hrel
    have hcl := lps4_length_le l 4194304 k hk hsm
    have Hsm := jJ0 hsm
    clear hsm
    by_cases hlt : k < l.length
    · obtain ⟨r', hWr, hkp, hfr⟩ := hst
      obtain ⟨b, o, rfl, hy⟩ := (hrd.kp hkp hav).text (k := k) hlt
      have hcl : (bs ++ lps4 (l.take k)).length <= 800000000000 := by
        have := Hl.out
        rw [List.length_append]
        omega
      have hby := Hbig.out k hlt
      have Hfin := jJ0 (show bs ++ lps4 (l.take (k + 1)) = (bs ++ lps4 (l.take k)) ++ lp 4 (sb (l.getD k ByteArray.empty)) by
        rw [lps4_take_succ l k hlt]; simp)
      generalize hyy : l.getD k ByteArray.empty = y at hy hby Hfin
      generalize hcc : bs ++ lps4 (l.take k) = cs at hWr hcl Hfin
      have Hyy := jJ0 hyy
      have Hcc := jJ0 hcc
      have Hcl := jJ0 hcl
      clear hcl hyy hcc
      have b5 : (k : Int) <= 1000 := by omega
      go_wp2_with (first | (with_reducible refine at_conv 9 22 ?_; refine wpList_conv_sb _ Tryz.underlying9 Tryz.underlying22 Tryz.underlying5 y rfl ?_; intro A1 c1 w1 hrd1 ho1 hav1) | fail)
      have hW1 := hWr.old ho1
      have hav2 : Av (WX g r') y.size A1 := fun hn ad e hx => by
        have h1 := hav1 hn ad e
        exact kW hWr (by omega) hx
      by_cases hsz : y.size <= 4194304
      · refine (bytes_ok _ g r' cs A1 y.size _ (sb y) _ hW1 (Nat.le_trans Hcl.out (by decide)) hrd1 hav2 (by omega) (by omega)).mono ?_
        rintro e w2 ⟨rfl, hst⟩
        have Hst := jJ0 (WStep.trans hkp hfr (WStep.trans (ho1.mono (Y := WX g r') (fun _ _ f => f.elim)) (.inl rfl) hst))
        clear hst
        go_wp2
        go_roundw
        case rel =>
          refine ⟨k + 1, by omega, by go_num, fun j hj => ?_, by rw [Hfin.out]; exact Hst.out⟩
          by_cases e : j = k
          · subst e; rw [Hyy.out]; exact hsz
          · exact Hsm.out j (by omega)
        case measure => simp [intOf]; omega
      · refine (bytes_long _ g A1 y.size _ _ (by omega) (by omega)).mono ?_
        rintro e w2 ⟨rfl, rfl⟩
        go_wp2
        go_ret
        refine ⟨k, hk, kR (kr (by simp; omega)), Hsm.out, fun _ => by rw [Hyy.out]; omega, ?_⟩
        rw [Hcc.out]
        exact WStep.trans hkp hfr (WStep.trans (ho1.mono (Y := WX g r') (fun _ _ f => f.elim)) (.inl rfl) hW1.step)
    · obtain rfl : k = l.length := by omega
      go_wp2
      go_ret
      exact ⟨l.length, hk, kR (kr (by simp)), Hsm.out, fun h => absurd h (by omega), hst⟩
end Go.Proofs.YtnaolhjbapgjgaaGreat
