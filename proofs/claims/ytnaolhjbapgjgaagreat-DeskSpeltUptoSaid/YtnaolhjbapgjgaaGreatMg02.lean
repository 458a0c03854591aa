import Derived.Test.YtnaolhjbapgjgaaGreatMg01
import Derived.Test.YtnaolhjbapgjgaaGreatRows
set_option maxRecDepth 100000
set_option maxHeartbeats 3200000
namespace Go.Proofs.YtnaolhjbapgjgaaGreat
open Go.RowKit
attribute [local go_sem ↓] Go.wp_at_zero Go.wp_at_succ
theorem shr_byte (x : Nat) (k : Nat) : Value.int .u8 (IntKind.u8.wrap ((x : Int) / 2 ^ (8 * k))) = bv (UInt8.ofNat (x / 256 ^ k)) := by
  have e : ((2 : Int) ^ (8 * k)) = ((256 ^ k : Nat) : Int) := by
    rw [Int.pow_mul]; simp
  rw [e, bv_ofNat, IntKind.wrap_u8, <- Int.natCast_ediv]
  rfl
theorem take_done (k n : Nat) : (be k n).take (k - 0) = be k n := by
  rw [List.take_of_length_le (by rw [jC]; omega)]
theorem put8_nat (w : World) (g : Nat) (r : Option Nat) (bs : List UInt8) (x : Nat) (hx : (x : Int) <= 255) (hW : Wr w g r bs) (hl : bs.length <= 1099511627776) :
    Calls Tryz.prog 19 #[.pointer (some ⟨g, 0, none⟩), .int .u8 (x : Int)] w fun e w' => e = .returned (.tuple #[]) /\ WStep w g r w' (bs ++ be 1 x) := by
  obtain ⟨i0, hi, hz0, hz1, hz2⟩ := info_parts Tryz.infoByte
  have Hl := jJ0 hl
  have Hx := jJ0 hx
  clear hl hx
  go_enter Tryz.func19, Tryz.ntmps19
  go_wp2_with (go_at_call 49; refine (width8_any _).mono ?_; rintro e w' ⟨rfl, rfl⟩)
  go_loopw [4] (fun i wr => ∃ m : Nat, m <= 1 /\ i = .int .i64 ((m : Int) - 1) /\ WStep w g r wr (bs ++ (be 1 x).take (1 - m))) (fun i _ => (intOf i + 1).toNat)
  case atStart => exact ⟨1, by omega, rfl, by simpa using hW.step⟩
  case round =>
    obtain ⟨m, hm, rfl, hWr⟩ := hrel
    by_cases h0 : 0 < m
    · obtain ⟨k, rfl⟩ : ∃ k, m = k + 1 := ⟨m - 1, by omega⟩
      have hcl : (bs ++ (be 1 x).take (1 - (k + 1))).length <= bs.length + 1 := by rw [List.length_append, List.length_take, jC]; omega
      generalize hcs : bs ++ (be 1 x).take (1 - (k + 1)) = cs at hWr hcl
      have Hcs := jJ0 hcs
      have H63 := jJ0 (show cs.length + 1 <= maxLen by have := Hl.out; unfold maxLen; omega)
      have H47 := jJ0 (show (cs.length + 1) * 1 <= 140737488355328 by have := Hl.out; omega)
      clear hcs hcl
      obtain ⟨r', ⟨A, c, hb, ho, hr'⟩, hkp, hfr⟩ := hWr
      have Hr' := jJ0 hr'
      clear hr'
      have hc := hb.cell 0
      have hz := hb.frozen 0
      have hlt := hb.lt
      simp only [List.getElem?_toArray, List.getElem?_cons_zero] at hc
      rw [show ((k + 1 : Nat) : Int) - 1 = (k : Int) by omega]
      have e1 : IntKind.u64.wrap (x : Int) = x := IntWalk.u64_in _ (by have := Hx.out; omega)
      have e2 : IntKind.i64.wrap (8 * (k : Int)) = 8 * (k : Int) := IntWalk.i64_in _ (by omega)
      have e3 : (0 : Int) <= 8 * (k : Int) := by omega
      have e4 : 8 * (k : Int) <= 64 := by omega
      have e5 : (8 * (k : Int)).toNat = 8 * k := by omega
      have hne : some g ≠ (Value.slice A cs.length c).ownBlock := by
        have := vF ho hb (by decide)
        exact fun h => this h.symm
      go_wp2
      go_region_law ((refine jZ _ rfl (.tmp 17) (.tmp 24) 22 rfl 0 5 i0 (.int .u8 0) 1 1 Tryz.underlying22 hi hz0 hz1 hz2 rfl (by decide) (.slice A cs.length c) cs.length (cs.map bv) rfl (ho.alloc _) (some ⟨wr.heap.size, 0, none⟩) 1 1 _ rfl (Rd.one_new _ _ _) (kz _ rfl) H63.out H47.out (Nat.zero_le _) ?_; intro A' c' w1 hown hgrow hat; have hc1 := hgrow.cell (a := ⟨g, 0, none⟩) (v := .slice A cs.length c) (by simp [hc, World.cell?_alloc_lt, hb.lt]) hne; have hz1 : w1.frozen? ⟨g, 0, none⟩ = false := (World.frozen?_of_block (hgrow.block g (by simp; have := hb.lt; omega) hne)).trans (by simp [hz, World.frozen?_alloc_past, hb.lt])))
      all_goals
        have hst := Wr.put hb ho ((Kp.refl _ _).alloc _).drew (news := [UInt8.ofNat (x / 256 ^ k)]) (m := 1) rfl (by rw [shr_byte]; rfl) hown hgrow hat
        have Hst := jJ0 (WStep.trans hkp (Hr'.out ▸ hfr) hst)
        clear hst hown hgrow hat hc hz hc1 hz1 hb ho hne
        go_wp2
        go_roundw
        case rel =>
          refine ⟨k, by omega, by go_num, ?_⟩
          have hfin : cs ++ [UInt8.ofNat (x / 256 ^ k)] = bs ++ (be 1 x).take (1 - k) := by
            rw [<- Hcs.out, List.append_assoc, <- be_take_succ _ _ _ (by omega)]
          exact hfin ▸ Hst.out
        case measure => simp [intOf]
    · obtain rfl : m = 0 := by omega
      rw [take_done] at hWr
      go_wp2
      go_end0
      exact ⟨rfl, hWr⟩
theorem jV (w : World) (g : Nat) (r : Option Nat) (bs : List UInt8) (n : Int) (h0 : 0 <= n) (h1 : n <= 255) (hW : Wr w g r bs) (hl : bs.length <= 1099511627776) :
    Calls Tryz.prog 19 #[.pointer (some ⟨g, 0, none⟩), .int .u8 n] w fun e w' => e = .returned (.tuple #[]) /\ WStep w g r w' (bs ++ be 1 n.toNat) := by
  obtain ⟨x, rfl⟩ := Int.eq_ofNat_of_zero_le h0
  rw [Int.toNat_natCast]
  exact put8_nat w g r bs x h1 hW hl
theorem put16_nat (w : World) (g : Nat) (r : Option Nat) (bs : List UInt8) (x : Nat) (hx : (x : Int) <= 65535) (hW : Wr w g r bs) (hl : bs.length <= 1099511627776) :
    Calls Tryz.prog 25 #[.pointer (some ⟨g, 0, none⟩), .int .u16 (x : Int)] w fun e w' => e = .returned (.tuple #[]) /\ WStep w g r w' (bs ++ be 2 x) := by
  obtain ⟨i0, hi, hz0, hz1, hz2⟩ := info_parts Tryz.infoByte
  have Hl := jJ0 hl
  have Hx := jJ0 hx
  clear hl hx
  go_enter Tryz.func25, Tryz.ntmps25
  go_wp2_with (go_at_call 53; refine (width16_any _).mono ?_; rintro e w' ⟨rfl, rfl⟩)
  go_loopw [4] (fun i wr => ∃ m : Nat, m <= 2 /\ i = .int .i64 ((m : Int) - 1) /\ WStep w g r wr (bs ++ (be 2 x).take (2 - m))) (fun i _ => (intOf i + 1).toNat)
  case atStart => exact ⟨2, by omega, rfl, by simpa using hW.step⟩
  case round =>
    obtain ⟨m, hm, rfl, hWr⟩ := hrel
    by_cases h0 : 0 < m
    · obtain ⟨k, rfl⟩ : ∃ k, m = k + 1 := ⟨m - 1, by omega⟩
      have hcl : (bs ++ (be 2 x).take (2 - (k + 1))).length <= bs.length + 2 := by rw [List.length_append, List.length_take, jC]; omega
      generalize hcs : bs ++ (be 2 x).take (2 - (k + 1)) = cs at hWr hcl
      have Hcs := jJ0 hcs
      have H63 := jJ0 (show cs.length + 1 <= maxLen by have := Hl.out; unfold maxLen; omega)
      have H47 := jJ0 (show (cs.length + 1) * 1 <= 140737488355328 by have := Hl.out; omega)
      clear hcs hcl
      obtain ⟨r', ⟨A, c, hb, ho, hr'⟩, hkp, hfr⟩ := hWr
      have Hr' := jJ0 hr'
      clear hr'
      have hc := hb.cell 0
      have hz := hb.frozen 0
      have hlt := hb.lt
      simp only [List.getElem?_toArray, List.getElem?_cons_zero] at hc
      rw [show ((k + 1 : Nat) : Int) - 1 = (k : Int) by omega]
      have e1 : IntKind.u64.wrap (x : Int) = x := IntWalk.u64_in _ (by have := Hx.out; omega)
      have e2 : IntKind.i64.wrap (8 * (k : Int)) = 8 * (k : Int) := IntWalk.i64_in _ (by omega)
      have e3 : (0 : Int) <= 8 * (k : Int) := by omega
      have e4 : 8 * (k : Int) <= 64 := by omega
      have e5 : (8 * (k : Int)).toNat = 8 * k := by omega
      have hne : some g ≠ (Value.slice A cs.length c).ownBlock := by
        have := vF ho hb (by decide)
        exact fun h => this h.symm
      go_wp2
      go_region_law ((refine jZ _ rfl (.tmp 17) (.tmp 24) 22 rfl 0 5 i0 (.int .u8 0) 1 1 Tryz.underlying22 hi hz0 hz1 hz2 rfl (by decide) (.slice A cs.length c) cs.length (cs.map bv) rfl (ho.alloc _) (some ⟨wr.heap.size, 0, none⟩) 1 1 _ rfl (Rd.one_new _ _ _) (kz _ rfl) H63.out H47.out (Nat.zero_le _) ?_; intro A' c' w1 hown hgrow hat; have hc1 := hgrow.cell (a := ⟨g, 0, none⟩) (v := .slice A cs.length c) (by simp [hc, World.cell?_alloc_lt, hb.lt]) hne; have hz1 : w1.frozen? ⟨g, 0, none⟩ = false := (World.frozen?_of_block (hgrow.block g (by simp; have := hb.lt; omega) hne)).trans (by simp [hz, World.frozen?_alloc_past, hb.lt])))
      all_goals
        have hst := Wr.put hb ho ((Kp.refl _ _).alloc _).drew (news := [UInt8.ofNat (x / 256 ^ k)]) (m := 1) rfl (by rw [shr_byte]; rfl) hown hgrow hat
        have Hst := jJ0 (WStep.trans hkp (Hr'.out ▸ hfr) hst)
        clear hst hown hgrow hat hc hz hc1 hz1 hb ho hne
        go_wp2
        go_roundw
        case rel =>
          refine ⟨k, by omega, by go_num, ?_⟩
          have hfin : cs ++ [UInt8.ofNat (x / 256 ^ k)] = bs ++ (be 2 x).take (2 - k) := by
            rw [<- Hcs.out, List.append_assoc, <- be_take_succ _ _ _ (by omega)]
          exact hfin ▸ Hst.out
        case measure => simp [intOf]
    · obtain rfl : m = 0 := by omega
      rw [take_done] at hWr
      go_wp2
      go_end0
      exact ⟨rfl, hWr⟩
theorem put16_any (w : World) (g : Nat) (r : Option Nat) (bs : List UInt8) (n : Int) (h0 : 0 <= n) (h1 : n <= 65535) (hW : Wr w g r bs) (hl : bs.length <= 1099511627776) :
    Calls Tryz.prog 25 #[.pointer (some ⟨g, 0, none⟩), .int .u16 n] w fun e w' => e = .returned (.tuple #[]) /\ WStep w g r w' (bs ++ be 2 n.toNat) := by
  obtain ⟨x, rfl⟩ := Int.eq_ofNat_of_zero_le h0
  rw [Int.toNat_natCast]
  exact put16_nat w g r bs x h1 hW hl
theorem put32_nat (w : World) (g : Nat) (r : Option Nat) (bs : List UInt8) (x : Nat) (hx : (x : Int) <= 4294967295) (hW : Wr w g r bs) (hl : bs.length <= 1099511627776) :
    Calls Tryz.prog 63 #[.pointer (some ⟨g, 0, none⟩), .int .u32 (x : Int)] w fun e w' => e = .returned (.tuple #[]) /\ WStep w g r w' (bs ++ be 4 x) := by
  obtain ⟨i0, hi, hz0, hz1, hz2⟩ := info_parts Tryz.infoByte
  have Hl := jJ0 hl
  have Hx := jJ0 hx
  clear hl hx
  go_enter Tryz.func63, Tryz.ntmps63
  go_wp2_with (go_at_call 115; refine (width32_any _).mono ?_; rintro e w' ⟨rfl, rfl⟩)
  go_loopw [4] (fun i wr => ∃ m : Nat, m <= 4 /\ i = .int .i64 ((m : Int) - 1) /\ WStep w g r wr (bs ++ (be 4 x).take (4 - m))) (fun i _ => (intOf i + 1).toNat)
  case atStart => exact ⟨4, by omega, rfl, by simpa using hW.step⟩
  case round =>
    obtain ⟨m, hm, rfl, hWr⟩ := hrel
    by_cases h0 : 0 < m
    · obtain ⟨k, rfl⟩ : ∃ k, m = k + 1 := ⟨m - 1, by omega⟩
      have hcl : (bs ++ (be 4 x).take (4 - (k + 1))).length <= bs.length + 4 := by rw [List.length_append, List.length_take, jC]; omega
      generalize hcs : bs ++ (be 4 x).take (4 - (k + 1)) = cs at hWr hcl
      have Hcs := jJ0 hcs
      have H63 := jJ0 (show cs.length + 1 <= maxLen by have := Hl.out; unfold maxLen; omega)
      have H47 := jJ0 (show (cs.length + 1) * 1 <= 140737488355328 by have := Hl.out; omega)
      clear hcs hcl
      obtain ⟨r', ⟨A, c, hb, ho, hr'⟩, hkp, hfr⟩ := hWr
      have Hr' := jJ0 hr'
      clear hr'
      have hc := hb.cell 0
      have hz := hb.frozen 0
      have hlt := hb.lt
      simp only [List.getElem?_toArray, List.getElem?_cons_zero] at hc
      rw [show ((k + 1 : Nat) : Int) - 1 = (k : Int) by omega]
      have e1 : IntKind.u64.wrap (x : Int) = x := IntWalk.u64_in _ (by have := Hx.out; omega)
      have e2 : IntKind.i64.wrap (8 * (k : Int)) = 8 * (k : Int) := IntWalk.i64_in _ (by omega)
      have e3 : (0 : Int) <= 8 * (k : Int) := by omega
      have e4 : 8 * (k : Int) <= 64 := by omega
      have e5 : (8 * (k : Int)).toNat = 8 * k := by omega
      have hne : some g ≠ (Value.slice A cs.length c).ownBlock := by
        have := vF ho hb (by decide)
        exact fun h => this h.symm
      go_wp2
      go_region_law ((refine jZ _ rfl (.tmp 17) (.tmp 24) 22 rfl 0 5 i0 (.int .u8 0) 1 1 Tryz.underlying22 hi hz0 hz1 hz2 rfl (by decide) (.slice A cs.length c) cs.length (cs.map bv) rfl (ho.alloc _) (some ⟨wr.heap.size, 0, none⟩) 1 1 _ rfl (Rd.one_new _ _ _) (kz _ rfl) H63.out H47.out (Nat.zero_le _) ?_; intro A' c' w1 hown hgrow hat; have hc1 := hgrow.cell (a := ⟨g, 0, none⟩) (v := .slice A cs.length c) (by simp [hc, World.cell?_alloc_lt, hb.lt]) hne; have hz1 : w1.frozen? ⟨g, 0, none⟩ = false := (World.frozen?_of_block (hgrow.block g (by simp; have := hb.lt; omega) hne)).trans (by simp [hz, World.frozen?_alloc_past, hb.lt])))
      all_goals
        have hst := Wr.put hb ho ((Kp.refl _ _).alloc _).drew (news := [UInt8.ofNat (x / 256 ^ k)]) (m := 1) rfl (by rw [shr_byte]; rfl) hown hgrow hat
        have Hst := jJ0 (WStep.trans hkp (Hr'.out ▸ hfr) hst)
        clear hst hown hgrow hat hc hz hc1 hz1 hb ho hne
        go_wp2
        go_roundw
        case rel =>
          refine ⟨k, by omega, by go_num, ?_⟩
          have hfin : cs ++ [UInt8.ofNat (x / 256 ^ k)] = bs ++ (be 4 x).take (4 - k) := by
            rw [<- Hcs.out, List.append_assoc, <- be_take_succ _ _ _ (by omega)]
          exact hfin ▸ Hst.out
        case measure => simp [intOf]
    · obtain rfl : m = 0 := by omega
      rw [take_done] at hWr
      go_wp2
      go_end0
      exact ⟨rfl, hWr⟩
theorem put32_any (w : World) (g : Nat) (r : Option Nat) (bs : List UInt8) (n : Int) (h0 : 0 <= n) (h1 : n <= 4294967295) (hW : Wr w g r bs) (hl : bs.length <= 1099511627776) :
    Calls Tryz.prog 63 #[.pointer (some ⟨g, 0, none⟩), .int .u32 n] w fun e w' => e = .returned (.tuple #[]) /\ WStep w g r w' (bs ++ be 4 n.toNat) := by
  obtain ⟨x, rfl⟩ := Int.eq_ofNat_of_zero_le h0
  rw [Int.toNat_natCast]
  exact put32_nat w g r bs x h1 hW hl
theorem put64_nat (w : World) (g : Nat) (r : Option Nat) (bs : List UInt8) (x : Nat) (hx : (x : Int) <= 18446744073709551615) (hW : Wr w g r bs) (hl : bs.length <= 1099511627776) :
    Calls Tryz.prog 52 #[.pointer (some ⟨g, 0, none⟩), .int .u64 (x : Int)] w fun e w' => e = .returned (.tuple #[]) /\ WStep w g r w' (bs ++ be 8 x) := by
  obtain ⟨i0, hi, hz0, hz1, hz2⟩ := info_parts Tryz.infoByte
  have Hl := jJ0 hl
  have Hx := jJ0 hx
  clear hl hx
  go_enter Tryz.func52, Tryz.ntmps52
  go_wp2_with (go_at_call 102; refine (width64_any _).mono ?_; rintro e w' ⟨rfl, rfl⟩)
  go_loopw [4] (fun i wr => ∃ m : Nat, m <= 8 /\ i = .int .i64 ((m : Int) - 1) /\ WStep w g r wr (bs ++ (be 8 x).take (8 - m))) (fun i _ => (intOf i + 1).toNat)
  case atStart => exact ⟨8, by omega, rfl, by simpa using hW.step⟩
  case round =>
    obtain ⟨m, hm, rfl, hWr⟩ := hrel
    by_cases h0 : 0 < m
    · obtain ⟨k, rfl⟩ : ∃ k, m = k + 1 := ⟨m - 1, by omega⟩
      have hcl : (bs ++ (be 8 x).take (8 - (k + 1))).length <= bs.length + 8 := by rw [List.length_append, List.length_take, jC]; omega
      generalize hcs : bs ++ (be 8 x).take (8 - (k + 1)) = cs at hWr hcl
      have Hcs := jJ0 hcs
      have H63 := jJ0 (show cs.length + 1 <= maxLen by have := Hl.out; unfold maxLen; omega)
      have H47 := jJ0 (show (cs.length + 1) * 1 <= 140737488355328 by have := Hl.out; omega)
      clear hcs hcl
      obtain ⟨r', ⟨A, c, hb, ho, hr'⟩, hkp, hfr⟩ := hWr
      have Hr' := jJ0 hr'
      clear hr'
      have hc := hb.cell 0
      have hz := hb.frozen 0
      have hlt := hb.lt
      simp only [List.getElem?_toArray, List.getElem?_cons_zero] at hc
      rw [show ((k + 1 : Nat) : Int) - 1 = (k : Int) by omega]
      have e1 : IntKind.u64.wrap (x : Int) = x := IntWalk.u64_in _ (by have := Hx.out; omega)
      have e2 : IntKind.i64.wrap (8 * (k : Int)) = 8 * (k : Int) := IntWalk.i64_in _ (by omega)
      have e3 : (0 : Int) <= 8 * (k : Int) := by omega
      have e4 : 8 * (k : Int) <= 64 := by omega
      have e5 : (8 * (k : Int)).toNat = 8 * k := by omega
      have hne : some g ≠ (Value.slice A cs.length c).ownBlock := by
        have := vF ho hb (by decide)
        exact fun h => this h.symm
      go_wp2
      go_region_law ((refine jZ _ rfl (.tmp 17) (.tmp 23) 22 rfl 0 5 i0 (.int .u8 0) 1 1 Tryz.underlying22 hi hz0 hz1 hz2 rfl (by decide) (.slice A cs.length c) cs.length (cs.map bv) rfl (ho.alloc _) (some ⟨wr.heap.size, 0, none⟩) 1 1 _ rfl (Rd.one_new _ _ _) (kz _ rfl) H63.out H47.out (Nat.zero_le _) ?_; intro A' c' w1 hown hgrow hat; have hc1 := hgrow.cell (a := ⟨g, 0, none⟩) (v := .slice A cs.length c) (by simp [hc, World.cell?_alloc_lt, hb.lt]) hne; have hz1 : w1.frozen? ⟨g, 0, none⟩ = false := (World.frozen?_of_block (hgrow.block g (by simp; have := hb.lt; omega) hne)).trans (by simp [hz, World.frozen?_alloc_past, hb.lt])))
      all_goals
        have hst := Wr.put hb ho ((Kp.refl _ _).alloc _).drew (news := [UInt8.ofNat (x / 256 ^ k)]) (m := 1) rfl (by rw [shr_byte]; rfl) hown hgrow hat
        have Hst := jJ0 (WStep.trans hkp (Hr'.out ▸ hfr) hst)
        clear hst hown hgrow hat hc hz hc1 hz1 hb ho hne
        go_wp2
        go_roundw
        case rel =>
          refine ⟨k, by omega, by go_num, ?_⟩
          have hfin : cs ++ [UInt8.ofNat (x / 256 ^ k)] = bs ++ (be 8 x).take (8 - k) := by
            rw [<- Hcs.out, List.append_assoc, <- be_take_succ _ _ _ (by omega)]
          exact hfin ▸ Hst.out
        case measure => simp [intOf]
    · obtain rfl : m = 0 := by omega
      rw [take_done] at hWr
      go_wp2
      go_end0
      exact ⟨rfl, hWr⟩
theorem put64_any (w : World) (g : Nat) (r : Option Nat) (bs : List UInt8) (n : Int) (h0 : 0 <= n) (h1 : n <= 18446744073709551615) (hW : Wr w g r bs) (hl : bs.length <= 1099511627776) :
    Calls Tryz.prog 52 #[.pointer (some ⟨g, 0, none⟩), .int .u64 n] w fun e w' => e = .returned (.tuple #[]) /\ WStep w g r w' (bs ++ be 8 n.toNat) := by
  obtain ⟨x, rfl⟩ := Int.eq_ofNat_of_zero_le h0
  rw [Int.toNat_natCast]
  exact put64_nat w g r bs x h1 hW hl
attribute [local go_sem ↓] Go.wp_at_zero Go.wp_at_succ
theorem kR {a b : Value} (h : a = b) : Ending.returned a = .returned b := by rw [h]
theorem kq (w : World) :
    Calls Tryz.prog 18 #[] w fun e w' => e = .returned (.pointer (some ⟨w.heap.size, 0, none⟩)) /\ Wr w' w.heap.size none [] /\ Old w w' := by
  go_enter Tryz.func18, Tryz.ntmps18
  go_wp2
  go_ret
  refine ⟨rfl, ⟨none, 0, Blk.new _ _ _, World.ownsRow_nil _ _ _ _, rfl⟩, (Kp.refl _ _).alloc _⟩
theorem kT (most own : Int) (w : World) (h0 : 0 <= most) :
    Calls Tryz.prog 101 #[.int .i64 most, .int .i64 own] w fun e w' => e = .returned (.int .i64 (min most own)) /\ w = w' := by
  go_enter Tryz.func101, Tryz.ntmps101
  go_wp2
  all_goals
    go_ret
    exact ⟨kR (vW (by omega)), rfl⟩
theorem kA (w : World) (g : Nat) (r : Option Nat) (bs : List UInt8) (hW : Wr w g r bs) :
    Calls Tryz.prog 23 #[.pointer (some ⟨g, 0, none⟩)] w fun e w' => e = .returned (.int .i64 bs.length) /\ w = w' := by
  obtain ⟨A, c, hb, ho, hr⟩ := hW
  have hc := hb.cell 0
  simp only [List.getElem?_toArray, List.getElem?_cons_zero] at hc
  clear hr
  go_enter Tryz.func23, Tryz.ntmps23
  go_wp2
  go_ret
  exact ⟨rfl, rfl⟩
theorem kP (w : World) (g : Nat) (r : Option Nat) (bs : List UInt8) (hW : Wr w g r bs) (hl : bs.length <= 1099511627776) :
    Calls Tryz.prog 24 #[.pointer (some ⟨g, 0, none⟩)] w fun e w' =>
      ∃ A c, e = .returned (.slice A bs.length c) /\ w'.ownsRow w.heap.size 5 1 (.slice A bs.length c) bs.length (bs.map bv) /\ Old w w' := by
  obtain ⟨A, c, hb, ho, hr⟩ := hW
  have hc := hb.cell 0
  simp only [List.getElem?_toArray, List.getElem?_cons_zero] at hc
  have hrd : Rd w 1 A bs.length (bs.map bv) := Rd.of_own ho
  have H63 := jJ0 (show 0 + bs.length <= maxLen by unfold maxLen; omega)
  have H47 := jJ0 (show (0 + bs.length) * 1 <= 140737488355328 by omega)
  clear hr hl
  obtain ⟨i0, hi, hz0, hz1, hz2⟩ := info_parts Tryz.infoByte
  go_enter Tryz.func24, Tryz.ntmps24
  go_wp2_with (at_builtin; refine jO _ rfl (.const (.slice none 0 0)) (.tmp 6) 22 rfl w.heap.size 5 i0 (.int .u8 0) 1 1 Tryz.underlying22 hi hz0 hz1 hz2 rfl (by decide) (.slice none 0 0) 0 [] rfl (World.ownsRow_nil _ _ _ _) A bs.length c (bs.map bv) rfl hrd (jr _) H63.out H47.out (Nat.le_refl _) ?_; intro A' c' w1 hown hgrow hat)
  go_ret
  refine ⟨A', c', ?_, ?_, ?_⟩
  · rfl
  · simpa using hown
  · exact (Kp.refl _ _).grown hgrow (fun k e => by simp [Value.ownBlock] at e)
theorem flag_any (w : World) (g : Nat) (r : Option Nat) (bs : List UInt8) (b : Bool) (hW : Wr w g r bs) (hl : bs.length <= 1099511627776) :
    Calls Tryz.prog 57 #[.pointer (some ⟨g, 0, none⟩), .bool b] w fun e w' => e = .returned (.tuple #[]) /\ WStep w g r w' (bs ++ [if b then 1 else 0]) := by
  have Hl := jJ0 hl
  clear hl
  cases b
  · go_enter Tryz.func57, Tryz.ntmps57
    go_wp2_with (go_at_call 19; refine (jV _ g r bs _ (by omega) (by omega) hW Hl.out).mono ?_; rintro e w' ⟨rfl, hw⟩)
    go_end0
    exact ⟨rfl, hw⟩
  · go_enter Tryz.func57, Tryz.ntmps57
    go_wp2_with (go_at_call 19; refine (jV _ g r bs _ (by omega) (by omega) hW Hl.out).mono ?_; rintro e w' ⟨rfl, hw⟩)
    go_end0
    exact ⟨rfl, hw⟩
theorem bytes_ok (w : World) (g : Nat) (r : Option Nat) (bs : List UInt8) (A : Option Addr) (n c : Nat) (l : List UInt8) (most : Int) (hW : Wr w g r bs) (hl : bs.length <= 1000000000000)
    (hrd : Rd w 1 A n (l.map bv)) (hav : Av (WX g r) n A) (hm : (n : Int) <= most) (hn : n <= 2147483647) :
    Calls Tryz.prog 51 #[.pointer (some ⟨g, 0, none⟩), .slice A n c, .int .i64 most] w fun e w' => e = .returned (.int .i64 0) /\ WStep w g r w' (bs ++ lp 4 l) := by
  have Hl := jJ0 hl
  have Hm := jJ0 (show ¬ (min most 2147483647 < (n : Int)) by omega)
  have H0 := jJ0 (show 0 <= most by omega)
  have hln : l.length = n := by simpa using hrd.1
  have Hln := jJ0 hln
  clear hl hm hln
  have e32 : IntKind.u32.wrap (n : Int) = n := IntWalk.u32_in _ (by omega)
  obtain ⟨i0, hi, hz0, hz1, hz2⟩ := info_parts Tryz.infoByte
  have hMm := Hm.out
  go_enter Tryz.func51, Tryz.ntmps51
  go_wp2_with fail
  refine (kT _ _ _ H0.out).mono ?_
  rintro e w' ⟨rfl, rfl⟩
  go_wp2_with fail
  refine (put32_any _ g r bs _ (by omega) (by omega) hW (Nat.le_trans Hl.out (by decide))).mono ?_
  rintro e w1 ⟨rfl, hw⟩
  clear hMm
  obtain ⟨r1, ⟨A1, c1, hb, ho, hr1⟩, hkp, hfr⟩ := hw
  have hrd1 := hrd.kp hkp hav
  have Hr1 := jJ0 hr1
  clear hr1
  have hc := hb.cell 0
  have hz := hb.frozen 0
  have hlt := hb.lt
  simp only [List.getElem?_toArray, List.getElem?_cons_zero] at hc
  rw [Int.toNat_natCast] at *
  generalize hcs : bs ++ be 4 n = cs at *
  have hcl : cs.length = bs.length + 4 := by rw [<- hcs, List.length_append, jC]
  have H63 := jJ0 (show cs.length + n <= maxLen by have := Hl.out; unfold maxLen; omega)
  have H47 := jJ0 (show (cs.length + n) * 1 <= 140737488355328 by have := Hl.out; omega)
  have Hcs := jJ0 hcs
  clear hcs hcl
  have hne : some g ≠ (Value.slice A1 cs.length c1).ownBlock := by
    have := vF ho hb (by decide)
    exact fun h => this h.symm
  go_wp2_with (at_builtin; refine jO _ rfl (.tmp 21) (.tmp 22) 22 rfl 0 5 i0 (.int .u8 0) 1 1 Tryz.underlying22 hi hz0 hz1 hz2 rfl (by decide) (.slice A1 cs.length c1) cs.length (cs.map bv) rfl ho A n c (l.map bv) rfl hrd1 (jr _) H63.out H47.out (Nat.zero_le _) ?_; intro A' c' w2 hown hgrow hat; have hc1 := hgrow.cell (a := ⟨g, 0, none⟩) hc hne; have hz1 : w2.frozen? ⟨g, 0, none⟩ = false := (World.frozen?_of_block (hgrow.block g hlt hne)).trans hz)
  go_ret
  refine ⟨rfl, WStep.trans hkp (Hr1.out ▸ hfr) ?_⟩
  have hst := Wr.put hb ho (Kp.refl _ _) (news := l) Hln.out rfl hown hgrow hat
  rw [lp, Hln.out, <- List.append_assoc, Hcs.out]
  exact hst
theorem bytes_long (w : World) (g : Nat) (A : Option Addr) (n c : Nat) (most : Int) (h0 : 0 <= most) (hm : min most 2147483647 < (n : Int)) :
    Calls Tryz.prog 51 #[.pointer (some ⟨g, 0, none⟩), .slice A n c, .int .i64 most] w fun e w' => e = .returned (.int .i64 6) /\ w = w' := by
  have H0 := jJ0 h0
  clear h0
  go_enter Tryz.func51, Tryz.ntmps51
  go_wp2_with (go_at_call 101; refine (kT _ _ _ H0.out).mono ?_; rintro e w' ⟨rfl, rfl⟩)
  go_ret
  exact ⟨rfl, rfl⟩
theorem text_ok (w : World) (g : Nat) (r : Option Nat) (bs : List UInt8) (s : ByteArray) (most : Int) (hW : Wr w g r bs) (hl : bs.length <= 1000000000000)
    (hm : (s.size : Int) <= most) (hn : s.size <= 65535) :
    Calls Tryz.prog 99 #[.pointer (some ⟨g, 0, none⟩), .string s, .int .i64 most] w fun e w' => e = .returned (.int .i64 0) /\ WStep w g r w' (bs ++ lp 2 (sb s)) := by
  have Hl := jJ0 hl
  have Hm := jJ0 (show ¬ (min most 65535 < (s.size : Int)) by omega)
  have H0 := jJ0 (show 0 <= most by omega)
  clear hl hm
  have e16 : IntKind.u16.wrap (s.size : Int) = s.size := IntWalk.u16_in _ (by omega)
  obtain ⟨i0, hi, hz0, hz1, hz2⟩ := info_parts Tryz.infoByte
  have hMm := Hm.out
  go_enter Tryz.func99, Tryz.ntmps99
  go_wp2_with fail
  refine (kT _ _ _ H0.out).mono ?_
  rintro e w' ⟨rfl, rfl⟩
  go_wp2_with fail
  refine (put16_any _ g r bs _ (by omega) (by omega) hW (Nat.le_trans Hl.out (by decide))).mono ?_
  rintro e w1 ⟨rfl, hw⟩
  clear hMm
  obtain ⟨r1, ⟨A1, c1, hb, ho, hr1⟩, hkp, hfr⟩ := hw
  have Hr1 := jJ0 hr1
  clear hr1
  have hc := hb.cell 0
  have hz := hb.frozen 0
  have hlt := hb.lt
  simp only [List.getElem?_toArray, List.getElem?_cons_zero] at hc
  rw [Int.toNat_natCast] at *
  generalize hcs : bs ++ be 2 s.size = cs at *
  have hcl : cs.length = bs.length + 2 := by rw [<- hcs, List.length_append, jC]
  have H63 := jJ0 (show cs.length + s.size <= maxLen by have := Hl.out; unfold maxLen; omega)
  have H47 := jJ0 (show cs.length + s.size <= 140737488355328 by have := Hl.out; omega)
  have Hcs := jJ0 hcs
  clear hcs hcl
  have hne : some g ≠ (Value.slice A1 cs.length c1).ownBlock := by
    have := vF ho hb (by decide)
    exact fun h => this h.symm
  go_wp2_with (at_builtin; refine wpList_append_str _ rfl (.tmp 21) (.tmp 22) 22 9 rfl 0 5 i0 Tryz.underlying22 Tryz.underlying9 hi hz0 hz1 hz2 (.slice A1 cs.length c1) cs.length (cs.map bv) rfl ho s rfl H63.out H47.out (Nat.zero_le _) ?_; intro A' c' w2 hown hgrow hat; have hc1 := hgrow.cell (a := ⟨g, 0, none⟩) hc hne; have hz1 : w2.frozen? ⟨g, 0, none⟩ = false := (World.frozen?_of_block (hgrow.block g hlt hne)).trans hz)
  go_ret
  refine ⟨rfl, WStep.trans hkp (Hr1.out ▸ hfr) ?_⟩
  have hst := Wr.put hb ho (Kp.refl _ _) (news := sb s) (jF s) rfl hown hgrow hat
  rw [lp, jF, <- List.append_assoc, Hcs.out]
  exact hst
def vV (v : Val) (A : Option Addr) (c : Nat) : Value := .agg #[.int .i64 v.kind, .int .i64 v.n, .string v.t, .slice A v.s.length c]
theorem kr {a b : Bool} (h : a = b) : Value.bool a = Value.bool b := by rw [h]
theorem timely_any (n : Int) (w : World) :
    Calls Tryz.prog 147 #[.int .i64 n] w fun e w' => e = .returned (.bool (decide (0 <= n /\ n <= 4611686018427387904))) /\ w = w' := by
  go_enter Tryz.func147, Tryz.ntmps147
  go_wp2
  all_goals (go_ret; refine ⟨kR (kr ?_), rfl⟩; rw [Bool.eq_iff_iff]; simp; omega)
theorem lit_any (s : ByteArray) (w : World) :
    Calls Tryz.prog 149 #[.string s] w fun e w' => e = .returned (.bool (decide (1024 < s.size))) /\ w = w' := by
  go_enter Tryz.func149, Tryz.ntmps149
  go_wp2
  go_ret
  exact ⟨kR (kr (by rw [Bool.eq_iff_iff]; simp; omega)), rfl⟩
theorem formed_0 (n : Int) (t : ByteArray) (s : List ByteArray) (A : Option Addr) (c : Nat) (w : World) :
    Calls Tryz.prog 146 #[vV ⟨0, n, t, s⟩ A c] w fun e w' => e = .returned (.bool (kD ⟨0, n, t, s⟩)) /\ Old w w' := by
  unfold vV
  go_enter Tryz.func146, Tryz.ntmps146
  go_wp2
  all_goals
    go_ret
    refine ⟨kR (kr ?_), (Kp.refl _ _).alloc _⟩
    simp [kD, *]
    done
theorem formed_1 (n : Int) (t : ByteArray) (s : List ByteArray) (A : Option Addr) (c : Nat) (w : World) :
    Calls Tryz.prog 146 #[vV ⟨1, n, t, s⟩ A c] w fun e w' => e = .returned (.bool (kD ⟨1, n, t, s⟩)) /\ Old w w' := by
  unfold vV
  go_enter Tryz.func146, Tryz.ntmps146
  go_wp2
  all_goals
    go_ret
    refine ⟨kR (kr ?_), (Kp.refl _ _).alloc _⟩
    simp [kD, *]
    done
theorem formed_2 (n : Int) (t : ByteArray) (s : List ByteArray) (A : Option Addr) (c : Nat) (w : World) :
    Calls Tryz.prog 146 #[vV ⟨2, n, t, s⟩ A c] w fun e w' => e = .returned (.bool (kD ⟨2, n, t, s⟩)) /\ Old w w' := by
  unfold vV
  go_enter Tryz.func146, Tryz.ntmps146
  go_wp2
  all_goals
    go_ret
    refine ⟨kR (kr ?_), (Kp.refl _ _).alloc _⟩
    simp [kD, *]
    done
theorem formed_3 (n : Int) (t : ByteArray) (s : List ByteArray) (A : Option Addr) (c : Nat) (w : World) :
    Calls Tryz.prog 146 #[vV ⟨3, n, t, s⟩ A c] w fun e w' => e = .returned (.bool (kD ⟨3, n, t, s⟩)) /\ Old w w' := by
  unfold vV
  go_enter Tryz.func146, Tryz.ntmps146
  go_wp2
  all_goals
    go_ret
    refine ⟨kR (kr ?_), (Kp.refl _ _).alloc _⟩
    simp [kD, *]
    done
theorem formed_4 (n : Int) (t : ByteArray) (s : List ByteArray) (A : Option Addr) (c : Nat) (w : World) :
    Calls Tryz.prog 146 #[vV ⟨4, n, t, s⟩ A c] w fun e w' => e = .returned (.bool (kD ⟨4, n, t, s⟩)) /\ Old w w' := by
  unfold vV
  go_enter Tryz.func146, Tryz.ntmps146
  go_wp2
  all_goals
    go_ret
    refine ⟨kR (kr ?_), (Kp.refl _ _).alloc _⟩
    simp [kD, *]
    done
theorem formed_far (k n : Int) (t : ByteArray) (s : List ByteArray) (A : Option Addr) (c : Nat) (w : World) (hk : k < 0 \/ 5 < k) :
    Calls Tryz.prog 146 #[vV ⟨k, n, t, s⟩ A c] w fun e w' => e = .returned (.bool (kD ⟨k, n, t, s⟩)) /\ Old w w' := by
  have h0 : (k == 0) = false := beq_eq_false_iff_ne.2 (by omega)
  have h1 : (k == 1) = false := beq_eq_false_iff_ne.2 (by omega)
  have h2 : (k == 2) = false := beq_eq_false_iff_ne.2 (by omega)
  have h3 : (k == 3) = false := beq_eq_false_iff_ne.2 (by omega)
  have h4 : (k == 4) = false := beq_eq_false_iff_ne.2 (by omega)
  have h5 : (k == 5) = false := beq_eq_false_iff_ne.2 (by omega)
  have h3' : (k != 3) = true := by rw [bne_iff_ne]; omega
  have h5' : (k != 5) = true := by rw [bne_iff_ne]; omega
  have Hf := jJ0 (show kD ⟨k, n, t, s⟩ = false by
    simp only [kD]
    rw [if_neg (by omega), if_neg (by omega), if_neg (by omega), if_neg (by omega)]
    simp)
  clear hk
  unfold vV
  go_enter Tryz.func146, Tryz.ntmps146
  go_wp2
  all_goals
    go_ret
    refine ⟨kR (kr ?_), (Kp.refl _ _).alloc _⟩
    rw [Hf.out]
def upTo (s : List ByteArray) (k : Nat) : Prop := ∀ i, i + 1 < k -> blt (s.getD i ByteArray.empty) (s.getD (i + 1) ByteArray.empty) = true
theorem rising_of (s : List ByteArray) (h : upTo s s.length) : yM s = true := by
  rw [yM, List.all_eq_true]
  intro i hi
  exact h i (by rw [List.mem_range] at hi; omega)
theorem not_rising (s : List ByteArray) (i : Nat) (hi : i + 1 < s.length) (h : blt (s.getD i ByteArray.empty) (s.getD (i + 1) ByteArray.empty) = false) : yM s = false := by
  rw [<- Bool.not_eq_true, yM, List.all_eq_true]
  intro hf
  have := hf i (by rw [List.mem_range]; omega)
  rw [h] at this
  cases this
theorem upTo_succ (s : List ByteArray) (k : Nat) (h : upTo s (k + 1)) (hk : blt (s.getD k ByteArray.empty) (s.getD (k + 1) ByteArray.empty) = true) : upTo s (k + 2) := by
  intro i hi
  by_cases e : i = k
  · subst e; exact hk
  · exact h i (by omega)
theorem Rd.text {w : World} {A : Option Addr} {n : Nat} {l : List ByteArray} (h : Rd w 1 A n (l.map sv)) {k : Nat} (hk : k < n) : ∃ b o, A = some ⟨b, o, none⟩ /\ w.cell? ⟨b, o + k, none⟩ = some (.string (l.getD k ByteArray.empty)) := by
  obtain ⟨b, o, u, rfl, hx, hc⟩ := h.at_ hk
  refine ⟨b, o, rfl, ?_⟩
  rw [hc]
  rw [List.getElem?_map] at hx
  obtain ⟨b, hb, rfl⟩ := Option.map_eq_some_iff.1 hx
  simp [sv, List.getD, hb]
theorem formed_5 (n : Int) (t : ByteArray) (s : List ByteArray) (A : Option Addr) (c : Nat) (w : World) (hr : Rd w 1 A s.length (s.map sv)) (hc : s.length <= c) (hs : s.length <= 1000000000000) :
    Calls Tryz.prog 146 #[vV ⟨5, n, t, s⟩ A c] w fun e w' => e = .returned (.bool (kD ⟨5, n, t, s⟩)) /\ Old w w' := by
  have Hs := jJ0 hs
  have Hc := jJ0 hc
  clear hs hc
  unfold vV
  by_cases ht : t.toList.isEmpty = true
  case neg =>
    have ht' : t.toList.isEmpty = false := by simpa using ht
    clear ht
    go_enter Tryz.func146, Tryz.ntmps146
    go_wp2
    go_ret
    refine ⟨kR (kr ?_), (Kp.refl _ _).alloc _⟩
    simp [kD, *]
  go_enter Tryz.func146, Tryz.ntmps146
  go_wp2
  go_loopw [3] (fun i wr => ∃ k : Nat, k + 1 <= max 1 s.length /\ i = .int .i64 ((k : Int) + 1) /\ upTo s (k + 1) /\ Blk wr w.heap.size 29 #[.int .i64 5, .int .i64 n, .string t, .slice A s.length c] /\ Old w wr) (fun i _ => s.length - (intOf i).toNat)
  case atStart => exact ⟨0, by omega, rfl, fun i hi => by omega, Blk.new _ _ _, (Kp.refl _ _).alloc _⟩
  case round =>
    obtain ⟨k, hk, rfl, hup, hb, ho⟩ := hrel
    have hc1 := hb.cell 1
    have hc3 := hb.cell 3
    simp only [List.getElem?_toArray, List.getElem?_cons_zero, List.getElem?_cons_succ] at hc1 hc3
    by_cases hlt : k + 1 < s.length
    · obtain ⟨b, o, rfl, hx⟩ := (hr.old ho).text (k := k) (by omega)
      obtain ⟨b', o', e, hy⟩ := (hr.old ho).text (k := k + 1) (by omega)
      obtain ⟨rfl, rfl⟩ : b = b' /\ o = o' := by injection e with e; injection e with e1 e2; exact ⟨e1, e2⟩
      clear e
      have b1 : (0 : Int) <= (k : Int) := by omega
      have b2 : (k : Int) < (s.length : Int) := by omega
      have b3 : (0 : Int) <= (k : Int) + 1 := by omega
      have b4 : (k : Int) + 1 < (s.length : Int) := by omega
      have b5 : (k : Int) <= 1000000000000 := by have := Hs.out; omega
      generalize hxx : s.getD k ByteArray.empty = x at hx
      generalize hyy : s.getD (k + 1) ByteArray.empty = y at hy
      have Hx := jJ0 hxx
      have Hy := jJ0 hyy
      have HW := jJ0 hb
      clear hxx hyy hb
      cases hlx : Op.bytesLess x.toList y.toList
      all_goals
        go_wp2
        have e1 : IntKind.i64.wrap (k : Int) = (k : Int) := IntWalk.i64_in _ (by have := Hs.out; omega)
        have e2 : ((k : Int) + 1).toNat = k + 1 := by omega
        go_quiet (fail)
        clear e1 e2
        go_wp2
      · go_ret
        refine ⟨kR (kr ?_), ho.drewN _⟩
        have : yM s = false := not_rising s k (by omega) (by rw [Hx.out, Hy.out]; exact hlx)
        simp [kD, this]
      · go_roundw
        case rel => exact ⟨k + 1, by omega, by go_num, upTo_succ s k hup (by rw [Hx.out, Hy.out]; exact hlx), HW.out, ho.drewN _⟩
        case measure => simp [intOf]; omega
    · go_wp2
      go_ret
      refine ⟨kR (kr ?_), ho⟩
      have hr : yM s = true := rising_of s (fun i hi => hup i (by omega))
      simp [kD, *]
theorem jx {w w' : World} {p : Addr} {v : Value} (h : w.cell? p = some v) (ho : Old w w') : w'.cell? p = some v :=
  (World.cell?_of_block (ho.block p.block (cell_lt h) (fun f => f))).trans h
def vQ (left n : Int) : Int := if left < 0 \/ left < n then -1 else left - n
theorem yC {left n : Int} (h : left <= 2147483647) (hn : 0 <= n) : vQ left n <= 2147483647 /\ -1 <= vQ left n := by
  unfold vQ
  split <;> omega
theorem roomN_neg {left n : Int} (h : left < 0) : vQ left n = -1 := by rw [vQ, if_pos (.inl h)]
theorem room_any (w : World) (left n : Int) (h1 : -1 <= left) (h2 : left <= 2147483647) (hn : 0 <= n) :
    Calls Tryz.prog 10 #[.int .i64 left, .int .i64 n] w fun e w' => e = .returned (.int .i64 (vQ left n)) /\ w = w' := by
  by_cases h3 : left < 0
  · rw [roomN_neg h3]
    go_enter Tryz.func10, Tryz.ntmps10
    go_wp2
    go_ret
    exact ⟨rfl, rfl⟩
  · by_cases h4 : left < n
    · rw [vQ, if_pos (.inr h4)]
      go_enter Tryz.func10, Tryz.ntmps10
      go_wp2
      go_ret
      exact ⟨rfl, rfl⟩
    · rw [vQ, if_neg (by omega)]
      have e : IntKind.i64.wrap (left - n) = left - n := IntWalk.i64_in _ (by omega)
      go_enter Tryz.func10, Tryz.ntmps10
      go_wp2
      go_ret
      exact ⟨by simp, rfl⟩
def kw (left : Int) : List ByteArray -> Int
  | [] => left
  | x :: l => if left < 0 then left else kw (vQ (vQ left 1) x.size) l
theorem textsR_le : ∀ (l : List ByteArray) (left : Int), -1 <= left -> left <= 2147483647 -> -1 <= kw left l /\ kw left l <= 2147483647
  | [], left, h1, h2 => ⟨h1, h2⟩
  | x :: l, left, h1, h2 => by
    rw [kw]
    split
    · exact ⟨h1, h2⟩
    · have a := yC (n := 1) h2 (by decide)
      have b := yC (n := x.size) a.1 (by omega)
      exact textsR_le l _ b.2 b.1
theorem textsR_neg (l : List ByteArray) (left : Int) (h : left < 0) : kw left l = left := by
  cases l with
  | nil => rfl
  | cons x l => rw [kw, if_pos h]
theorem texts_any (w : World) (left : Int) (A : Option Addr) (c n : Nat) (l : List ByteArray) (h1 : -1 <= left) (h2 : left <= 2147483647) (hr : Rd w 1 A n (l.map sv)) (hn : n = l.length) (hx : ∀ x ∈ l, x.size <= 9223372036854775807) :
    Calls Tryz.prog 30 #[.int .i64 left, .slice A n c] w fun e w' => e = .returned (.int .i64 (kw left l)) /\ w = w' := by
  have Hn := jJ0 hn
  have Hx := jJ0 hx
  clear hn hx
  go_enter Tryz.func30, Tryz.ntmps30
  go_wp2_with fail
  go_loop [0, 5] (fun x i => ∃ (j : Nat) (lf : Int), j <= n /\ i = .int .i64 j /\ x = .int .i64 lf /\ -1 <= lf /\ lf <= 2147483647 /\ kw left l = kw lf (l.drop j) /\ (j : Int) + lf <= 2147483647) (fun _ i => n - (intOf i).toNat)
  case atStart => exact ⟨0, left, Nat.zero_le _, rfl, rfl, h1, h2, rfl, by omega⟩
  case round =>
    obtain ⟨j, lf, hj, rfl, rfl, hl1, hl2, hgo, hsum⟩ := hrel
    by_cases hlt : j < n
    · have hltI : (j : Int) < (n : Int) := by omega
      by_cases hneg : lf < 0
      · have Hres := jJ0 (show kw left l = lf by rw [hgo, textsR_neg _ _ hneg])
        clear hgo
        have hge : ¬ (0 : Int) <= lf := by omega
        go_wp2
        go_ret
        exact ⟨by rw [Hres.out]; rfl, rfl⟩
      · have hge : (0 : Int) <= lf := by omega
        obtain ⟨b, o, rfl, hx⟩ := hr.text (k := j) hlt
        have hlj : j < l.length := by have := Hn.out; omega
        have hd : l.drop j = l.getD j ByteArray.empty :: l.drop (j + 1) := by
          rw [List.drop_eq_getElem_cons hlj]
          simp [List.getD, List.getElem?_eq_getElem hlj]
        have Hsz := jJ0 (Hx.out (l.getD j ByteArray.empty) (by simp [List.getD, List.getElem?_eq_getElem hlj]))
        have Hgo := jJ0 (show kw left l = kw (vQ (vQ lf 1) (l.getD j ByteArray.empty).size) (l.drop (j + 1)) by rw [hgo, hd, kw, if_neg hneg])
        clear hgo hd
        generalize l.getD j ByteArray.empty = x at *
        have ha := yC (n := 1) hl2 (by decide)
        have hb := yC (n := x.size) ha.1 (by omega)
        have Hlt1 := jJ0 (show vQ lf 1 <= lf - 1 by unfold vQ; split <;> omega)
        have Hlt2 := jJ0 (show vQ (vQ lf 1) x.size <= lf - 1 by
          have := Hlt1.out
          unfold vQ
          split
          · omega
          · have h3 : vQ lf 1 = lf - 1 \/ vQ lf 1 = -1 := by unfold vQ; split <;> simp
            unfold vQ at *
            omega)
        have R1 := jJ0 (room_any w lf 1 hl1 hl2 (by decide))
        have R2 := jJ0 (room_any w (vQ lf 1) x.size ha.2 ha.1 (by omega))
        go_wp2_with fail
        refine R1.out.mono ?_
        rintro e w' ⟨rfl, rfl⟩
        go_wp2_with fail
        refine R2.out.mono ?_
        rintro e w' ⟨rfl, rfl⟩
        generalize vQ (vQ lf 1) (x.size : Int) = lf2 at *
        generalize vQ lf 1 = lf1 at *
        have hj1 : IntKind.i64.wrap ((j : Int) + 1) = (j : Int) + 1 := IntWalk.i64_in _ (by omega)
        go_wp2
        go_round
        case rel => exact ⟨j + 1, lf2, by omega, by go_num, rfl, hb.2, hb.1, Hgo.out, by have := Hlt2.out; omega⟩
        case measure => simp [intOf]; omega
    · obtain rfl : j = n := by omega
      have Hres := jJ0 (show kw left l = lf by rw [hgo, Hn.out, List.drop_length]; rfl)
      clear hgo
      go_wp2
      go_ret
      exact ⟨by rw [Hres.out]; rfl, rfl⟩
end Go.Proofs.YtnaolhjbapgjgaaGreat
