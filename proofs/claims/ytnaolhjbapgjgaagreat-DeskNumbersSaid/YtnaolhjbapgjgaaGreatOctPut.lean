/- Contracts of octet.New, octet.Put at the four widths, Len, All. -/
import Derived.Test.YtnaolhjbapgjgaaGreatOct
namespace Go.Proofs.YtnaolhjbapgjgaaGreat
open Go.RowKit
attribute [local go_sem ↓] Go.wp_at_zero Go.wp_at_succ

theorem shr_byte (x : Nat) (k : Nat) : Value.int .u8 (IntKind.u8.wrap ((x : Int) / 2 ^ (8 * k))) = bv (UInt8.ofNat (x / 256 ^ k)) := by
  have e : ((2 : Int) ^ (8 * k)) = ((256 ^ k : Nat) : Int) := by
    rw [Int.pow_mul]; simp
  rw [e, bv_ofNat, IntKind.wrap_u8, ← Int.natCast_ediv]
  rfl

theorem take_done (k n : Nat) : (be k n).take (k - 0) = be k n := by
  rw [List.take_of_length_le (by rw [be_length]; omega)]

set_option maxRecDepth 100000 in
set_option maxHeartbeats 800000 in
theorem put8_nat (w : World) (g : Nat) (r : Option Nat) (bs : List UInt8) (x : Nat) (hx : (x : Int) ≤ 255) (hW : Wr w g r bs) (hl : bs.length ≤ 1099511627776) :
    Calls Tryz.prog 19 #[.pointer (some ⟨g, 0, none⟩), .int .u8 (x : Int)] w fun e w' => e = .returned (.tuple #[]) ∧ WStep w g r w' (bs ++ be 1 x) := by
  obtain ⟨i0, hi, hz0, hz1, hz2⟩ := info_parts Tryz.infoByte
  have Hl := Lib.hid hl
  have Hx := Lib.hid hx
  clear hl hx
  go_enter Tryz.func19, Tryz.ntmps19
  go_wp2_with (go_at_call 49; refine (width8_any _).mono ?_; rintro e w' ⟨rfl, rfl⟩)
  go_loopw [4] (fun i wr => ∃ m : Nat, m ≤ 1 ∧ i = .int .i64 ((m : Int) - 1) ∧ WStep w g r wr (bs ++ (be 1 x).take (1 - m))) (fun i _ => (intOf i + 1).toNat)
  case atStart => exact ⟨1, by omega, rfl, by simpa using hW.step⟩
  case round =>
    obtain ⟨m, hm, rfl, hWr⟩ := hrel
    by_cases h0 : 0 < m
    · obtain ⟨k, rfl⟩ : ∃ k, m = k + 1 := ⟨m - 1, by omega⟩
      have hcl : (bs ++ (be 1 x).take (1 - (k + 1))).length ≤ bs.length + 1 := by rw [List.length_append, List.length_take, be_length]; omega
      generalize hcs : bs ++ (be 1 x).take (1 - (k + 1)) = cs at hWr hcl
      have Hcs := Lib.hid hcs
      have H63 := Lib.hid (show cs.length + 1 ≤ maxLen by have := Hl.out; unfold maxLen; omega)
      have H47 := Lib.hid (show (cs.length + 1) * 1 ≤ 140737488355328 by have := Hl.out; omega)
      clear hcs hcl
      obtain ⟨r', ⟨A, c, hb, ho, hr'⟩, hkp, hfr⟩ := hWr
      have Hr' := Lib.hid hr'
      clear hr'
      have hc := hb.cell 0
      have hz := hb.frozen 0
      have hlt := hb.lt
      simp only [List.getElem?_toArray, List.getElem?_cons_zero] at hc
      rw [show ((k + 1 : Nat) : Int) - 1 = (k : Int) by omega]
      have e1 : IntKind.u64.wrap (x : Int) = x := IntWalk.u64_in _ (by have := Hx.out; omega)
      have e2 : IntKind.i64.wrap (8 * (k : Int)) = 8 * (k : Int) := IntWalk.i64_in _ (by omega)
      have e3 : (0 : Int) ≤ 8 * (k : Int) := by omega
      have e4 : 8 * (k : Int) ≤ 64 := by omega
      have e5 : (8 * (k : Int)).toNat = 8 * k := by omega
      have hne : some g ≠ (Value.slice A cs.length c).ownBlock := by
        have := own_blk_ne ho hb (by decide)
        exact fun h => this h.symm
      go_wp2
      go_region_law ((refine step_append_any _ rfl (.tmp 17) (.tmp 24) 22 rfl 0 5 i0 (.int .u8 0) 1 1 Tryz.underlying22 hi hz0 hz1 hz2 rfl (by decide) (.slice A cs.length c) cs.length (cs.map bv) rfl (ho.alloc _) (some ⟨wr.heap.size, 0, none⟩) 1 1 _ rfl (Rd.one_new _ _ _) (one_value _ rfl) H63.out H47.out (Nat.zero_le _) ?_; intro A' c' w1 hown hgrow hat; have hc1 := hgrow.cell (a := ⟨g, 0, none⟩) (v := .slice A cs.length c) (by simp [hc, World.cell?_alloc_lt, hb.lt]) hne; have hz1 : w1.frozen? ⟨g, 0, none⟩ = false := (World.frozen?_of_block (hgrow.block g (by simp; have := hb.lt; omega) hne)).trans (by simp [hz, World.frozen?_alloc_past, hb.lt])))
      all_goals
        have hst := Wr.put hb ho ((Kp.refl _ _).alloc _).drew (news := [UInt8.ofNat (x / 256 ^ k)]) (m := 1) rfl (by rw [shr_byte]; rfl) hown hgrow hat
        have Hst := Lib.hid (WStep.trans hkp (Hr'.out ▸ hfr) hst)
        clear hst hown hgrow hat hc hz hc1 hz1 hb ho hne
        go_wp2
        go_roundw
        case rel =>
          refine ⟨k, by omega, by go_num, ?_⟩
          have hfin : cs ++ [UInt8.ofNat (x / 256 ^ k)] = bs ++ (be 1 x).take (1 - k) := by
            rw [← Hcs.out, List.append_assoc, ← be_take_succ _ _ _ (by omega)]
          exact hfin ▸ Hst.out
        case measure => simp [intOf]
    · obtain rfl : m = 0 := by omega
      rw [take_done] at hWr
      go_wp2
      go_end0
      exact ⟨rfl, hWr⟩
theorem put8_any (w : World) (g : Nat) (r : Option Nat) (bs : List UInt8) (n : Int) (h0 : 0 ≤ n) (h1 : n ≤ 255) (hW : Wr w g r bs) (hl : bs.length ≤ 1099511627776) :
    Calls Tryz.prog 19 #[.pointer (some ⟨g, 0, none⟩), .int .u8 n] w fun e w' => e = .returned (.tuple #[]) ∧ WStep w g r w' (bs ++ be 1 n.toNat) := by
  obtain ⟨x, rfl⟩ := Int.eq_ofNat_of_zero_le h0
  rw [Int.toNat_natCast]
  exact put8_nat w g r bs x h1 hW hl

set_option maxRecDepth 100000 in
set_option maxHeartbeats 800000 in
theorem put16_nat (w : World) (g : Nat) (r : Option Nat) (bs : List UInt8) (x : Nat) (hx : (x : Int) ≤ 65535) (hW : Wr w g r bs) (hl : bs.length ≤ 1099511627776) :
    Calls Tryz.prog 25 #[.pointer (some ⟨g, 0, none⟩), .int .u16 (x : Int)] w fun e w' => e = .returned (.tuple #[]) ∧ WStep w g r w' (bs ++ be 2 x) := by
  obtain ⟨i0, hi, hz0, hz1, hz2⟩ := info_parts Tryz.infoByte
  have Hl := Lib.hid hl
  have Hx := Lib.hid hx
  clear hl hx
  go_enter Tryz.func25, Tryz.ntmps25
  go_wp2_with (go_at_call 53; refine (width16_any _).mono ?_; rintro e w' ⟨rfl, rfl⟩)
  go_loopw [4] (fun i wr => ∃ m : Nat, m ≤ 2 ∧ i = .int .i64 ((m : Int) - 1) ∧ WStep w g r wr (bs ++ (be 2 x).take (2 - m))) (fun i _ => (intOf i + 1).toNat)
  case atStart => exact ⟨2, by omega, rfl, by simpa using hW.step⟩
  case round =>
    obtain ⟨m, hm, rfl, hWr⟩ := hrel
    by_cases h0 : 0 < m
    · obtain ⟨k, rfl⟩ : ∃ k, m = k + 1 := ⟨m - 1, by omega⟩
      have hcl : (bs ++ (be 2 x).take (2 - (k + 1))).length ≤ bs.length + 2 := by rw [List.length_append, List.length_take, be_length]; omega
      generalize hcs : bs ++ (be 2 x).take (2 - (k + 1)) = cs at hWr hcl
      have Hcs := Lib.hid hcs
      have H63 := Lib.hid (show cs.length + 1 ≤ maxLen by have := Hl.out; unfold maxLen; omega)
      have H47 := Lib.hid (show (cs.length + 1) * 1 ≤ 140737488355328 by have := Hl.out; omega)
      clear hcs hcl
      obtain ⟨r', ⟨A, c, hb, ho, hr'⟩, hkp, hfr⟩ := hWr
      have Hr' := Lib.hid hr'
      clear hr'
      have hc := hb.cell 0
      have hz := hb.frozen 0
      have hlt := hb.lt
      simp only [List.getElem?_toArray, List.getElem?_cons_zero] at hc
      rw [show ((k + 1 : Nat) : Int) - 1 = (k : Int) by omega]
      have e1 : IntKind.u64.wrap (x : Int) = x := IntWalk.u64_in _ (by have := Hx.out; omega)
      have e2 : IntKind.i64.wrap (8 * (k : Int)) = 8 * (k : Int) := IntWalk.i64_in _ (by omega)
      have e3 : (0 : Int) ≤ 8 * (k : Int) := by omega
      have e4 : 8 * (k : Int) ≤ 64 := by omega
      have e5 : (8 * (k : Int)).toNat = 8 * k := by omega
      have hne : some g ≠ (Value.slice A cs.length c).ownBlock := by
        have := own_blk_ne ho hb (by decide)
        exact fun h => this h.symm
      go_wp2
      go_region_law ((refine step_append_any _ rfl (.tmp 17) (.tmp 24) 22 rfl 0 5 i0 (.int .u8 0) 1 1 Tryz.underlying22 hi hz0 hz1 hz2 rfl (by decide) (.slice A cs.length c) cs.length (cs.map bv) rfl (ho.alloc _) (some ⟨wr.heap.size, 0, none⟩) 1 1 _ rfl (Rd.one_new _ _ _) (one_value _ rfl) H63.out H47.out (Nat.zero_le _) ?_; intro A' c' w1 hown hgrow hat; have hc1 := hgrow.cell (a := ⟨g, 0, none⟩) (v := .slice A cs.length c) (by simp [hc, World.cell?_alloc_lt, hb.lt]) hne; have hz1 : w1.frozen? ⟨g, 0, none⟩ = false := (World.frozen?_of_block (hgrow.block g (by simp; have := hb.lt; omega) hne)).trans (by simp [hz, World.frozen?_alloc_past, hb.lt])))
      all_goals
        have hst := Wr.put hb ho ((Kp.refl _ _).alloc _).drew (news := [UInt8.ofNat (x / 256 ^ k)]) (m := 1) rfl (by rw [shr_byte]; rfl) hown hgrow hat
        have Hst := Lib.hid (WStep.trans hkp (Hr'.out ▸ hfr) hst)
        clear hst hown hgrow hat hc hz hc1 hz1 hb ho hne
        go_wp2
        go_roundw
        case rel =>
          refine ⟨k, by omega, by go_num, ?_⟩
          have hfin : cs ++ [UInt8.ofNat (x / 256 ^ k)] = bs ++ (be 2 x).take (2 - k) := by
            rw [← Hcs.out, List.append_assoc, ← be_take_succ _ _ _ (by omega)]
          exact hfin ▸ Hst.out
        case measure => simp [intOf]
    · obtain rfl : m = 0 := by omega
      rw [take_done] at hWr
      go_wp2
      go_end0
      exact ⟨rfl, hWr⟩
theorem put16_any (w : World) (g : Nat) (r : Option Nat) (bs : List UInt8) (n : Int) (h0 : 0 ≤ n) (h1 : n ≤ 65535) (hW : Wr w g r bs) (hl : bs.length ≤ 1099511627776) :
    Calls Tryz.prog 25 #[.pointer (some ⟨g, 0, none⟩), .int .u16 n] w fun e w' => e = .returned (.tuple #[]) ∧ WStep w g r w' (bs ++ be 2 n.toNat) := by
  obtain ⟨x, rfl⟩ := Int.eq_ofNat_of_zero_le h0
  rw [Int.toNat_natCast]
  exact put16_nat w g r bs x h1 hW hl

set_option maxRecDepth 100000 in
set_option maxHeartbeats 800000 in
theorem put32_nat (w : World) (g : Nat) (r : Option Nat) (bs : List UInt8) (x : Nat) (hx : (x : Int) ≤ 4294967295) (hW : Wr w g r bs) (hl : bs.length ≤ 1099511627776) :
    Calls Tryz.prog 63 #[.pointer (some ⟨g, 0, none⟩), .int .u32 (x : Int)] w fun e w' => e = .returned (.tuple #[]) ∧ WStep w g r w' (bs ++ be 4 x) := by
  obtain ⟨i0, hi, hz0, hz1, hz2⟩ := info_parts Tryz.infoByte
  have Hl := Lib.hid hl
  have Hx := Lib.hid hx
  clear hl hx
  go_enter Tryz.func63, Tryz.ntmps63
  go_wp2_with (go_at_call 115; refine (width32_any _).mono ?_; rintro e w' ⟨rfl, rfl⟩)
  go_loopw [4] (fun i wr => ∃ m : Nat, m ≤ 4 ∧ i = .int .i64 ((m : Int) - 1) ∧ WStep w g r wr (bs ++ (be 4 x).take (4 - m))) (fun i _ => (intOf i + 1).toNat)
  case atStart => exact ⟨4, by omega, rfl, by simpa using hW.step⟩
  case round =>
    obtain ⟨m, hm, rfl, hWr⟩ := hrel
    by_cases h0 : 0 < m
    · obtain ⟨k, rfl⟩ : ∃ k, m = k + 1 := ⟨m - 1, by omega⟩
      have hcl : (bs ++ (be 4 x).take (4 - (k + 1))).length ≤ bs.length + 4 := by rw [List.length_append, List.length_take, be_length]; omega
      generalize hcs : bs ++ (be 4 x).take (4 - (k + 1)) = cs at hWr hcl
      have Hcs := Lib.hid hcs
      have H63 := Lib.hid (show cs.length + 1 ≤ maxLen by have := Hl.out; unfold maxLen; omega)
      have H47 := Lib.hid (show (cs.length + 1) * 1 ≤ 140737488355328 by have := Hl.out; omega)
      clear hcs hcl
      obtain ⟨r', ⟨A, c, hb, ho, hr'⟩, hkp, hfr⟩ := hWr
      have Hr' := Lib.hid hr'
      clear hr'
      have hc := hb.cell 0
      have hz := hb.frozen 0
      have hlt := hb.lt
      simp only [List.getElem?_toArray, List.getElem?_cons_zero] at hc
      rw [show ((k + 1 : Nat) : Int) - 1 = (k : Int) by omega]
      have e1 : IntKind.u64.wrap (x : Int) = x := IntWalk.u64_in _ (by have := Hx.out; omega)
      have e2 : IntKind.i64.wrap (8 * (k : Int)) = 8 * (k : Int) := IntWalk.i64_in _ (by omega)
      have e3 : (0 : Int) ≤ 8 * (k : Int) := by omega
      have e4 : 8 * (k : Int) ≤ 64 := by omega
      have e5 : (8 * (k : Int)).toNat = 8 * k := by omega
      have hne : some g ≠ (Value.slice A cs.length c).ownBlock := by
        have := own_blk_ne ho hb (by decide)
        exact fun h => this h.symm
      go_wp2
      go_region_law ((refine step_append_any _ rfl (.tmp 17) (.tmp 24) 22 rfl 0 5 i0 (.int .u8 0) 1 1 Tryz.underlying22 hi hz0 hz1 hz2 rfl (by decide) (.slice A cs.length c) cs.length (cs.map bv) rfl (ho.alloc _) (some ⟨wr.heap.size, 0, none⟩) 1 1 _ rfl (Rd.one_new _ _ _) (one_value _ rfl) H63.out H47.out (Nat.zero_le _) ?_; intro A' c' w1 hown hgrow hat; have hc1 := hgrow.cell (a := ⟨g, 0, none⟩) (v := .slice A cs.length c) (by simp [hc, World.cell?_alloc_lt, hb.lt]) hne; have hz1 : w1.frozen? ⟨g, 0, none⟩ = false := (World.frozen?_of_block (hgrow.block g (by simp; have := hb.lt; omega) hne)).trans (by simp [hz, World.frozen?_alloc_past, hb.lt])))
      all_goals
        have hst := Wr.put hb ho ((Kp.refl _ _).alloc _).drew (news := [UInt8.ofNat (x / 256 ^ k)]) (m := 1) rfl (by rw [shr_byte]; rfl) hown hgrow hat
        have Hst := Lib.hid (WStep.trans hkp (Hr'.out ▸ hfr) hst)
        clear hst hown hgrow hat hc hz hc1 hz1 hb ho hne
        go_wp2
        go_roundw
        case rel =>
          refine ⟨k, by omega, by go_num, ?_⟩
          have hfin : cs ++ [UInt8.ofNat (x / 256 ^ k)] = bs ++ (be 4 x).take (4 - k) := by
            rw [← Hcs.out, List.append_assoc, ← be_take_succ _ _ _ (by omega)]
          exact hfin ▸ Hst.out
        case measure => simp [intOf]
    · obtain rfl : m = 0 := by omega
      rw [take_done] at hWr
      go_wp2
      go_end0
      exact ⟨rfl, hWr⟩
theorem put32_any (w : World) (g : Nat) (r : Option Nat) (bs : List UInt8) (n : Int) (h0 : 0 ≤ n) (h1 : n ≤ 4294967295) (hW : Wr w g r bs) (hl : bs.length ≤ 1099511627776) :
    Calls Tryz.prog 63 #[.pointer (some ⟨g, 0, none⟩), .int .u32 n] w fun e w' => e = .returned (.tuple #[]) ∧ WStep w g r w' (bs ++ be 4 n.toNat) := by
  obtain ⟨x, rfl⟩ := Int.eq_ofNat_of_zero_le h0
  rw [Int.toNat_natCast]
  exact put32_nat w g r bs x h1 hW hl

set_option maxRecDepth 100000 in
set_option maxHeartbeats 800000 in
theorem put64_nat (w : World) (g : Nat) (r : Option Nat) (bs : List UInt8) (x : Nat) (hx : (x : Int) ≤ 18446744073709551615) (hW : Wr w g r bs) (hl : bs.length ≤ 1099511627776) :
    Calls Tryz.prog 52 #[.pointer (some ⟨g, 0, none⟩), .int .u64 (x : Int)] w fun e w' => e = .returned (.tuple #[]) ∧ WStep w g r w' (bs ++ be 8 x) := by
  obtain ⟨i0, hi, hz0, hz1, hz2⟩ := info_parts Tryz.infoByte
  have Hl := Lib.hid hl
  have Hx := Lib.hid hx
  clear hl hx
  go_enter Tryz.func52, Tryz.ntmps52
  go_wp2_with (go_at_call 102; refine (width64_any _).mono ?_; rintro e w' ⟨rfl, rfl⟩)
  go_loopw [4] (fun i wr => ∃ m : Nat, m ≤ 8 ∧ i = .int .i64 ((m : Int) - 1) ∧ WStep w g r wr (bs ++ (be 8 x).take (8 - m))) (fun i _ => (intOf i + 1).toNat)
  case atStart => exact ⟨8, by omega, rfl, by simpa using hW.step⟩
  case round =>
    obtain ⟨m, hm, rfl, hWr⟩ := hrel
    by_cases h0 : 0 < m
    · obtain ⟨k, rfl⟩ : ∃ k, m = k + 1 := ⟨m - 1, by omega⟩
      have hcl : (bs ++ (be 8 x).take (8 - (k + 1))).length ≤ bs.length + 8 := by rw [List.length_append, List.length_take, be_length]; omega
      generalize hcs : bs ++ (be 8 x).take (8 - (k + 1)) = cs at hWr hcl
      have Hcs := Lib.hid hcs
      have H63 := Lib.hid (show cs.length + 1 ≤ maxLen by have := Hl.out; unfold maxLen; omega)
      have H47 := Lib.hid (show (cs.length + 1) * 1 ≤ 140737488355328 by have := Hl.out; omega)
      clear hcs hcl
      obtain ⟨r', ⟨A, c, hb, ho, hr'⟩, hkp, hfr⟩ := hWr
      have Hr' := Lib.hid hr'
      clear hr'
      have hc := hb.cell 0
      have hz := hb.frozen 0
      have hlt := hb.lt
      simp only [List.getElem?_toArray, List.getElem?_cons_zero] at hc
      rw [show ((k + 1 : Nat) : Int) - 1 = (k : Int) by omega]
      have e1 : IntKind.u64.wrap (x : Int) = x := IntWalk.u64_in _ (by have := Hx.out; omega)
      have e2 : IntKind.i64.wrap (8 * (k : Int)) = 8 * (k : Int) := IntWalk.i64_in _ (by omega)
      have e3 : (0 : Int) ≤ 8 * (k : Int) := by omega
      have e4 : 8 * (k : Int) ≤ 64 := by omega
      have e5 : (8 * (k : Int)).toNat = 8 * k := by omega
      have hne : some g ≠ (Value.slice A cs.length c).ownBlock := by
        have := own_blk_ne ho hb (by decide)
        exact fun h => this h.symm
      go_wp2
      go_region_law ((refine step_append_any _ rfl (.tmp 17) (.tmp 23) 22 rfl 0 5 i0 (.int .u8 0) 1 1 Tryz.underlying22 hi hz0 hz1 hz2 rfl (by decide) (.slice A cs.length c) cs.length (cs.map bv) rfl (ho.alloc _) (some ⟨wr.heap.size, 0, none⟩) 1 1 _ rfl (Rd.one_new _ _ _) (one_value _ rfl) H63.out H47.out (Nat.zero_le _) ?_; intro A' c' w1 hown hgrow hat; have hc1 := hgrow.cell (a := ⟨g, 0, none⟩) (v := .slice A cs.length c) (by simp [hc, World.cell?_alloc_lt, hb.lt]) hne; have hz1 : w1.frozen? ⟨g, 0, none⟩ = false := (World.frozen?_of_block (hgrow.block g (by simp; have := hb.lt; omega) hne)).trans (by simp [hz, World.frozen?_alloc_past, hb.lt])))
      all_goals
        have hst := Wr.put hb ho ((Kp.refl _ _).alloc _).drew (news := [UInt8.ofNat (x / 256 ^ k)]) (m := 1) rfl (by rw [shr_byte]; rfl) hown hgrow hat
        have Hst := Lib.hid (WStep.trans hkp (Hr'.out ▸ hfr) hst)
        clear hst hown hgrow hat hc hz hc1 hz1 hb ho hne
        go_wp2
        go_roundw
        case rel =>
          refine ⟨k, by omega, by go_num, ?_⟩
          have hfin : cs ++ [UInt8.ofNat (x / 256 ^ k)] = bs ++ (be 8 x).take (8 - k) := by
            rw [← Hcs.out, List.append_assoc, ← be_take_succ _ _ _ (by omega)]
          exact hfin ▸ Hst.out
        case measure => simp [intOf]
    · obtain rfl : m = 0 := by omega
      rw [take_done] at hWr
      go_wp2
      go_end0
      exact ⟨rfl, hWr⟩
theorem put64_any (w : World) (g : Nat) (r : Option Nat) (bs : List UInt8) (n : Int) (h0 : 0 ≤ n) (h1 : n ≤ 18446744073709551615) (hW : Wr w g r bs) (hl : bs.length ≤ 1099511627776) :
    Calls Tryz.prog 52 #[.pointer (some ⟨g, 0, none⟩), .int .u64 n] w fun e w' => e = .returned (.tuple #[]) ∧ WStep w g r w' (bs ++ be 8 n.toNat) := by
  obtain ⟨x, rfl⟩ := Int.eq_ofNat_of_zero_le h0
  rw [Int.toNat_natCast]
  exact put64_nat w g r bs x h1 hW hl

end Go.Proofs.YtnaolhjbapgjgaaGreat
