/- Contracts of octet's Writer: New, bound, Len, All, Flag, Bytes, Text. -/
import Derived.Test.YtnaolhjbapgjgaaGreatOctPut
namespace Go.Proofs.YtnaolhjbapgjgaaGreat
open Go.RowKit
attribute [local go_sem ↓] Go.wp_at_zero Go.wp_at_succ

theorem Tryz.zeroWriter (w : World) : (zeroValue 132).run Tryz.prog w = .ok (.agg #[.slice none 0 0]) w := by kernel_rfl

theorem ret_eq {a b : Value} (h : a = b) : Ending.returned a = .returned b := by rw [h]
set_option maxHeartbeats 400000 in
theorem new_any (w : World) :
    Calls Tryz.prog 18 #[] w fun e w' => e = .returned (.pointer (some ⟨w.heap.size, 0, none⟩)) ∧ Wr w' w.heap.size none [] ∧ Old w w' := by
  go_enter Tryz.func18, Tryz.ntmps18
  go_wp2
  go_ret
  refine ⟨rfl, ⟨none, 0, Blk.new _ _ _, World.ownsRow_nil _ _ _ _, rfl⟩, (Kp.refl _ _).alloc _⟩

set_option maxHeartbeats 400000 in
theorem bound_any (most own : Int) (w : World) (h0 : 0 ≤ most) :
    Calls Tryz.prog 101 #[.int .i64 most, .int .i64 own] w fun e w' => e = .returned (.int .i64 (min most own)) ∧ w = w' := by
  go_enter Tryz.func101, Tryz.ntmps101
  go_wp2
  all_goals
    go_ret
    exact ⟨ret_eq (int_eq (by omega)), rfl⟩

set_option maxHeartbeats 400000 in
theorem len_any (w : World) (g : Nat) (r : Option Nat) (bs : List UInt8) (hW : Wr w g r bs) :
    Calls Tryz.prog 23 #[.pointer (some ⟨g, 0, none⟩)] w fun e w' => e = .returned (.int .i64 bs.length) ∧ w = w' := by
  obtain ⟨A, c, hb, ho, hr⟩ := hW
  have hc := hb.cell 0
  simp only [List.getElem?_toArray, List.getElem?_cons_zero] at hc
  clear hr
  go_enter Tryz.func23, Tryz.ntmps23
  go_wp2
  go_ret
  exact ⟨rfl, rfl⟩

set_option maxHeartbeats 400000 in
theorem all_any (w : World) (g : Nat) (r : Option Nat) (bs : List UInt8) (hW : Wr w g r bs) (hl : bs.length ≤ 1099511627776) :
    Calls Tryz.prog 24 #[.pointer (some ⟨g, 0, none⟩)] w fun e w' =>
      ∃ A c, e = .returned (.slice A bs.length c) ∧ w'.ownsRow w.heap.size 5 1 (.slice A bs.length c) bs.length (bs.map bv) ∧ Old w w' := by
  obtain ⟨A, c, hb, ho, hr⟩ := hW
  have hc := hb.cell 0
  simp only [List.getElem?_toArray, List.getElem?_cons_zero] at hc
  have hrd : Rd w 1 A bs.length (bs.map bv) := Rd.of_own ho
  have H63 := Lib.hid (show 0 + bs.length ≤ maxLen by unfold maxLen; omega)
  have H47 := Lib.hid (show (0 + bs.length) * 1 ≤ 140737488355328 by omega)
  clear hr hl
  obtain ⟨i0, hi, hz0, hz1, hz2⟩ := info_parts Tryz.infoByte
  go_enter Tryz.func24, Tryz.ntmps24
  go_wp2_with (at_builtin; refine wpList_append_any _ rfl (.const (.slice none 0 0)) (.tmp 6) 22 rfl w.heap.size 5 i0 (.int .u8 0) 1 1 Tryz.underlying22 hi hz0 hz1 hz2 rfl (by decide) (.slice none 0 0) 0 [] rfl (World.ownsRow_nil _ _ _ _) A bs.length c (bs.map bv) rfl hrd (one_bytes _) H63.out H47.out (Nat.le_refl _) ?_; intro A' c' w1 hown hgrow hat)
  go_ret
  refine ⟨A', c', ?_, ?_, ?_⟩
  · rfl
  · simpa using hown
  · exact (Kp.refl _ _).grown hgrow (fun k e => by simp [Value.ownBlock] at e)

set_option maxHeartbeats 400000 in
theorem flag_any (w : World) (g : Nat) (r : Option Nat) (bs : List UInt8) (b : Bool) (hW : Wr w g r bs) (hl : bs.length ≤ 1099511627776) :
    Calls Tryz.prog 57 #[.pointer (some ⟨g, 0, none⟩), .bool b] w fun e w' => e = .returned (.tuple #[]) ∧ WStep w g r w' (bs ++ [if b then 1 else 0]) := by
  have Hl := Lib.hid hl
  clear hl
  cases b
  · go_enter Tryz.func57, Tryz.ntmps57
    go_wp2_with (go_at_call 19; refine (put8_any _ g r bs _ (by omega) (by omega) hW Hl.out).mono ?_; rintro e w' ⟨rfl, hw⟩)
    go_end0
    exact ⟨rfl, hw⟩
  · go_enter Tryz.func57, Tryz.ntmps57
    go_wp2_with (go_at_call 19; refine (put8_any _ g r bs _ (by omega) (by omega) hW Hl.out).mono ?_; rintro e w' ⟨rfl, hw⟩)
    go_end0
    exact ⟨rfl, hw⟩

set_option maxRecDepth 100000 in
set_option maxHeartbeats 800000 in
/-- Bytes within its bound: the length in four bytes, and the bytes. -/
theorem bytes_ok (w : World) (g : Nat) (r : Option Nat) (bs : List UInt8) (A : Option Addr) (n c : Nat) (l : List UInt8) (most : Int) (hW : Wr w g r bs) (hl : bs.length ≤ 1000000000000)
    (hrd : Rd w 1 A n (l.map bv)) (hav : Av (WX g r) n A) (hm : (n : Int) ≤ most) (hn : n ≤ 2147483647) :
    Calls Tryz.prog 51 #[.pointer (some ⟨g, 0, none⟩), .slice A n c, .int .i64 most] w fun e w' => e = .returned (.int .i64 0) ∧ WStep w g r w' (bs ++ lp 4 l) := by
  have Hl := Lib.hid hl
  have Hm := Lib.hid (show ¬ (min most 2147483647 < (n : Int)) by omega)
  have H0 := Lib.hid (show 0 ≤ most by omega)
  have hln : l.length = n := by simpa using hrd.1
  have Hln := Lib.hid hln
  clear hl hm hln
  have e32 : IntKind.u32.wrap (n : Int) = n := IntWalk.u32_in _ (by omega)
  obtain ⟨i0, hi, hz0, hz1, hz2⟩ := info_parts Tryz.infoByte
  have hMm := Hm.out
  go_enter Tryz.func51, Tryz.ntmps51
  go_wp2_with fail
  refine (bound_any _ _ _ H0.out).mono ?_
  rintro e w' ⟨rfl, rfl⟩
  go_wp2_with fail
  refine (put32_any _ g r bs _ (by omega) (by omega) hW (Nat.le_trans Hl.out (by decide))).mono ?_
  rintro e w1 ⟨rfl, hw⟩
  clear hMm
  obtain ⟨r1, ⟨A1, c1, hb, ho, hr1⟩, hkp, hfr⟩ := hw
  have hrd1 := hrd.kp hkp hav
  have Hr1 := Lib.hid hr1
  clear hr1
  have hc := hb.cell 0
  have hz := hb.frozen 0
  have hlt := hb.lt
  simp only [List.getElem?_toArray, List.getElem?_cons_zero] at hc
  rw [Int.toNat_natCast] at *
  generalize hcs : bs ++ be 4 n = cs at *
  have hcl : cs.length = bs.length + 4 := by rw [← hcs, List.length_append, be_length]
  have H63 := Lib.hid (show cs.length + n ≤ maxLen by have := Hl.out; unfold maxLen; omega)
  have H47 := Lib.hid (show (cs.length + n) * 1 ≤ 140737488355328 by have := Hl.out; omega)
  have Hcs := Lib.hid hcs
  clear hcs hcl
  have hne : some g ≠ (Value.slice A1 cs.length c1).ownBlock := by
    have := own_blk_ne ho hb (by decide)
    exact fun h => this h.symm
  go_wp2_with (at_builtin; refine wpList_append_any _ rfl (.tmp 21) (.tmp 22) 22 rfl 0 5 i0 (.int .u8 0) 1 1 Tryz.underlying22 hi hz0 hz1 hz2 rfl (by decide) (.slice A1 cs.length c1) cs.length (cs.map bv) rfl ho A n c (l.map bv) rfl hrd1 (one_bytes _) H63.out H47.out (Nat.zero_le _) ?_; intro A' c' w2 hown hgrow hat; have hc1 := hgrow.cell (a := ⟨g, 0, none⟩) hc hne; have hz1 : w2.frozen? ⟨g, 0, none⟩ = false := (World.frozen?_of_block (hgrow.block g hlt hne)).trans hz)
  go_ret
  refine ⟨rfl, WStep.trans hkp (Hr1.out ▸ hfr) ?_⟩
  have hst := Wr.put hb ho (Kp.refl _ _) (news := l) Hln.out rfl hown hgrow hat
  rw [lp, Hln.out, ← List.append_assoc, Hcs.out]
  exact hst

set_option maxHeartbeats 400000 in
theorem bytes_long (w : World) (g : Nat) (A : Option Addr) (n c : Nat) (most : Int) (h0 : 0 ≤ most) (hm : min most 2147483647 < (n : Int)) :
    Calls Tryz.prog 51 #[.pointer (some ⟨g, 0, none⟩), .slice A n c, .int .i64 most] w fun e w' => e = .returned (.int .i64 6) ∧ w = w' := by
  have H0 := Lib.hid h0
  clear h0
  go_enter Tryz.func51, Tryz.ntmps51
  go_wp2_with (go_at_call 101; refine (bound_any _ _ _ H0.out).mono ?_; rintro e w' ⟨rfl, rfl⟩)
  go_ret
  exact ⟨rfl, rfl⟩

set_option maxRecDepth 100000 in
set_option maxHeartbeats 800000 in
/-- Text within its bound: the length in two bytes, and the bytes. -/
theorem text_ok (w : World) (g : Nat) (r : Option Nat) (bs : List UInt8) (s : ByteArray) (most : Int) (hW : Wr w g r bs) (hl : bs.length ≤ 1000000000000)
    (hm : (s.size : Int) ≤ most) (hn : s.size ≤ 65535) :
    Calls Tryz.prog 99 #[.pointer (some ⟨g, 0, none⟩), .string s, .int .i64 most] w fun e w' => e = .returned (.int .i64 0) ∧ WStep w g r w' (bs ++ lp 2 (sb s)) := by
  have Hl := Lib.hid hl
  have Hm := Lib.hid (show ¬ (min most 65535 < (s.size : Int)) by omega)
  have H0 := Lib.hid (show 0 ≤ most by omega)
  clear hl hm
  have e16 : IntKind.u16.wrap (s.size : Int) = s.size := IntWalk.u16_in _ (by omega)
  obtain ⟨i0, hi, hz0, hz1, hz2⟩ := info_parts Tryz.infoByte
  have hMm := Hm.out
  go_enter Tryz.func99, Tryz.ntmps99
  go_wp2_with fail
  refine (bound_any _ _ _ H0.out).mono ?_
  rintro e w' ⟨rfl, rfl⟩
  go_wp2_with fail
  refine (put16_any _ g r bs _ (by omega) (by omega) hW (Nat.le_trans Hl.out (by decide))).mono ?_
  rintro e w1 ⟨rfl, hw⟩
  clear hMm
  obtain ⟨r1, ⟨A1, c1, hb, ho, hr1⟩, hkp, hfr⟩ := hw
  have Hr1 := Lib.hid hr1
  clear hr1
  have hc := hb.cell 0
  have hz := hb.frozen 0
  have hlt := hb.lt
  simp only [List.getElem?_toArray, List.getElem?_cons_zero] at hc
  rw [Int.toNat_natCast] at *
  generalize hcs : bs ++ be 2 s.size = cs at *
  have hcl : cs.length = bs.length + 2 := by rw [← hcs, List.length_append, be_length]
  have H63 := Lib.hid (show cs.length + s.size ≤ maxLen by have := Hl.out; unfold maxLen; omega)
  have H47 := Lib.hid (show cs.length + s.size ≤ 140737488355328 by have := Hl.out; omega)
  have Hcs := Lib.hid hcs
  clear hcs hcl
  have hne : some g ≠ (Value.slice A1 cs.length c1).ownBlock := by
    have := own_blk_ne ho hb (by decide)
    exact fun h => this h.symm
  go_wp2_with (at_builtin; refine wpList_append_str _ rfl (.tmp 21) (.tmp 22) 22 9 rfl 0 5 i0 Tryz.underlying22 Tryz.underlying9 hi hz0 hz1 hz2 (.slice A1 cs.length c1) cs.length (cs.map bv) rfl ho s rfl H63.out H47.out (Nat.zero_le _) ?_; intro A' c' w2 hown hgrow hat; have hc1 := hgrow.cell (a := ⟨g, 0, none⟩) hc hne; have hz1 : w2.frozen? ⟨g, 0, none⟩ = false := (World.frozen?_of_block (hgrow.block g hlt hne)).trans hz)
  go_ret
  refine ⟨rfl, WStep.trans hkp (Hr1.out ▸ hfr) ?_⟩
  have hst := Wr.put hb ho (Kp.refl _ _) (news := sb s) (sb_length s) rfl hown hgrow hat
  rw [lp, sb_length, ← List.append_assoc, Hcs.out]
  exact hst

set_option maxHeartbeats 400000 in
theorem text_long (w : World) (g : Nat) (s : ByteArray) (most : Int) (h0 : 0 ≤ most) (hm : min most 65535 < (s.size : Int)) :
    Calls Tryz.prog 99 #[.pointer (some ⟨g, 0, none⟩), .string s, .int .i64 most] w fun e w' => e = .returned (.int .i64 6) ∧ w = w' := by
  have H0 := Lib.hid h0
  clear h0
  go_enter Tryz.func99, Tryz.ntmps99
  go_wp2_with (go_at_call 101; refine (bound_any _ _ _ H0.out).mono ?_; rintro e w' ⟨rfl, rfl⟩)
  go_ret
  exact ⟨rfl, rfl⟩
end Go.Proofs.YtnaolhjbapgjgaaGreat
