import Derived.Test.YtmmjcbbogokmfaaGreatDoorMn41
import Derived.Test.YtmmjcbbogokmfaaGreatDoorMn43
/- Contract of docketlaw9.nested. -/
namespace Go.Proofs.YtmmjcbbogokmfaaGreatDoor
open Go.RowKit

def nestL (op cl : ByteArray) (n m : Nat) : List UInt8 := pre9 ++ (reps (sb op) n ++ (48 :: reps (sb cl) m))
/-- bytes that a call has made -/
structure NsO (w : World) (l : List UInt8) (v : Value) (W : World) : Prop where
  ho : Old w W
  own : ∃ A c, v = .slice A l.length c ∧ W.ownsRow w.heap.size 5 1 (.slice A l.length c) l.length (l.map bv)
theorem NsO.grow {w W W1 W2 : World} {l : List UInt8} {A B : Option Addr} {n c d : Nat} (ho : Old w W) (ho1 : Old W W1) (hown : W1.ownsRow w.heap.size 5 1 (.slice A n c) n (l.map bv)) (hg : W1.grownBy W2 (A.map (·.block))) {m : Nat} {xs : List UInt8} (h2 : W2.ownsRow w.heap.size 5 1 (.slice B m d) m (xs.map bv)) (hm : xs.length = m) : NsO w xs (.slice B m d) W2 := by
  subst hm
  refine ⟨Kp.grown (ho.trans ho1 (fun _ _ e => e)) hg (fun b e hb => ?_), B, d, rfl, h2⟩
  have h1 := (own_ge hown e).1
  omega
theorem NsO.full {w W W1 : World} {l : List UInt8} {B : Option Addr} {m d : Nat} (ho : Old w W) (ho1 : Old W W1) (h2 : W1.ownsRow w.heap.size 5 1 (.slice B m d) m (l.map bv)) (hm : l.length = m) : NsO w l (.slice B m d) W1 := by
  subst hm
  exact ⟨ho.trans ho1 (fun _ _ e => e), B, d, rfl, h2⟩
theorem nest_0 (x : List UInt8) : pre9 ++ x = pre9 ++ reps x (0 + 1) := by rw [reps, reps, List.append_nil]
theorem nest_j (x : List UInt8) (j : Nat) : (pre9 ++ reps x j) ++ x = pre9 ++ reps x (j + 1) := by rw [List.append_assoc, reps_snoc]; rfl
theorem nest_m (l x : List UInt8) (j : Nat) : (l ++ reps x j) ++ x = l ++ reps x (j + 1) := by rw [List.append_assoc, reps_snoc]; rfl
theorem nestN_len (x : List UInt8) (j : Nat) : (pre9 ++ reps x j).length = 32 + j * x.length := by rw [List.length_append, reps_len]; rfl
set_option maxRecDepth 100000 in
set_option maxHeartbeats 6400000 in
theorem nested_zero (w : World) (n m : Nat) (hn : n ≤ 30000) (hm : m ≤ 30000) (op cl : ByteArray) (h1 : 0 < op.size) (h4 : op.size ≤ 4) (hc : cl.size ≤ 4) (hz : n = 0) :
    Calls Tryz.prog 33 #[.int .i64 (n : Int), .int .i64 (m : Int), .string op, .string cl] w fun e w' => ∃ v, e = .returned v ∧ NsO w (nestL op cl n m) v w' := by
  obtain ⟨i0, hi, hz0, hz1, hz2⟩ := info_parts Tryz.infoB
  have hc0 := Lib.run_convert_bytes_const (P := Tryz.prog) w 33 5 #[.int .u8 116, .int .u8 121, .int .u8 112, .int .u8 101, .int .u8 32, .int .u8 97, .int .u8 123, .int .u8 109, .int .u8 105, .int .u8 108, .int .u8 101, .int .u8 115, .int .u8 116, .int .u8 111, .int .u8 110, .int .u8 101, .int .u8 32, .int .u8 97, .int .u8 32, .int .u8 114, .int .u8 101, .int .u8 97, .int .u8 99, .int .u8 104, .int .u8 101, .int .u8 100, .int .u8 32, .int .u8 119, .int .u8 104, .int .u8 101, .int .u8 110, .int .u8 32] 32 32 Tryz.underlying33 Tryz.underlying5
  have HR0 := Lib.hid (rd_new w 5 (32, 33) (pre9.map bv) 32 rfl)
  have HO0 := Lib.hid ((Kp.refl NoX w).alloc (.cells #[.int .u8 116, .int .u8 121, .int .u8 112, .int .u8 101, .int .u8 32, .int .u8 97, .int .u8 123, .int .u8 109, .int .u8 105, .int .u8 108, .int .u8 101, .int .u8 115, .int .u8 116, .int .u8 111, .int .u8 110, .int .u8 101, .int .u8 32, .int .u8 97, .int .u8 32, .int .u8 114, .int .u8 101, .int .u8 97, .int .u8 99, .int .u8 104, .int .u8 101, .int .u8 100, .int .u8 32, .int .u8 119, .int .u8 104, .int .u8 101, .int .u8 110, .int .u8 32] 5 (32, 33)))
  have e32 : (32 : Nat) + 1 = 33 := rfl
  have Hop := Lib.hid (sb_length op)
  have Hcl := Lib.hid (sb_length cl)
  have Hn := Lib.hid hn
  have Hm := Lib.hid hm
  have H1 := Lib.hid h1
  have H4 := Lib.hid h4
  have Hc := Lib.hid hc
  have Hz := Lib.hid hz
  have Hres := Lib.hid (show nestL op cl n m = pre9 ++ reps (sb op) n ++ [48] ++ reps (sb cl) m by unfold nestL; simp only [List.append_assoc, List.cons_append, List.nil_append])
  generalize nestL op cl n m = R at *
  clear hn hm h1 h4 hc hz
  go_enter Tryz.func33, Tryz.ntmps33
  go_wp2_with fail
  go_loopw [9, 10] (fun v i wr => ∃ j : Nat, j ≤ n ∧ i = .int .i64 (j : Int) ∧ ((j = 0 ∧ v = .slice (some ⟨w.heap.size, 0, none⟩) 32 32 ∧ Rd wr 1 (some ⟨w.heap.size, 0, none⟩) 32 (pre9.map bv) ∧ Old w wr) ∨ (0 < j ∧ NsO w (pre9 ++ reps (sb op) j) v wr))) (fun _ i _ => n - (intOf i).toNat)
  case atStart => exact ⟨0, Nat.zero_le _, rfl, .inl ⟨rfl, rfl, HR0.out, HO0.out⟩⟩
  case round =>
    clear HR0 HO0
    obtain ⟨j, hj, rfl, hv⟩ := hrel
    by_cases hlt : j < n
    · have b1 : (0 : Int) ≤ (j : Int) := by omega
      have b3 : (j : Int) < (n : Int) := by omega
      have b4 : IntKind.i64.wrap ((j : Int) + 1) = (j : Int) + 1 := IntWalk.i64_in _ (by have := Hn.out; omega)
      rcases hv with ⟨rfl, rfl, hr, ho⟩ | ⟨hjp, ho, A, c, rfl, hown⟩
      · have Hr := Lib.hid hr
        have Ho := Lib.hid ho
        have J63 := Lib.hid (show 32 + op.size ≤ maxLen by have := H4.out; unfold maxLen; omega)
        have J47 := Lib.hid (show 32 + op.size ≤ 140737488355328 by have := H4.out; omega)
        clear hr ho
        go_wp2_with (first | (at_builtin; refine wpList_full_str _ rfl (.tmp 19) (.tmp 20) 33 9 rfl w.heap.size 5 i0 Tryz.underlying33 Tryz.underlying9 hi hz0 hz1 hz2 ⟨w.heap.size, 0, none⟩ 32 (pre9.map bv) rfl Hr.out op rfl H1.out J63.out J47.out Ho.out.size ?_; intro A' c' w' hown hof; rw [← List.map_append, nest_0] at hown; have HN := Lib.hid (NsO.full Ho.out hof hown (by rw [← nest_0, List.length_append, Hop.out]; rfl)); clear hown hof) | fail)
        exact ⟨⟨0 + 1, by omega, rfl, .inr ⟨by omega, HN.out⟩⟩, by simp only [intOf]; omega⟩
      · have Hw := Lib.hid hown
        have Ho := Lib.hid ho
        have hl : (pre9 ++ reps (sb op) j).length = 32 + j * op.size := by rw [nestN_len, Hop.out]
        have q3 : j * op.size ≤ 30000 * 4 := Nat.mul_le_mul (by have := Hn.out; omega) H4.out
        have J63 := Lib.hid (show (pre9 ++ reps (sb op) j).length + op.size ≤ maxLen by have := H4.out; rw [hl]; unfold maxLen; omega)
        have J47 := Lib.hid (show (pre9 ++ reps (sb op) j).length + op.size ≤ 140737488355328 by have := H4.out; rw [hl]; omega)
        have HJ := Lib.hid (nest_j (sb op) j)
        clear hown ho hl q3 hjp
        generalize pre9 ++ reps (sb op) j = lj at *
        go_wp2_with (first | (at_builtin; refine wpList_append_str _ rfl (.tmp 19) (.tmp 20) 33 9 rfl w.heap.size 5 i0 Tryz.underlying33 Tryz.underlying9 hi hz0 hz1 hz2 (.slice A lj.length c) lj.length (lj.map bv) rfl Hw.out op rfl J63.out J47.out Ho.out.size ?_; intro A' c' w' hown hgrow hat; rw [ownBlock_slice] at hgrow; rw [← List.map_append, HJ.out] at hown; have HN := Lib.hid (NsO.grow Ho.out (Kp.refl NoX _) Hw.out hgrow hown (by rw [← HJ.out, List.length_append, Hop.out])); clear hown hgrow hat) | fail)
        exact ⟨⟨j + 1, by omega, by rw [show ((j + 1 : Nat) : Int) = (j : Int) + 1 by omega], .inr ⟨by omega, HN.out⟩⟩, by simp only [intOf]; omega⟩
    · obtain rfl : j = n := by omega
      have HLJ := Lib.hid (show (pre9 ++ reps (sb op) j ++ [48]).length = 33 + j * op.size by rw [List.length_append, nestN_len, Hop.out]; simp only [List.length_singleton]; omega)
      obtain ⟨_, rfl, hr, ho⟩ := hv.resolve_right (fun e => by have := Hz.out; omega)
      have Hr := Lib.hid hr
      have Ho := Lib.hid ho
      have J63 := Lib.hid (show 32 + 1 ≤ maxLen by unfold maxLen; omega)
      have J47 := Lib.hid (show 32 + 1 ≤ 140737488355328 by omega)
      have Hml := Lib.hid (show pre9.map bv ++ [bv 48] = (pre9 ++ reps (sb op) j ++ [48]).map bv by have hj0 := Hz.out; subst hj0; rfl)
      have Hpl := Lib.hid (show (pre9 ++ reps (sb op) j ++ [48]).length = 32 + 1 by have hj0 := Hz.out; subst hj0; rfl)
      clear hr ho hv
      generalize pre9 ++ reps (sb op) j = lj at *
      go_wp2_with (first | (at_builtin; refine wpList_full_any _ rfl (.tmp 22) (.tmp 23) 33 rfl w.heap.size 5 i0 Tryz.underlying33 hi hz0 hz1 hz2 ⟨w.heap.size, 0, none⟩ 32 (pre9.map bv) rfl (Hr.out.alloc _) ⟨_, 0, none⟩ 1 1 [bv 48] rfl (Rd.one_new _ _ _) (by decide) J63.out J47.out (Nat.le_trans Ho.out.size ((Kp.refl NoX _).alloc _).size) ?_; intro A1 c1 w1 hown hof; rw [Hml.out] at hown; have HN0 := Lib.hid (show NsO w (lj ++ [48]) (.slice A1 33 c1) w1 from ⟨(Ho.out.alloc _).trans hof (fun _ _ e => e), A1, c1, by rw [Hpl.out], by rw [Hpl.out]; exact hown⟩); clear hown hof) | fail)
      have Hl48 := Lib.hid (show (lj ++ [48]).length = 33 + j * op.size from HLJ.out)
      generalize lj ++ [48] = l0 at *
      have HN1 := Lib.hid (show NsO w (l0 ++ reps (sb cl) 0) _ w1 from by rw [reps, List.append_nil]; exact HN0.out)
      go_loopw [9, 11] (fun v i wr => ∃ k : Nat, k ≤ m ∧ i = .int .i64 (k : Int) ∧ NsO w (l0 ++ reps (sb cl) k) v wr) (fun _ i _ => m - (intOf i).toNat)
      case atStart => exact ⟨0, Nat.zero_le _, rfl, HN1.out⟩
      case round =>
        clear HN1 HN0
        obtain ⟨k, hk, rfl, ho, A, c, rfl, hown⟩ := hrel
        by_cases hlt2 : k < m
        · have b1 : (0 : Int) ≤ (k : Int) := by omega
          have b3 : (k : Int) < (m : Int) := by omega
          have b4 : IntKind.i64.wrap ((k : Int) + 1) = (k : Int) + 1 := IntWalk.i64_in _ (by have := Hm.out; omega)
          have Hw := Lib.hid hown
          have Hok := Lib.hid ho
          have hl : (l0 ++ reps (sb cl) k).length = 33 + j * op.size + k * cl.size := by rw [List.length_append, Hl48.out, reps_len, Hcl.out]
          have q3 : j * op.size ≤ 30000 * 4 := Nat.mul_le_mul (by have := Hn.out; omega) H4.out
          have q4 : k * cl.size ≤ 30000 * 4 := Nat.mul_le_mul (by have := Hm.out; omega) Hc.out
          have K63 := Lib.hid (show (l0 ++ reps (sb cl) k).length + cl.size ≤ maxLen by have := Hc.out; rw [hl]; unfold maxLen; omega)
          have K47 := Lib.hid (show (l0 ++ reps (sb cl) k).length + cl.size ≤ 140737488355328 by have := Hc.out; rw [hl]; omega)
          clear hown ho hl q3 q4
          have HK := Lib.hid (nest_m l0 (sb cl) k)
          generalize l0 ++ reps (sb cl) k = lk at *
          go_wp2_with (first | (at_builtin; refine wpList_append_str _ rfl (.tmp 30) (.tmp 31) 33 9 rfl w.heap.size 5 i0 Tryz.underlying33 Tryz.underlying9 hi hz0 hz1 hz2 (.slice A lk.length c) lk.length (lk.map bv) rfl Hw.out cl rfl K63.out K47.out Hok.out.size ?_; intro A' c' w' hown hgrow hat; rw [ownBlock_slice] at hgrow; rw [← List.map_append, HK.out] at hown; have HN := Lib.hid (NsO.grow Hok.out (Kp.refl NoX _) Hw.out hgrow hown (by rw [← HK.out, List.length_append, Hcl.out])); clear hown hgrow hat) | fail)
          exact ⟨⟨k + 1, by omega, by rw [show ((k + 1 : Nat) : Int) = (k : Int) + 1 by omega], HN.out⟩, by simp only [intOf]; omega⟩
        · obtain rfl : k = m := by omega
          have HF := Lib.hid (show NsO w R (.slice A (l0 ++ reps (sb cl) k).length c) _ from by rw [Hres.out]; exact ⟨ho, A, c, rfl, hown⟩)
          generalize l0 ++ reps (sb cl) k = lk at *
          clear ho hown
          go_wp2
          go_ret
          exact ⟨_, rfl, HF.out⟩
set_option maxRecDepth 100000 in
set_option maxHeartbeats 6400000 in
theorem nested_pos (w : World) (n m : Nat) (hn : n ≤ 30000) (hm : m ≤ 30000) (op cl : ByteArray) (h1 : 0 < op.size) (h4 : op.size ≤ 4) (hc : cl.size ≤ 4) (hz : 0 < n) :
    Calls Tryz.prog 33 #[.int .i64 (n : Int), .int .i64 (m : Int), .string op, .string cl] w fun e w' => ∃ v, e = .returned v ∧ NsO w (nestL op cl n m) v w' := by
  obtain ⟨i0, hi, hz0, hz1, hz2⟩ := info_parts Tryz.infoB
  have hc0 := Lib.run_convert_bytes_const (P := Tryz.prog) w 33 5 #[.int .u8 116, .int .u8 121, .int .u8 112, .int .u8 101, .int .u8 32, .int .u8 97, .int .u8 123, .int .u8 109, .int .u8 105, .int .u8 108, .int .u8 101, .int .u8 115, .int .u8 116, .int .u8 111, .int .u8 110, .int .u8 101, .int .u8 32, .int .u8 97, .int .u8 32, .int .u8 114, .int .u8 101, .int .u8 97, .int .u8 99, .int .u8 104, .int .u8 101, .int .u8 100, .int .u8 32, .int .u8 119, .int .u8 104, .int .u8 101, .int .u8 110, .int .u8 32] 32 32 Tryz.underlying33 Tryz.underlying5
  have HR0 := Lib.hid (rd_new w 5 (32, 33) (pre9.map bv) 32 rfl)
  have HO0 := Lib.hid ((Kp.refl NoX w).alloc (.cells #[.int .u8 116, .int .u8 121, .int .u8 112, .int .u8 101, .int .u8 32, .int .u8 97, .int .u8 123, .int .u8 109, .int .u8 105, .int .u8 108, .int .u8 101, .int .u8 115, .int .u8 116, .int .u8 111, .int .u8 110, .int .u8 101, .int .u8 32, .int .u8 97, .int .u8 32, .int .u8 114, .int .u8 101, .int .u8 97, .int .u8 99, .int .u8 104, .int .u8 101, .int .u8 100, .int .u8 32, .int .u8 119, .int .u8 104, .int .u8 101, .int .u8 110, .int .u8 32] 5 (32, 33)))
  have e32 : (32 : Nat) + 1 = 33 := rfl
  have Hop := Lib.hid (sb_length op)
  have Hcl := Lib.hid (sb_length cl)
  have Hn := Lib.hid hn
  have Hm := Lib.hid hm
  have H1 := Lib.hid h1
  have H4 := Lib.hid h4
  have Hc := Lib.hid hc
  have Hz := Lib.hid hz
  have Hres := Lib.hid (show nestL op cl n m = pre9 ++ reps (sb op) n ++ [48] ++ reps (sb cl) m by unfold nestL; simp only [List.append_assoc, List.cons_append, List.nil_append])
  generalize nestL op cl n m = R at *
  clear hn hm h1 h4 hc hz
  go_enter Tryz.func33, Tryz.ntmps33
  go_wp2_with fail
  go_loopw [9, 10] (fun v i wr => ∃ j : Nat, j ≤ n ∧ i = .int .i64 (j : Int) ∧ ((j = 0 ∧ v = .slice (some ⟨w.heap.size, 0, none⟩) 32 32 ∧ Rd wr 1 (some ⟨w.heap.size, 0, none⟩) 32 (pre9.map bv) ∧ Old w wr) ∨ (0 < j ∧ NsO w (pre9 ++ reps (sb op) j) v wr))) (fun _ i _ => n - (intOf i).toNat)
  case atStart => exact ⟨0, Nat.zero_le _, rfl, .inl ⟨rfl, rfl, HR0.out, HO0.out⟩⟩
  case round =>
    clear HR0 HO0
    obtain ⟨j, hj, rfl, hv⟩ := hrel
    by_cases hlt : j < n
    · have b1 : (0 : Int) ≤ (j : Int) := by omega
      have b3 : (j : Int) < (n : Int) := by omega
      have b4 : IntKind.i64.wrap ((j : Int) + 1) = (j : Int) + 1 := IntWalk.i64_in _ (by have := Hn.out; omega)
      rcases hv with ⟨rfl, rfl, hr, ho⟩ | ⟨hjp, ho, A, c, rfl, hown⟩
      · have Hr := Lib.hid hr
        have Ho := Lib.hid ho
        have J63 := Lib.hid (show 32 + op.size ≤ maxLen by have := H4.out; unfold maxLen; omega)
        have J47 := Lib.hid (show 32 + op.size ≤ 140737488355328 by have := H4.out; omega)
        clear hr ho
        go_wp2_with (first | (at_builtin; refine wpList_full_str _ rfl (.tmp 19) (.tmp 20) 33 9 rfl w.heap.size 5 i0 Tryz.underlying33 Tryz.underlying9 hi hz0 hz1 hz2 ⟨w.heap.size, 0, none⟩ 32 (pre9.map bv) rfl Hr.out op rfl H1.out J63.out J47.out Ho.out.size ?_; intro A' c' w' hown hof; rw [← List.map_append, nest_0] at hown; have HN := Lib.hid (NsO.full Ho.out hof hown (by rw [← nest_0, List.length_append, Hop.out]; rfl)); clear hown hof) | fail)
        exact ⟨⟨0 + 1, by omega, rfl, .inr ⟨by omega, HN.out⟩⟩, by simp only [intOf]; omega⟩
      · have Hw := Lib.hid hown
        have Ho := Lib.hid ho
        have hl : (pre9 ++ reps (sb op) j).length = 32 + j * op.size := by rw [nestN_len, Hop.out]
        have q3 : j * op.size ≤ 30000 * 4 := Nat.mul_le_mul (by have := Hn.out; omega) H4.out
        have J63 := Lib.hid (show (pre9 ++ reps (sb op) j).length + op.size ≤ maxLen by have := H4.out; rw [hl]; unfold maxLen; omega)
        have J47 := Lib.hid (show (pre9 ++ reps (sb op) j).length + op.size ≤ 140737488355328 by have := H4.out; rw [hl]; omega)
        have HJ := Lib.hid (nest_j (sb op) j)
        clear hown ho hl q3 hjp
        generalize pre9 ++ reps (sb op) j = lj at *
        go_wp2_with (first | (at_builtin; refine wpList_append_str _ rfl (.tmp 19) (.tmp 20) 33 9 rfl w.heap.size 5 i0 Tryz.underlying33 Tryz.underlying9 hi hz0 hz1 hz2 (.slice A lj.length c) lj.length (lj.map bv) rfl Hw.out op rfl J63.out J47.out Ho.out.size ?_; intro A' c' w' hown hgrow hat; rw [ownBlock_slice] at hgrow; rw [← List.map_append, HJ.out] at hown; have HN := Lib.hid (NsO.grow Ho.out (Kp.refl NoX _) Hw.out hgrow hown (by rw [← HJ.out, List.length_append, Hop.out])); clear hown hgrow hat) | fail)
        exact ⟨⟨j + 1, by omega, by rw [show ((j + 1 : Nat) : Int) = (j : Int) + 1 by omega], .inr ⟨by omega, HN.out⟩⟩, by simp only [intOf]; omega⟩
    · obtain rfl : j = n := by omega
      have HLJ := Lib.hid (show (pre9 ++ reps (sb op) j ++ [48]).length = 33 + j * op.size by rw [List.length_append, nestN_len, Hop.out]; simp only [List.length_singleton]; omega)
      obtain ⟨hjp, ho, A, c, rfl, hown⟩ := hv.resolve_left (fun e => by have := Hz.out; omega)
      have Hw := Lib.hid hown
      have Ho := Lib.hid ho
      have hl : (pre9 ++ reps (sb op) j).length = 32 + j * op.size := by rw [nestN_len, Hop.out]
      have q3 : j * op.size ≤ 30000 * 4 := Nat.mul_le_mul (by have := Hn.out; omega) H4.out
      have J63 := Lib.hid (show (pre9 ++ reps (sb op) j).length + 1 ≤ maxLen by rw [hl]; unfold maxLen; omega)
      have J47 := Lib.hid (show ((pre9 ++ reps (sb op) j).length + 1) * 1 ≤ 140737488355328 by rw [hl]; omega)
      have Hml := Lib.hid (show (pre9 ++ reps (sb op) j).map bv ++ [bv 48] = (pre9 ++ reps (sb op) j ++ [48]).map bv by rw [List.map_append (l₂ := [48])]; rfl)
      clear hown ho hl q3 hjp hv
      generalize pre9 ++ reps (sb op) j = lj at *
      go_wp2_with (first | (at_builtin; refine wpList_append_any _ rfl (.tmp 22) (.tmp 23) 33 rfl w.heap.size 5 i0 (.int .u8 0) 1 1 Tryz.underlying33 hi hz0 hz1 hz2 rfl (by decide) (.slice A lj.length c) lj.length (lj.map bv) rfl (own_kp Hw.out ((Kp.refl NoX _).alloc _) (fun _ _ e => e)) _ 1 1 [bv 48] rfl (Rd.one_new _ _ _) (one_value _ rfl) J63.out J47.out (Nat.le_trans Ho.out.size ((Kp.refl NoX _).alloc _).size) ?_; intro A1 c1 w1 hown hgrow hat; rw [ownBlock_slice] at hgrow; rw [Hml.out] at hown; have HN0 := Lib.hid (NsO.grow Ho.out ((Kp.refl NoX _).alloc _) (own_kp Hw.out ((Kp.refl NoX _).alloc _) (fun _ _ e => e)) hgrow hown (by rw [List.length_append]; rfl)); clear hown hgrow hat) | fail)
      have Hl48 := Lib.hid (show (lj ++ [48]).length = 33 + j * op.size from HLJ.out)
      generalize lj ++ [48] = l0 at *
      have HN1 := Lib.hid (show NsO w (l0 ++ reps (sb cl) 0) _ w1 from by rw [reps, List.append_nil]; exact HN0.out)
      go_loopw [9, 11] (fun v i wr => ∃ k : Nat, k ≤ m ∧ i = .int .i64 (k : Int) ∧ NsO w (l0 ++ reps (sb cl) k) v wr) (fun _ i _ => m - (intOf i).toNat)
      case atStart => exact ⟨0, Nat.zero_le _, rfl, HN1.out⟩
      case round =>
        clear HN1 HN0
        obtain ⟨k, hk, rfl, ho, A, c, rfl, hown⟩ := hrel
        by_cases hlt2 : k < m
        · have b1 : (0 : Int) ≤ (k : Int) := by omega
          have b3 : (k : Int) < (m : Int) := by omega
          have b4 : IntKind.i64.wrap ((k : Int) + 1) = (k : Int) + 1 := IntWalk.i64_in _ (by have := Hm.out; omega)
          have Hw := Lib.hid hown
          have Hok := Lib.hid ho
          have hl : (l0 ++ reps (sb cl) k).length = 33 + j * op.size + k * cl.size := by rw [List.length_append, Hl48.out, reps_len, Hcl.out]
          have q3 : j * op.size ≤ 30000 * 4 := Nat.mul_le_mul (by have := Hn.out; omega) H4.out
          have q4 : k * cl.size ≤ 30000 * 4 := Nat.mul_le_mul (by have := Hm.out; omega) Hc.out
          have K63 := Lib.hid (show (l0 ++ reps (sb cl) k).length + cl.size ≤ maxLen by have := Hc.out; rw [hl]; unfold maxLen; omega)
          have K47 := Lib.hid (show (l0 ++ reps (sb cl) k).length + cl.size ≤ 140737488355328 by have := Hc.out; rw [hl]; omega)
          clear hown ho hl q3 q4
          have HK := Lib.hid (nest_m l0 (sb cl) k)
          generalize l0 ++ reps (sb cl) k = lk at *
          go_wp2_with (first | (at_builtin; refine wpList_append_str _ rfl (.tmp 30) (.tmp 31) 33 9 rfl w.heap.size 5 i0 Tryz.underlying33 Tryz.underlying9 hi hz0 hz1 hz2 (.slice A lk.length c) lk.length (lk.map bv) rfl Hw.out cl rfl K63.out K47.out Hok.out.size ?_; intro A' c' w' hown hgrow hat; rw [ownBlock_slice] at hgrow; rw [← List.map_append, HK.out] at hown; have HN := Lib.hid (NsO.grow Hok.out (Kp.refl NoX _) Hw.out hgrow hown (by rw [← HK.out, List.length_append, Hcl.out])); clear hown hgrow hat) | fail)
          exact ⟨⟨k + 1, by omega, by rw [show ((k + 1 : Nat) : Int) = (k : Int) + 1 by omega], HN.out⟩, by simp only [intOf]; omega⟩
        · obtain rfl : k = m := by omega
          have HF := Lib.hid (show NsO w R (.slice A (l0 ++ reps (sb cl) k).length c) _ from by rw [Hres.out]; exact ⟨ho, A, c, rfl, hown⟩)
          generalize l0 ++ reps (sb cl) k = lk at *
          clear ho hown
          go_wp2
          go_ret
          exact ⟨_, rfl, HF.out⟩
theorem nested_any (w : World) (n m : Nat) (hn : n ≤ 30000) (hm : m ≤ 30000) (op cl : ByteArray) (h1 : 0 < op.size) (h4 : op.size ≤ 4) (hc : cl.size ≤ 4) :
    Calls Tryz.prog 33 #[.int .i64 (n : Int), .int .i64 (m : Int), .string op, .string cl] w fun e w' => ∃ v, e = .returned v ∧ NsO w (nestL op cl n m) v w' := by
  rcases Nat.eq_zero_or_pos n with h | h
  · exact nested_zero w n m hn hm op cl h1 h4 hc h
  · exact nested_pos w n m hn hm op cl h1 h4 hc h
end Go.Proofs.YtmmjcbbogokmfaaGreatDoor

/- Contract of docketlaw9.ended: what Finish answers hangs on the bytes alone. -/
namespace Go.Proofs.YtmmjcbbogokmfaaGreatDoor
open Go.RowKit

/-- what Finish tells, in one word -/
def finB (l : List UInt8) : List UInt8 := (finishN l).getD []
def finK (l : List UInt8) : Bool := (finishN l).isSome
def FinW (w : World) (l : List UInt8) (e : Ending) (w' : World) : Prop := ∃ A c, e = .returned (.tuple #[.slice A (finB l).length c, .bool (finK l)]) ∧ Rd w' 1 A (finB l).length ((finB l).map bv) ∧ (finB l).length ≤ 9223372036854775807 ∧ Old w w'
theorem own_max {w : World} {base : Nat} {T : TypeId} {A : Option Addr} {n c : Nat} {xs : List Value} (h : w.ownsRow base T 1 (.slice A n c) n xs) : n ≤ 9223372036854775807 := by
  rcases h.2 with ⟨_, h0⟩ | ⟨g, cap, cur, _, _, _, h1, h2, _⟩
  · omega
  · have : maxLen = 9223372036854775807 := by decide
    omega
theorem fin9_any (w : World) (hg : Sg w) (h8 : 8 ≤ w.heap.size) (A : Option Addr) (n c : Nat) (l : List UInt8) (hr : Rd w 1 A n (l.map bv)) : Calls Tryz.prog 27 #[.slice A n c] w (FinW w l) := by
  refine (finish_any w hg h8 A n c l hr).mono ?_
  intro e w' h
  unfold FinW finB finK
  unfold FinT at h
  cases hf : finishN l with
  | none =>
    rw [hf] at h
    exact ⟨none, 0, h.1, Rd.none_, by decide, h.2⟩
  | some r =>
    rw [hf] at h
    obtain ⟨A, c, he, hown, ho⟩ := h
    exact ⟨A, c, he, Rd.of_own hown, own_max hown, ho⟩
theorem beq_self_bool (b : Bool) : (b == b) = true := by cases b <;> rfl
set_option maxRecDepth 100000 in
set_option maxHeartbeats 6400000 in
theorem ended_any (w : World) (hg : Sg w) (h8 : 8 ≤ w.heap.size) (g : Nat) (B : Option Addr) (d : Nat) (l : List UInt8) (hb : Blk w g 5 (roomV (l.map bv) (.int .u8 219)).toArray) (hr : Rd w 1 B l.length (l.map bv)) (hl : l.length ≤ 100000000) :
    Calls Tryz.prog 42 #[.slice (some ⟨g, 0, none⟩) (l.length + 80) (l.length + 80), .slice B l.length d] w fun e w' => e = .returned (.bool true) ∧ Old w w' := by
  obtain ⟨i0, hi, hz0, hz1, hz2⟩ := info_parts Tryz.infoB
  have hpre := roomV_rd hb
  rw [List.length_map] at hpre
  have hsl := fun W => cut_h (P := Tryz.prog) Tryz.elemB Tryz.sizeEB (some ⟨g, 0, none⟩) (l.length + 80) (l.length + 80) l.length .i64 (l.length : Int) rfl (by omega) W
  have HF := Lib.hid (fun W (hO : Old w W) => fin9_any W (hg.old hO) (Nat.le_trans h8 hO.size) (some ⟨g, 0, none⟩) l.length (l.length + 80) l (hpre.old hO))
  have HC := Lib.hid (fun W (hO : Old w W) A c (hx : Rd W 1 A l.length (l.map bv)) => fin9_any W (hg.old hO) (Nat.le_trans h8 hO.size) A l.length c l hx)
  have HI := Lib.hid (fun W (hO : Old w W) => intactB W g B d l (hb.old hO) (hr.old hO) (by omega))
  have HSm := Lib.hid (fun W A c A2 c2 (hx : Rd W 1 A (finB l).length ((finB l).map bv)) (hy : Rd W 1 A2 (finB l).length ((finB l).map bv)) (hn : (finB l).length ≤ 9223372036854775807) => same9_any W A A2 _ c c2 (finB l) rfl hx hy hn)
  have Hr := Lib.hid hr
  have Hone := Lib.hid (one_bytes l)
  have J63 := Lib.hid (show 0 + l.length ≤ maxLen by unfold maxLen; omega)
  have J47 := Lib.hid (show (0 + l.length) * 1 ≤ 140737488355328 by omega)
  have hbq := beq_self_bool (finK l)
  clear hg h8 hb hr hpre hl
  unfold FinW at HF HC
  generalize finB l = R at *
  generalize finK l = ok at *
  go_enter Tryz.func42, Tryz.ntmps42
  go_wp2_with (first | (go_at_call 112; refine (HI.out _ HO6.out).mono ?_; rintro e w7 ⟨rfl, ho⟩; have HO7 := Lib.hid (HO6.out.trans ho (fun _ _ e => e)); clear ho) | (go_at_call 16; refine (HSm.out _ _ _ _ _ (HX1.out.old O15.out) (HX3.out.old O35.out) HN.out).mono ?_; rintro e w6 ⟨rfl, ho⟩; have HO6 := Lib.hid (HO5.out.trans ho (fun _ _ e => e)); clear ho) | (go_at_call 16; refine (HSm.out _ _ _ _ _ (HX1.out.old O14.out) (HX2.out.old O24.out) HN.out).mono ?_; rintro e w5 ⟨rfl, ho⟩; have HO5 := Lib.hid (HO4.out.trans ho (fun _ _ e => e)); have O15 := Lib.hid (O14.out.trans ho (fun _ _ e => e)); have O35 := Lib.hid (ho : Old w4 w5); clear ho) | (go_at_call 27; refine (HF.out _ HO3.out).mono ?_; rintro e w4 ⟨A4, c4, rfl, hx, _, ho⟩; have HX3 := Lib.hid hx; have HO4 := Lib.hid (HO3.out.trans ho (fun _ _ e => e)); have O14 := Lib.hid (O13.out.trans ho (fun _ _ e => e)); have O24 := Lib.hid (ho : Old w3 w4); clear hx ho) | (go_at_call 27; refine (HC.out _ HOA.out _ _ (Rd.of_own HOwn.out)).mono ?_; rintro e w3 ⟨A3, c3, rfl, hx, _, ho⟩; have HX2 := Lib.hid hx; have HO3 := Lib.hid (HOA.out.trans ho (fun _ _ e => e)); have O13 := Lib.hid (O1A.out.trans ho (fun _ _ e => e)); clear hx ho) | (at_builtin; refine wpList_append_any _ rfl (.const (.slice none 0 0)) (.tmp 24) 33 rfl w2.heap.size 5 i0 (.int .u8 0) 1 1 Tryz.underlying33 hi hz0 hz1 hz2 rfl (by decide) (.slice none 0 0) 0 [] rfl (World.ownsRow_nil _ _ _ _) B l.length d (l.map bv) rfl (Hr.out.old HO2.out) Hone.out J63.out J47.out (Nat.le_refl _) ?_; intro Ac cc wa hown hgrow hat; rw [Nat.zero_add, List.nil_append] at hown; rw [Nat.zero_add]; have hoa : Old w2 wa := Kp.grown (Kp.refl _ _) hgrow (fun _ e _ => by cases e); have HOwn := Lib.hid hown; have HOA := Lib.hid (HO2.out.trans hoa (fun _ _ e => e)); have O1A := Lib.hid (O12.out.trans hoa (fun _ _ e => e)); clear hown hgrow hat hoa) | (go_at_call 112; refine (HI.out _ HO1.out).mono ?_; rintro e w2 ⟨rfl, ho⟩; have HO2 := Lib.hid (HO1.out.trans ho (fun _ _ e => e)); have O12 := Lib.hid (ho : Old w1 w2); clear ho) | (go_at_call 27; refine (HF.out _ (Kp.refl _ _)).mono ?_; rintro e w1 ⟨A1, c1, rfl, hx, hn, ho⟩; have HX1 := Lib.hid hx; have HN := Lib.hid hn; have HO1 := Lib.hid ho; clear hx ho hn) | fail)
  go_ret
  exact ⟨rfl, HO7.out⟩
end Go.Proofs.YtmmjcbbogokmfaaGreatDoor
