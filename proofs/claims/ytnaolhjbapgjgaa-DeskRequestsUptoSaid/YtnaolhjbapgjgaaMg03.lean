import Derived.Test.YtnaolhjbapgjgaaMg01
import Derived.Test.YtnaolhjbapgjgaaMg02
import Derived.Laws.MakeOwn
import Derived.Laws.OwnMore
import Derived.Deep.MidRow
/- Contracts of octet's Writer: New, bound, Len, All, Flag, Bytes, Text. -/
namespace Go.Proofs.Ytnaolhjbapgjgaa
open Go.RowKit
attribute [local go_sem ↓] Go.wp_at_zero Go.wp_at_succ

theorem Try.zeroWriter (w : World) : (zeroValue 63).run Try.prog w = .ok (.agg #[.slice none 0 0]) w := by kernel_rfl

theorem ret_eq {a b : Value} (h : a = b) : Ending.returned a = .returned b := by rw [h]
set_option maxHeartbeats 400000 in
theorem new_any (w : World) :
    Calls Try.prog 11 #[] w fun e w' => e = .returned (.pointer (some ⟨w.heap.size, 0, none⟩)) ∧ Wr w' w.heap.size none [] ∧ Old w w' := by
  go_enter Try.func11, Try.ntmps11
  go_wp2
  go_ret
  refine ⟨rfl, ⟨none, 0, Blk.new _ _ _, World.ownsRow_nil _ _ _ _, rfl⟩, (Kp.refl _ _).alloc _⟩

set_option maxHeartbeats 400000 in
theorem bound_any (most own : Int) (w : World) (h0 : 0 ≤ most) :
    Calls Try.prog 49 #[.int .i64 most, .int .i64 own] w fun e w' => e = .returned (.int .i64 (min most own)) ∧ w = w' := by
  go_enter Try.func49, Try.ntmps49
  go_wp2
  all_goals
    go_ret
    exact ⟨ret_eq (int_eq (by omega)), rfl⟩

set_option maxHeartbeats 400000 in
theorem len_any (w : World) (g : Nat) (r : Option Nat) (bs : List UInt8) (hW : Wr w g r bs) :
    Calls Try.prog 16 #[.pointer (some ⟨g, 0, none⟩)] w fun e w' => e = .returned (.int .i64 bs.length) ∧ w = w' := by
  obtain ⟨A, c, hb, ho, hr⟩ := hW
  have hc := hb.cell 0
  simp only [List.getElem?_toArray, List.getElem?_cons_zero] at hc
  clear hr
  go_enter Try.func16, Try.ntmps16
  go_wp2
  go_ret
  exact ⟨rfl, rfl⟩

set_option maxHeartbeats 400000 in
theorem all_any (w : World) (g : Nat) (r : Option Nat) (bs : List UInt8) (hW : Wr w g r bs) (hl : bs.length ≤ 1099511627776) :
    Calls Try.prog 17 #[.pointer (some ⟨g, 0, none⟩)] w fun e w' =>
      ∃ A c, e = .returned (.slice A bs.length c) ∧ w'.ownsRow w.heap.size 5 1 (.slice A bs.length c) bs.length (bs.map bv) ∧ Old w w' := by
  obtain ⟨A, c, hb, ho, hr⟩ := hW
  have hc := hb.cell 0
  simp only [List.getElem?_toArray, List.getElem?_cons_zero] at hc
  have hrd : Rd w 1 A bs.length (bs.map bv) := Rd.of_own ho
  have H63 := Lib.hid (show 0 + bs.length ≤ maxLen by unfold maxLen; omega)
  have H47 := Lib.hid (show (0 + bs.length) * 1 ≤ 140737488355328 by omega)
  clear hr hl
  obtain ⟨i0, hi, hz0, hz1, hz2⟩ := info_parts Try.infoByte
  go_enter Try.func17, Try.ntmps17
  go_wp2_with (at_builtin; refine wpList_append_any _ rfl (.const (.slice none 0 0)) (.tmp 6) 27 rfl w.heap.size 5 i0 (.int .u8 0) 1 1 Try.underlying27 hi hz0 hz1 hz2 rfl (by decide) (.slice none 0 0) 0 [] rfl (World.ownsRow_nil _ _ _ _) A bs.length c (bs.map bv) rfl hrd (one_bytes _) H63.out H47.out (Nat.le_refl _) ?_; intro A' c' w1 hown hgrow hat)
  go_ret
  refine ⟨A', c', ?_, ?_, ?_⟩
  · rfl
  · simpa using hown
  · exact (Kp.refl _ _).grown hgrow (fun k e => by simp [Value.ownBlock] at e)

set_option maxHeartbeats 400000 in
theorem flag_any (w : World) (g : Nat) (r : Option Nat) (bs : List UInt8) (b : Bool) (hW : Wr w g r bs) (hl : bs.length ≤ 1099511627776) :
    Calls Try.prog 46 #[.pointer (some ⟨g, 0, none⟩), .bool b] w fun e w' => e = .returned (.tuple #[]) ∧ WStep w g r w' (bs ++ [if b then 1 else 0]) := by
  have Hl := Lib.hid hl
  clear hl
  cases b
  · go_enter Try.func46, Try.ntmps46
    go_wp2_with (go_at_call 12; refine (put8_any _ g r bs _ (by omega) (by omega) hW Hl.out).mono ?_; rintro e w' ⟨rfl, hw⟩)
    go_end0
    exact ⟨rfl, hw⟩
  · go_enter Try.func46, Try.ntmps46
    go_wp2_with (go_at_call 12; refine (put8_any _ g r bs _ (by omega) (by omega) hW Hl.out).mono ?_; rintro e w' ⟨rfl, hw⟩)
    go_end0
    exact ⟨rfl, hw⟩

set_option maxRecDepth 100000 in
set_option maxHeartbeats 800000 in
/-- Bytes within its bound: the length in four bytes, and the bytes. -/
theorem bytes_ok (w : World) (g : Nat) (r : Option Nat) (bs : List UInt8) (A : Option Addr) (n c : Nat) (l : List UInt8) (most : Int) (hW : Wr w g r bs) (hl : bs.length ≤ 1000000000000)
    (hrd : Rd w 1 A n (l.map bv)) (hav : Av (WX g r) n A) (hm : (n : Int) ≤ most) (hn : n ≤ 2147483647) :
    Calls Try.prog 30 #[.pointer (some ⟨g, 0, none⟩), .slice A n c, .int .i64 most] w fun e w' => e = .returned (.int .i64 0) ∧ WStep w g r w' (bs ++ lp 4 l) := by
  have Hl := Lib.hid hl
  have Hm := Lib.hid (show ¬ (min most 2147483647 < (n : Int)) by omega)
  have H0 := Lib.hid (show 0 ≤ most by omega)
  have hln : l.length = n := by simpa using hrd.1
  have Hln := Lib.hid hln
  clear hl hm hln
  have e32 : IntKind.u32.wrap (n : Int) = n := IntWalk.u32_in _ (by omega)
  obtain ⟨i0, hi, hz0, hz1, hz2⟩ := info_parts Try.infoByte
  have hMm := Hm.out
  go_enter Try.func30, Try.ntmps30
  go_wp2_with fail
  refine (bound_any _ _ _ H0.out).mono ?_
  rintro e w' ⟨rfl, rfl⟩
  go_wp2_with fail
  refine (put32_any _ g r bs _ (by omega) (by omega) hW (Nat.le_trans Hl.out (by decide))).mono ?_
  rintro e w1 ⟨rfl, hw⟩
  clear hMm
  obtain ⟨r1, ⟨A1, c1, hb, ho, hr1⟩, hkp, hfr⟩ := hw
  have hrd1 := hrd.kp hkp hav
  have Hr1 := Lib.hid hr1
  clear hr1
  have hc := hb.cell 0
  have hz := hb.frozen 0
  have hlt := hb.lt
  simp only [List.getElem?_toArray, List.getElem?_cons_zero] at hc
  rw [Int.toNat_natCast] at *
  generalize hcs : bs ++ be 4 n = cs at *
  have hcl : cs.length = bs.length + 4 := by rw [← hcs, List.length_append, be_length]
  have H63 := Lib.hid (show cs.length + n ≤ maxLen by have := Hl.out; unfold maxLen; omega)
  have H47 := Lib.hid (show (cs.length + n) * 1 ≤ 140737488355328 by have := Hl.out; omega)
  have Hcs := Lib.hid hcs
  clear hcs hcl
  have hne : some g ≠ (Value.slice A1 cs.length c1).ownBlock := by
    have := own_blk_ne ho hb (by decide)
    exact fun h => this h.symm
  go_wp2_with (at_builtin; refine wpList_append_any _ rfl (.tmp 21) (.tmp 22) 27 rfl 0 5 i0 (.int .u8 0) 1 1 Try.underlying27 hi hz0 hz1 hz2 rfl (by decide) (.slice A1 cs.length c1) cs.length (cs.map bv) rfl ho A n c (l.map bv) rfl hrd1 (one_bytes _) H63.out H47.out (Nat.zero_le _) ?_; intro A' c' w2 hown hgrow hat; have hc1 := hgrow.cell (a := ⟨g, 0, none⟩) hc hne; have hz1 : w2.frozen? ⟨g, 0, none⟩ = false := (World.frozen?_of_block (hgrow.block g hlt hne)).trans hz)
  go_ret
  refine ⟨rfl, WStep.trans hkp (Hr1.out ▸ hfr) ?_⟩
  have hst := Wr.put hb ho (Kp.refl _ _) (news := l) Hln.out rfl hown hgrow hat
  rw [lp, Hln.out, ← List.append_assoc, Hcs.out]
  exact hst

set_option maxHeartbeats 400000 in
theorem bytes_long (w : World) (g : Nat) (A : Option Addr) (n c : Nat) (most : Int) (h0 : 0 ≤ most) (hm : min most 2147483647 < (n : Int)) :
    Calls Try.prog 30 #[.pointer (some ⟨g, 0, none⟩), .slice A n c, .int .i64 most] w fun e w' => e = .returned (.int .i64 6) ∧ w = w' := by
  have H0 := Lib.hid h0
  clear h0
  go_enter Try.func30, Try.ntmps30
  go_wp2_with (go_at_call 49; refine (bound_any _ _ _ H0.out).mono ?_; rintro e w' ⟨rfl, rfl⟩)
  go_ret
  exact ⟨rfl, rfl⟩

set_option maxRecDepth 100000 in
set_option maxHeartbeats 800000 in
/-- Text within its bound: the length in two bytes, and the bytes. -/
theorem text_ok (w : World) (g : Nat) (r : Option Nat) (bs : List UInt8) (s : ByteArray) (most : Int) (hW : Wr w g r bs) (hl : bs.length ≤ 1000000000000)
    (hm : (s.size : Int) ≤ most) (hn : s.size ≤ 65535) :
    Calls Try.prog 47 #[.pointer (some ⟨g, 0, none⟩), .string s, .int .i64 most] w fun e w' => e = .returned (.int .i64 0) ∧ WStep w g r w' (bs ++ lp 2 (sb s)) := by
  have Hl := Lib.hid hl
  have Hm := Lib.hid (show ¬ (min most 65535 < (s.size : Int)) by omega)
  have H0 := Lib.hid (show 0 ≤ most by omega)
  clear hl hm
  have e16 : IntKind.u16.wrap (s.size : Int) = s.size := IntWalk.u16_in _ (by omega)
  obtain ⟨i0, hi, hz0, hz1, hz2⟩ := info_parts Try.infoByte
  have hMm := Hm.out
  go_enter Try.func47, Try.ntmps47
  go_wp2_with fail
  refine (bound_any _ _ _ H0.out).mono ?_
  rintro e w' ⟨rfl, rfl⟩
  go_wp2_with fail
  refine (put16_any _ g r bs _ (by omega) (by omega) hW (Nat.le_trans Hl.out (by decide))).mono ?_
  rintro e w1 ⟨rfl, hw⟩
  clear hMm
  obtain ⟨r1, ⟨A1, c1, hb, ho, hr1⟩, hkp, hfr⟩ := hw
  have Hr1 := Lib.hid hr1
  clear hr1
  have hc := hb.cell 0
  have hz := hb.frozen 0
  have hlt := hb.lt
  simp only [List.getElem?_toArray, List.getElem?_cons_zero] at hc
  rw [Int.toNat_natCast] at *
  generalize hcs : bs ++ be 2 s.size = cs at *
  have hcl : cs.length = bs.length + 2 := by rw [← hcs, List.length_append, be_length]
  have H63 := Lib.hid (show cs.length + s.size ≤ maxLen by have := Hl.out; unfold maxLen; omega)
  have H47 := Lib.hid (show cs.length + s.size ≤ 140737488355328 by have := Hl.out; omega)
  have Hcs := Lib.hid hcs
  clear hcs hcl
  have hne : some g ≠ (Value.slice A1 cs.length c1).ownBlock := by
    have := own_blk_ne ho hb (by decide)
    exact fun h => this h.symm
  go_wp2_with (at_builtin; refine wpList_append_str _ rfl (.tmp 21) (.tmp 22) 27 9 rfl 0 5 i0 Try.underlying27 Try.underlying9 hi hz0 hz1 hz2 (.slice A1 cs.length c1) cs.length (cs.map bv) rfl ho s rfl H63.out H47.out (Nat.zero_le _) ?_; intro A' c' w2 hown hgrow hat; have hc1 := hgrow.cell (a := ⟨g, 0, none⟩) hc hne; have hz1 : w2.frozen? ⟨g, 0, none⟩ = false := (World.frozen?_of_block (hgrow.block g hlt hne)).trans hz)
  go_ret
  refine ⟨rfl, WStep.trans hkp (Hr1.out ▸ hfr) ?_⟩
  have hst := Wr.put hb ho (Kp.refl _ _) (news := sb s) (sb_length s) rfl hown hgrow hat
  rw [lp, sb_length, ← List.append_assoc, Hcs.out]
  exact hst

set_option maxHeartbeats 400000 in
theorem text_long (w : World) (g : Nat) (s : ByteArray) (most : Int) (h0 : 0 ≤ most) (hm : min most 65535 < (s.size : Int)) :
    Calls Try.prog 47 #[.pointer (some ⟨g, 0, none⟩), .string s, .int .i64 most] w fun e w' => e = .returned (.int .i64 6) ∧ w = w' := by
  have H0 := Lib.hid h0
  clear h0
  go_enter Try.func47, Try.ntmps47
  go_wp2_with (go_at_call 49; refine (bound_any _ _ _ H0.out).mono ?_; rintro e w' ⟨rfl, rfl⟩)
  go_ret
  exact ⟨rfl, rfl⟩
end Go.Proofs.Ytnaolhjbapgjgaa

/- New rows of bytes that are filled one by one. -/
namespace Go.Proofs.Ytnaolhjbapgjgaa
open Go.RowKit

theorem Try.make_bytes (n : Nat) (hn : n ≤ 100000000000) (W : World) :
    (Instr.makeSlice 27 (.int .i64 (n : Int)) (.int .i64 (n : Int))).run Try.prog W = .ok (.slice (some ⟨W.heap.size, 0, none⟩) n n) (W.alloc (.cells (List.replicate n (Value.int .u8 0)).toArray 5)) := by
  obtain ⟨i, hi, hz0, hz1, hz2⟩ := info_parts Try.infoByte
  have hr := run_make (P := Try.prog) W 27 5 i (.int .u8 0) Try.underlying27 hi hz0 .i64 .i64 n n (by omega) (by omega) (by rw [hz2]; omega) (by omega)
  simp only [Int.toNat_natCast, hz1, Nat.mul_one] at hr
  have h0 : (Value.int IntKind.u8 0).cells = #[.int .u8 0] := rfl
  have e : madeCells (Value.int IntKind.u8 0).cells n = (List.replicate n (Value.int .u8 0)).toArray := by
    rw [h0]
    apply Array.toList_inj.1
    rw [toList_madeCells_one]
  rw [hr, e]

/-- a row of n places whose first k have been filled -/
def fillF (xs : List UInt8) (n k : Nat) (v : Value) : List Value := (xs.take k).map bv ++ List.replicate (n - k) v
theorem fillF_zero (xs : List UInt8) (n : Nat) (v : Value) : fillF xs n 0 v = List.replicate n v := by simp [fillF]
theorem fillF_full (xs : List UInt8) (v : Value) : fillF xs xs.length xs.length v = xs.map bv := by simp [fillF]
theorem fillF_set (xs : List UInt8) (n k : Nat) (v : Value) (hk : k < n) (hx : k < xs.length) : (fillF xs n k v).set k (bv xs[k]) = fillF xs n (k + 1) v := by
  unfold fillF
  have hl : ((xs.take k).map bv).length = k := by rw [List.length_map, List.length_take]; omega
  rw [List.set_append_right _ _ (by omega), hl, Nat.sub_self, List.take_succ_eq_append_getElem hx]
  obtain ⟨m, hm⟩ : ∃ m, n - k = m + 1 := ⟨n - k - 1, by omega⟩
  rw [hm, List.replicate_succ, List.set_cons_zero, show n - (k + 1) = m by omega, List.map_append, List.append_assoc]
  rfl
theorem fillF_get (xs : List UInt8) (n k : Nat) (v : Value) (hk : k < n) (hx : k ≤ xs.length) : (fillF xs n k v)[k]? = some v := by
  unfold fillF
  have hl : ((xs.take k).map bv).length = k := by rw [List.length_map, List.length_take]; omega
  rw [List.getElem?_append_right (by omega), hl, Nat.sub_self]
  obtain ⟨m, hm⟩ : ∃ m, n - k = m + 1 := ⟨n - k - 1, by omega⟩
  rw [hm, List.replicate_succ]
  rfl
/-- a row whose last k places have been filled -/
def fillB (xs : List UInt8) (k : Nat) (v : Value) : List Value := List.replicate (xs.length - k) v ++ (xs.drop (xs.length - k)).map bv
theorem fillB_zero (xs : List UInt8) (v : Value) : fillB xs 0 v = List.replicate xs.length v := by simp [fillB]
theorem fillB_full (xs : List UInt8) (v : Value) : fillB xs xs.length v = xs.map bv := by simp [fillB]
theorem fillB_set (xs : List UInt8) (k : Nat) (v : Value) (hk : k < xs.length) : (fillB xs k v).set (xs.length - 1 - k) (bv (xs[xs.length - 1 - k]'(by omega))) = fillB xs (k + 1) v := by
  unfold fillB
  obtain ⟨m, hm⟩ : ∃ m, xs.length - k = m + 1 := ⟨xs.length - k - 1, by omega⟩
  have e1 : xs.length - (k + 1) = m := by omega
  have e2 : xs.length - 1 - k = m := by omega
  simp only [e2, hm, e1]
  rw [List.replicate_succ', List.append_assoc, List.set_append_right _ _ (by simp), List.length_replicate, Nat.sub_self]
  rw [List.drop_eq_getElem_cons (i := m) (by omega)]
  rfl
theorem fillB_get (xs : List UInt8) (k : Nat) (v : Value) (hk : k < xs.length) : (fillB xs k v)[xs.length - 1 - k]? = some v := by
  unfold fillB
  rw [List.getElem?_append_left (by simp; omega), List.getElem?_replicate, if_pos (by omega)]

theorem Rd.of_blk {w : World} {g : Nat} {t : TypeId} {xs : List Value} (h : Blk w g t xs.toArray) : Rd w 1 (some ⟨g, 0, none⟩) xs.length xs := by
  refine ⟨by simp, fun _ => ⟨_, _, rfl, fun j u hu => ?_⟩⟩
  rw [Nat.zero_add, h.cell j]
  simpa using hu
theorem own_of_blk {w : World} {g base : Nat} {t : TypeId} {xs : List Value} (h : Blk w g t xs.toArray) (hb : base ≤ g) (hm : xs.length ≤ maxLen) : w.ownsRow base t 1 (.slice (some ⟨g, 0, none⟩) xs.length xs.length) xs.length xs := by
  refine ⟨by simp, .inr ⟨g, xs.length, xs.toArray, rfl, hb, h, Nat.le_refl _, hm, by simp, by simp⟩⟩
end Go.Proofs.Ytnaolhjbapgjgaa

/- More plain words on memory: slices cut by two bounds, by one. -/
namespace Go.Proofs.Ytnaolhjbapgjgaa
open Go.RowKit

section
variable {P : Program}
theorem cut_lh {t : TypeId} (ht : P.underlying t = some (.slice (P.elem t))) {s : Nat} (hs : ∀ w, (sizeOf (P.elem t)).run P w = .ok s w) (A : Option Addr) (len c l h : Nat) (kl kh : IntKind) (L H : Int) (hL : L = l) (hH : H = h) (hlh : l ≤ h) (hh : h ≤ c) (w : World) :
    (Instr.slice t (.slice A len c) (some (.int kl L)) (some (.int kh H)) none).run P w = .ok (.slice (if c = l then A else A.map (·.add (l * s))) (h - l) (c - l)) w := by
  subst hL
  subst hH
  rw [run_slice_lh (ht := ht) (h0 := by omega) (h1 := by omega) (h2 := by omega), hs]
  simp [sliced]
theorem cut_h {t : TypeId} (ht : P.underlying t = some (.slice (P.elem t))) {s : Nat} (hs : ∀ w, (sizeOf (P.elem t)).run P w = .ok s w) (A : Option Addr) (len c h : Nat) (kh : IntKind) (H : Int) (hH : H = h) (hh : h ≤ c) (w : World) :
    (Instr.slice t (.slice A len c) none (some (.int kh H)) none).run P w = .ok (.slice A h c) w := by
  subst hH
  rw [run_slice_h (ht := ht) (h0 := by omega) (h2 := by omega), hs]
  simp [sliced]
  intro _
  cases A <;> rfl
theorem cut_l {t : TypeId} (ht : P.underlying t = some (.slice (P.elem t))) {s : Nat} (hs : ∀ w, (sizeOf (P.elem t)).run P w = .ok s w) (A : Option Addr) (len c l : Nat) (kl : IntKind) (L : Int) (hL : L = l) (hl : l ≤ len) (w : World) :
    (Instr.slice t (.slice A len c) (some (.int kl L)) none none).run P w = .ok (.slice (if c = l then A else A.map (·.add (l * s))) (len - l) (c - l)) w := by
  subst hL
  rw [run_slice_l (ht := ht) (h0 := by omega) (h1 := by omega), hs]
  simp [sliced]
end
end Go.Proofs.Ytnaolhjbapgjgaa

/- A row of values stored one behind the other into one block. -/
namespace Go.Proofs.Ytnaolhjbapgjgaa
open Go.RowKit

/-- the values vs stored from cell i of block g on -/
def setL (w : World) (g : Nat) : Nat → List Value → World
  | _, [] => w
  | i, v :: vs => setL (w.setCell ⟨g, i, none⟩ v) g (i + 1) vs

theorem Kp.setL (g : Nat) : ∀ (vs : List Value) (w : World) (i : Nat), Kp (fun k => k = g) w (setL w g i vs)
  | [], w, _ => Kp.refl _ w
  | v :: vs, w, i => ((Kp.refl (fun k => k = g) w).setCell (p := ⟨g, i, none⟩) (fun _ => rfl) v).trans (Kp.setL g vs _ (i + 1)) (fun _ _ h => h)

theorem Blk.setL_from {g : Nat} {t : TypeId} : ∀ (vs pre rest : List Value) (w : World), Blk w g t (pre ++ rest).toArray → rest.length = vs.length → Blk (setL w g pre.length vs) g t (pre ++ vs).toArray
  | [], pre, rest, w, h, hl => by
    have : rest = [] := List.eq_nil_of_length_eq_zero (by simpa using hl)
    subst this
    simpa [Go.Proofs.Ytnaolhjbapgjgaa.setL] using h
  | v :: vs, pre, [], w, h, hl => by simp at hl
  | v :: vs, pre, r :: rest, w, h, hl => by
    have h1 := h.set_ pre.length v
    have e : (pre ++ r :: rest).toArray.setIfInBounds pre.length v = ((pre ++ [v]) ++ rest).toArray := by
      rw [List.setIfInBounds_toArray, List.set_append_right _ _ (Nat.le_refl _)]
      simp
    rw [e] at h1
    have h2 := Blk.setL_from vs (pre ++ [v]) rest _ h1 (by simpa using hl)
    simp only [List.length_append, List.length_singleton] at h2
    simpa [Go.Proofs.Ytnaolhjbapgjgaa.setL] using h2
theorem Blk.setAll {w : World} {g : Nat} {t : TypeId} {cs : List Value} (h : Blk w g t cs.toArray) (vs : List Value) (hl : cs.length = vs.length) : Blk (setL w g 0 vs) g t vs.toArray := by
  have := Blk.setL_from vs [] cs w (by simpa using h) hl
  simpa using this
end Go.Proofs.Ytnaolhjbapgjgaa

/- Rows of cells stored and loaded whole, in a block known whole. -/
namespace Go.Proofs.Ytnaolhjbapgjgaa
open Go.RowKit

theorem setL_eq (g : Nat) : ∀ (vs : List Value) (w : World) (i : Nat), setL w g i vs = w.setCells g i vs
  | [], _, _ => rfl
  | v :: vs, w, i => setL_eq g vs (w.setCell ⟨g, i, none⟩ v) (i + 1)
theorem Kp.setCells (g o : Nat) (vs : List Value) (w : World) : Kp (fun k => k = g) w (w.setCells g o vs) := by
  rw [← setL_eq]
  exact Kp.setL g vs w o
theorem Blk.setCells {w : World} {g : Nat} {t : TypeId} {pre mid post : List Value} (h : Blk w g t (pre ++ (mid ++ post)).toArray) (vs : List Value) (hl : mid.length = vs.length) :
    Blk (w.setCells g pre.length vs) g t (pre ++ (vs ++ post)).toArray := by
  rw [← setL_eq]
  induction vs generalizing w pre mid with
  | nil =>
    have : mid = [] := List.eq_nil_of_length_eq_zero (by simpa using hl)
    subst this
    simpa [setL] using h
  | cons v vs ih =>
    cases mid with
    | nil => simp at hl
    | cons r rest =>
      have h1 := h.set_ pre.length v
      have e : (pre ++ (r :: rest ++ post)).toArray.setIfInBounds pre.length v = ((pre ++ [v]) ++ (rest ++ post)).toArray := by
        rw [List.setIfInBounds_toArray, List.set_append_right _ _ (Nat.le_refl _)]
        simp
      rw [e] at h1
      have h2 := ih h1 (by simpa using hl)
      simp only [List.length_append, List.length_singleton] at h2
      simpa [setL] using h2
theorem Blk.setWhole {w : World} {g : Nat} {t : TypeId} {cs : List Value} (h : Blk w g t cs.toArray) (vs : List Value) (hl : cs.length = vs.length) : Blk (w.setCells g 0 vs) g t vs.toArray := by
  have := Blk.setCells (pre := []) (mid := cs) (post := []) (by simpa using h) vs hl
  simpa using this
theorem Blk.range {w : World} {g : Nat} {t : TypeId} {cs : List Value} (h : Blk w g t cs.toArray) : w.rangeAt g 0 cs := by
  intro j v hv
  rw [Nat.zero_add, h.cell, List.getElem?_toArray, hv]
theorem Blk.there {w : World} {g : Nat} {t : TypeId} {cs : Array Value} (h : Blk w g t cs) (o n : Nat) (hn : o + n ≤ cs.size) : w.there g o n := by
  intro j hj
  refine ⟨?_, h.frozen _⟩
  rw [h.cell, Array.getElem?_eq_getElem (by omega)]
  rfl
theorem all_one {l : List Value} (h : l.all (·.oneCell') = true) : l.toArray.all (·.oneCell') = true := by simpa using h
end Go.Proofs.Ytnaolhjbapgjgaa
