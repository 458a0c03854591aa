/- Contracts of desk.raw, desk.New (refused), desk.answered and desk.EncodeReply of a size. -/
import Derived.Test.YtnaolhjbapgjgaaGreatDeskE
import Derived.Test.YtnaolhjbapgjgaaGreatOctRaw
import Derived.Deep.MidRow
namespace Go.Proofs.YtnaolhjbapgjgaaGreat
open Go.RowKit

set_option maxRecDepth 100000 in
set_option maxHeartbeats 1600000 in
theorem draw_any (w : World) (g : Nat) (r : Option Nat) (bs : List UInt8) (A : Option Addr) (c : Nat) (l : List UInt8) (er : Int) (hW : Wr w g r bs) (hl : bs.length + l.length ≤ 1000000000000)
    (hrd : Rd w 1 A l.length (l.map bv)) (hav : Av (WX g r) l.length A) :
    Calls Tryz.prog 62 #[.pointer (some ⟨g, 0, none⟩), .slice A l.length c, .int .i64 er] w fun e w' => e = .returned (.bool (decide (er = 0))) ∧ WStep w g r w' (bs ++ l) := by
  have Hl := Lib.hid hl
  clear hl
  go_enter Tryz.func62, Tryz.ntmps62
  go_wp2_with fail
  have ho := (Kp.refl NoX w).alloc (.cells #[.slice A l.length c] 22)
  refine (wraw_any _ g r bs _ 1 _ [⟨A, l, c⟩] rfl (hW.old ho) (by simpa [parts] using Hl.out) (Rd.arr_new w _ [.slice A l.length c]) (Av.new hW) (by omega) (fun p hp => by
    rw [List.mem_singleton.1 hp]
    exact ⟨hrd.old ho, hav⟩)).mono ?_
  rintro e w1 ⟨rfl, hst⟩
  have Hst := Lib.hid (WStep.after ho hst)
  clear hst
  go_wp2
  go_ret
  refine ⟨ret_eq (bool_eq ?_), by simpa [parts] using Hst.out⟩
  by_cases h : er = 0 <;> simp [h]

set_option maxRecDepth 100000 in
set_option maxHeartbeats 1600000 in
theorem dnew_nil (w : World) (n : Int) :
    Calls Tryz.prog 8 #[.pointer none, .int .i64 n] w fun e w' => e = .returned (.tuple #[.pointer none, .int .i64 1]) ∧ w = w' := by
  go_enter Tryz.func8, Tryz.ntmps8
  go_wp2
  go_ret2
  exact ⟨rfl, rfl⟩

theorem Blk.range {w : World} {g : Nat} {t : TypeId} {cs : List Value} (h : Blk w g t cs.toArray) : w.rangeAt g 0 cs := by
  intro j v hv
  rw [Nat.zero_add, h.cell, List.getElem?_toArray, hv]

set_option maxRecDepth 100000 in
set_option maxHeartbeats 3200000 in
theorem answered_size (w : World) (g : Nat) (r : Option Nat) (bs : List UInt8) (cs : List Value) (n : Int) (hW : Wr w g r bs) (hl : bs.length ≤ 900000000) (hn : cs[46]? = some (.int .i64 n)) :
    Calls Tryz.prog 26 #[.pointer (some ⟨g, 0, none⟩), .int .i64 5, .agg cs.toArray] w fun e w' => e = .returned (.bool true) ∧ WStep w g r w' (bs ++ nums [n]) := by
  have hb := Blk.new w 63 cs.toArray
  have h46 := hb.at_ 46 (v := .int .i64 n) (by rw [List.getElem?_toArray]; exact hn)
  have ho := (Kp.refl NoX w).alloc (.cells cs.toArray 63)
  have hW1 := hW.old ho
  have hrd := Rd.arr_new (w.alloc (.cells cs.toArray 63)) 3 [.int .i64 n]
  have hav := Av.new (n := 1) hW1
  rw [show (w.alloc (.cells cs.toArray 63)).heap.size = w.heap.size + 1 by simp] at hrd hav
  have ho2 := ho.alloc (.cells #[.int .i64 n] 3)
  have Hrd := Lib.hid hrd
  have Hav := Lib.hid hav
  have Ho2 := Lib.hid ho2
  clear hrd hav ho2 hb hW1 ho hn
  go_enter Tryz.func26, Tryz.ntmps26
  go_wp2_with fail
  refine (dnumber_any _ g r bs _ 1 _ [n] rfl (hW.old Ho2.out) (by omega) Hrd.out Hav.out (by omega)).mono ?_
  rintro e w1 ⟨rfl, hst⟩
  have hst := WStep.after Ho2.out hst
  obtain ⟨r1, hW1, hk1, hf1⟩ := hst
  have Hk1 := Lib.hid hk1
  clear hk1 Hrd Hav Ho2 h46
  go_wp2_with fail
  refine (draw_any _ g r1 _ none 0 [] 0 hW1 (by rw [List.length_append, nums_length]; simp; omega) Rd.none_ (fun h => absurd h (by simp))).mono ?_
  rintro e w2 ⟨rfl, hst⟩
  have Hst := Lib.hid (WStep.trans Hk1.out hf1 hst)
  clear hst
  go_wp2
  go_ret
  exact ⟨ret_eq (bool_eq (by simp)), by simpa using Hst.out⟩

theorem Tryz.sizeReply : (Tryz.prog.info? 63).map (·.size) = some 256 := by kernel_rfl

set_option maxRecDepth 100000 in
set_option maxHeartbeats 3200000 in
theorem encreply_size (w : World) (cs : List Value) (n : Int) (hlen : cs.length = 256) (h0 : cs[0]? = some (.int .i64 0)) (hn : cs[46]? = some (.int .i64 n)) :
    Calls Tryz.prog 7 #[.int .i64 5, .agg cs.toArray] w fun e w' => ∃ A c, e = .returned (.tuple #[.slice A 10 c, .int .i64 0]) ∧ Rd w' 1 A 10 ((be 2 0 ++ nums [n]).map bv) ∧ Old w w' := by
  have hb := Blk.new w 63 cs.toArray
  have hc := hb.at_ 0 (v := .int .i64 0) (by rw [List.getElem?_toArray]; exact h0)
  have ho := (Kp.refl NoX w).alloc (.cells cs.toArray 63)
  have Hb := Lib.hid hb
  have Ho := Lib.hid ho
  have Hsz := Lib.hid (show (Tryz.prog.info? 63).map (·.size) = some cs.length by rw [hlen]; exact Tryz.sizeReply)
  clear hb ho hlen
  go_enter Tryz.func7, Tryz.ntmps7
  go_wp2_with fail
  refine (new_any _).mono ?_
  rintro e w1 ⟨rfl, hW1, ho1⟩
  have hb1 := Hb.out.old ho1
  have hg : w.heap.size ≠ w.heap.size + 1 := by omega
  rw [show (w.alloc (.cells cs.toArray 63)).heap.size = w.heap.size + 1 by simp] at *
  have Ho1 := Lib.hid (Kp.old Ho.out ho1)
  clear ho1 hc Hb Ho
  have hc := hb1.at_ 0 (v := .int .i64 0) (by rw [List.getElem?_toArray]; exact h0)
  have e16 : IntKind.u16.wrap (0 : Int) = 0 := by decide
  go_wp2_with fail
  refine (put16_any _ _ none [] 0 (by omega) (by omega) hW1 (by simp)).mono ?_
  rintro e w2 ⟨rfl, r2, hW2, hk2, hf2⟩
  have hb2 := hb1.kp hk2 (fun h => by rcases h with h | h <;> simp at h)
  have hc2 := hb2.at_ 0 (v := .int .i64 0) (by rw [List.getElem?_toArray]; exact h0)
  have Hra := Lib.hid hb2.range
  clear hc hb1 hb2 hW1
  have Hk2 := Lib.hid hk2
  clear hk2
  go_wp2_with fail
  refine wp_load_mid 63 (.tmp 3) rfl w.heap.size 0 rfl cs _ Hra.out Tryz.underlying63 rfl Hsz.out ?_
  go_wp2_with fail
  refine (answered_size _ _ r2 _ cs n hW2 (by rw [List.nil_append, be_length]; decide) hn).mono ?_
  rintro e w3 ⟨rfl, r3, hW3, hk3, hf3⟩
  clear hc2 Hra hW2
  rw [List.nil_append] at hW3
  generalize hq : be 2 (0 : Int).toNat ++ nums [n] = q at hW3
  have hql : q.length = 10 := by rw [← hq, List.length_append, be_length, nums_length]; rfl
  have Hq := Lib.hid hq
  have Hold := Lib.hid (show Old w w3 from (Ho1.out.trans Hk2.out (fun b hb h => by
    rcases h with h | h
    · omega
    · cases h)).trans hk3 (fun b hb h => by
    rcases h with h | h
    · omega
    · rcases hf2 with e | ⟨k, e, hk⟩
      · rw [e] at h; cases h
      · rw [e] at h; injection h with h; have := Ho1.out.size; omega))
  clear hk3 hq
  go_wp2_with fail
  refine (len_any _ _ r3 q hW3).mono ?_
  rintro e w4 ⟨rfl, rfl⟩
  rw [hql]
  go_wp2_with fail
  refine (all_any _ _ r3 q hW3 (by omega)).mono ?_
  rintro e w5 ⟨A, c, rfl, hown, ho5⟩
  have Hfin := Lib.hid (show Rd w5 1 A 10 ((be 2 0 ++ nums [n]).map bv) from by
    have h := Rd.of_own hown
    rw [hql, ← Hq.out] at h
    exact h)
  have Ho5 := Lib.hid (Hold.out.old ho5)
  clear hown ho5
  rw [hql]
  go_wp2
  go_ret2
  exact ⟨A, c, rfl, Hfin.out, Ho5.out⟩
end Go.Proofs.YtnaolhjbapgjgaaGreat
