/- Contracts of eval.formed, timely, Right (and slices.ContainsFunc, IndexFunc at its literal). -/
import Derived.Test.YtnaolhjbapgjgaaGreatRows
import Derived.Test.YtnaolhjbapgjgaaGreatVal
import Derived.Test.YtnaolhjbapgjgaaGreatOctW
namespace Go.Proofs.YtnaolhjbapgjgaaGreat
open Go.RowKit

/-- an api.Value as a value -/
def vV (v : Val) (A : Option Addr) (c : Nat) : Value := .agg #[.int .i64 v.kind, .int .i64 v.n, .string v.t, .slice A v.s.length c]

theorem bool_eq {a b : Bool} (h : a = b) : Value.bool a = Value.bool b := by rw [h]
set_option maxHeartbeats 400000 in
theorem timely_any (n : Int) (w : World) :
    Calls Tryz.prog 147 #[.int .i64 n] w fun e w' => e = .returned (.bool (decide (0 ≤ n ∧ n ≤ 4611686018427387904))) ∧ w = w' := by
  go_enter Tryz.func147, Tryz.ntmps147
  go_wp2
  all_goals (go_ret; refine ⟨ret_eq (bool_eq ?_), rfl⟩; rw [Bool.eq_iff_iff]; simp; omega)

set_option maxHeartbeats 400000 in
theorem lit_any (s : ByteArray) (w : World) :
    Calls Tryz.prog 149 #[.string s] w fun e w' => e = .returned (.bool (decide (1024 < s.size))) ∧ w = w' := by
  go_enter Tryz.func149, Tryz.ntmps149
  go_wp2
  go_ret
  exact ⟨ret_eq (bool_eq (by rw [Bool.eq_iff_iff]; simp; omega)), rfl⟩

set_option maxRecDepth 100000 in
set_option maxHeartbeats 800000 in
theorem formed_0 (n : Int) (t : ByteArray) (s : List ByteArray) (A : Option Addr) (c : Nat) (w : World) :
    Calls Tryz.prog 146 #[vV ⟨0, n, t, s⟩ A c] w fun e w' => e = .returned (.bool (formedB ⟨0, n, t, s⟩)) ∧ Old w w' := by
  unfold vV
  go_enter Tryz.func146, Tryz.ntmps146
  go_wp2
  all_goals
    go_ret
    refine ⟨ret_eq (bool_eq ?_), (Kp.refl _ _).alloc _⟩
    simp [formedB, *]
    done
set_option maxRecDepth 100000 in
set_option maxHeartbeats 800000 in
theorem formed_1 (n : Int) (t : ByteArray) (s : List ByteArray) (A : Option Addr) (c : Nat) (w : World) :
    Calls Tryz.prog 146 #[vV ⟨1, n, t, s⟩ A c] w fun e w' => e = .returned (.bool (formedB ⟨1, n, t, s⟩)) ∧ Old w w' := by
  unfold vV
  go_enter Tryz.func146, Tryz.ntmps146
  go_wp2
  all_goals
    go_ret
    refine ⟨ret_eq (bool_eq ?_), (Kp.refl _ _).alloc _⟩
    simp [formedB, *]
    done
set_option maxRecDepth 100000 in
set_option maxHeartbeats 800000 in
theorem formed_2 (n : Int) (t : ByteArray) (s : List ByteArray) (A : Option Addr) (c : Nat) (w : World) :
    Calls Tryz.prog 146 #[vV ⟨2, n, t, s⟩ A c] w fun e w' => e = .returned (.bool (formedB ⟨2, n, t, s⟩)) ∧ Old w w' := by
  unfold vV
  go_enter Tryz.func146, Tryz.ntmps146
  go_wp2
  all_goals
    go_ret
    refine ⟨ret_eq (bool_eq ?_), (Kp.refl _ _).alloc _⟩
    simp [formedB, *]
    done
set_option maxRecDepth 100000 in
set_option maxHeartbeats 800000 in
theorem formed_3 (n : Int) (t : ByteArray) (s : List ByteArray) (A : Option Addr) (c : Nat) (w : World) :
    Calls Tryz.prog 146 #[vV ⟨3, n, t, s⟩ A c] w fun e w' => e = .returned (.bool (formedB ⟨3, n, t, s⟩)) ∧ Old w w' := by
  unfold vV
  go_enter Tryz.func146, Tryz.ntmps146
  go_wp2
  all_goals
    go_ret
    refine ⟨ret_eq (bool_eq ?_), (Kp.refl _ _).alloc _⟩
    simp [formedB, *]
    done
set_option maxRecDepth 100000 in
set_option maxHeartbeats 800000 in
theorem formed_4 (n : Int) (t : ByteArray) (s : List ByteArray) (A : Option Addr) (c : Nat) (w : World) :
    Calls Tryz.prog 146 #[vV ⟨4, n, t, s⟩ A c] w fun e w' => e = .returned (.bool (formedB ⟨4, n, t, s⟩)) ∧ Old w w' := by
  unfold vV
  go_enter Tryz.func146, Tryz.ntmps146
  go_wp2
  all_goals
    go_ret
    refine ⟨ret_eq (bool_eq ?_), (Kp.refl _ _).alloc _⟩
    simp [formedB, *]
    done

set_option maxRecDepth 100000 in
set_option maxHeartbeats 800000 in
theorem formed_far (k n : Int) (t : ByteArray) (s : List ByteArray) (A : Option Addr) (c : Nat) (w : World) (hk : k < 0 ∨ 5 < k) :
    Calls Tryz.prog 146 #[vV ⟨k, n, t, s⟩ A c] w fun e w' => e = .returned (.bool (formedB ⟨k, n, t, s⟩)) ∧ Old w w' := by
  have h0 : (k == 0) = false := beq_eq_false_iff_ne.2 (by omega)
  have h1 : (k == 1) = false := beq_eq_false_iff_ne.2 (by omega)
  have h2 : (k == 2) = false := beq_eq_false_iff_ne.2 (by omega)
  have h3 : (k == 3) = false := beq_eq_false_iff_ne.2 (by omega)
  have h4 : (k == 4) = false := beq_eq_false_iff_ne.2 (by omega)
  have h5 : (k == 5) = false := beq_eq_false_iff_ne.2 (by omega)
  have h3' : (k != 3) = true := by rw [bne_iff_ne]; omega
  have h5' : (k != 5) = true := by rw [bne_iff_ne]; omega
  have Hf := Lib.hid (show formedB ⟨k, n, t, s⟩ = false by
    simp only [formedB]
    rw [if_neg (by omega), if_neg (by omega), if_neg (by omega), if_neg (by omega)]
    simp)
  clear hk
  unfold vV
  go_enter Tryz.func146, Tryz.ntmps146
  go_wp2
  all_goals
    go_ret
    refine ⟨ret_eq (bool_eq ?_), (Kp.refl _ _).alloc _⟩
    rw [Hf.out]

/-- nothing falls below k -/
def upTo (s : List ByteArray) (k : Nat) : Prop := ∀ i, i + 1 < k → blt (s.getD i ByteArray.empty) (s.getD (i + 1) ByteArray.empty) = true
theorem rising_of (s : List ByteArray) (h : upTo s s.length) : rising s = true := by
  rw [rising, List.all_eq_true]
  intro i hi
  exact h i (by rw [List.mem_range] at hi; omega)
theorem not_rising (s : List ByteArray) (i : Nat) (hi : i + 1 < s.length) (h : blt (s.getD i ByteArray.empty) (s.getD (i + 1) ByteArray.empty) = false) : rising s = false := by
  rw [← Bool.not_eq_true, rising, List.all_eq_true]
  intro hf
  have := hf i (by rw [List.mem_range]; omega)
  rw [h] at this
  cases this
theorem upTo_succ (s : List ByteArray) (k : Nat) (h : upTo s (k + 1)) (hk : blt (s.getD k ByteArray.empty) (s.getD (k + 1) ByteArray.empty) = true) : upTo s (k + 2) := by
  intro i hi
  by_cases e : i = k
  · subst e; exact hk
  · exact h i (by omega)
theorem Rd.text {w : World} {A : Option Addr} {n : Nat} {l : List ByteArray} (h : Rd w 1 A n (l.map sv)) {k : Nat} (hk : k < n) : ∃ b o, A = some ⟨b, o, none⟩ ∧ w.cell? ⟨b, o + k, none⟩ = some (.string (l.getD k ByteArray.empty)) := by
  obtain ⟨b, o, u, rfl, hx, hc⟩ := h.at_ hk
  refine ⟨b, o, rfl, ?_⟩
  rw [hc]
  rw [List.getElem?_map] at hx
  obtain ⟨b, hb, rfl⟩ := Option.map_eq_some_iff.1 hx
  simp [sv, List.getD, hb]

set_option maxRecDepth 100000 in
set_option maxHeartbeats 800000 in
theorem formed_5 (n : Int) (t : ByteArray) (s : List ByteArray) (A : Option Addr) (c : Nat) (w : World) (hr : Rd w 1 A s.length (s.map sv)) (hc : s.length ≤ c) (hs : s.length ≤ 1000000000000) :
    Calls Tryz.prog 146 #[vV ⟨5, n, t, s⟩ A c] w fun e w' => e = .returned (.bool (formedB ⟨5, n, t, s⟩)) ∧ Old w w' := by
  have Hs := Lib.hid hs
  have Hc := Lib.hid hc
  clear hs hc
  unfold vV
  by_cases ht : t.toList.isEmpty = true
  case neg =>
    have ht' : t.toList.isEmpty = false := by simpa using ht
    clear ht
    go_enter Tryz.func146, Tryz.ntmps146
    go_wp2
    go_ret
    refine ⟨ret_eq (bool_eq ?_), (Kp.refl _ _).alloc _⟩
    simp [formedB, *]
  go_enter Tryz.func146, Tryz.ntmps146
  go_wp2
  go_loopw [3] (fun i wr => ∃ k : Nat, k + 1 ≤ max 1 s.length ∧ i = .int .i64 ((k : Int) + 1) ∧ upTo s (k + 1) ∧ Blk wr w.heap.size 29 #[.int .i64 5, .int .i64 n, .string t, .slice A s.length c] ∧ Old w wr) (fun i _ => s.length - (intOf i).toNat)
  case atStart => exact ⟨0, by omega, rfl, fun i hi => by omega, Blk.new _ _ _, (Kp.refl _ _).alloc _⟩
  case round =>
    obtain ⟨k, hk, rfl, hup, hb, ho⟩ := hrel
    have hc1 := hb.cell 1
    have hc3 := hb.cell 3
    simp only [List.getElem?_toArray, List.getElem?_cons_zero, List.getElem?_cons_succ] at hc1 hc3
    by_cases hlt : k + 1 < s.length
    · obtain ⟨b, o, rfl, hx⟩ := (hr.old ho).text (k := k) (by omega)
      obtain ⟨b', o', e, hy⟩ := (hr.old ho).text (k := k + 1) (by omega)
      obtain ⟨rfl, rfl⟩ : b = b' ∧ o = o' := by injection e with e; injection e with e1 e2; exact ⟨e1, e2⟩
      clear e
      have b1 : (0 : Int) ≤ (k : Int) := by omega
      have b2 : (k : Int) < (s.length : Int) := by omega
      have b3 : (0 : Int) ≤ (k : Int) + 1 := by omega
      have b4 : (k : Int) + 1 < (s.length : Int) := by omega
      have b5 : (k : Int) ≤ 1000000000000 := by have := Hs.out; omega
      generalize hxx : s.getD k ByteArray.empty = x at hx
      generalize hyy : s.getD (k + 1) ByteArray.empty = y at hy
      have Hx := Lib.hid hxx
      have Hy := Lib.hid hyy
      have HW := Lib.hid hb
      clear hxx hyy hb
      cases hlx : Op.bytesLess x.toList y.toList
      all_goals
        go_wp2
        have e1 : IntKind.i64.wrap (k : Int) = (k : Int) := IntWalk.i64_in _ (by have := Hs.out; omega)
        have e2 : ((k : Int) + 1).toNat = k + 1 := by omega
        go_quiet (fail)
        clear e1 e2
        go_wp2
      · go_ret
        refine ⟨ret_eq (bool_eq ?_), ho.drewN _⟩
        have : rising s = false := not_rising s k (by omega) (by rw [Hx.out, Hy.out]; exact hlx)
        simp [formedB, this]
      · go_roundw
        case rel => exact ⟨k + 1, by omega, by go_num, upTo_succ s k hup (by rw [Hx.out, Hy.out]; exact hlx), HW.out, ho.drewN _⟩
        case measure => simp [intOf]; omega
    · go_wp2
      go_ret
      refine ⟨ret_eq (bool_eq ?_), ho⟩
      have hr : rising s = true := rising_of s (fun i hi => hup i (by omega))
      simp [formedB, *]
end Go.Proofs.YtnaolhjbapgjgaaGreat
