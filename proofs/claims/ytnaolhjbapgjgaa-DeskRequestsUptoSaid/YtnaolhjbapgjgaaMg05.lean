import Derived.Test.YtnaolhjbapgjgaaMg03
import Derived.Test.YtnaolhjbapgjgaaMg04
import Derived.Test.YtnaolhjbapgjgaaRows
/- Contracts of eval.formed, timely, Right (and slices.ContainsFunc, IndexFunc at its literal). -/
namespace Go.Proofs.Ytnaolhjbapgjgaa
open Go.RowKit

/-- an api.Value as a value -/
def vV (v : Val) (A : Option Addr) (c : Nat) : Value := .agg #[.int .i64 v.kind, .int .i64 v.n, .string v.t, .slice A v.s.length c]

theorem bool_eq {a b : Bool} (h : a = b) : Value.bool a = Value.bool b := by rw [h]
set_option maxHeartbeats 400000 in
theorem timely_any (n : Int) (w : World) :
    Calls Try.prog 65 #[.int .i64 n] w fun e w' => e = .returned (.bool (decide (0 ≤ n ∧ n ≤ 4611686018427387904))) ∧ w = w' := by
  go_enter Try.func65, Try.ntmps65
  go_wp2
  all_goals (go_ret; refine ⟨ret_eq (bool_eq ?_), rfl⟩; rw [Bool.eq_iff_iff]; simp; omega)

set_option maxHeartbeats 400000 in
theorem lit_any (s : ByteArray) (w : World) :
    Calls Try.prog 67 #[.string s] w fun e w' => e = .returned (.bool (decide (1024 < s.size))) ∧ w = w' := by
  go_enter Try.func67, Try.ntmps67
  go_wp2
  go_ret
  exact ⟨ret_eq (bool_eq (by rw [Bool.eq_iff_iff]; simp; omega)), rfl⟩

set_option maxRecDepth 100000 in
set_option maxHeartbeats 800000 in
theorem formed_0 (n : Int) (t : ByteArray) (s : List ByteArray) (A : Option Addr) (c : Nat) (w : World) :
    Calls Try.prog 64 #[vV ⟨0, n, t, s⟩ A c] w fun e w' => e = .returned (.bool (formedB ⟨0, n, t, s⟩)) ∧ Old w w' := by
  unfold vV
  go_enter Try.func64, Try.ntmps64
  go_wp2
  all_goals
    go_ret
    refine ⟨ret_eq (bool_eq ?_), (Kp.refl _ _).alloc _⟩
    simp [formedB, *]
    done
set_option maxRecDepth 100000 in
set_option maxHeartbeats 800000 in
theorem formed_1 (n : Int) (t : ByteArray) (s : List ByteArray) (A : Option Addr) (c : Nat) (w : World) :
    Calls Try.prog 64 #[vV ⟨1, n, t, s⟩ A c] w fun e w' => e = .returned (.bool (formedB ⟨1, n, t, s⟩)) ∧ Old w w' := by
  unfold vV
  go_enter Try.func64, Try.ntmps64
  go_wp2
  all_goals
    go_ret
    refine ⟨ret_eq (bool_eq ?_), (Kp.refl _ _).alloc _⟩
    simp [formedB, *]
    done
set_option maxRecDepth 100000 in
set_option maxHeartbeats 800000 in
theorem formed_2 (n : Int) (t : ByteArray) (s : List ByteArray) (A : Option Addr) (c : Nat) (w : World) :
    Calls Try.prog 64 #[vV ⟨2, n, t, s⟩ A c] w fun e w' => e = .returned (.bool (formedB ⟨2, n, t, s⟩)) ∧ Old w w' := by
  unfold vV
  go_enter Try.func64, Try.ntmps64
  go_wp2
  all_goals
    go_ret
    refine ⟨ret_eq (bool_eq ?_), (Kp.refl _ _).alloc _⟩
    simp [formedB, *]
    done
set_option maxRecDepth 100000 in
set_option maxHeartbeats 800000 in
theorem formed_3 (n : Int) (t : ByteArray) (s : List ByteArray) (A : Option Addr) (c : Nat) (w : World) :
    Calls Try.prog 64 #[vV ⟨3, n, t, s⟩ A c] w fun e w' => e = .returned (.bool (formedB ⟨3, n, t, s⟩)) ∧ Old w w' := by
  unfold vV
  go_enter Try.func64, Try.ntmps64
  go_wp2
  all_goals
    go_ret
    refine ⟨ret_eq (bool_eq ?_), (Kp.refl _ _).alloc _⟩
    simp [formedB, *]
    done
set_option maxRecDepth 100000 in
set_option maxHeartbeats 800000 in
theorem formed_4 (n : Int) (t : ByteArray) (s : List ByteArray) (A : Option Addr) (c : Nat) (w : World) :
    Calls Try.prog 64 #[vV ⟨4, n, t, s⟩ A c] w fun e w' => e = .returned (.bool (formedB ⟨4, n, t, s⟩)) ∧ Old w w' := by
  unfold vV
  go_enter Try.func64, Try.ntmps64
  go_wp2
  all_goals
    go_ret
    refine ⟨ret_eq (bool_eq ?_), (Kp.refl _ _).alloc _⟩
    simp [formedB, *]
    done

set_option maxRecDepth 100000 in
set_option maxHeartbeats 800000 in
theorem formed_far (k n : Int) (t : ByteArray) (s : List ByteArray) (A : Option Addr) (c : Nat) (w : World) (hk : k < 0 ∨ 5 < k) :
    Calls Try.prog 64 #[vV ⟨k, n, t, s⟩ A c] w fun e w' => e = .returned (.bool (formedB ⟨k, n, t, s⟩)) ∧ Old w w' := by
  have h0 : (k == 0) = false := beq_eq_false_iff_ne.2 (by omega)
  have h1 : (k == 1) = false := beq_eq_false_iff_ne.2 (by omega)
  have h2 : (k == 2) = false := beq_eq_false_iff_ne.2 (by omega)
  have h3 : (k == 3) = false := beq_eq_false_iff_ne.2 (by omega)
  have h4 : (k == 4) = false := beq_eq_false_iff_ne.2 (by omega)
  have h5 : (k == 5) = false := beq_eq_false_iff_ne.2 (by omega)
  have h3' : (k != 3) = true := by rw [bne_iff_ne]; omega
  have h5' : (k != 5) = true := by rw [bne_iff_ne]; omega
  have Hf := Lib.hid (show formedB ⟨k, n, t, s⟩ = false by
    simp only [formedB]
    rw [if_neg (by omega), if_neg (by omega), if_neg (by omega), if_neg (by omega)]
    simp)
  clear hk
  unfold vV
  go_enter Try.func64, Try.ntmps64
  go_wp2
  all_goals
    go_ret
    refine ⟨ret_eq (bool_eq ?_), (Kp.refl _ _).alloc _⟩
    rw [Hf.out]

/-- nothing falls below k -/
def upTo (s : List ByteArray) (k : Nat) : Prop := ∀ i, i + 1 < k → blt (s.getD i ByteArray.empty) (s.getD (i + 1) ByteArray.empty) = true
theorem rising_of (s : List ByteArray) (h : upTo s s.length) : rising s = true := by
  rw [rising, List.all_eq_true]
  intro i hi
  exact h i (by rw [List.mem_range] at hi; omega)
theorem not_rising (s : List ByteArray) (i : Nat) (hi : i + 1 < s.length) (h : blt (s.getD i ByteArray.empty) (s.getD (i + 1) ByteArray.empty) = false) : rising s = false := by
  rw [← Bool.not_eq_true, rising, List.all_eq_true]
  intro hf
  have := hf i (by rw [List.mem_range]; omega)
  rw [h] at this
  cases this
theorem upTo_succ (s : List ByteArray) (k : Nat) (h : upTo s (k + 1)) (hk : blt (s.getD k ByteArray.empty) (s.getD (k + 1) ByteArray.empty) = true) : upTo s (k + 2) := by
  intro i hi
  by_cases e : i = k
  · subst e; exact hk
  · exact h i (by omega)
theorem Rd.text {w : World} {A : Option Addr} {n : Nat} {l : List ByteArray} (h : Rd w 1 A n (l.map sv)) {k : Nat} (hk : k < n) : ∃ b o, A = some ⟨b, o, none⟩ ∧ w.cell? ⟨b, o + k, none⟩ = some (.string (l.getD k ByteArray.empty)) := by
  obtain ⟨b, o, u, rfl, hx, hc⟩ := h.at_ hk
  refine ⟨b, o, rfl, ?_⟩
  rw [hc]
  rw [List.getElem?_map] at hx
  obtain ⟨b, hb, rfl⟩ := Option.map_eq_some_iff.1 hx
  simp [sv, List.getD, hb]

set_option maxRecDepth 100000 in
set_option maxHeartbeats 800000 in
theorem formed_5 (n : Int) (t : ByteArray) (s : List ByteArray) (A : Option Addr) (c : Nat) (w : World) (hr : Rd w 1 A s.length (s.map sv)) (hc : s.length ≤ c) (hs : s.length ≤ 1000000000000) :
    Calls Try.prog 64 #[vV ⟨5, n, t, s⟩ A c] w fun e w' => e = .returned (.bool (formedB ⟨5, n, t, s⟩)) ∧ Old w w' := by
  have Hs := Lib.hid hs
  have Hc := Lib.hid hc
  clear hs hc
  unfold vV
  by_cases ht : t.toList.isEmpty = true
  case neg =>
    have ht' : t.toList.isEmpty = false := by simpa using ht
    clear ht
    go_enter Try.func64, Try.ntmps64
    go_wp2
    go_ret
    refine ⟨ret_eq (bool_eq ?_), (Kp.refl _ _).alloc _⟩
    simp [formedB, *]
  go_enter Try.func64, Try.ntmps64
  go_wp2
  go_loopw [3] (fun i wr => ∃ k : Nat, k + 1 ≤ max 1 s.length ∧ i = .int .i64 ((k : Int) + 1) ∧ upTo s (k + 1) ∧ Blk wr w.heap.size 25 #[.int .i64 5, .int .i64 n, .string t, .slice A s.length c] ∧ Old w wr) (fun i _ => s.length - (intOf i).toNat)
  case atStart => exact ⟨0, by omega, rfl, fun i hi => by omega, Blk.new _ _ _, (Kp.refl _ _).alloc _⟩
  case round =>
    obtain ⟨k, hk, rfl, hup, hb, ho⟩ := hrel
    have hc1 := hb.cell 1
    have hc3 := hb.cell 3
    simp only [List.getElem?_toArray, List.getElem?_cons_zero, List.getElem?_cons_succ] at hc1 hc3
    by_cases hlt : k + 1 < s.length
    · obtain ⟨b, o, rfl, hx⟩ := (hr.old ho).text (k := k) (by omega)
      obtain ⟨b', o', e, hy⟩ := (hr.old ho).text (k := k + 1) (by omega)
      obtain ⟨rfl, rfl⟩ : b = b' ∧ o = o' := by injection e with e; injection e with e1 e2; exact ⟨e1, e2⟩
      clear e
      have b1 : (0 : Int) ≤ (k : Int) := by omega
      have b2 : (k : Int) < (s.length : Int) := by omega
      have b3 : (0 : Int) ≤ (k : Int) + 1 := by omega
      have b4 : (k : Int) + 1 < (s.length : Int) := by omega
      have b5 : (k : Int) ≤ 1000000000000 := by have := Hs.out; omega
      generalize hxx : s.getD k ByteArray.empty = x at hx
      generalize hyy : s.getD (k + 1) ByteArray.empty = y at hy
      have Hx := Lib.hid hxx
      have Hy := Lib.hid hyy
      have HW := Lib.hid hb
      clear hxx hyy hb
      cases hlx : Op.bytesLess x.toList y.toList
      all_goals
        go_wp2
        have e1 : IntKind.i64.wrap (k : Int) = (k : Int) := IntWalk.i64_in _ (by have := Hs.out; omega)
        have e2 : ((k : Int) + 1).toNat = k + 1 := by omega
        go_quiet (fail)
        clear e1 e2
        go_wp2
      · go_ret
        refine ⟨ret_eq (bool_eq ?_), ho.drewN _⟩
        have : rising s = false := not_rising s k (by omega) (by rw [Hx.out, Hy.out]; exact hlx)
        simp [formedB, this]
      · go_roundw
        case rel => exact ⟨k + 1, by omega, by go_num, upTo_succ s k hup (by rw [Hx.out, Hy.out]; exact hlx), HW.out, ho.drewN _⟩
        case measure => simp [intOf]; omega
    · go_wp2
      go_ret
      refine ⟨ret_eq (bool_eq ?_), ho⟩
      have hr : rising s = true := rising_of s (fun i hi => hup i (by omega))
      simp [formedB, *]
end Go.Proofs.Ytnaolhjbapgjgaa

/- Contracts of slices.IndexFunc, ContainsFunc at eval.Right's literal, and of eval.Right. -/
namespace Go.Proofs.Ytnaolhjbapgjgaa
open Go.RowKit

theorem formed_any (v : Val) (A : Option Addr) (c : Nat) (w : World) (hr : Rd w 1 A v.s.length (v.s.map sv)) (hc : v.s.length ≤ c) (hs : v.s.length ≤ 1000000000000) :
    Calls Try.prog 64 #[vV v A c] w fun e w' => e = .returned (.bool (formedB v)) ∧ Old w w' := by
  obtain ⟨k, n, t, s⟩ := v
  by_cases h : k < 0 ∨ 5 < k
  · exact formed_far k n t s A c w h
  · have hk : k = 0 ∨ k = 1 ∨ k = 2 ∨ k = 3 ∨ k = 4 ∨ k = 5 := by omega
    rcases hk with rfl | rfl | rfl | rfl | rfl | rfl
    · exact formed_0 n t s A c w
    · exact formed_1 n t s A c w
    · exact formed_2 n t s A c w
    · exact formed_3 n t s A c w
    · exact formed_4 n t s A c w
    · exact formed_5 n t s A c w hr hc hs

/-- -1, if none is long; else not below 0 -/
def LongAt (s : List ByteArray) (w : World) (e : Ending) (w' : World) : Prop :=
  ∃ r : Int, e = .returned (.int .i64 r) ∧ decide (0 ≤ r) = (s.any fun x => decide (1024 < x.size)) ∧ w = w'

theorem any_of (s : List ByteArray) (k : Nat) (hk : k < s.length) (h : 1024 < (s.getD k ByteArray.empty).size) : (s.any fun x => decide (1024 < x.size)) = true := by
  rw [List.any_eq_true]
  refine ⟨s[k], List.getElem_mem hk, ?_⟩
  simpa [List.getD, List.getElem?_eq_getElem hk] using h
theorem none_of (s : List ByteArray) (h : ∀ k, k < s.length → (s.getD k ByteArray.empty).size ≤ 1024) : (s.any fun x => decide (1024 < x.size)) = false := by
  rw [← Bool.not_eq_true, List.any_eq_true]
  rintro ⟨x, hx, hl⟩
  obtain ⟨k, hk, rfl⟩ := List.getElem_of_mem hx
  have := h k hk
  simp [List.getD, List.getElem?_eq_getElem hk] at this
  simp at hl
  omega

set_option maxRecDepth 100000 in
set_option maxHeartbeats 800000 in
theorem index_any (s : List ByteArray) (A : Option Addr) (c : Nat) (w : World) (hr : Rd w 1 A s.length (s.map sv)) (hs : s.length ≤ 1000000000000) :
    Calls Try.prog 83 #[.slice A s.length c, .func (.func 67) #[] #[]] w (LongAt s w) := by
  have Hs := Lib.hid hs
  clear hs
  go_enter Try.func83, Try.ntmps83
  go_wp2
  go_loop [8] (fun i => ∃ k : Nat, k ≤ s.length ∧ i = .int .i64 k ∧ ∀ j, j < k → (s.getD j ByteArray.empty).size ≤ 1024) (fun i => s.length - (intOf i).toNat)
  case atStart => exact ⟨0, by omega, rfl, fun j hj => by omega⟩
  case round =>
    obtain ⟨k, hk, rfl, hno⟩ := hrel
    have Hno := Lib.hid hno
    clear hno
    by_cases hlt : k < s.length
    · obtain ⟨b, o, rfl, hx⟩ := hr.text (k := k) hlt
      generalize hxx : s.getD k ByteArray.empty = x at hx
      have Hx := Lib.hid hxx
      clear hxx
      have b5 : (k : Int) ≤ 1000000000000 := by have := Hs.out; omega
      by_cases hl : 1024 < x.size
      · have hd : decide (1024 < x.size) = true := by simpa using hl
        go_wp2_with (go_at_call 67; refine (lit_any _ _).mono ?_; rintro e w' ⟨rfl, rfl⟩)
        go_ret
        exact ⟨k, rfl, by rw [any_of s k hlt (by rw [Hx.out]; exact hl)]; simp, rfl⟩
      · have hd : decide (1024 < x.size) = false := by simpa using hl
        go_wp2_with (go_at_call 67; refine (lit_any _ _).mono ?_; rintro e w' ⟨rfl, rfl⟩)
        go_round
        case rel =>
          refine ⟨k + 1, by omega, by go_num, fun j hj => ?_⟩
          by_cases e : j = k
          · subst e; rw [Hx.out]; omega
          · exact Hno.out j (by omega)
        case measure => simp [intOf]; omega
    · go_wp2
      go_ret
      exact ⟨-1, rfl, by rw [none_of s (fun j hj => Hno.out j (by omega))]; rfl, rfl⟩

set_option maxHeartbeats 400000 in
theorem contains_any (s : List ByteArray) (A : Option Addr) (c : Nat) (w : World) (hr : Rd w 1 A s.length (s.map sv)) (hs : s.length ≤ 1000000000000) :
    Calls Try.prog 66 #[.slice A s.length c, .func (.func 67) #[] #[]] w fun e w' =>
      e = .returned (.bool (s.any fun x => decide (1024 < x.size))) ∧ w = w' := by
  have Hs := Lib.hid hs
  clear hs
  go_enter Try.func66, Try.ntmps66
  go_wp2_with fail
  refine (index_any s A c w hr Hs.out).mono ?_
  rintro e w' ⟨r, rfl, hd, rfl⟩
  have Hd := Lib.hid hd
  clear hd
  go_wp2
  go_ret
  exact ⟨ret_eq (bool_eq Hd.out), rfl⟩

set_option maxRecDepth 100000 in
set_option maxHeartbeats 800000 in
theorem right_any (v : Val) (A : Option Addr) (c : Nat) (w : World) (hr : Rd w 1 A v.s.length (v.s.map sv)) (hc : v.s.length ≤ c) (hs : v.s.length ≤ 1000000000000) :
    Calls Try.prog 45 #[vV v A c] w fun e w' => e = .returned (.int .i64 (rightE v)) ∧ Old w w' := by
  have Hs := Lib.hid hs
  have Hc := Lib.hid hc
  clear hs hc
  have Hf := Lib.hid (fun W (h : Old w W) => formed_any v A c W (hr.old h) Hc.out Hs.out)
  have Hk := Lib.hid (fun W (h : Old w W) => contains_any v.s A c W (hr.old h) Hs.out)
  obtain ⟨k, n, t, s⟩ := v
  simp only [vV] at *
  go_enter Try.func45, Try.ntmps45
  go_wp2_with fail
  refine (Hf.out _ ((Kp.refl _ _).alloc _)).mono ?_
  rintro e w1 ⟨rfl, ho1⟩
  have hb := (Blk.new w 25 #[.int .i64 k, .int .i64 n, .string t, .slice A s.length c]).old ho1
  have hc0 := hb.cell 0
  have hc1 := hb.cell 1
  have hc2 := hb.cell 2
  have hc3 := hb.cell 3
  have ho := Lib.hid (((Kp.refl NoX w).alloc (.cells #[.int .i64 k, .int .i64 n, .string t, .slice A s.length c] 25)).old ho1)
  simp only [List.getElem?_toArray, List.getElem?_cons_zero, List.getElem?_cons_succ] at hc0 hc1 hc2 hc3
  clear ho1
  cases hf : formedB ⟨k, n, t, s⟩
  · go_wp2
    go_ret
    exact ⟨ret_eq (int_eq (by simp [rightE, hf])), ho.out⟩
  · generalize ha : (s.any fun x => decide (1024 < x.size)) = anyLong at Hk
    have Ha := Lib.hid ha
    have Hff := Lib.hid hf
    clear ha hf
    cases anyLong
    all_goals
      go_wp2_with (first | (go_at_call 65; refine (timely_any _ _).mono ?_; rintro e w' ⟨rfl, rfl⟩) | (go_at_call 66; refine (Hk.out _ ho.out).mono ?_; rintro e w' ⟨rfl, rfl⟩))
      all_goals
        go_ret
        refine ⟨ret_eq (int_eq ?_), ho.out⟩
        have hf := Hff.out
        have ha := Ha.out
        simp only [rightE, longB, hf, ha]
        simp_all <;> omega
end Go.Proofs.Ytnaolhjbapgjgaa

/- Contracts of octet's Writer.Texts (where nothing is refused) and of event.PutValue. -/
namespace Go.Proofs.Ytnaolhjbapgjgaa
open Go.RowKit

theorem blt_ge (s : List ByteArray) (h : rising s = true) (k : Nat) (hk : k + 1 < s.length) : Op.bytesLess (s.getD k ByteArray.empty).toList (s.getD (k + 1) ByteArray.empty).toList = true := by
  rw [rising, List.all_eq_true] at h
  exact h k (by rw [List.mem_range]; omega)

set_option maxRecDepth 100000 in
set_option maxHeartbeats 1600000 in
theorem texts_ok (w : World) (g : Nat) (r : Option Nat) (bs : List UInt8) (A : Option Addr) (c : Nat) (l : List ByteArray) (hW : Wr w g r bs) (hl : bs.length ≤ 900000000000)
    (hrd : Rd w 1 A l.length (l.map sv)) (hav : Av (WX g r) l.length A) (hn : l.length ≤ 64) (hx : ∀ k, k < l.length → (l.getD k ByteArray.empty).size ≤ 1024) (hris : rising l = true) :
    Calls Try.prog 48 #[.pointer (some ⟨g, 0, none⟩), .slice A l.length c, .int .i64 64, .int .i64 1024] w fun e w' => e = .returned (.int .i64 0) ∧ WStep w g r w' (bs ++ textsB l) := by
  have Hl := Lib.hid hl
  have Hx := Lib.hid hx
  have Hris := Lib.hid hris
  clear hl hx hris
  have hmin : ¬ ((64 : Int) < (l.length : Int)) := by omega
  go_enter Try.func48, Try.ntmps48
  go_wp2_with (go_at_call 49; refine (bound_any _ _ _ (by omega)).mono ?_; rintro e w' ⟨rfl, rfl⟩)
  go_loop [20] (fun i => ∃ k : Nat, k ≤ l.length ∧ i = .int .i64 k) (fun i => l.length - (intOf i).toNat)
  case atStart => exact ⟨0, by omega, rfl⟩
  case round =>
    obtain ⟨k, hk, rfl⟩ := hrel
    by_cases hlt : k < l.length
    · obtain ⟨b, o, rfl, hy⟩ := hrd.text (k := k) hlt
      have hsz : ¬ ((1024 : Int) < ((l.getD k ByteArray.empty).size : Int)) := by have := Hx.out k hlt; omega
      rcases Nat.eq_zero_or_pos k with rfl | hpos
      · simp only [Nat.add_zero] at hy
        generalize l.getD 0 ByteArray.empty = y at hy hsz
        go_wp2_with (go_at_call 49; refine (bound_any _ _ _ (by omega)).mono ?_; rintro e w' ⟨rfl, rfl⟩)
        go_round
        case rel => exact ⟨1, by omega, rfl⟩
        case measure => simp [intOf]; omega
      · obtain ⟨j, rfl⟩ : ∃ j, k = j + 1 := ⟨k - 1, by omega⟩
        obtain ⟨b', o', e, hz⟩ := hrd.text (k := j) (by omega)
        obtain ⟨rfl, rfl⟩ : b = b' ∧ o = o' := by injection e with e; injection e with e1 e2; exact ⟨e1, e2⟩
        have hge := blt_ge l Hris.out j hlt
        clear e
        generalize l.getD (j + 1) ByteArray.empty = y at hy hsz hge
        generalize l.getD j ByteArray.empty = z at hz hge
        go_wp2_with (go_at_call 49; refine (bound_any _ _ _ (by omega)).mono ?_; rintro e w' ⟨rfl, rfl⟩)
        go_round
        case rel => exact ⟨j + 1 + 1, by omega, by go_num⟩
        case measure => simp [intOf]; omega
    · skip
      go_wp2_with fail
      refine (put16_any _ g r bs _ (by omega) (by omega) hW (Nat.le_trans Hl.out (by decide))).mono ?_
      rintro e w1 ⟨rfl, hw⟩
      rw [Int.toNat_natCast] at hw
      go_wp2
      go_loopw [49] (fun i wr => ∃ k : Nat, k ≤ l.length ∧ i = .int .i64 k ∧ WStep w g r wr (bs ++ (be 2 l.length ++ lps (l.take k)))) (fun i _ => l.length - (intOf i).toNat)
      case atStart => exact ⟨0, by omega, rfl, by simpa [lps] using hw⟩
      case round =>
        obtain ⟨k, hk, rfl, hst⟩ := hrel
        by_cases hlt : k < l.length
        · obtain ⟨r', hWr, hkp, hfr⟩ := hst
          obtain ⟨b, o, rfl, hy⟩ := (hrd.kp hkp hav).text (k := k) hlt
          have hsz := Hx.out k hlt
          have hll := lps_length_le l (fun k hk => Nat.le_trans (Hx.out k hk) (by decide)) k hk
          have hcl : (bs ++ (be 2 l.length ++ lps (l.take k))).length ≤ 1000000000000 := by
            have := Hl.out
            rw [List.length_append, List.length_append, be_length]
            omega
          have Hfin := Lib.hid (show bs ++ (be 2 l.length ++ lps (l.take (k + 1))) = (bs ++ (be 2 l.length ++ lps (l.take k))) ++ lp 2 (sb (l.getD k ByteArray.empty)) by
            rw [lps_take_succ l k hlt]; simp)
          generalize l.getD k ByteArray.empty = y at hy hsz Hfin
          generalize bs ++ (be 2 l.length ++ lps (l.take k)) = cs at hWr hcl Hfin
          have Hcl := Lib.hid hcl
          clear hcl hll
          go_wp2_with fail
          refine (text_ok _ g r' cs y _ hWr Hcl.out (by omega) (by omega)).mono ?_
          rintro e w2 ⟨rfl, hst⟩
          have Hst := Lib.hid (WStep.trans hkp hfr hst)
          clear hst
          go_wp2
          go_roundw
          case rel => exact ⟨k + 1, by omega, by go_num, by rw [Hfin.out]; exact Hst.out⟩
          case measure => simp [intOf]; omega
        · go_wp2
          go_ret
          refine ⟨rfl, ?_⟩
          rw [List.take_of_length_le (by omega)] at hst
          exact hst
end Go.Proofs.Ytnaolhjbapgjgaa
