/- Contracts of slices.IndexFunc, ContainsFunc at eval.Right's literal, and of eval.Right. -/
import Derived.Test.YtnaolhjbapgjgaaGreatEv
namespace Go.Proofs.YtnaolhjbapgjgaaGreat
open Go.RowKit

theorem formed_any (v : Val) (A : Option Addr) (c : Nat) (w : World) (hr : Rd w 1 A v.s.length (v.s.map sv)) (hc : v.s.length ≤ c) (hs : v.s.length ≤ 1000000000000) :
    Calls Tryz.prog 146 #[vV v A c] w fun e w' => e = .returned (.bool (formedB v)) ∧ Old w w' := by
  obtain ⟨k, n, t, s⟩ := v
  by_cases h : k < 0 ∨ 5 < k
  · exact formed_far k n t s A c w h
  · have hk : k = 0 ∨ k = 1 ∨ k = 2 ∨ k = 3 ∨ k = 4 ∨ k = 5 := by omega
    rcases hk with rfl | rfl | rfl | rfl | rfl | rfl
    · exact formed_0 n t s A c w
    · exact formed_1 n t s A c w
    · exact formed_2 n t s A c w
    · exact formed_3 n t s A c w
    · exact formed_4 n t s A c w
    · exact formed_5 n t s A c w hr hc hs

/-- -1, if none is long; else not below 0 -/
def LongAt (s : List ByteArray) (w : World) (e : Ending) (w' : World) : Prop :=
  ∃ r : Int, e = .returned (.int .i64 r) ∧ decide (0 ≤ r) = (s.any fun x => decide (1024 < x.size)) ∧ w = w'

theorem any_of (s : List ByteArray) (k : Nat) (hk : k < s.length) (h : 1024 < (s.getD k ByteArray.empty).size) : (s.any fun x => decide (1024 < x.size)) = true := by
  rw [List.any_eq_true]
  refine ⟨s[k], List.getElem_mem hk, ?_⟩
  simpa [List.getD, List.getElem?_eq_getElem hk] using h
theorem none_of (s : List ByteArray) (h : ∀ k, k < s.length → (s.getD k ByteArray.empty).size ≤ 1024) : (s.any fun x => decide (1024 < x.size)) = false := by
  rw [← Bool.not_eq_true, List.any_eq_true]
  rintro ⟨x, hx, hl⟩
  obtain ⟨k, hk, rfl⟩ := List.getElem_of_mem hx
  have := h k hk
  simp [List.getD, List.getElem?_eq_getElem hk] at this
  simp at hl
  omega

set_option maxRecDepth 100000 in
set_option maxHeartbeats 800000 in
theorem index_any (s : List ByteArray) (A : Option Addr) (c : Nat) (w : World) (hr : Rd w 1 A s.length (s.map sv)) (hs : s.length ≤ 1000000000000) :
    Calls Tryz.prog 175 #[.slice A s.length c, .func (.func 149) #[] #[]] w (LongAt s w) := by
  have Hs := Lib.hid hs
  clear hs
  go_enter Tryz.func175, Tryz.ntmps175
  go_wp2
  go_loop [8] (fun i => ∃ k : Nat, k ≤ s.length ∧ i = .int .i64 k ∧ ∀ j, j < k → (s.getD j ByteArray.empty).size ≤ 1024) (fun i => s.length - (intOf i).toNat)
  case atStart => exact ⟨0, by omega, rfl, fun j hj => by omega⟩
  case round =>
    obtain ⟨k, hk, rfl, hno⟩ := hrel
    have Hno := Lib.hid hno
    clear hno
    by_cases hlt : k < s.length
    · obtain ⟨b, o, rfl, hx⟩ := hr.text (k := k) hlt
      generalize hxx : s.getD k ByteArray.empty = x at hx
      have Hx := Lib.hid hxx
      clear hxx
      have b5 : (k : Int) ≤ 1000000000000 := by have := Hs.out; omega
      by_cases hl : 1024 < x.size
      · have hd : decide (1024 < x.size) = true := by simpa using hl
        go_wp2_with (go_at_call 149; refine (lit_any _ _).mono ?_; rintro e w' ⟨rfl, rfl⟩)
        go_ret
        exact ⟨k, rfl, by rw [any_of s k hlt (by rw [Hx.out]; exact hl)]; simp, rfl⟩
      · have hd : decide (1024 < x.size) = false := by simpa using hl
        go_wp2_with (go_at_call 149; refine (lit_any _ _).mono ?_; rintro e w' ⟨rfl, rfl⟩)
        go_round
        case rel =>
          refine ⟨k + 1, by omega, by go_num, fun j hj => ?_⟩
          by_cases e : j = k
          · subst e; rw [Hx.out]; omega
          · exact Hno.out j (by omega)
        case measure => simp [intOf]; omega
    · go_wp2
      go_ret
      exact ⟨-1, rfl, by rw [none_of s (fun j hj => Hno.out j (by omega))]; rfl, rfl⟩

set_option maxHeartbeats 400000 in
theorem contains_any (s : List ByteArray) (A : Option Addr) (c : Nat) (w : World) (hr : Rd w 1 A s.length (s.map sv)) (hs : s.length ≤ 1000000000000) :
    Calls Tryz.prog 148 #[.slice A s.length c, .func (.func 149) #[] #[]] w fun e w' =>
      e = .returned (.bool (s.any fun x => decide (1024 < x.size))) ∧ w = w' := by
  have Hs := Lib.hid hs
  clear hs
  go_enter Tryz.func148, Tryz.ntmps148
  go_wp2_with fail
  refine (index_any s A c w hr Hs.out).mono ?_
  rintro e w' ⟨r, rfl, hd, rfl⟩
  have Hd := Lib.hid hd
  clear hd
  go_wp2
  go_ret
  exact ⟨ret_eq (bool_eq Hd.out), rfl⟩

set_option maxRecDepth 100000 in
set_option maxHeartbeats 800000 in
theorem right_any (v : Val) (A : Option Addr) (c : Nat) (w : World) (hr : Rd w 1 A v.s.length (v.s.map sv)) (hc : v.s.length ≤ c) (hs : v.s.length ≤ 1000000000000) :
    Calls Tryz.prog 98 #[vV v A c] w fun e w' => e = .returned (.int .i64 (rightE v)) ∧ Old w w' := by
  have Hs := Lib.hid hs
  have Hc := Lib.hid hc
  clear hs hc
  have Hf := Lib.hid (fun W (h : Old w W) => formed_any v A c W (hr.old h) Hc.out Hs.out)
  have Hk := Lib.hid (fun W (h : Old w W) => contains_any v.s A c W (hr.old h) Hs.out)
  obtain ⟨k, n, t, s⟩ := v
  simp only [vV] at *
  go_enter Tryz.func98, Tryz.ntmps98
  go_wp2_with fail
  refine (Hf.out _ ((Kp.refl _ _).alloc _)).mono ?_
  rintro e w1 ⟨rfl, ho1⟩
  have hb := (Blk.new w 29 #[.int .i64 k, .int .i64 n, .string t, .slice A s.length c]).old ho1
  have hc0 := hb.cell 0
  have hc1 := hb.cell 1
  have hc2 := hb.cell 2
  have hc3 := hb.cell 3
  have ho := Lib.hid (((Kp.refl NoX w).alloc (.cells #[.int .i64 k, .int .i64 n, .string t, .slice A s.length c] 29)).old ho1)
  simp only [List.getElem?_toArray, List.getElem?_cons_zero, List.getElem?_cons_succ] at hc0 hc1 hc2 hc3
  clear ho1
  cases hf : formedB ⟨k, n, t, s⟩
  · go_wp2
    go_ret
    exact ⟨ret_eq (int_eq (by simp [rightE, hf])), ho.out⟩
  · generalize ha : (s.any fun x => decide (1024 < x.size)) = anyLong at Hk
    have Ha := Lib.hid ha
    have Hff := Lib.hid hf
    clear ha hf
    cases anyLong
    all_goals
      go_wp2_with (first | (go_at_call 147; refine (timely_any _ _).mono ?_; rintro e w' ⟨rfl, rfl⟩) | (go_at_call 148; refine (Hk.out _ ho.out).mono ?_; rintro e w' ⟨rfl, rfl⟩))
      all_goals
        go_ret
        refine ⟨ret_eq (int_eq ?_), ho.out⟩
        have hf := Hff.out
        have ha := Ha.out
        simp only [rightE, longB, hf, ha]
        simp_all <;> omega
end Go.Proofs.YtnaolhjbapgjgaaGreat
