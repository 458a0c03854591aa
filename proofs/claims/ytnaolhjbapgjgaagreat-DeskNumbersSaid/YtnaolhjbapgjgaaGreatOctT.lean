/- Contracts of octet's Writer.Texts (where nothing is refused) and of event.PutValue. -/
import Derived.Test.YtnaolhjbapgjgaaGreatEv2
namespace Go.Proofs.YtnaolhjbapgjgaaGreat
open Go.RowKit

theorem blt_ge (s : List ByteArray) (h : rising s = true) (k : Nat) (hk : k + 1 < s.length) : Op.bytesLess (s.getD k ByteArray.empty).toList (s.getD (k + 1) ByteArray.empty).toList = true := by
  rw [rising, List.all_eq_true] at h
  exact h k (by rw [List.mem_range]; omega)

set_option maxRecDepth 100000 in
set_option maxHeartbeats 1600000 in
theorem texts_ok (w : World) (g : Nat) (r : Option Nat) (bs : List UInt8) (A : Option Addr) (c : Nat) (l : List ByteArray) (hW : Wr w g r bs) (hl : bs.length ≤ 900000000000)
    (hrd : Rd w 1 A l.length (l.map sv)) (hav : Av (WX g r) l.length A) (hn : l.length ≤ 64) (hx : ∀ k, k < l.length → (l.getD k ByteArray.empty).size ≤ 1024) (hris : rising l = true) :
    Calls Tryz.prog 100 #[.pointer (some ⟨g, 0, none⟩), .slice A l.length c, .int .i64 64, .int .i64 1024] w fun e w' => e = .returned (.int .i64 0) ∧ WStep w g r w' (bs ++ textsB l) := by
  have Hl := Lib.hid hl
  have Hx := Lib.hid hx
  have Hris := Lib.hid hris
  clear hl hx hris
  have hmin : ¬ ((64 : Int) < (l.length : Int)) := by omega
  go_enter Tryz.func100, Tryz.ntmps100
  go_wp2_with (go_at_call 101; refine (bound_any _ _ _ (by omega)).mono ?_; rintro e w' ⟨rfl, rfl⟩)
  go_loop [20] (fun i => ∃ k : Nat, k ≤ l.length ∧ i = .int .i64 k) (fun i => l.length - (intOf i).toNat)
  case atStart => exact ⟨0, by omega, rfl⟩
  case round =>
    obtain ⟨k, hk, rfl⟩ := hrel
    by_cases hlt : k < l.length
    · obtain ⟨b, o, rfl, hy⟩ := hrd.text (k := k) hlt
      have hsz : ¬ ((1024 : Int) < ((l.getD k ByteArray.empty).size : Int)) := by have := Hx.out k hlt; omega
      rcases Nat.eq_zero_or_pos k with rfl | hpos
      · simp only [Nat.add_zero] at hy
        generalize l.getD 0 ByteArray.empty = y at hy hsz
        go_wp2_with (go_at_call 101; refine (bound_any _ _ _ (by omega)).mono ?_; rintro e w' ⟨rfl, rfl⟩)
        go_round
        case rel => exact ⟨1, by omega, rfl⟩
        case measure => simp [intOf]; omega
      · obtain ⟨j, rfl⟩ : ∃ j, k = j + 1 := ⟨k - 1, by omega⟩
        obtain ⟨b', o', e, hz⟩ := hrd.text (k := j) (by omega)
        obtain ⟨rfl, rfl⟩ : b = b' ∧ o = o' := by injection e with e; injection e with e1 e2; exact ⟨e1, e2⟩
        have hge := blt_ge l Hris.out j hlt
        clear e
        generalize l.getD (j + 1) ByteArray.empty = y at hy hsz hge
        generalize l.getD j ByteArray.empty = z at hz hge
        go_wp2_with (go_at_call 101; refine (bound_any _ _ _ (by omega)).mono ?_; rintro e w' ⟨rfl, rfl⟩)
        go_round
        case rel => exact ⟨j + 1 + 1, by omega, by go_num⟩
        case measure => simp [intOf]; omega
    · skip
      go_wp2_with fail
      refine (put16_any _ g r bs _ (by omega) (by omega) hW (Nat.le_trans Hl.out (by decide))).mono ?_
      rintro e w1 ⟨rfl, hw⟩
      rw [Int.toNat_natCast] at hw
      go_wp2
      go_loopw [49] (fun i wr => ∃ k : Nat, k ≤ l.length ∧ i = .int .i64 k ∧ WStep w g r wr (bs ++ (be 2 l.length ++ lps (l.take k)))) (fun i _ => l.length - (intOf i).toNat)
      case atStart => exact ⟨0, by omega, rfl, by simpa [lps] using hw⟩
      case round =>
        obtain ⟨k, hk, rfl, hst⟩ := hrel
        by_cases hlt : k < l.length
        · obtain ⟨r', hWr, hkp, hfr⟩ := hst
          obtain ⟨b, o, rfl, hy⟩ := (hrd.kp hkp hav).text (k := k) hlt
          have hsz := Hx.out k hlt
          have hll := lps_length_le l (fun k hk => Nat.le_trans (Hx.out k hk) (by decide)) k hk
          have hcl : (bs ++ (be 2 l.length ++ lps (l.take k))).length ≤ 1000000000000 := by
            have := Hl.out
            rw [List.length_append, List.length_append, be_length]
            omega
          have Hfin := Lib.hid (show bs ++ (be 2 l.length ++ lps (l.take (k + 1))) = (bs ++ (be 2 l.length ++ lps (l.take k))) ++ lp 2 (sb (l.getD k ByteArray.empty)) by
            rw [lps_take_succ l k hlt]; simp)
          generalize l.getD k ByteArray.empty = y at hy hsz Hfin
          generalize bs ++ (be 2 l.length ++ lps (l.take k)) = cs at hWr hcl Hfin
          have Hcl := Lib.hid hcl
          clear hcl hll
          go_wp2_with fail
          refine (text_ok _ g r' cs y _ hWr Hcl.out (by omega) (by omega)).mono ?_
          rintro e w2 ⟨rfl, hst⟩
          have Hst := Lib.hid (WStep.trans hkp hfr hst)
          clear hst
          go_wp2
          go_roundw
          case rel => exact ⟨k + 1, by omega, by go_num, by rw [Hfin.out]; exact Hst.out⟩
          case measure => simp [intOf]; omega
        · go_wp2
          go_ret
          refine ⟨rfl, ?_⟩
          rw [List.take_of_length_le (by omega)] at hst
          exact hst
end Go.Proofs.YtnaolhjbapgjgaaGreat
