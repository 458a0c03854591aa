/- Contract of docketbook.Same[byte]. -/
import Derived.Test.YtnaolhjbapgjgaaGreatEv
namespace Go.Proofs.YtnaolhjbapgjgaaGreat
open Go.RowKit

set_option maxRecDepth 100000 in
set_option maxHeartbeats 1600000 in
theorem sameb_any (w : World) (A B : Option Addr) (c d : Nat) (x y : List UInt8) (hx : Rd w 1 A x.length (x.map bv)) (hy : Rd w 1 B y.length (y.map bv)) (hxl : x.length ≤ 1000000000000) :
    Calls Tryz.prog 9 #[.slice A x.length c, .slice B y.length d] w fun e w' => e = .returned (.bool (decide (x = y))) ∧ Old w w' := by
  by_cases hl : x.length = y.length
  case neg =>
    have hne : x ≠ y := fun e => hl (by rw [e])
    have h1 : ((x.length : Int) != (y.length : Int)) = true := bne_iff_ne.2 (by omega)
    rw [decide_eq_false hne]
    go_enter Tryz.func9, Tryz.ntmps9
    go_wp2
    go_ret
    exact ⟨rfl, Kp.refl _ _⟩
  have h1 : ((x.length : Int) != (y.length : Int)) = false := bne_eq_false_iff_eq.2 (by omega)
  have Hxy := Lib.hid hl
  rw [← hl] at hy ⊢
  clear hl
  go_enter Tryz.func9, Tryz.ntmps9
  go_wp2
  go_loopw [5] (fun i wr => ∃ k : Nat, k ≤ x.length ∧ i = .int .i64 k ∧ x.take k = y.take k ∧ Old w wr) (fun i _ => x.length - (intOf i).toNat)
  case atStart => exact ⟨0, by omega, rfl, rfl, Kp.refl _ _⟩
  case round =>
    obtain ⟨k, hk, rfl, hpre, hold⟩ := hrel
    by_cases hlt : k < x.length
    · have hly : k < y.length := by have := Hxy.out; omega
      obtain ⟨b1, o1, u1, rfl, hu1, hc1⟩ := (hx.old hold).at_ hlt
      obtain ⟨b2, o2, u2, rfl, hu2, hc2⟩ := (hy.old hold).at_ hlt
      rw [List.getElem?_map, List.getElem?_eq_getElem hlt] at hu1
      rw [List.getElem?_map, List.getElem?_eq_getElem hly] at hu2
      simp only [Option.map_some, Option.some.injEq, bv] at hu1 hu2
      subst hu1 hu2
      have hn1 : (x[k].toNat : Int) ≤ 255 := by have := x[k].toNat_lt; omega
      have hn2 : (y[k].toNat : Int) ≤ 255 := by have := y[k].toNat_lt; omega
      have b5 : (k : Int) ≤ 1000000000000 := by omega
      have b6 : (0 : Int) ≤ (k : Int) := by omega
      have b7 : (k : Int) < (x.length : Int) := by omega
      have b8 : (k : Int).toNat = k := by omega
      have Hp := Lib.hid hpre
      have Ho := Lib.hid hold
      clear hpre hold
      by_cases he : x[k] = y[k]
      · have hq : ((x[k].toNat : Int) != (y[k].toNat : Int)) = false := by simp [he]
        have Hnext := Lib.hid (show x.take (k + 1) = y.take (k + 1) by rw [List.take_succ_eq_append_getElem hlt, List.take_succ_eq_append_getElem hly, Hp.out, he])
        clear he
        generalize (x[k].toNat : Int) = xa at *
        generalize (y[k].toNat : Int) = ya at *
        go_wp2
        go_quiet (fail)
        go_wp2
        go_roundw
        case rel => exact ⟨k + 1, by omega, by go_num, Hnext.out, Ho.out.drewN _⟩
        case measure => simp [intOf]; omega
      · have hq : ((x[k].toNat : Int) != (y[k].toNat : Int)) = true := by
          simp only [bne_iff_ne, ne_eq]
          intro h
          exact he (UInt8.toNat_inj.1 (by omega))
        have hne : x ≠ y := fun e => he (by subst e; rfl)
        clear he
        generalize (x[k].toNat : Int) = xa at *
        generalize (y[k].toNat : Int) = ya at *
        go_wp2
        go_quiet (fail)
        go_wp2
        go_ret
        exact ⟨ret_eq (bool_eq (decide_eq_false hne).symm), Ho.out.drewN _⟩
    · obtain rfl : k = x.length := by omega
      have he : x = y := by
        rw [List.take_length, Hxy.out, List.take_length] at hpre
        exact hpre
      have Ho := Lib.hid hold
      clear hold
      go_wp2
      go_ret
      exact ⟨ret_eq (bool_eq (decide_eq_true he).symm), Ho.out⟩
end Go.Proofs.YtnaolhjbapgjgaaGreat
