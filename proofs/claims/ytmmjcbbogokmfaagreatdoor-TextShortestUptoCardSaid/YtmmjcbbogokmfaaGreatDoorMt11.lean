import Derived.Test.YtmmjcbbogokmfaaGreatDoorMt01
import Derived.Test.YtmmjcbbogokmfaaGreatDoorMt09
import Derived.Test.YtmmjcbbogokmfaaGreatDoorMt10
set_option maxRecDepth 100000
set_option maxHeartbeats 25600000
namespace Go.Proofs.YtmmjcbbogokmfaaGreatDoor
open Go.RowKit
def RowT (w : World) (l : List Nat) (e : Ending) (w' : World) : Prop := ∃ A c, e = .returned (.slice A l.length c) /\ Rd w' 1 A l.length (l.map yv) /\ Av (fun k => k < w.heap.size) l.length A /\ Old w w'
theorem RowT.none_ (w : World) {R : List Nat} (e : R = []) : RowT w R (.returned (.slice none 0 0)) w := ⟨none, 0, by rw [e]; rfl, by rw [e]; exact Rd.none_, (fun _ _ h => by cases h), Kp.refl _ _⟩
theorem RowT.of (w : World) (l : List Nat) {R : List Nat} (e : R = l) {cs : Array Value} (hc : cs = (l.map yv).toArray) {k : Nat} (hk : k = l.length) : RowT w R (.returned (.slice (some ⟨w.heap.size, 0, none⟩) k k)) (w.alloc (.cells cs 163)) := by
  subst e hc hk
  refine ⟨_, _, rfl, ⟨by simp, fun _ => ⟨_, _, rfl, fun j u hu => ?_⟩⟩, (fun _ ad e hlt => by injection e with e; subst e; exact Nat.lt_irrefl _ hlt), (Kp.refl _ _).alloc _⟩
  have := (Blk.new w 163 (R.map yv).toArray).at_ j (v := u) (by rw [List.getElem?_toArray]; exact hu)
  rw [Nat.zero_add]
  exact this
theorem declared24 (w : World) : Calls Tryz.prog 230 #[.int .u8 24] w (RowT w (kC 24)) := by
  go_enter Tryz.func230, Tryz.ntmps230
  go_wp2
  go_ret
  exact RowT.of w (kC 24) rfl rfl rfl
theorem declared25 (w : World) : Calls Tryz.prog 230 #[.int .u8 25] w (RowT w (kC 25)) := by
  go_enter Tryz.func230, Tryz.ntmps230
  go_wp2
  go_ret
  exact RowT.of w (kC 25) rfl rfl rfl
theorem declared26 (w : World) : Calls Tryz.prog 230 #[.int .u8 26] w (RowT w (kC 26)) := by
  go_enter Tryz.func230, Tryz.ntmps230
  go_wp2
  go_ret
  exact RowT.of w (kC 26) rfl rfl rfl
theorem declared27 (w : World) : Calls Tryz.prog 230 #[.int .u8 27] w (RowT w (kC 27)) := by
  go_enter Tryz.func230, Tryz.ntmps230
  go_wp2
  go_ret
  exact RowT.of w (kC 27) rfl rfl rfl
theorem declared_any9 (w : World) (t : Nat) : Calls Tryz.prog 230 #[yv t] w (RowT w (kC t)) := by
  by_cases h24 : t = 24
  · subst h24; exact declared24 w
  by_cases h25 : t = 25
  · subst h25; exact declared25 w
  by_cases h26 : t = 26
  · subst h26; exact declared26 w
  by_cases h27 : t = 27
  · subst h27; exact declared27 w
  have Hy := jJ0 (show kC t = [] by unfold kC; rw [if_neg h24, if_neg h25, if_neg h26, if_neg h27])
  have b24 : ((t : Int) == 24) = false := beq_eq_false_iff_ne.2 (by omega)
  have b25 : ((t : Int) == 25) = false := beq_eq_false_iff_ne.2 (by omega)
  have b26 : ((t : Int) == 26) = false := beq_eq_false_iff_ne.2 (by omega)
  have b27 : ((t : Int) == 27) = false := beq_eq_false_iff_ne.2 (by omega)
  clear h24 h25 h26 h27
  unfold yv
  go_enter Tryz.func230, Tryz.ntmps230
  go_wp2
  go_ret
  exact RowT.none_ w Hy.out
theorem atom1 (w : World) : Calls Tryz.prog 231 #[.int .u8 1] w (RowT w (kH 1)) := by
  go_enter Tryz.func231, Tryz.ntmps231
  go_wp2
  go_ret
  exact RowT.of w (kH 1) rfl rfl rfl
theorem atom2 (w : World) : Calls Tryz.prog 231 #[.int .u8 2] w (RowT w (kH 2)) := by
  go_enter Tryz.func231, Tryz.ntmps231
  go_wp2
  go_ret
  exact RowT.of w (kH 2) rfl rfl rfl
theorem atom3 (w : World) : Calls Tryz.prog 231 #[.int .u8 3] w (RowT w (kH 3)) := by
  go_enter Tryz.func231, Tryz.ntmps231
  go_wp2
  go_ret
  exact RowT.of w (kH 3) rfl rfl rfl
theorem atom4 (w : World) : Calls Tryz.prog 231 #[.int .u8 4] w (RowT w (kH 4)) := by
  go_enter Tryz.func231, Tryz.ntmps231
  go_wp2
  go_ret
  exact RowT.of w (kH 4) rfl rfl rfl
theorem atom6 (w : World) : Calls Tryz.prog 231 #[.int .u8 6] w (RowT w (kH 6)) := by
  go_enter Tryz.func231, Tryz.ntmps231
  go_wp2
  go_ret
  exact RowT.of w (kH 6) rfl rfl rfl
theorem atom31 (w : World) : Calls Tryz.prog 231 #[.int .u8 31] w (RowT w (kH 31)) := by
  go_enter Tryz.func231, Tryz.ntmps231
  go_wp2
  go_ret
  exact RowT.of w (kH 31) rfl rfl rfl
theorem atom46 (w : World) : Calls Tryz.prog 231 #[.int .u8 46] w (RowT w (kH 46)) := by
  go_enter Tryz.func231, Tryz.ntmps231
  go_wp2
  go_ret
  exact RowT.of w (kH 46) rfl rfl rfl
theorem atom47 (w : World) : Calls Tryz.prog 231 #[.int .u8 47] w (RowT w (kH 47)) := by
  go_enter Tryz.func231, Tryz.ntmps231
  go_wp2
  go_ret
  exact RowT.of w (kH 47) rfl rfl rfl
theorem atom48 (w : World) : Calls Tryz.prog 231 #[.int .u8 48] w (RowT w (kH 48)) := by
  go_enter Tryz.func231, Tryz.ntmps231
  go_wp2
  go_ret
  exact RowT.of w (kH 48) rfl rfl rfl
theorem atom49 (w : World) : Calls Tryz.prog 231 #[.int .u8 49] w (RowT w (kH 49)) := by
  go_enter Tryz.func231, Tryz.ntmps231
  go_wp2
  go_ret
  exact RowT.of w (kH 49) rfl rfl rfl
theorem atom50 (w : World) : Calls Tryz.prog 231 #[.int .u8 50] w (RowT w (kH 50)) := by
  go_enter Tryz.func231, Tryz.ntmps231
  go_wp2
  go_ret
  exact RowT.of w (kH 50) rfl rfl rfl
theorem atom51 (w : World) : Calls Tryz.prog 231 #[.int .u8 51] w (RowT w (kH 51)) := by
  go_enter Tryz.func231, Tryz.ntmps231
  go_wp2
  go_ret
  exact RowT.of w (kH 51) rfl rfl rfl
theorem atom52 (w : World) : Calls Tryz.prog 231 #[.int .u8 52] w (RowT w (kH 52)) := by
  go_enter Tryz.func231, Tryz.ntmps231
  go_wp2
  go_ret
  exact RowT.of w (kH 52) rfl rfl rfl
theorem atom53 (w : World) : Calls Tryz.prog 231 #[.int .u8 53] w (RowT w (kH 53)) := by
  go_enter Tryz.func231, Tryz.ntmps231
  go_wp2
  go_ret
  exact RowT.of w (kH 53) rfl rfl rfl
theorem atom54 (w : World) : Calls Tryz.prog 231 #[.int .u8 54] w (RowT w (kH 54)) := by
  go_enter Tryz.func231, Tryz.ntmps231
  go_wp2
  go_ret
  exact RowT.of w (kH 54) rfl rfl rfl
theorem atom55 (w : World) : Calls Tryz.prog 231 #[.int .u8 55] w (RowT w (kH 55)) := by
  go_enter Tryz.func231, Tryz.ntmps231
  go_wp2
  go_ret
  exact RowT.of w (kH 55) rfl rfl rfl
theorem atom56 (w : World) : Calls Tryz.prog 231 #[.int .u8 56] w (RowT w (kH 56)) := by
  go_enter Tryz.func231, Tryz.ntmps231
  go_wp2
  go_ret
  exact RowT.of w (kH 56) rfl rfl rfl
theorem atom57 (w : World) : Calls Tryz.prog 231 #[.int .u8 57] w (RowT w (kH 57)) := by
  go_enter Tryz.func231, Tryz.ntmps231
  go_wp2
  go_ret
  exact RowT.of w (kH 57) rfl rfl rfl
theorem atom_any9 (w : World) (t : Nat) : Calls Tryz.prog 231 #[yv t] w (RowT w (kH t)) := by
  by_cases h1 : t = 1
  · subst h1; exact atom1 w
  by_cases h2 : t = 2
  · subst h2; exact atom2 w
  by_cases h3 : t = 3
  · subst h3; exact atom3 w
  by_cases h4 : t = 4
  · subst h4; exact atom4 w
  by_cases h6 : t = 6
  · subst h6; exact atom6 w
  by_cases h31 : t = 31
  · subst h31; exact atom31 w
  by_cases h46 : t = 46
  · subst h46; exact atom46 w
  by_cases h47 : t = 47
  · subst h47; exact atom47 w
  by_cases h48 : t = 48
  · subst h48; exact atom48 w
  by_cases h49 : t = 49
  · subst h49; exact atom49 w
  by_cases h50 : t = 50
  · subst h50; exact atom50 w
  by_cases h51 : t = 51
  · subst h51; exact atom51 w
  by_cases h52 : t = 52
  · subst h52; exact atom52 w
  by_cases h53 : t = 53
  · subst h53; exact atom53 w
  by_cases h54 : t = 54
  · subst h54; exact atom54 w
  by_cases h55 : t = 55
  · subst h55; exact atom55 w
  by_cases h56 : t = 56
  · subst h56; exact atom56 w
  by_cases h57 : t = 57
  · subst h57; exact atom57 w
  have Hy := jJ0 (show kH t = [] by unfold kH; rw [if_neg (by omega), if_neg (by omega), if_neg (by omega), if_neg (by omega), if_neg (by omega), if_neg (by omega), if_neg (by omega)])
  have b1 : ((t : Int) == 1) = false := beq_eq_false_iff_ne.2 (by omega)
  have b2 : ((t : Int) == 2) = false := beq_eq_false_iff_ne.2 (by omega)
  have b3 : ((t : Int) == 3) = false := beq_eq_false_iff_ne.2 (by omega)
  have b4 : ((t : Int) == 4) = false := beq_eq_false_iff_ne.2 (by omega)
  have b6 : ((t : Int) == 6) = false := beq_eq_false_iff_ne.2 (by omega)
  have b31 : ((t : Int) == 31) = false := beq_eq_false_iff_ne.2 (by omega)
  have b46 : ((t : Int) == 46) = false := beq_eq_false_iff_ne.2 (by omega)
  have b47 : ((t : Int) == 47) = false := beq_eq_false_iff_ne.2 (by omega)
  have b48 : ((t : Int) == 48) = false := beq_eq_false_iff_ne.2 (by omega)
  have b49 : ((t : Int) == 49) = false := beq_eq_false_iff_ne.2 (by omega)
  have b50 : ((t : Int) == 50) = false := beq_eq_false_iff_ne.2 (by omega)
  have b51 : ((t : Int) == 51) = false := beq_eq_false_iff_ne.2 (by omega)
  have b52 : ((t : Int) == 52) = false := beq_eq_false_iff_ne.2 (by omega)
  have b53 : ((t : Int) == 53) = false := beq_eq_false_iff_ne.2 (by omega)
  have b54 : ((t : Int) == 54) = false := beq_eq_false_iff_ne.2 (by omega)
  have b55 : ((t : Int) == 55) = false := beq_eq_false_iff_ne.2 (by omega)
  have b56 : ((t : Int) == 56) = false := beq_eq_false_iff_ne.2 (by omega)
  have b57 : ((t : Int) == 57) = false := beq_eq_false_iff_ne.2 (by omega)
  clear h1 h2 h3 h4 h6 h31 h46 h47 h48 h49 h50 h51 h52 h53 h54 h55 h56 h57
  unfold yv
  go_enter Tryz.func231, Tryz.ntmps231
  go_wp2
  go_ret
  exact RowT.none_ w Hy.out
theorem operators70 (w : World) (t : Nat) : Calls Tryz.prog 232 #[.int .u8 70, yv t] w (RowT w (jJ 70 t)) := by
  unfold yv
  go_enter Tryz.func232, Tryz.ntmps232
  go_wp2
  go_ret
  exact RowT.of w (jJ 70 t) rfl rfl rfl
theorem operators71 (w : World) (t : Nat) : Calls Tryz.prog 232 #[.int .u8 71, yv t] w (RowT w (jJ 71 t)) := by
  unfold yv
  go_enter Tryz.func232, Tryz.ntmps232
  go_wp2
  go_ret
  exact RowT.of w (jJ 71 t) rfl rfl rfl
theorem operators72 (w : World) (t : Nat) : Calls Tryz.prog 232 #[.int .u8 72, yv t] w (RowT w (jJ 72 t)) := by
  unfold yv
  go_enter Tryz.func232, Tryz.ntmps232
  go_wp2
  go_ret
  exact RowT.of w (jJ 72 t) rfl rfl rfl
theorem operators73 (w : World) (t : Nat) : Calls Tryz.prog 232 #[.int .u8 73, yv t] w (RowT w (jJ 73 t)) := by
  unfold yv
  go_enter Tryz.func232, Tryz.ntmps232
  go_wp2
  go_ret
  exact RowT.of w (jJ 73 t) rfl rfl rfl
theorem operators75 (w : World) (t : Nat) : Calls Tryz.prog 232 #[.int .u8 75, yv t] w (RowT w (jJ 75 t)) := by
  unfold yv
  go_enter Tryz.func232, Tryz.ntmps232
  go_wp2
  go_ret
  exact RowT.of w (jJ 75 t) rfl rfl rfl
theorem operators76 (w : World) (t : Nat) : Calls Tryz.prog 232 #[.int .u8 76, yv t] w (RowT w (jJ 76 t)) := by
  unfold yv
  go_enter Tryz.func232, Tryz.ntmps232
  go_wp2
  go_ret
  exact RowT.of w (jJ 76 t) rfl rfl rfl
theorem operators77 (w : World) (t : Nat) : Calls Tryz.prog 232 #[.int .u8 77, yv t] w (RowT w (jJ 77 t)) := by
  unfold yv
  go_enter Tryz.func232, Tryz.ntmps232
  go_wp2
  go_ret
  exact RowT.of w (jJ 77 t) rfl rfl rfl
theorem operators78 (w : World) (t : Nat) : Calls Tryz.prog 232 #[.int .u8 78, yv t] w (RowT w (jJ 78 t)) := by
  unfold yv
  go_enter Tryz.func232, Tryz.ntmps232
  go_wp2
  go_ret
  exact RowT.of w (jJ 78 t) rfl rfl rfl
theorem operators79 (w : World) (t : Nat) : Calls Tryz.prog 232 #[.int .u8 79, yv t] w (RowT w (jJ 79 t)) := by
  unfold yv
  go_enter Tryz.func232, Tryz.ntmps232
  go_wp2
  go_ret
  exact RowT.of w (jJ 79 t) rfl rfl rfl
theorem operators80 (w : World) (t : Nat) : Calls Tryz.prog 232 #[.int .u8 80, yv t] w (RowT w (jJ 80 t)) := by
  unfold yv
  go_enter Tryz.func232, Tryz.ntmps232
  go_wp2
  go_ret
  exact RowT.of w (jJ 80 t) rfl rfl rfl
theorem operators69 (w : World) (t : Nat) : Calls Tryz.prog 232 #[.int .u8 69, yv t] w (RowT w (jJ 69 t)) := by
  by_cases ht : t = 40
  · subst ht
    unfold yv
    go_enter Tryz.func232, Tryz.ntmps232
    go_wp2
    go_ret
    exact RowT.of w (jJ 69 40) rfl rfl rfl
  · have b1 : ((t : Int) == 40) = false := beq_eq_false_iff_ne.2 (by omega)
    have Hy := jJ0 (show jJ 69 t = [70] by show (if t = 40 then _ else [70]) = _; rw [if_neg ht])
    clear ht
    unfold yv
    go_enter Tryz.func232, Tryz.ntmps232
    go_wp2
    go_ret
    exact RowT.of w [70] Hy.out rfl rfl
theorem operators74 (w : World) (t : Nat) : Calls Tryz.prog 232 #[.int .u8 74, yv t] w (RowT w (jJ 74 t)) := by
  by_cases ht : t = 45
  · subst ht
    unfold yv
    go_enter Tryz.func232, Tryz.ntmps232
    go_wp2
    go_ret
    exact RowT.of w (jJ 74 45) rfl rfl rfl
  · have b1 : ((t : Int) == 45) = false := beq_eq_false_iff_ne.2 (by omega)
    have Hy := jJ0 (show jJ 74 t = [75] by show (if t = 45 then _ else [75]) = _; rw [if_neg ht])
    clear ht
    unfold yv
    go_enter Tryz.func232, Tryz.ntmps232
    go_wp2
    go_ret
    exact RowT.of w [75] Hy.out rfl rfl
theorem operators81 (w : World) (t : Nat) : Calls Tryz.prog 232 #[.int .u8 81, yv t] w (RowT w (jJ 81 t)) := by
  by_cases ht : t = 19
  · subst ht
    unfold yv
    go_enter Tryz.func232, Tryz.ntmps232
    go_wp2
    go_ret
    exact RowT.of w (jJ 81 19) rfl rfl rfl
  · have b1 : ((t : Int) == 19) = false := beq_eq_false_iff_ne.2 (by omega)
    have Hy := jJ0 (show jJ 81 t = [82] by show (if t = 19 then _ else [82]) = _; rw [if_neg ht])
    clear ht
    unfold yv
    go_enter Tryz.func232, Tryz.ntmps232
    go_wp2
    go_ret
    exact RowT.of w [82] Hy.out rfl rfl
theorem operators_any9 (w : World) (n t : Nat) : Calls Tryz.prog 232 #[yv n, yv t] w (RowT w (jJ n t)) := by
  by_cases h69 : n = 69
  · subst h69; exact operators69 w t
  by_cases h70 : n = 70
  · subst h70; exact operators70 w t
  by_cases h71 : n = 71
  · subst h71; exact operators71 w t
  by_cases h72 : n = 72
  · subst h72; exact operators72 w t
  by_cases h73 : n = 73
  · subst h73; exact operators73 w t
  by_cases h74 : n = 74
  · subst h74; exact operators74 w t
  by_cases h75 : n = 75
  · subst h75; exact operators75 w t
  by_cases h76 : n = 76
  · subst h76; exact operators76 w t
  by_cases h77 : n = 77
  · subst h77; exact operators77 w t
  by_cases h78 : n = 78
  · subst h78; exact operators78 w t
  by_cases h79 : n = 79
  · subst h79; exact operators79 w t
  by_cases h80 : n = 80
  · subst h80; exact operators80 w t
  by_cases h81 : n = 81
  · subst h81; exact operators81 w t
  have Hy := jJ0 (show jJ n t = [] by unfold jJ; rw [if_neg h69, if_neg h70, if_neg h71, if_neg h72, if_neg h73, if_neg h74, if_neg h75, if_neg h76, if_neg h77, if_neg h78, if_neg h79, if_neg h80, if_neg h81])
  have b69 : ((n : Int) == 69) = false := beq_eq_false_iff_ne.2 (by omega)
  have b70 : ((n : Int) == 70) = false := beq_eq_false_iff_ne.2 (by omega)
  have b71 : ((n : Int) == 71) = false := beq_eq_false_iff_ne.2 (by omega)
  have b72 : ((n : Int) == 72) = false := beq_eq_false_iff_ne.2 (by omega)
  have b73 : ((n : Int) == 73) = false := beq_eq_false_iff_ne.2 (by omega)
  have b74 : ((n : Int) == 74) = false := beq_eq_false_iff_ne.2 (by omega)
  have b75 : ((n : Int) == 75) = false := beq_eq_false_iff_ne.2 (by omega)
  have b76 : ((n : Int) == 76) = false := beq_eq_false_iff_ne.2 (by omega)
  have b77 : ((n : Int) == 77) = false := beq_eq_false_iff_ne.2 (by omega)
  have b78 : ((n : Int) == 78) = false := beq_eq_false_iff_ne.2 (by omega)
  have b79 : ((n : Int) == 79) = false := beq_eq_false_iff_ne.2 (by omega)
  have b80 : ((n : Int) == 80) = false := beq_eq_false_iff_ne.2 (by omega)
  have b81 : ((n : Int) == 81) = false := beq_eq_false_iff_ne.2 (by omega)
  clear h69 h70 h71 h72 h73 h74 h75 h76 h77 h78 h79 h80 h81
  unfold yv
  go_enter Tryz.func232, Tryz.ntmps232
  go_wp2
  go_ret
  exact RowT.none_ w Hy.out
theorem kN (n t : Nat) (h : jD n t = true) (X : List Nat) (e : (if n = 58 then kC t
  else if n = 59 \/ n = 60 then [t]
  else if n = 61 \/ n = 62 then [t, 69]
  else if n = 63 then [t, 1]
  else if n = 64 \/ n = 65 then [t, 32, 69, 9]
  else if n = 66 then [t, 10, 60, 67]
  else if n = 67 then [t, 1, 10, 60, 67]
  else if n = 68 then (if t = 33 then [t, 1, 9, 68] else [t, 11, 69, 9, 68])
  else if n = 83 then [69, 84]
  else if n = 84 then [t, 69, 84]
  else if n = 82 then kH t
  else jJ n t) = X) : jZ n t = X := by
  rw [jZ, if_neg (by rw [h]; decide)]
  exact e
theorem rule59 (w : World) (t : Nat) (hb : jD 59 t = true) : Calls Tryz.prog 208 #[.int .u8 59, yv t] w (RowT w (jZ 59 t)) := by
  have Hy := jJ0 (kN 59 t hb [t] rfl)
  have H := jJ0 (jm w 59 t)
  rw [hb] at H
  clear hb
  generalize jZ 59 t = R at *
  unfold yv at *
  go_enter Tryz.func208, Tryz.ntmps208
  go_wp2_with (go_at_call 206; refine H.out.mono ?_; rintro e w1 ⟨rfl, rfl⟩)
  go_ret
  exact RowT.of w [t] Hy.out rfl rfl
theorem rule60 (w : World) (t : Nat) (hb : jD 60 t = true) : Calls Tryz.prog 208 #[.int .u8 60, yv t] w (RowT w (jZ 60 t)) := by
  have Hy := jJ0 (kN 60 t hb [t] rfl)
  have H := jJ0 (jm w 60 t)
  rw [hb] at H
  clear hb
  generalize jZ 60 t = R at *
  unfold yv at *
  go_enter Tryz.func208, Tryz.ntmps208
  go_wp2_with (go_at_call 206; refine H.out.mono ?_; rintro e w1 ⟨rfl, rfl⟩)
  go_ret
  exact RowT.of w [t] Hy.out rfl rfl
theorem rule61 (w : World) (t : Nat) (hb : jD 61 t = true) : Calls Tryz.prog 208 #[.int .u8 61, yv t] w (RowT w (jZ 61 t)) := by
  have Hy := jJ0 (kN 61 t hb [t,69] rfl)
  have H := jJ0 (jm w 61 t)
  rw [hb] at H
  clear hb
  generalize jZ 61 t = R at *
  unfold yv at *
  go_enter Tryz.func208, Tryz.ntmps208
  go_wp2_with (go_at_call 206; refine H.out.mono ?_; rintro e w1 ⟨rfl, rfl⟩)
  go_ret
  exact RowT.of w [t,69] Hy.out rfl rfl
theorem rule62 (w : World) (t : Nat) (hb : jD 62 t = true) : Calls Tryz.prog 208 #[.int .u8 62, yv t] w (RowT w (jZ 62 t)) := by
  have Hy := jJ0 (kN 62 t hb [t,69] rfl)
  have H := jJ0 (jm w 62 t)
  rw [hb] at H
  clear hb
  generalize jZ 62 t = R at *
  unfold yv at *
  go_enter Tryz.func208, Tryz.ntmps208
  go_wp2_with (go_at_call 206; refine H.out.mono ?_; rintro e w1 ⟨rfl, rfl⟩)
  go_ret
  exact RowT.of w [t,69] Hy.out rfl rfl
theorem rule63 (w : World) (t : Nat) (hb : jD 63 t = true) : Calls Tryz.prog 208 #[.int .u8 63, yv t] w (RowT w (jZ 63 t)) := by
  have Hy := jJ0 (kN 63 t hb [t,1] rfl)
  have H := jJ0 (jm w 63 t)
  rw [hb] at H
  clear hb
  generalize jZ 63 t = R at *
  unfold yv at *
  go_enter Tryz.func208, Tryz.ntmps208
  go_wp2_with (go_at_call 206; refine H.out.mono ?_; rintro e w1 ⟨rfl, rfl⟩)
  go_ret
  exact RowT.of w [t,1] Hy.out rfl rfl
theorem rule64 (w : World) (t : Nat) (hb : jD 64 t = true) : Calls Tryz.prog 208 #[.int .u8 64, yv t] w (RowT w (jZ 64 t)) := by
  have Hy := jJ0 (kN 64 t hb [t,32,69,9] rfl)
  have H := jJ0 (jm w 64 t)
  rw [hb] at H
  clear hb
  generalize jZ 64 t = R at *
  unfold yv at *
  go_enter Tryz.func208, Tryz.ntmps208
  go_wp2_with (go_at_call 206; refine H.out.mono ?_; rintro e w1 ⟨rfl, rfl⟩)
  go_ret
  exact RowT.of w [t,32,69,9] Hy.out rfl rfl
theorem rule65 (w : World) (t : Nat) (hb : jD 65 t = true) : Calls Tryz.prog 208 #[.int .u8 65, yv t] w (RowT w (jZ 65 t)) := by
  have Hy := jJ0 (kN 65 t hb [t,32,69,9] rfl)
  have H := jJ0 (jm w 65 t)
  rw [hb] at H
  clear hb
  generalize jZ 65 t = R at *
  unfold yv at *
  go_enter Tryz.func208, Tryz.ntmps208
  go_wp2_with (go_at_call 206; refine H.out.mono ?_; rintro e w1 ⟨rfl, rfl⟩)
  go_ret
  exact RowT.of w [t,32,69,9] Hy.out rfl rfl
theorem rule66 (w : World) (t : Nat) (hb : jD 66 t = true) : Calls Tryz.prog 208 #[.int .u8 66, yv t] w (RowT w (jZ 66 t)) := by
  have Hy := jJ0 (kN 66 t hb [t,10,60,67] rfl)
  have H := jJ0 (jm w 66 t)
  rw [hb] at H
  clear hb
  generalize jZ 66 t = R at *
  unfold yv at *
  go_enter Tryz.func208, Tryz.ntmps208
  go_wp2_with (go_at_call 206; refine H.out.mono ?_; rintro e w1 ⟨rfl, rfl⟩)
  go_ret
  exact RowT.of w [t,10,60,67] Hy.out rfl rfl
theorem rule67 (w : World) (t : Nat) (hb : jD 67 t = true) : Calls Tryz.prog 208 #[.int .u8 67, yv t] w (RowT w (jZ 67 t)) := by
  have Hy := jJ0 (kN 67 t hb [t,1,10,60,67] rfl)
  have H := jJ0 (jm w 67 t)
  rw [hb] at H
  clear hb
  generalize jZ 67 t = R at *
  unfold yv at *
  go_enter Tryz.func208, Tryz.ntmps208
  go_wp2_with (go_at_call 206; refine H.out.mono ?_; rintro e w1 ⟨rfl, rfl⟩)
  go_ret
  exact RowT.of w [t,1,10,60,67] Hy.out rfl rfl
theorem rule83 (w : World) (t : Nat) (hb : jD 83 t = true) : Calls Tryz.prog 208 #[.int .u8 83, yv t] w (RowT w (jZ 83 t)) := by
  have Hy := jJ0 (kN 83 t hb [69,84] rfl)
  have H := jJ0 (jm w 83 t)
  rw [hb] at H
  clear hb
  generalize jZ 83 t = R at *
  unfold yv at *
  go_enter Tryz.func208, Tryz.ntmps208
  go_wp2_with (go_at_call 206; refine H.out.mono ?_; rintro e w1 ⟨rfl, rfl⟩)
  go_ret
  exact RowT.of w [69,84] Hy.out rfl rfl
theorem rule84 (w : World) (t : Nat) (hb : jD 84 t = true) : Calls Tryz.prog 208 #[.int .u8 84, yv t] w (RowT w (jZ 84 t)) := by
  have Hy := jJ0 (kN 84 t hb [t,69,84] rfl)
  have H := jJ0 (jm w 84 t)
  rw [hb] at H
  clear hb
  generalize jZ 84 t = R at *
  unfold yv at *
  go_enter Tryz.func208, Tryz.ntmps208
  go_wp2_with (go_at_call 206; refine H.out.mono ?_; rintro e w1 ⟨rfl, rfl⟩)
  go_ret
  exact RowT.of w [t,69,84] Hy.out rfl rfl
theorem rule68a (w : World) (t : Nat) (hb : jD 68 t = true) (ht : t=33) : Calls Tryz.prog 208 #[.int .u8 68, yv t] w (RowT w (jZ 68 t)) := by
  have Hy := jJ0 (kN 68 t hb [t,1,9,68] (by show (if t = 33 then _ else _) = _; rw [if_pos ht]))
  have H := jJ0 (jm w 68 t)
  have b1 : ((t : Int) == 33) = true := by simp; omega
  rw [hb] at H
  clear hb ht
  generalize jZ 68 t = R at *
  unfold yv at *
  go_enter Tryz.func208, Tryz.ntmps208
  go_wp2_with (go_at_call 206; refine H.out.mono ?_; rintro e w1 ⟨rfl, rfl⟩)
  go_ret
  exact RowT.of w [t,1,9,68] Hy.out rfl rfl
theorem rule68b (w : World) (t : Nat) (hb : jD 68 t = true) (ht : ¬t=33) : Calls Tryz.prog 208 #[.int .u8 68, yv t] w (RowT w (jZ 68 t)) := by
  have Hy := jJ0 (kN 68 t hb [t,11,69,9,68] (by show (if t = 33 then _ else _) = _; rw [if_neg ht]))
  have H := jJ0 (jm w 68 t)
  have b1 : ((t : Int) == 33) = false := by simp; omega
  rw [hb] at H
  clear hb ht
  generalize jZ 68 t = R at *
  unfold yv at *
  go_enter Tryz.func208, Tryz.ntmps208
  go_wp2_with (go_at_call 206; refine H.out.mono ?_; rintro e w1 ⟨rfl, rfl⟩)
  go_ret
  exact RowT.of w [t,11,69,9,68] Hy.out rfl rfl
theorem rule58 (w : World) (t : Nat) (hb : jD 58 t = true) : Calls Tryz.prog 208 #[.int .u8 58, yv t] w (RowT w (jZ 58 t)) := by
  have Hy := jJ0 (kN 58 t hb (kC t) rfl)
  have H := jJ0 (jm w 58 t)
  have H2 := jJ0 (declared_any9 w t)
  rw [hb] at H
  clear hb
  generalize jZ 58 t = R at *
  generalize kC t = l at *
  unfold yv at *
  go_enter Tryz.func208, Tryz.ntmps208
  go_wp2_with (first | (go_at_call 206; refine H.out.mono ?_; rintro e w1 ⟨rfl, rfl⟩) | (go_at_call 230; refine H2.out.mono ?_; rintro e w1 ⟨A, c, rfl, hrd, hav, hold⟩))
  go_ret
  exact ⟨A, c, by rw [Hy.out]; rfl, by rw [Hy.out]; exact hrd, by rw [Hy.out]; exact hav, hold⟩
theorem rule82 (w : World) (t : Nat) (hb : jD 82 t = true) : Calls Tryz.prog 208 #[.int .u8 82, yv t] w (RowT w (jZ 82 t)) := by
  have Hy := jJ0 (kN 82 t hb (kH t) rfl)
  have H := jJ0 (jm w 82 t)
  have H2 := jJ0 (atom_any9 w t)
  rw [hb] at H
  clear hb
  generalize jZ 82 t = R at *
  generalize kH t = l at *
  unfold yv at *
  go_enter Tryz.func208, Tryz.ntmps208
  go_wp2_with (first | (go_at_call 206; refine H.out.mono ?_; rintro e w1 ⟨rfl, rfl⟩) | (go_at_call 231; refine H2.out.mono ?_; rintro e w1 ⟨A, c, rfl, hrd, hav, hold⟩))
  go_ret
  exact ⟨A, c, by rw [Hy.out]; rfl, by rw [Hy.out]; exact hrd, by rw [Hy.out]; exact hav, hold⟩
theorem rule_any (w : World) (n t : Nat) : Calls Tryz.prog 208 #[yv n, yv t] w (RowT w (jZ n t)) := by
  by_cases hb : jD n t = true
  case neg =>
    rw [Bool.not_eq_true] at hb
    have Hy := jJ0 (show jZ n t = [] by rw [jZ, if_pos hb])
    have H := jJ0 (jm w n t)
    rw [hb] at H
    clear hb
    generalize jZ n t = R at *
    unfold yv at *
    go_enter Tryz.func208, Tryz.ntmps208
    go_wp2_with (go_at_call 206; refine H.out.mono ?_; rintro e w1 ⟨rfl, rfl⟩)
    go_ret
    exact RowT.none_ w Hy.out
  by_cases h58 : n = 58
  · subst h58; exact rule58 w t hb
  by_cases h59 : n = 59
  · subst h59; exact rule59 w t hb
  by_cases h60 : n = 60
  · subst h60; exact rule60 w t hb
  by_cases h61 : n = 61
  · subst h61; exact rule61 w t hb
  by_cases h62 : n = 62
  · subst h62; exact rule62 w t hb
  by_cases h63 : n = 63
  · subst h63; exact rule63 w t hb
  by_cases h64 : n = 64
  · subst h64; exact rule64 w t hb
  by_cases h65 : n = 65
  · subst h65; exact rule65 w t hb
  by_cases h66 : n = 66
  · subst h66; exact rule66 w t hb
  by_cases h67 : n = 67
  · subst h67; exact rule67 w t hb
  by_cases h68 : n = 68
  · subst h68
    by_cases ht : t = 33
    · exact rule68a w t hb ht
    · exact rule68b w t hb ht
  by_cases h82 : n = 82
  · subst h82; exact rule82 w t hb
  by_cases h83 : n = 83
  · subst h83; exact rule83 w t hb
  by_cases h84 : n = 84
  · subst h84; exact rule84 w t hb
  have Hy := jJ0 (kN n t hb (jJ n t) (by rw [if_neg h58, if_neg (by omega), if_neg (by omega), if_neg h63, if_neg (by omega), if_neg h66, if_neg h67, if_neg h68, if_neg h83, if_neg h84, if_neg h82]))
  have H := jJ0 (jm w n t)
  have H2 := jJ0 (operators_any9 w n t)
  rw [hb] at H
  clear hb
  generalize jZ n t = R at *
  generalize jJ n t = l at *
  have b58 : ((n : Int) == 58) = false := beq_eq_false_iff_ne.2 (by omega)
  have b59 : ((n : Int) == 59) = false := beq_eq_false_iff_ne.2 (by omega)
  have b60 : ((n : Int) == 60) = false := beq_eq_false_iff_ne.2 (by omega)
  have b61 : ((n : Int) == 61) = false := beq_eq_false_iff_ne.2 (by omega)
  have b62 : ((n : Int) == 62) = false := beq_eq_false_iff_ne.2 (by omega)
  have b63 : ((n : Int) == 63) = false := beq_eq_false_iff_ne.2 (by omega)
  have b64 : ((n : Int) == 64) = false := beq_eq_false_iff_ne.2 (by omega)
  have b65 : ((n : Int) == 65) = false := beq_eq_false_iff_ne.2 (by omega)
  have b66 : ((n : Int) == 66) = false := beq_eq_false_iff_ne.2 (by omega)
  have b67 : ((n : Int) == 67) = false := beq_eq_false_iff_ne.2 (by omega)
  have b68 : ((n : Int) == 68) = false := beq_eq_false_iff_ne.2 (by omega)
  have b82 : ((n : Int) == 82) = false := beq_eq_false_iff_ne.2 (by omega)
  have b83 : ((n : Int) == 83) = false := beq_eq_false_iff_ne.2 (by omega)
  have b84 : ((n : Int) == 84) = false := beq_eq_false_iff_ne.2 (by omega)
  clear h58 h59 h60 h61 h62 h63 h64 h65 h66 h67 h68 h82 h83 h84
  unfold yv at *
  go_enter Tryz.func208, Tryz.ntmps208
  go_wp2_with (first | (go_at_call 206; refine H.out.mono ?_; rintro e w1 ⟨rfl, rfl⟩) | (go_at_call 232; refine H2.out.mono ?_; rintro e w1 ⟨A, c, rfl, hrd, hav, hold⟩))
  go_ret
  exact ⟨A, c, by rw [Hy.out]; rfl, by rw [Hy.out]; exact hrd, by rw [Hy.out]; exact hav, hold⟩
theorem may_drop (t : Nat) (st : List Nat) (j : Nat) (hj : j < st.length) : mayN t (st.drop j) = if jD (st.getD j 0) t = true then true else if jY (st.getD j 0) = true then mayN t (st.drop (j + 1)) else false := by
  rw [List.drop_eq_getElem_cons hj, mayN]
  simp only [List.getD, List.getElem?_eq_getElem hj, Option.getD_some]
theorem Stk.most {w : World} {st : List Nat} {A : Option Addr} {c : Nat} (h : Stk w st A c) : st.length <= 9223372036854775807 := by
  rcases h.2 with ⟨_, h0⟩ | ⟨g, cap, cur, _, _, _, h1, h2, _⟩
  · omega
  · unfold maxLen at h2; omega
theorem may_any (w : World) (g : Nat) (r : Option Nat) (src : ByteArray) (m : Mc) (A : Option Addr) (c : Nat) (h : Mac w g r src m A c) (t : Nat) :
    Calls Tryz.prog 176 #[.pointer (some ⟨g, 0, none⟩), yv t] w fun e w' => e = .returned (.bool (mayN t m.stack)) /\ w = w' := by
  have Hown := jJ0 h.own
  have hc2 := h.blk.at_ 2 rfl
  have Hsym := jJ0 h.sym
  have hmost := h.own.most
  clear h
  generalize m.stack = st at *
  have HR := jJ0 (show mayN t st = mayN t (st.drop (st.length - st.length)) by rw [Nat.sub_self, List.drop_zero])
  have Hdrop := jJ0 (may_drop t st)
  generalize hL : st.length = L at *
  have HL := jJ0 hL
  clear hL
  generalize mayN t st = R at *
  have ew : IntKind.i64.wrap ((L : Int) - 1) = (L : Int) - 1 := IntWalk.i64_in _ (by omega)
  go_enter Tryz.func176, Tryz.ntmps176
  go_wp2
  go_loop [5] (fun i => ∃ p : Nat, p <= L /\ i = .int .i64 ((p : Int) - 1) /\ R = mayN t (st.drop (L - p))) (fun i => (intOf i + 1).toNat)
  case atStart => exact ⟨L, Nat.le_refl _, rfl, HR.out⟩
  case round =>
    obtain ⟨p, hp, rfl, hR⟩ := hrel
    by_cases h0 : 0 < p
    · obtain ⟨q, rfl⟩ : ∃ q, p = q + 1 := ⟨p - 1, by omega⟩
      have hlt : q < L := by omega
      obtain ⟨b, o, rfl, hcell⟩ := Hown.out.at_ (L - 1 - q) (by rw [HL.out]; omega)
      rw [HL.out, show L - 1 - (L - 1 - q) = q by omega] at hcell
      have hd := Hdrop.out (L - 1 - q) (by omega)
      rw [show L - 1 - q + 1 = L - q by omega] at hd
      rw [show L - (q + 1) = L - 1 - q by omega, hd] at hR
      clear hd
      have h85 : st.getD (L - 1 - q) 0 < 85 := Hsym.out _ (by
        have : L - 1 - q < st.length := by rw [HL.out]; omega
        simp [List.getD, List.getElem?_eq_getElem this])
      generalize st.getD (L - 1 - q) 0 = n at *
      rw [show ((q + 1 : Nat) : Int) - 1 = (q : Int) by omega]
      have B := jJ0 (jm w n t)
      have Em := jJ0 (empty_any w n)
      have HR2 := jJ0 hR
      clear hR
      generalize hbg : jD n t = bb at *
      generalize hem : jY n = ee at *
      clear hbg hem
      have b1 : (0 : Int) <= (q : Int) := by omega
      have b2 : (q : Int) < (L : Int) := by omega
      have b3 : (q : Int).toNat = q := by omega
      have b4 : IntKind.i64.wrap ((q : Int) - 1) = (q : Int) - 1 := IntWalk.i64_in _ (by omega)
      unfold yv at *
      cases bb
      · cases ee
        · have HF := jJ0 (show R = false by have := HR2.out; simpa using this)
          go_wp2_with (first | (go_at_call 206; refine B.out.mono ?_; rintro e w1 ⟨rfl, rfl⟩) | (go_at_call 202; refine Em.out.mono ?_; rintro e w1 ⟨rfl, rfl⟩))
          go_ret
          exact ⟨by rw [HF.out]; rfl, rfl⟩
        · have HF := jJ0 (show R = mayN t (st.drop (L - q)) by have := HR2.out; simpa using this)
          go_wp2_with (first | (go_at_call 206; refine B.out.mono ?_; rintro e w1 ⟨rfl, rfl⟩) | (go_at_call 202; refine Em.out.mono ?_; rintro e w1 ⟨rfl, rfl⟩))
          go_round
          case rel => exact ⟨q, by omega, by go_num, HF.out⟩
          case measure => simp [intOf]
      · have HF := jJ0 (show R = true by have := HR2.out; simpa using this)
        go_wp2_with (first | (go_at_call 206; refine B.out.mono ?_; rintro e w1 ⟨rfl, rfl⟩) | (go_at_call 202; refine Em.out.mono ?_; rintro e w1 ⟨rfl, rfl⟩))
        go_ret
        exact ⟨by rw [HF.out]; rfl, rfl⟩
    · obtain rfl : p = 0 := by omega
      have HF := jJ0 (show R = false by rw [hR, Nat.sub_zero, <- HL.out, List.drop_length]; rfl)
      clear hR
      go_wp2
      go_ret
      exact ⟨by rw [HF.out]; rfl, rfl⟩
section
variable {P : Program}
theorem cut_h {t : TypeId} (ht : P.underlying t = some (.slice (P.elem t))) {s : Nat} (hs : ∀ w, (sizeOf (P.elem t)).run P w = .ok s w) (A : Option Addr) (len c h : Nat) (kh : IntKind) (H : Int) (hH : H = h) (hh : h <= c) (w : World) :
    (Instr.slice t (.slice A len c) none (some (.int kh H)) none).run P w = .ok (.slice A h c) w := by
  subst hH
  rw [run_slice_h (ht := ht) (h0 := by omega) (h2 := by omega), hs]
  simp [sliced]
  intro _
  cases A <;> rfl
end
end Go.Proofs.YtmmjcbbogokmfaaGreatDoor
