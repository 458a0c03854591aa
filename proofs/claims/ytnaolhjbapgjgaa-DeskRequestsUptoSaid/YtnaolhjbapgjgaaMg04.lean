import Derived.Test.YtnaolhjbapgjgaaMg01
import Derived.Test.YtnaolhjbapgjgaaMg03
/- octet's Reader: what it is in memory, and contracts of Read, refuse, ahead, Take. -/
namespace Go.Proofs.Ytnaolhjbapgjgaa
open Go.RowKit
attribute [local go_sem ↓] Go.wp_at_zero Go.wp_at_succ

/-- a number off bytes, the highest first -/
def ofBe (l : List UInt8) : Nat := l.foldl (fun n b => n * 256 + b.toNat) 0
theorem ofBe_snoc (l : List UInt8) (b : UInt8) : ofBe (l ++ [b]) = ofBe l * 256 + b.toNat := by simp [ofBe]
theorem ofBe_fold (l : List UInt8) : ∀ n, l.foldl (fun n b => n * 256 + b.toNat) n < (n + 1) * 256 ^ l.length := by
  induction l with
  | nil => intro n; simp
  | cons a l ih =>
    intro n
    have h := ih (n * 256 + a.toNat)
    rw [List.foldl_cons, List.length_cons]
    have ha := a.toNat_lt
    refine Nat.lt_of_lt_of_le h ?_
    rw [Nat.pow_succ, Nat.mul_comm (256 ^ l.length) 256, ← Nat.mul_assoc]
    refine Nat.mul_le_mul_right _ ?_
    omega
theorem ofBe_lt (l : List UInt8) : ofBe l < 256 ^ l.length := by
  have := ofBe_fold l 0
  simpa [ofBe] using this

theorem or_step (n y : Nat) (hn : n < 72057594037927936) (hy : y < 256) : bits .or .u64 (IntKind.u64.wrap ((n : Int) * 256)) (IntKind.u64.wrap (y : Int)) = ((n * 256 + y : Nat) : Int) := by
  have e1 : IntKind.u64.wrap ((n : Int) * 256) = ((n * 256 : Nat) : Int) := by rw [IntWalk.u64_in _ (by omega)]; simp
  have e2 : IntKind.u64.wrap (y : Int) = (y : Int) := IntWalk.u64_in _ (by omega)
  rw [e1, e2, u64_or_nat _ _ (by omega) (by omega)]
  have := Nat.two_pow_add_eq_or_of_lt (i := 8) (b := y) (by omega) n
  rw [show n * 256 = 2 ^ 8 * n by omega, ← this]
theorem ofBe_take_succ (bs : List UInt8) (p j : Nat) (h : p + j < bs.length) : ofBe ((bs.drop p).take (j + 1)) = ofBe ((bs.drop p).take j) * 256 + (bs.getD (p + j) 0).toNat := by
  have hl : j < (bs.drop p).length := by rw [List.length_drop]; omega
  rw [List.take_succ_eq_append_getElem hl, ofBe_snoc, List.getElem_drop]
  simp [List.getD, List.getElem?_eq_getElem h]
theorem ofBe_take_lt (l : List UInt8) (k : Nat) : ofBe (l.take k) < 256 ^ k := by
  refine Nat.lt_of_lt_of_le (ofBe_lt _) (Nat.pow_le_pow_right (by decide) ?_)
  rw [List.length_take]
  omega
theorem tuple3_eq {a a' b b' c c' : Value} (h1 : a = a') (h2 : b = b') (h3 : c = c') : Ending.returned (.tuple #[a, b, c]) = .returned (.tuple #[a', b', c']) := by rw [h1, h2, h3]

structure Rs where
  at_ : Nat
  why : Int

/-- The Reader at block g reads bs; its state. -/
def Rr (w : World) (g : Nat) (bs : List UInt8) (s : Rs) : Prop :=
  ∃ A c, Blk w g 96 #[.slice A bs.length c, .int .i64 s.at_, .int .i64 s.why] ∧ Rd w 1 A bs.length (bs.map bv) ∧ Av (fun k => g ≤ k) bs.length A ∧ bs.length ≤ c ∧ s.at_ ≤ bs.length ∧ bs.length ≤ 100000000
/-- the block that a Reader's call may turn -/
def RX (g : Nat) : Nat → Prop := fun k => k = g

section
variable {w w1 : World} {g : Nat} {bs : List UInt8} {s : Rs}
theorem Rr.old (h : Rr w g bs s) (ho : Old w w1) : Rr w1 g bs s := by
  obtain ⟨A, c, hb, hr, ha, hc, hs, hl⟩ := h
  exact ⟨A, c, hb.old ho, hr.old ho, ha, hc, hs, hl⟩
theorem Rr.kp {X : Nat → Prop} (h : Rr w g bs s) (hk : Kp X w w1) (hX : ∀ k, k ≤ g → ¬ X k) : Rr w1 g bs s := by
  obtain ⟨A, c, hb, hr, ha, hc, hs, hl⟩ := h
  refine ⟨A, c, hb.kp hk (hX g (Nat.le_refl _)), hr.kp hk (fun hn ad e hx => ?_), ha, hc, hs, hl⟩
  have := ha hn ad e
  exact hX ad.block (by omega) hx
/-- a store into a later block -/
theorem Rr.set (h : Rr w g bs s) {p : Addr} (hp : g < p.block) (u : Value) : Rr (w.setCell p u) g bs s :=
  h.kp ((Kp.refl (fun k => k = p.block) w).setCell (fun _ => rfl) u) (fun k hk e => by omega)
theorem av_eq {n : Nat} {A : Option Addr} (h : Av (fun k => g ≤ k) n A) : Av (fun k => k = g) n A := fun hn ad e hx => h hn ad e (by omega)
theorem Rr.lt (h : Rr w g bs s) : g < w.heap.size := by
  obtain ⟨A, c, hb, _⟩ := h
  exact hb.lt
theorem Rr.why (h : Rr w g bs s) : w.cell? ⟨g, 2, none⟩ = some (.int .i64 s.why) := by
  obtain ⟨A, c, hb, _⟩ := h
  exact hb.at_ 2 rfl
theorem Rr.atc (h : Rr w g bs s) : w.cell? ⟨g, 1, none⟩ = some (.int .i64 s.at_) := by
  obtain ⟨A, c, hb, _⟩ := h
  exact hb.at_ 1 rfl
theorem Rr.zer (h : Rr w g bs s) (i : Nat) : w.frozen? ⟨g, i, none⟩ = false := by
  obtain ⟨A, c, hb, _⟩ := h
  exact hb.frozen i
theorem Rr.fits (h : Rr w g bs s) : s.at_ ≤ bs.length ∧ bs.length ≤ 100000000 := by
  obtain ⟨A, c, _, _, _, _, hs, hl⟩ := h
  exact ⟨hs, hl⟩
theorem Rr.setAt (h : Rr w g bs s) (n : Nat) (hn : n ≤ bs.length) : Rr (w.setCell ⟨g, 1, none⟩ (.int .i64 n)) g bs ⟨n, s.why⟩ := by
  obtain ⟨A, c, hb, hr, ha, hc, hs, hl⟩ := h
  refine ⟨A, c, hb.set_ 1 _, hr.kp ((Kp.refl (fun k => k = g) _).setCell (p := ⟨g, 1, none⟩) (fun _ => rfl) _) (av_eq ha), ha, hc, hn, hl⟩
theorem Rr.setWhy (h : Rr w g bs s) (n : Int) : Rr (w.setCell ⟨g, 2, none⟩ (.int .i64 n)) g bs ⟨s.at_, n⟩ := by
  obtain ⟨A, c, hb, hr, ha, hc, hs, hl⟩ := h
  refine ⟨A, c, hb.set_ 2 _, hr.kp ((Kp.refl (fun k => k = g) _).setCell (p := ⟨g, 2, none⟩) (fun _ => rfl) _) (av_eq ha), ha, hc, hs, hl⟩
end

set_option maxHeartbeats 400000 in
theorem read_any (w : World) (A : Option Addr) (n c : Nat) (bs : List UInt8) (hr : Rd w 1 A n (bs.map bv)) (hn : n ≤ 100000000) :
    Calls Try.prog 34 #[.slice A n c] w fun e w' => ∃ g, e = .returned (.pointer (some ⟨g, 0, none⟩)) ∧ w.heap.size ≤ g ∧ Rr w' g bs ⟨0, 0⟩ ∧ Old w w' := by
  have hl : bs.length = n := by simpa using hr.1
  subst hl
  have H63 := Lib.hid (show 0 + bs.length ≤ maxLen by unfold maxLen; omega)
  have H47 := Lib.hid (show (0 + bs.length) * 1 ≤ 140737488355328 by omega)
  have Hn := Lib.hid hn
  clear hn
  obtain ⟨i0, hi, hz0, hz1, hz2⟩ := info_parts Try.infoByte
  go_enter Try.func34, Try.ntmps34
  go_wp2_with (at_builtin; refine wpList_append_any _ rfl (.const (.slice none 0 0)) (.tmp 3) 27 rfl w.heap.size 5 i0 (.int .u8 0) 1 1 Try.underlying27 hi hz0 hz1 hz2 rfl (by decide) (.slice none 0 0) 0 [] rfl (World.ownsRow_nil _ _ _ _) A bs.length c (bs.map bv) rfl hr (one_bytes _) H63.out H47.out (Nat.le_refl _) ?_; intro A' c' w1 hown hgrow hat)
  go_ret
  have ho1 : Old w w1 := (Kp.refl _ _).grown hgrow (fun k e => by simp [Value.ownBlock] at e)
  rw [Nat.zero_add, List.nil_append] at hown
  have hrd := Rd.of_own hown
  refine ⟨w1.heap.size, rfl, ho1.size, ⟨A', c', ?_, hrd.alloc _, ?_, ?_, Nat.zero_le _, Hn.out⟩, ho1.alloc _⟩
  · exact Blk.new _ _ _
  · intro hn ad e hx
    have := hrd.lt (by decide) hn e
    omega
  · rcases hown.2 with ⟨e, h0⟩ | ⟨g, cap, cur, e, _, _, hnc, _⟩
    · omega
    · injection e with e1 e2 e3
      omega

set_option maxHeartbeats 400000 in
theorem refuse_any (w : World) (g : Nat) (bs : List UInt8) (s : Rs) (e : Int) (h : Rr w g bs s) (hw : s.why = 0) :
    Calls Try.prog 56 #[.pointer (some ⟨g, 0, none⟩), .int .i64 e] w fun x w' => x = .returned (.tuple #[]) ∧ Rr w' g bs ⟨s.at_, e⟩ ∧ Kp (RX g) w w' := by
  have hc2 := h.why
  have hz2 := h.zer 2
  rw [hw] at hc2
  have Hw := Lib.hid hw
  clear hw
  go_enter Try.func56, Try.ntmps56
  go_wp2
  go_end0
  exact ⟨rfl, h.setWhy e, (Kp.refl (RX g) _).setCell (p := ⟨g, 2, none⟩) (fun _ => rfl) _⟩

set_option maxHeartbeats 400000 in
theorem ahead8_no (w : World) (g : Nat) (bs : List UInt8) (s : Rs) (p : Nat) (h : Rr w g bs s) (hp : p ≤ bs.length) (hk : bs.length < p + 1) :
    Calls Try.prog 55 #[.pointer (some ⟨g, 0, none⟩), .int .i64 p] w fun e w' => e = .returned (.tuple #[.int .u8 0, .int .i64 p, .bool false]) ∧ w = w' := by
  obtain ⟨A, c, hb, hr, ha, hc, hs, hl⟩ := h
  have hc0 := hb.at_ 0 rfl
  go_enter Try.func55, Try.ntmps55
  go_wp2_with (go_at_call 28; refine (width8_any _).mono ?_; rintro e w' ⟨rfl, rfl⟩)
  go_ret3
  exact ⟨rfl, rfl⟩
set_option maxRecDepth 100000 in
set_option maxHeartbeats 800000 in
theorem ahead8_yes (w : World) (g : Nat) (bs : List UInt8) (s : Rs) (p : Nat) (h : Rr w g bs s) (hk : p + 1 ≤ bs.length) :
    Calls Try.prog 55 #[.pointer (some ⟨g, 0, none⟩), .int .i64 p] w fun e w' => e = .returned (.tuple #[.int .u8 (ofBe ((bs.drop p).take 1)), .int .i64 ((p + 1 : Nat) : Int), .bool true]) ∧ w = w' := by
  obtain ⟨A, c, hb, hr, ha, hc, hs, hl⟩ := h
  have hc0 := hb.at_ 0 rfl
  obtain ⟨b, o, rfl, hcell⟩ := hr.2 (by omega)
  have Hcell := Lib.hid hcell
  clear hcell
  go_enter Try.func55, Try.ntmps55
  go_wp2_with (go_at_call 28; refine (width8_any _).mono ?_; rintro e w' ⟨rfl, rfl⟩)
  go_loop [32, 8] (fun i n => ∃ j : Nat, j ≤ 1 ∧ i = .int .i64 j ∧ n = .int .u64 (ofBe ((bs.drop p).take j))) (fun i _ => 1 - (intOf i).toNat)
  case atStart => exact ⟨0, by omega, rfl, rfl⟩
  case round =>
    obtain ⟨j, hj, rfl, rfl⟩ := hrel
    by_cases hlt : j < 1
    · have hx : w.cell? ⟨b, o + p + j, none⟩ = some (.int .u8 ((bs.getD (p + j) 0).toNat : Int)) := by
        rw [Nat.add_assoc]
        refine Hcell.out (p + j) _ ?_
        rw [List.getElem?_map, List.getElem?_eq_getElem (by omega)]
        simp [bv, List.getD, List.getElem?_eq_getElem (show p + j < bs.length by omega)]
      have hsucc := ofBe_take_succ bs p j (by omega)
      have hlt56 : ofBe ((bs.drop p).take j) < 72057594037927936 := Nat.lt_of_lt_of_le (ofBe_take_lt _ _) (Nat.le_trans (Nat.pow_le_pow_right (n := 256) (by decide) (show j ≤ 7 by omega)) (by decide))
      generalize bs.getD (p + j) 0 = y at hx hsucc
      generalize ofBe ((bs.drop p).take j) = nn at *
      have Hs := Lib.hid hsucc
      have H56 := Lib.hid hlt56
      clear hsucc hlt56
      go_wp2
      go_round
      case rel => exact ⟨j + 1, by omega, by go_num, int_eq (by rw [or_step nn y.toNat H56.out y.toNat_lt, Hs.out])⟩
      case measure => simp [intOf]; omega
    · obtain rfl : j = 1 := by omega
      have hN := ofBe_take_lt (bs.drop p) 1
      generalize hnn : ofBe ((bs.drop p).take 1) = nn at *
      have HN := Lib.hid hN
      have Hnn := Lib.hid hnn
      clear hN hnn
      go_wp2
      go_ret3
      have hN := HN.out
      refine ⟨tuple3_eq (int_eq ?_) rfl rfl, rfl⟩
      have hnn := Hnn.out
      first | omega | (rw [hnn]; exact IntWalk.u8_in _ (by omega))
set_option maxHeartbeats 400000 in
theorem ahead16_no (w : World) (g : Nat) (bs : List UInt8) (s : Rs) (p : Nat) (h : Rr w g bs s) (hp : p ≤ bs.length) (hk : bs.length < p + 2) :
    Calls Try.prog 86 #[.pointer (some ⟨g, 0, none⟩), .int .i64 p] w fun e w' => e = .returned (.tuple #[.int .u16 0, .int .i64 p, .bool false]) ∧ w = w' := by
  obtain ⟨A, c, hb, hr, ha, hc, hs, hl⟩ := h
  have hc0 := hb.at_ 0 rfl
  go_enter Try.func86, Try.ntmps86
  go_wp2_with (go_at_call 84; refine (width16_any _).mono ?_; rintro e w' ⟨rfl, rfl⟩)
  go_ret3
  exact ⟨rfl, rfl⟩
set_option maxRecDepth 100000 in
set_option maxHeartbeats 800000 in
theorem ahead16_yes (w : World) (g : Nat) (bs : List UInt8) (s : Rs) (p : Nat) (h : Rr w g bs s) (hk : p + 2 ≤ bs.length) :
    Calls Try.prog 86 #[.pointer (some ⟨g, 0, none⟩), .int .i64 p] w fun e w' => e = .returned (.tuple #[.int .u16 (ofBe ((bs.drop p).take 2)), .int .i64 ((p + 2 : Nat) : Int), .bool true]) ∧ w = w' := by
  obtain ⟨A, c, hb, hr, ha, hc, hs, hl⟩ := h
  have hc0 := hb.at_ 0 rfl
  obtain ⟨b, o, rfl, hcell⟩ := hr.2 (by omega)
  have Hcell := Lib.hid hcell
  clear hcell
  go_enter Try.func86, Try.ntmps86
  go_wp2_with (go_at_call 84; refine (width16_any _).mono ?_; rintro e w' ⟨rfl, rfl⟩)
  go_loop [32, 8] (fun i n => ∃ j : Nat, j ≤ 2 ∧ i = .int .i64 j ∧ n = .int .u64 (ofBe ((bs.drop p).take j))) (fun i _ => 2 - (intOf i).toNat)
  case atStart => exact ⟨0, by omega, rfl, rfl⟩
  case round =>
    obtain ⟨j, hj, rfl, rfl⟩ := hrel
    by_cases hlt : j < 2
    · have hx : w.cell? ⟨b, o + p + j, none⟩ = some (.int .u8 ((bs.getD (p + j) 0).toNat : Int)) := by
        rw [Nat.add_assoc]
        refine Hcell.out (p + j) _ ?_
        rw [List.getElem?_map, List.getElem?_eq_getElem (by omega)]
        simp [bv, List.getD, List.getElem?_eq_getElem (show p + j < bs.length by omega)]
      have hsucc := ofBe_take_succ bs p j (by omega)
      have hlt56 : ofBe ((bs.drop p).take j) < 72057594037927936 := Nat.lt_of_lt_of_le (ofBe_take_lt _ _) (Nat.le_trans (Nat.pow_le_pow_right (n := 256) (by decide) (show j ≤ 7 by omega)) (by decide))
      generalize bs.getD (p + j) 0 = y at hx hsucc
      generalize ofBe ((bs.drop p).take j) = nn at *
      have Hs := Lib.hid hsucc
      have H56 := Lib.hid hlt56
      clear hsucc hlt56
      go_wp2
      go_round
      case rel => exact ⟨j + 1, by omega, by go_num, int_eq (by rw [or_step nn y.toNat H56.out y.toNat_lt, Hs.out])⟩
      case measure => simp [intOf]; omega
    · obtain rfl : j = 2 := by omega
      have hN := ofBe_take_lt (bs.drop p) 2
      generalize hnn : ofBe ((bs.drop p).take 2) = nn at *
      have HN := Lib.hid hN
      have Hnn := Lib.hid hnn
      clear hN hnn
      go_wp2
      go_ret3
      have hN := HN.out
      refine ⟨tuple3_eq (int_eq ?_) rfl rfl, rfl⟩
      have hnn := Hnn.out
      first | omega | (rw [hnn]; exact IntWalk.u16_in _ (by omega))
set_option maxHeartbeats 400000 in
theorem ahead32_no (w : World) (g : Nat) (bs : List UInt8) (s : Rs) (p : Nat) (h : Rr w g bs s) (hp : p ≤ bs.length) (hk : bs.length < p + 4) :
    Calls Try.prog 71 #[.pointer (some ⟨g, 0, none⟩), .int .i64 p] w fun e w' => e = .returned (.tuple #[.int .u32 0, .int .i64 p, .bool false]) ∧ w = w' := by
  obtain ⟨A, c, hb, hr, ha, hc, hs, hl⟩ := h
  have hc0 := hb.at_ 0 rfl
  go_enter Try.func71, Try.ntmps71
  go_wp2_with (go_at_call 69; refine (width32_any _).mono ?_; rintro e w' ⟨rfl, rfl⟩)
  go_ret3
  exact ⟨rfl, rfl⟩
set_option maxRecDepth 100000 in
set_option maxHeartbeats 800000 in
theorem ahead32_yes (w : World) (g : Nat) (bs : List UInt8) (s : Rs) (p : Nat) (h : Rr w g bs s) (hk : p + 4 ≤ bs.length) :
    Calls Try.prog 71 #[.pointer (some ⟨g, 0, none⟩), .int .i64 p] w fun e w' => e = .returned (.tuple #[.int .u32 (ofBe ((bs.drop p).take 4)), .int .i64 ((p + 4 : Nat) : Int), .bool true]) ∧ w = w' := by
  obtain ⟨A, c, hb, hr, ha, hc, hs, hl⟩ := h
  have hc0 := hb.at_ 0 rfl
  obtain ⟨b, o, rfl, hcell⟩ := hr.2 (by omega)
  have Hcell := Lib.hid hcell
  clear hcell
  go_enter Try.func71, Try.ntmps71
  go_wp2_with (go_at_call 69; refine (width32_any _).mono ?_; rintro e w' ⟨rfl, rfl⟩)
  go_loop [32, 8] (fun i n => ∃ j : Nat, j ≤ 4 ∧ i = .int .i64 j ∧ n = .int .u64 (ofBe ((bs.drop p).take j))) (fun i _ => 4 - (intOf i).toNat)
  case atStart => exact ⟨0, by omega, rfl, rfl⟩
  case round =>
    obtain ⟨j, hj, rfl, rfl⟩ := hrel
    by_cases hlt : j < 4
    · have hx : w.cell? ⟨b, o + p + j, none⟩ = some (.int .u8 ((bs.getD (p + j) 0).toNat : Int)) := by
        rw [Nat.add_assoc]
        refine Hcell.out (p + j) _ ?_
        rw [List.getElem?_map, List.getElem?_eq_getElem (by omega)]
        simp [bv, List.getD, List.getElem?_eq_getElem (show p + j < bs.length by omega)]
      have hsucc := ofBe_take_succ bs p j (by omega)
      have hlt56 : ofBe ((bs.drop p).take j) < 72057594037927936 := Nat.lt_of_lt_of_le (ofBe_take_lt _ _) (Nat.le_trans (Nat.pow_le_pow_right (n := 256) (by decide) (show j ≤ 7 by omega)) (by decide))
      generalize bs.getD (p + j) 0 = y at hx hsucc
      generalize ofBe ((bs.drop p).take j) = nn at *
      have Hs := Lib.hid hsucc
      have H56 := Lib.hid hlt56
      clear hsucc hlt56
      go_wp2
      go_round
      case rel => exact ⟨j + 1, by omega, by go_num, int_eq (by rw [or_step nn y.toNat H56.out y.toNat_lt, Hs.out])⟩
      case measure => simp [intOf]; omega
    · obtain rfl : j = 4 := by omega
      have hN := ofBe_take_lt (bs.drop p) 4
      generalize hnn : ofBe ((bs.drop p).take 4) = nn at *
      have HN := Lib.hid hN
      have Hnn := Lib.hid hnn
      clear hN hnn
      go_wp2
      go_ret3
      have hN := HN.out
      refine ⟨tuple3_eq (int_eq ?_) rfl rfl, rfl⟩
      have hnn := Hnn.out
      first | omega | (rw [hnn]; exact IntWalk.u32_in _ (by omega))
set_option maxHeartbeats 400000 in
theorem ahead64_no (w : World) (g : Nat) (bs : List UInt8) (s : Rs) (p : Nat) (h : Rr w g bs s) (hp : p ≤ bs.length) (hk : bs.length < p + 8) :
    Calls Try.prog 77 #[.pointer (some ⟨g, 0, none⟩), .int .i64 p] w fun e w' => e = .returned (.tuple #[.int .u64 0, .int .i64 p, .bool false]) ∧ w = w' := by
  obtain ⟨A, c, hb, hr, ha, hc, hs, hl⟩ := h
  have hc0 := hb.at_ 0 rfl
  go_enter Try.func77, Try.ntmps77
  go_wp2_with (go_at_call 51; refine (width64_any _).mono ?_; rintro e w' ⟨rfl, rfl⟩)
  go_ret3
  exact ⟨rfl, rfl⟩
set_option maxRecDepth 100000 in
set_option maxHeartbeats 800000 in
theorem ahead64_yes (w : World) (g : Nat) (bs : List UInt8) (s : Rs) (p : Nat) (h : Rr w g bs s) (hk : p + 8 ≤ bs.length) :
    Calls Try.prog 77 #[.pointer (some ⟨g, 0, none⟩), .int .i64 p] w fun e w' => e = .returned (.tuple #[.int .u64 (ofBe ((bs.drop p).take 8)), .int .i64 ((p + 8 : Nat) : Int), .bool true]) ∧ w = w' := by
  obtain ⟨A, c, hb, hr, ha, hc, hs, hl⟩ := h
  have hc0 := hb.at_ 0 rfl
  obtain ⟨b, o, rfl, hcell⟩ := hr.2 (by omega)
  have Hcell := Lib.hid hcell
  clear hcell
  go_enter Try.func77, Try.ntmps77
  go_wp2_with (go_at_call 51; refine (width64_any _).mono ?_; rintro e w' ⟨rfl, rfl⟩)
  go_loop [32, 8] (fun i n => ∃ j : Nat, j ≤ 8 ∧ i = .int .i64 j ∧ n = .int .u64 (ofBe ((bs.drop p).take j))) (fun i _ => 8 - (intOf i).toNat)
  case atStart => exact ⟨0, by omega, rfl, rfl⟩
  case round =>
    obtain ⟨j, hj, rfl, rfl⟩ := hrel
    by_cases hlt : j < 8
    · have hx : w.cell? ⟨b, o + p + j, none⟩ = some (.int .u8 ((bs.getD (p + j) 0).toNat : Int)) := by
        rw [Nat.add_assoc]
        refine Hcell.out (p + j) _ ?_
        rw [List.getElem?_map, List.getElem?_eq_getElem (by omega)]
        simp [bv, List.getD, List.getElem?_eq_getElem (show p + j < bs.length by omega)]
      have hsucc := ofBe_take_succ bs p j (by omega)
      have hlt56 : ofBe ((bs.drop p).take j) < 72057594037927936 := Nat.lt_of_lt_of_le (ofBe_take_lt _ _) (Nat.le_trans (Nat.pow_le_pow_right (n := 256) (by decide) (show j ≤ 7 by omega)) (by decide))
      generalize bs.getD (p + j) 0 = y at hx hsucc
      generalize ofBe ((bs.drop p).take j) = nn at *
      have Hs := Lib.hid hsucc
      have H56 := Lib.hid hlt56
      clear hsucc hlt56
      go_wp2
      go_round
      case rel => exact ⟨j + 1, by omega, by go_num, int_eq (by rw [or_step nn y.toNat H56.out y.toNat_lt, Hs.out])⟩
      case measure => simp [intOf]; omega
    · obtain rfl : j = 8 := by omega
      have hN := ofBe_take_lt (bs.drop p) 8
      generalize hnn : ofBe ((bs.drop p).take 8) = nn at *
      have HN := Lib.hid hN
      have Hnn := Lib.hid hnn
      clear hN hnn
      go_wp2
      go_ret3
      have hN := HN.out
      refine ⟨tuple3_eq (int_eq ?_) rfl rfl, rfl⟩
      have hnn := Hnn.out
      first | omega | (rw [hnn]; exact IntWalk.u64_in _ (by omega))
end Go.Proofs.Ytnaolhjbapgjgaa

/- Plain words on values (api.Value): what eval.Right says of one. No program in sight. -/
namespace Go.Proofs.Ytnaolhjbapgjgaa
open Go.RowKit

structure Val where
  kind : Int
  n : Int
  t : ByteArray
  s : List ByteArray

/-- texts in Go's order -/
def blt (a b : ByteArray) : Bool := Op.bytesLess a.toList b.toList

def rising (l : List ByteArray) : Bool := (List.range (l.length - 1)).all fun i => blt (l.getD i ByteArray.empty) (l.getD (i + 1) ByteArray.empty)

def formedB (v : Val) : Bool :=
  !((v.kind != 3 && !v.t.toList.isEmpty) || (v.kind != 5 && decide (0 < v.s.length))) &&
  (if v.kind = 1 ∨ v.kind = 4 then true else if v.kind = 2 then v.n == 0 || v.n == 1 else if v.kind = 0 ∨ v.kind = 3 then v.n == 0 else if v.kind = 5 then rising v.s && v.n == 0 else false)

def longB (v : Val) : Bool := decide (1024 < v.t.size) || v.s.any fun x => decide (1024 < x.size)

def rightE (v : Val) : Int :=
  if formedB v = false then 8
  else if v.kind = 4 ∧ ¬ (0 ≤ v.n ∧ v.n ≤ 4611686018427387904) then 111
  else if longB v = true then 113
  else if 64 < v.s.length then 114
  else 0

/-- texts one behind the other, each behind its length -/
def lps (l : List ByteArray) : List UInt8 := (l.map fun s => lp 2 (sb s)).flatten
/-- a set's bytes -/
def textsB (l : List ByteArray) : List UInt8 := be 2 l.length ++ lps l
theorem lps_take_succ (l : List ByteArray) (k : Nat) (h : k < l.length) : lps (l.take (k + 1)) = lps (l.take k) ++ lp 2 (sb (l.getD k ByteArray.empty)) := by
  have e : l.getD k ByteArray.empty = l[k] := by simp [List.getD, List.getElem?_eq_getElem h]
  rw [e, List.take_succ_eq_append_getElem h]
  unfold lps
  rw [List.map_append, List.flatten_append]
  congr 1
  simp
theorem lps_length_le (l : List ByteArray) (h : ∀ k, k < l.length → (l.getD k ByteArray.empty).size ≤ 65535) : ∀ k, k ≤ l.length → (lps (l.take k)).length ≤ k * 65537 := by
  intro k
  induction k with
  | zero => intro _; simp [lps]
  | succ k ih =>
    intro hk
    have h1 := ih (by omega)
    have h2 := h k (by omega)
    rw [lps_take_succ l k (by omega), List.length_append, lp_length, sb_length]
    omega
/-- a value's bytes -/
def valB (v : Val) : List UInt8 :=
  be 1 v.kind.toNat ++
  (if v.kind = 1 ∨ v.kind = 4 then be 8 (v.n % 18446744073709551616).toNat else if v.kind = 2 then [if v.n = 1 then 1 else 0] else if v.kind = 3 then lp 2 (sb v.t) else if v.kind = 5 then textsB v.s else [])
end Go.Proofs.Ytnaolhjbapgjgaa
