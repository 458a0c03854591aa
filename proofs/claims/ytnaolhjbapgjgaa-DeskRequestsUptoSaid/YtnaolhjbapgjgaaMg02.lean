import Derived.Test.YtnaolhjbapgjgaaMg01
import Derived.Test.YtnaolhjbapgjgaaRows
import Derived.IntWalk
import Derived.Deep.RegionLaw
/- Contracts of octet's Writer: New, Put, Len, All. -/
namespace Go.Proofs.Ytnaolhjbapgjgaa
open Go.RowKit
attribute [local go_sem ↓] Go.wp_at_zero Go.wp_at_succ

theorem Try.infoByte : (Try.prog.info? 5).map (fun i => (i.zero, i.size, i.bytes)) = some (some (.int .u8 0), 1, 1) := by kernel_rfl

/-- The Writer at block g holds bs; r: the block of its row. -/
def Wr (w : World) (g : Nat) (r : Option Nat) (bs : List UInt8) : Prop :=
  ∃ A c, Blk w g 63 #[.slice A bs.length c] ∧ w.ownsRow 0 5 1 (.slice A bs.length c) bs.length (bs.map bv) ∧ A.map (·.block) = r
/-- the blocks that a Writer's call may turn -/
def WX (g : Nat) (r : Option Nat) : Nat → Prop := fun k => k = g ∨ some k = r
/-- the row is the old one, or new -/
def Fr (w : World) (r r' : Option Nat) : Prop := r' = r ∨ ∃ k, r' = some k ∧ w.heap.size ≤ k
/-- behind a Writer's call it holds bs' -/
def WStep (w : World) (g : Nat) (r : Option Nat) (w' : World) (bs' : List UInt8) : Prop :=
  ∃ r', Wr w' g r' bs' ∧ Kp (WX g r) w w' ∧ Fr w r r'

theorem Wr.ne {w : World} {g : Nat} {r : Option Nat} {bs : List UInt8} (h : Wr w g r bs) : r ≠ some g := by
  obtain ⟨A, c, hb, ho, rfl⟩ := h
  have := own_blk_ne ho hb (by decide)
  rwa [ownBlock_slice] at this
theorem Wr.lt {w : World} {g : Nat} {r : Option Nat} {bs : List UInt8} (h : Wr w g r bs) : g < w.heap.size ∧ ∀ k, r = some k → k < w.heap.size := by
  obtain ⟨A, c, hb, ho, rfl⟩ := h
  exact ⟨hb.lt, fun k hk => (ho.lt k (by rw [ownBlock_slice]; exact hk)).2⟩
theorem Wr.step {w : World} {g : Nat} {r : Option Nat} {bs : List UInt8} (h : Wr w g r bs) : WStep w g r w bs := ⟨r, h, Kp.refl _ _, .inl rfl⟩
theorem WStep.trans {w w1 w2 : World} {g : Nat} {r r1 : Option Nat} {bs : List UInt8} (hk : Kp (WX g r) w w1) (hf : Fr w r r1) (h : WStep w1 g r1 w2 bs) : WStep w g r w2 bs := by
  obtain ⟨r2, hw, hk2, hf2⟩ := h
  refine ⟨r2, hw, hk.trans hk2 (fun b hb hx => ?_), ?_⟩
  · rcases hx with rfl | hx
    · exact .inl rfl
    · rcases hf with rfl | ⟨k, rfl, hle⟩
      · exact .inr hx
      · injection hx with hx; omega
  · rcases hf2 with rfl | ⟨k, rfl, hle⟩
    · exact hf
    · exact .inr ⟨k, rfl, Nat.le_trans hk.size hle⟩
/-- a Writer over what stays -/
theorem Wr.kp {X : Nat → Prop} {w w1 : World} {g : Nat} {r : Option Nat} {bs : List UInt8} (h : Wr w g r bs) (hk : Kp X w w1) (hg : ¬ X g) (hr : ∀ k, r = some k → ¬ X k) : Wr w1 g r bs := by
  obtain ⟨A, c, hb, ho, rfl⟩ := h
  exact ⟨A, c, hb.kp hk hg, own_kp ho hk (fun k e => hr k (by rw [← ownBlock_slice A bs.length c]; exact e)), rfl⟩
theorem Wr.old {w w1 : World} {g : Nat} {r : Option Nat} {bs : List UInt8} (h : Wr w g r bs) (hk : Old w w1) : Wr w1 g r bs := h.kp hk (fun f => f) (fun _ _ f => f)
/-- what the Writer does not turn -/
theorem Av.fresh {w : World} {g n size : Nat} {r r' : Option Nat} {A : Option Addr} {xs : List Value} (ha : Av (WX g r) n A) (hf : Fr w r r') (hr : Rd w size A n xs) (hs : 0 < size) : Av (WX g r') n A := by
  intro hn ad e hx
  rcases hx with hx | hx
  · exact ha hn ad e (.inl hx)
  · rcases hf with rfl | ⟨k, rfl, hle⟩
    · exact ha hn ad e (.inr hx)
    · injection hx with hx
      have := hr.lt hs hn e
      omega

/-- the last step of an append through the Writer's field -/
theorem Wr.put {wr wx w1 : World} {g : Nat} {A A' : Option Addr} {c c' : Nat} {cs news : List UInt8} {m : Nat}
    (hb : Blk wr g 63 #[.slice A cs.length c]) (ho : wr.ownsRow 0 5 1 (.slice A cs.length c) cs.length (cs.map bv))
    (hx : Old wr wx) (hm : news.length = m) {xs : List Value} (hxs : xs = news.map bv)
    (hown : w1.ownsRow 0 5 1 (.slice A' (cs.length + m) c') (cs.length + m) (cs.map bv ++ xs)) (hg : wx.grownBy w1 (Value.slice A cs.length c).ownBlock)
    (hat : A'.map (·.block) = (Value.slice A cs.length c).ownBlock ∨ A'.map (·.block) = some wx.heap.size) :
    WStep wr g (A.map (·.block)) (w1.setCell ⟨g, 0, none⟩ (.slice A' (cs.length + m) c')) (cs ++ news) := by
  subst hm
  subst hxs
  rw [ownBlock_slice] at hat hg
  have hne := own_blk_ne ho hb (by decide)
  rw [ownBlock_slice] at hne
  have hb1 : Blk w1 g 63 #[.slice A cs.length c] := (hb.old hx).grown hg (fun e => hne e.symm)
  have hb2 := hb1.set_ 0 (.slice A' (cs.length + news.length) c')
  have hl : (cs ++ news).length = cs.length + news.length := List.length_append
  have hgl := hb.lt
  refine ⟨A'.map (·.block), ⟨A', c', ?_, ?_, rfl⟩, ?_, ?_⟩
  · rw [hl]; simpa using hb2
  · rw [hl, List.map_append]
    refine own_kp hown ((Kp.refl (fun k => k = g) _).setCell (p := ⟨g, 0, none⟩) (fun _ => rfl) _) ?_
    rw [ownBlock_slice]
    rintro k e rfl
    rcases hat with h | h
    · rw [h] at e; exact hne e
    · rw [h] at e; injection e with e; have := hx.size; omega
  · refine Kp.setCell (Kp.grown (hx.mono (Y := WX g (A.map (·.block))) (fun _ _ f => f.elim)) hg (fun k e _ => .inr e.symm)) (p := ⟨g, 0, none⟩) (fun _ => .inl rfl) _
  · rcases hat with h | h
    · exact .inl h
    · exact .inr ⟨_, h, hx.size⟩

theorem half_ones (j k : Nat) (h : k < j) : ((2 : Int) ^ (j - k) - 1) / 2 = 2 ^ (j - (k + 1)) - 1 := by
  have e : j - k = (j - (k + 1)) + 1 := by omega
  rw [e, Int.pow_succ]
  omega
theorem ones_ne (k : Nat) (h : 0 < k) : ((2 : Int) ^ k - 1 != 0) = true := by
  obtain ⟨j, rfl⟩ : ∃ j, k = j + 1 := ⟨k - 1, by omega⟩
  have hp : (0 : Int) < 2 ^ j := Int.pow_pos (by decide)
  rw [bne_iff_ne, Int.pow_succ]
  omega
theorem int_eq {k : IntKind} {a b : Int} (h : a = b) : Value.int k a = Value.int k b := by rw [h]

theorem allOnes8 : bits BinOp.xor IntKind.u8 IntKind.u8.max 0 = 2 ^ 8 - 1 := by decide +kernel
set_option maxRecDepth 100000 in
set_option maxHeartbeats 400000 in
theorem width8_any (w : World) :
    Calls Try.prog 28 #[] w fun e w' => e = .returned (.int .i64 1) ∧ w = w' := by
  go_enter Try.func28, Try.ntmps28
  go_wp2
  rw [allOnes8]
  go_loop [1, 2] (fun n m => ∃ j : Nat, j ≤ 1 ∧ n = .int .i64 j ∧ m = .int .u8 (2 ^ (8 * (1 - j)) - 1)) (fun n _ => 1 - (intOf n).toNat)
  case atStart => exact ⟨0, by omega, rfl, rfl⟩
  case round =>
    obtain ⟨j, hj, rfl, rfl⟩ := hrel
    by_cases h0 : j < 1
    · have hne := ones_ne (8 * (1 - j)) (by omega)
      go_wp2
      clear hne
      go_loop [9, 2] (fun i m => ∃ k : Nat, k ≤ 8 ∧ i = .int .i64 k ∧ m = .int .u8 (2 ^ (8 * (1 - j) - k) - 1)) (fun i _ => 8 - (intOf i).toNat)
      case atStart => exact ⟨0, by omega, rfl, rfl⟩
      case round =>
        obtain ⟨k, hk, rfl, rfl⟩ := hrel
        by_cases h1 : k < 8
        · go_wp2
          exact ⟨⟨k + 1, by omega, by go_num, int_eq (half_ones _ _ (by omega))⟩, by simp [intOf]; omega⟩
        · obtain rfl : k = 8 := by omega
          go_wp2
          go_round
          case rel => exact ⟨j + 1, by omega, by go_num, by rw [show 8 * (1 - j) - 8 = 8 * (1 - (j + 1)) by omega]⟩
          case measure => simp [intOf]; omega
    · obtain rfl : j = 1 := by omega
      go_wp2
      go_ret
      exact ⟨rfl, rfl⟩

theorem allOnes16 : bits BinOp.xor IntKind.u16 IntKind.u16.max 0 = 2 ^ 16 - 1 := by decide +kernel
set_option maxRecDepth 100000 in
set_option maxHeartbeats 400000 in
theorem width16_any (w : World) :
    Calls Try.prog 84 #[] w fun e w' => e = .returned (.int .i64 2) ∧ w = w' := by
  go_enter Try.func84, Try.ntmps84
  go_wp2
  rw [allOnes16]
  go_loop [1, 2] (fun n m => ∃ j : Nat, j ≤ 2 ∧ n = .int .i64 j ∧ m = .int .u16 (2 ^ (8 * (2 - j)) - 1)) (fun n _ => 2 - (intOf n).toNat)
  case atStart => exact ⟨0, by omega, rfl, rfl⟩
  case round =>
    obtain ⟨j, hj, rfl, rfl⟩ := hrel
    by_cases h0 : j < 2
    · have hne := ones_ne (8 * (2 - j)) (by omega)
      go_wp2
      clear hne
      go_loop [9, 2] (fun i m => ∃ k : Nat, k ≤ 8 ∧ i = .int .i64 k ∧ m = .int .u16 (2 ^ (8 * (2 - j) - k) - 1)) (fun i _ => 8 - (intOf i).toNat)
      case atStart => exact ⟨0, by omega, rfl, rfl⟩
      case round =>
        obtain ⟨k, hk, rfl, rfl⟩ := hrel
        by_cases h1 : k < 8
        · go_wp2
          exact ⟨⟨k + 1, by omega, by go_num, int_eq (half_ones _ _ (by omega))⟩, by simp [intOf]; omega⟩
        · obtain rfl : k = 8 := by omega
          go_wp2
          go_round
          case rel => exact ⟨j + 1, by omega, by go_num, by rw [show 8 * (2 - j) - 8 = 8 * (2 - (j + 1)) by omega]⟩
          case measure => simp [intOf]; omega
    · obtain rfl : j = 2 := by omega
      go_wp2
      go_ret
      exact ⟨rfl, rfl⟩

theorem allOnes32 : bits BinOp.xor IntKind.u32 IntKind.u32.max 0 = 2 ^ 32 - 1 := by decide +kernel
set_option maxRecDepth 100000 in
set_option maxHeartbeats 400000 in
theorem width32_any (w : World) :
    Calls Try.prog 69 #[] w fun e w' => e = .returned (.int .i64 4) ∧ w = w' := by
  go_enter Try.func69, Try.ntmps69
  go_wp2
  rw [allOnes32]
  go_loop [1, 2] (fun n m => ∃ j : Nat, j ≤ 4 ∧ n = .int .i64 j ∧ m = .int .u32 (2 ^ (8 * (4 - j)) - 1)) (fun n _ => 4 - (intOf n).toNat)
  case atStart => exact ⟨0, by omega, rfl, rfl⟩
  case round =>
    obtain ⟨j, hj, rfl, rfl⟩ := hrel
    by_cases h0 : j < 4
    · have hne := ones_ne (8 * (4 - j)) (by omega)
      go_wp2
      clear hne
      go_loop [9, 2] (fun i m => ∃ k : Nat, k ≤ 8 ∧ i = .int .i64 k ∧ m = .int .u32 (2 ^ (8 * (4 - j) - k) - 1)) (fun i _ => 8 - (intOf i).toNat)
      case atStart => exact ⟨0, by omega, rfl, rfl⟩
      case round =>
        obtain ⟨k, hk, rfl, rfl⟩ := hrel
        by_cases h1 : k < 8
        · go_wp2
          exact ⟨⟨k + 1, by omega, by go_num, int_eq (half_ones _ _ (by omega))⟩, by simp [intOf]; omega⟩
        · obtain rfl : k = 8 := by omega
          go_wp2
          go_round
          case rel => exact ⟨j + 1, by omega, by go_num, by rw [show 8 * (4 - j) - 8 = 8 * (4 - (j + 1)) by omega]⟩
          case measure => simp [intOf]; omega
    · obtain rfl : j = 4 := by omega
      go_wp2
      go_ret
      exact ⟨rfl, rfl⟩

theorem allOnes64 : bits BinOp.xor IntKind.u64 IntKind.u64.max 0 = 2 ^ 64 - 1 := by decide +kernel
set_option maxRecDepth 100000 in
set_option maxHeartbeats 400000 in
theorem width64_any (w : World) :
    Calls Try.prog 51 #[] w fun e w' => e = .returned (.int .i64 8) ∧ w = w' := by
  go_enter Try.func51, Try.ntmps51
  go_wp2
  rw [allOnes64]
  go_loop [1, 2] (fun n m => ∃ j : Nat, j ≤ 8 ∧ n = .int .i64 j ∧ m = .int .u64 (2 ^ (8 * (8 - j)) - 1)) (fun n _ => 8 - (intOf n).toNat)
  case atStart => exact ⟨0, by omega, rfl, rfl⟩
  case round =>
    obtain ⟨j, hj, rfl, rfl⟩ := hrel
    by_cases h0 : j < 8
    · have hne := ones_ne (8 * (8 - j)) (by omega)
      go_wp2
      clear hne
      go_loop [9, 2] (fun i m => ∃ k : Nat, k ≤ 8 ∧ i = .int .i64 k ∧ m = .int .u64 (2 ^ (8 * (8 - j) - k) - 1)) (fun i _ => 8 - (intOf i).toNat)
      case atStart => exact ⟨0, by omega, rfl, rfl⟩
      case round =>
        obtain ⟨k, hk, rfl, rfl⟩ := hrel
        by_cases h1 : k < 8
        · go_wp2
          exact ⟨⟨k + 1, by omega, by go_num, int_eq (half_ones _ _ (by omega))⟩, by simp [intOf]; omega⟩
        · obtain rfl : k = 8 := by omega
          go_wp2
          go_round
          case rel => exact ⟨j + 1, by omega, by go_num, by rw [show 8 * (8 - j) - 8 = 8 * (8 - (j + 1)) by omega]⟩
          case measure => simp [intOf]; omega
    · obtain rfl : j = 8 := by omega
      go_wp2
      go_ret
      exact ⟨rfl, rfl⟩

end Go.Proofs.Ytnaolhjbapgjgaa

/- Contracts of octet.New, octet.Put at the four widths, Len, All. -/
namespace Go.Proofs.Ytnaolhjbapgjgaa
open Go.RowKit
attribute [local go_sem ↓] Go.wp_at_zero Go.wp_at_succ

theorem shr_byte (x : Nat) (k : Nat) : Value.int .u8 (IntKind.u8.wrap ((x : Int) / 2 ^ (8 * k))) = bv (UInt8.ofNat (x / 256 ^ k)) := by
  have e : ((2 : Int) ^ (8 * k)) = ((256 ^ k : Nat) : Int) := by
    rw [Int.pow_mul]; simp
  rw [e, bv_ofNat, IntKind.wrap_u8, ← Int.natCast_ediv]
  rfl

theorem take_done (k n : Nat) : (be k n).take (k - 0) = be k n := by
  rw [List.take_of_length_le (by rw [be_length]; omega)]

set_option maxRecDepth 100000 in
set_option maxHeartbeats 800000 in
theorem put8_nat (w : World) (g : Nat) (r : Option Nat) (bs : List UInt8) (x : Nat) (hx : (x : Int) ≤ 255) (hW : Wr w g r bs) (hl : bs.length ≤ 1099511627776) :
    Calls Try.prog 12 #[.pointer (some ⟨g, 0, none⟩), .int .u8 (x : Int)] w fun e w' => e = .returned (.tuple #[]) ∧ WStep w g r w' (bs ++ be 1 x) := by
  obtain ⟨i0, hi, hz0, hz1, hz2⟩ := info_parts Try.infoByte
  have Hl := Lib.hid hl
  have Hx := Lib.hid hx
  clear hl hx
  go_enter Try.func12, Try.ntmps12
  go_wp2_with (go_at_call 28; refine (width8_any _).mono ?_; rintro e w' ⟨rfl, rfl⟩)
  go_loopw [4] (fun i wr => ∃ m : Nat, m ≤ 1 ∧ i = .int .i64 ((m : Int) - 1) ∧ WStep w g r wr (bs ++ (be 1 x).take (1 - m))) (fun i _ => (intOf i + 1).toNat)
  case atStart => exact ⟨1, by omega, rfl, by simpa using hW.step⟩
  case round =>
    obtain ⟨m, hm, rfl, hWr⟩ := hrel
    by_cases h0 : 0 < m
    · obtain ⟨k, rfl⟩ : ∃ k, m = k + 1 := ⟨m - 1, by omega⟩
      have hcl : (bs ++ (be 1 x).take (1 - (k + 1))).length ≤ bs.length + 1 := by rw [List.length_append, List.length_take, be_length]; omega
      generalize hcs : bs ++ (be 1 x).take (1 - (k + 1)) = cs at hWr hcl
      have Hcs := Lib.hid hcs
      have H63 := Lib.hid (show cs.length + 1 ≤ maxLen by have := Hl.out; unfold maxLen; omega)
      have H47 := Lib.hid (show (cs.length + 1) * 1 ≤ 140737488355328 by have := Hl.out; omega)
      clear hcs hcl
      obtain ⟨r', ⟨A, c, hb, ho, hr'⟩, hkp, hfr⟩ := hWr
      have Hr' := Lib.hid hr'
      clear hr'
      have hc := hb.cell 0
      have hz := hb.frozen 0
      have hlt := hb.lt
      simp only [List.getElem?_toArray, List.getElem?_cons_zero] at hc
      rw [show ((k + 1 : Nat) : Int) - 1 = (k : Int) by omega]
      have e1 : IntKind.u64.wrap (x : Int) = x := IntWalk.u64_in _ (by have := Hx.out; omega)
      have e2 : IntKind.i64.wrap (8 * (k : Int)) = 8 * (k : Int) := IntWalk.i64_in _ (by omega)
      have e3 : (0 : Int) ≤ 8 * (k : Int) := by omega
      have e4 : 8 * (k : Int) ≤ 64 := by omega
      have e5 : (8 * (k : Int)).toNat = 8 * k := by omega
      have hne : some g ≠ (Value.slice A cs.length c).ownBlock := by
        have := own_blk_ne ho hb (by decide)
        exact fun h => this h.symm
      go_wp2
      go_region_law ((refine step_append_any _ rfl (.tmp 17) (.tmp 24) 27 rfl 0 5 i0 (.int .u8 0) 1 1 Try.underlying27 hi hz0 hz1 hz2 rfl (by decide) (.slice A cs.length c) cs.length (cs.map bv) rfl (ho.alloc _) (some ⟨wr.heap.size, 0, none⟩) 1 1 _ rfl (Rd.one_new _ _ _) (one_value _ rfl) H63.out H47.out (Nat.zero_le _) ?_; intro A' c' w1 hown hgrow hat; have hc1 := hgrow.cell (a := ⟨g, 0, none⟩) (v := .slice A cs.length c) (by simp [hc, World.cell?_alloc_lt, hb.lt]) hne; have hz1 : w1.frozen? ⟨g, 0, none⟩ = false := (World.frozen?_of_block (hgrow.block g (by simp; have := hb.lt; omega) hne)).trans (by simp [hz, World.frozen?_alloc_past, hb.lt])))
      all_goals
        have hst := Wr.put hb ho ((Kp.refl _ _).alloc _).drew (news := [UInt8.ofNat (x / 256 ^ k)]) (m := 1) rfl (by rw [shr_byte]; rfl) hown hgrow hat
        have Hst := Lib.hid (WStep.trans hkp (Hr'.out ▸ hfr) hst)
        clear hst hown hgrow hat hc hz hc1 hz1 hb ho hne
        go_wp2
        go_roundw
        case rel =>
          refine ⟨k, by omega, by go_num, ?_⟩
          have hfin : cs ++ [UInt8.ofNat (x / 256 ^ k)] = bs ++ (be 1 x).take (1 - k) := by
            rw [← Hcs.out, List.append_assoc, ← be_take_succ _ _ _ (by omega)]
          exact hfin ▸ Hst.out
        case measure => simp [intOf]
    · obtain rfl : m = 0 := by omega
      rw [take_done] at hWr
      go_wp2
      go_end0
      exact ⟨rfl, hWr⟩
theorem put8_any (w : World) (g : Nat) (r : Option Nat) (bs : List UInt8) (n : Int) (h0 : 0 ≤ n) (h1 : n ≤ 255) (hW : Wr w g r bs) (hl : bs.length ≤ 1099511627776) :
    Calls Try.prog 12 #[.pointer (some ⟨g, 0, none⟩), .int .u8 n] w fun e w' => e = .returned (.tuple #[]) ∧ WStep w g r w' (bs ++ be 1 n.toNat) := by
  obtain ⟨x, rfl⟩ := Int.eq_ofNat_of_zero_le h0
  rw [Int.toNat_natCast]
  exact put8_nat w g r bs x h1 hW hl

set_option maxRecDepth 100000 in
set_option maxHeartbeats 800000 in
theorem put16_nat (w : World) (g : Nat) (r : Option Nat) (bs : List UInt8) (x : Nat) (hx : (x : Int) ≤ 65535) (hW : Wr w g r bs) (hl : bs.length ≤ 1099511627776) :
    Calls Try.prog 68 #[.pointer (some ⟨g, 0, none⟩), .int .u16 (x : Int)] w fun e w' => e = .returned (.tuple #[]) ∧ WStep w g r w' (bs ++ be 2 x) := by
  obtain ⟨i0, hi, hz0, hz1, hz2⟩ := info_parts Try.infoByte
  have Hl := Lib.hid hl
  have Hx := Lib.hid hx
  clear hl hx
  go_enter Try.func68, Try.ntmps68
  go_wp2_with (go_at_call 84; refine (width16_any _).mono ?_; rintro e w' ⟨rfl, rfl⟩)
  go_loopw [4] (fun i wr => ∃ m : Nat, m ≤ 2 ∧ i = .int .i64 ((m : Int) - 1) ∧ WStep w g r wr (bs ++ (be 2 x).take (2 - m))) (fun i _ => (intOf i + 1).toNat)
  case atStart => exact ⟨2, by omega, rfl, by simpa using hW.step⟩
  case round =>
    obtain ⟨m, hm, rfl, hWr⟩ := hrel
    by_cases h0 : 0 < m
    · obtain ⟨k, rfl⟩ : ∃ k, m = k + 1 := ⟨m - 1, by omega⟩
      have hcl : (bs ++ (be 2 x).take (2 - (k + 1))).length ≤ bs.length + 2 := by rw [List.length_append, List.length_take, be_length]; omega
      generalize hcs : bs ++ (be 2 x).take (2 - (k + 1)) = cs at hWr hcl
      have Hcs := Lib.hid hcs
      have H63 := Lib.hid (show cs.length + 1 ≤ maxLen by have := Hl.out; unfold maxLen; omega)
      have H47 := Lib.hid (show (cs.length + 1) * 1 ≤ 140737488355328 by have := Hl.out; omega)
      clear hcs hcl
      obtain ⟨r', ⟨A, c, hb, ho, hr'⟩, hkp, hfr⟩ := hWr
      have Hr' := Lib.hid hr'
      clear hr'
      have hc := hb.cell 0
      have hz := hb.frozen 0
      have hlt := hb.lt
      simp only [List.getElem?_toArray, List.getElem?_cons_zero] at hc
      rw [show ((k + 1 : Nat) : Int) - 1 = (k : Int) by omega]
      have e1 : IntKind.u64.wrap (x : Int) = x := IntWalk.u64_in _ (by have := Hx.out; omega)
      have e2 : IntKind.i64.wrap (8 * (k : Int)) = 8 * (k : Int) := IntWalk.i64_in _ (by omega)
      have e3 : (0 : Int) ≤ 8 * (k : Int) := by omega
      have e4 : 8 * (k : Int) ≤ 64 := by omega
      have e5 : (8 * (k : Int)).toNat = 8 * k := by omega
      have hne : some g ≠ (Value.slice A cs.length c).ownBlock := by
        have := own_blk_ne ho hb (by decide)
        exact fun h => this h.symm
      go_wp2
      go_region_law ((refine step_append_any _ rfl (.tmp 17) (.tmp 24) 27 rfl 0 5 i0 (.int .u8 0) 1 1 Try.underlying27 hi hz0 hz1 hz2 rfl (by decide) (.slice A cs.length c) cs.length (cs.map bv) rfl (ho.alloc _) (some ⟨wr.heap.size, 0, none⟩) 1 1 _ rfl (Rd.one_new _ _ _) (one_value _ rfl) H63.out H47.out (Nat.zero_le _) ?_; intro A' c' w1 hown hgrow hat; have hc1 := hgrow.cell (a := ⟨g, 0, none⟩) (v := .slice A cs.length c) (by simp [hc, World.cell?_alloc_lt, hb.lt]) hne; have hz1 : w1.frozen? ⟨g, 0, none⟩ = false := (World.frozen?_of_block (hgrow.block g (by simp; have := hb.lt; omega) hne)).trans (by simp [hz, World.frozen?_alloc_past, hb.lt])))
      all_goals
        have hst := Wr.put hb ho ((Kp.refl _ _).alloc _).drew (news := [UInt8.ofNat (x / 256 ^ k)]) (m := 1) rfl (by rw [shr_byte]; rfl) hown hgrow hat
        have Hst := Lib.hid (WStep.trans hkp (Hr'.out ▸ hfr) hst)
        clear hst hown hgrow hat hc hz hc1 hz1 hb ho hne
        go_wp2
        go_roundw
        case rel =>
          refine ⟨k, by omega, by go_num, ?_⟩
          have hfin : cs ++ [UInt8.ofNat (x / 256 ^ k)] = bs ++ (be 2 x).take (2 - k) := by
            rw [← Hcs.out, List.append_assoc, ← be_take_succ _ _ _ (by omega)]
          exact hfin ▸ Hst.out
        case measure => simp [intOf]
    · obtain rfl : m = 0 := by omega
      rw [take_done] at hWr
      go_wp2
      go_end0
      exact ⟨rfl, hWr⟩
theorem put16_any (w : World) (g : Nat) (r : Option Nat) (bs : List UInt8) (n : Int) (h0 : 0 ≤ n) (h1 : n ≤ 65535) (hW : Wr w g r bs) (hl : bs.length ≤ 1099511627776) :
    Calls Try.prog 68 #[.pointer (some ⟨g, 0, none⟩), .int .u16 n] w fun e w' => e = .returned (.tuple #[]) ∧ WStep w g r w' (bs ++ be 2 n.toNat) := by
  obtain ⟨x, rfl⟩ := Int.eq_ofNat_of_zero_le h0
  rw [Int.toNat_natCast]
  exact put16_nat w g r bs x h1 hW hl

set_option maxRecDepth 100000 in
set_option maxHeartbeats 800000 in
theorem put32_nat (w : World) (g : Nat) (r : Option Nat) (bs : List UInt8) (x : Nat) (hx : (x : Int) ≤ 4294967295) (hW : Wr w g r bs) (hl : bs.length ≤ 1099511627776) :
    Calls Try.prog 50 #[.pointer (some ⟨g, 0, none⟩), .int .u32 (x : Int)] w fun e w' => e = .returned (.tuple #[]) ∧ WStep w g r w' (bs ++ be 4 x) := by
  obtain ⟨i0, hi, hz0, hz1, hz2⟩ := info_parts Try.infoByte
  have Hl := Lib.hid hl
  have Hx := Lib.hid hx
  clear hl hx
  go_enter Try.func50, Try.ntmps50
  go_wp2_with (go_at_call 69; refine (width32_any _).mono ?_; rintro e w' ⟨rfl, rfl⟩)
  go_loopw [4] (fun i wr => ∃ m : Nat, m ≤ 4 ∧ i = .int .i64 ((m : Int) - 1) ∧ WStep w g r wr (bs ++ (be 4 x).take (4 - m))) (fun i _ => (intOf i + 1).toNat)
  case atStart => exact ⟨4, by omega, rfl, by simpa using hW.step⟩
  case round =>
    obtain ⟨m, hm, rfl, hWr⟩ := hrel
    by_cases h0 : 0 < m
    · obtain ⟨k, rfl⟩ : ∃ k, m = k + 1 := ⟨m - 1, by omega⟩
      have hcl : (bs ++ (be 4 x).take (4 - (k + 1))).length ≤ bs.length + 4 := by rw [List.length_append, List.length_take, be_length]; omega
      generalize hcs : bs ++ (be 4 x).take (4 - (k + 1)) = cs at hWr hcl
      have Hcs := Lib.hid hcs
      have H63 := Lib.hid (show cs.length + 1 ≤ maxLen by have := Hl.out; unfold maxLen; omega)
      have H47 := Lib.hid (show (cs.length + 1) * 1 ≤ 140737488355328 by have := Hl.out; omega)
      clear hcs hcl
      obtain ⟨r', ⟨A, c, hb, ho, hr'⟩, hkp, hfr⟩ := hWr
      have Hr' := Lib.hid hr'
      clear hr'
      have hc := hb.cell 0
      have hz := hb.frozen 0
      have hlt := hb.lt
      simp only [List.getElem?_toArray, List.getElem?_cons_zero] at hc
      rw [show ((k + 1 : Nat) : Int) - 1 = (k : Int) by omega]
      have e1 : IntKind.u64.wrap (x : Int) = x := IntWalk.u64_in _ (by have := Hx.out; omega)
      have e2 : IntKind.i64.wrap (8 * (k : Int)) = 8 * (k : Int) := IntWalk.i64_in _ (by omega)
      have e3 : (0 : Int) ≤ 8 * (k : Int) := by omega
      have e4 : 8 * (k : Int) ≤ 64 := by omega
      have e5 : (8 * (k : Int)).toNat = 8 * k := by omega
      have hne : some g ≠ (Value.slice A cs.length c).ownBlock := by
        have := own_blk_ne ho hb (by decide)
        exact fun h => this h.symm
      go_wp2
      go_region_law ((refine step_append_any _ rfl (.tmp 17) (.tmp 24) 27 rfl 0 5 i0 (.int .u8 0) 1 1 Try.underlying27 hi hz0 hz1 hz2 rfl (by decide) (.slice A cs.length c) cs.length (cs.map bv) rfl (ho.alloc _) (some ⟨wr.heap.size, 0, none⟩) 1 1 _ rfl (Rd.one_new _ _ _) (one_value _ rfl) H63.out H47.out (Nat.zero_le _) ?_; intro A' c' w1 hown hgrow hat; have hc1 := hgrow.cell (a := ⟨g, 0, none⟩) (v := .slice A cs.length c) (by simp [hc, World.cell?_alloc_lt, hb.lt]) hne; have hz1 : w1.frozen? ⟨g, 0, none⟩ = false := (World.frozen?_of_block (hgrow.block g (by simp; have := hb.lt; omega) hne)).trans (by simp [hz, World.frozen?_alloc_past, hb.lt])))
      all_goals
        have hst := Wr.put hb ho ((Kp.refl _ _).alloc _).drew (news := [UInt8.ofNat (x / 256 ^ k)]) (m := 1) rfl (by rw [shr_byte]; rfl) hown hgrow hat
        have Hst := Lib.hid (WStep.trans hkp (Hr'.out ▸ hfr) hst)
        clear hst hown hgrow hat hc hz hc1 hz1 hb ho hne
        go_wp2
        go_roundw
        case rel =>
          refine ⟨k, by omega, by go_num, ?_⟩
          have hfin : cs ++ [UInt8.ofNat (x / 256 ^ k)] = bs ++ (be 4 x).take (4 - k) := by
            rw [← Hcs.out, List.append_assoc, ← be_take_succ _ _ _ (by omega)]
          exact hfin ▸ Hst.out
        case measure => simp [intOf]
    · obtain rfl : m = 0 := by omega
      rw [take_done] at hWr
      go_wp2
      go_end0
      exact ⟨rfl, hWr⟩
theorem put32_any (w : World) (g : Nat) (r : Option Nat) (bs : List UInt8) (n : Int) (h0 : 0 ≤ n) (h1 : n ≤ 4294967295) (hW : Wr w g r bs) (hl : bs.length ≤ 1099511627776) :
    Calls Try.prog 50 #[.pointer (some ⟨g, 0, none⟩), .int .u32 n] w fun e w' => e = .returned (.tuple #[]) ∧ WStep w g r w' (bs ++ be 4 n.toNat) := by
  obtain ⟨x, rfl⟩ := Int.eq_ofNat_of_zero_le h0
  rw [Int.toNat_natCast]
  exact put32_nat w g r bs x h1 hW hl

set_option maxRecDepth 100000 in
set_option maxHeartbeats 800000 in
theorem put64_nat (w : World) (g : Nat) (r : Option Nat) (bs : List UInt8) (x : Nat) (hx : (x : Int) ≤ 18446744073709551615) (hW : Wr w g r bs) (hl : bs.length ≤ 1099511627776) :
    Calls Try.prog 31 #[.pointer (some ⟨g, 0, none⟩), .int .u64 (x : Int)] w fun e w' => e = .returned (.tuple #[]) ∧ WStep w g r w' (bs ++ be 8 x) := by
  obtain ⟨i0, hi, hz0, hz1, hz2⟩ := info_parts Try.infoByte
  have Hl := Lib.hid hl
  have Hx := Lib.hid hx
  clear hl hx
  go_enter Try.func31, Try.ntmps31
  go_wp2_with (go_at_call 51; refine (width64_any _).mono ?_; rintro e w' ⟨rfl, rfl⟩)
  go_loopw [4] (fun i wr => ∃ m : Nat, m ≤ 8 ∧ i = .int .i64 ((m : Int) - 1) ∧ WStep w g r wr (bs ++ (be 8 x).take (8 - m))) (fun i _ => (intOf i + 1).toNat)
  case atStart => exact ⟨8, by omega, rfl, by simpa using hW.step⟩
  case round =>
    obtain ⟨m, hm, rfl, hWr⟩ := hrel
    by_cases h0 : 0 < m
    · obtain ⟨k, rfl⟩ : ∃ k, m = k + 1 := ⟨m - 1, by omega⟩
      have hcl : (bs ++ (be 8 x).take (8 - (k + 1))).length ≤ bs.length + 8 := by rw [List.length_append, List.length_take, be_length]; omega
      generalize hcs : bs ++ (be 8 x).take (8 - (k + 1)) = cs at hWr hcl
      have Hcs := Lib.hid hcs
      have H63 := Lib.hid (show cs.length + 1 ≤ maxLen by have := Hl.out; unfold maxLen; omega)
      have H47 := Lib.hid (show (cs.length + 1) * 1 ≤ 140737488355328 by have := Hl.out; omega)
      clear hcs hcl
      obtain ⟨r', ⟨A, c, hb, ho, hr'⟩, hkp, hfr⟩ := hWr
      have Hr' := Lib.hid hr'
      clear hr'
      have hc := hb.cell 0
      have hz := hb.frozen 0
      have hlt := hb.lt
      simp only [List.getElem?_toArray, List.getElem?_cons_zero] at hc
      rw [show ((k + 1 : Nat) : Int) - 1 = (k : Int) by omega]
      have e1 : IntKind.u64.wrap (x : Int) = x := IntWalk.u64_in _ (by have := Hx.out; omega)
      have e2 : IntKind.i64.wrap (8 * (k : Int)) = 8 * (k : Int) := IntWalk.i64_in _ (by omega)
      have e3 : (0 : Int) ≤ 8 * (k : Int) := by omega
      have e4 : 8 * (k : Int) ≤ 64 := by omega
      have e5 : (8 * (k : Int)).toNat = 8 * k := by omega
      have hne : some g ≠ (Value.slice A cs.length c).ownBlock := by
        have := own_blk_ne ho hb (by decide)
        exact fun h => this h.symm
      go_wp2
      go_region_law ((refine step_append_any _ rfl (.tmp 17) (.tmp 23) 27 rfl 0 5 i0 (.int .u8 0) 1 1 Try.underlying27 hi hz0 hz1 hz2 rfl (by decide) (.slice A cs.length c) cs.length (cs.map bv) rfl (ho.alloc _) (some ⟨wr.heap.size, 0, none⟩) 1 1 _ rfl (Rd.one_new _ _ _) (one_value _ rfl) H63.out H47.out (Nat.zero_le _) ?_; intro A' c' w1 hown hgrow hat; have hc1 := hgrow.cell (a := ⟨g, 0, none⟩) (v := .slice A cs.length c) (by simp [hc, World.cell?_alloc_lt, hb.lt]) hne; have hz1 : w1.frozen? ⟨g, 0, none⟩ = false := (World.frozen?_of_block (hgrow.block g (by simp; have := hb.lt; omega) hne)).trans (by simp [hz, World.frozen?_alloc_past, hb.lt])))
      all_goals
        have hst := Wr.put hb ho ((Kp.refl _ _).alloc _).drew (news := [UInt8.ofNat (x / 256 ^ k)]) (m := 1) rfl (by rw [shr_byte]; rfl) hown hgrow hat
        have Hst := Lib.hid (WStep.trans hkp (Hr'.out ▸ hfr) hst)
        clear hst hown hgrow hat hc hz hc1 hz1 hb ho hne
        go_wp2
        go_roundw
        case rel =>
          refine ⟨k, by omega, by go_num, ?_⟩
          have hfin : cs ++ [UInt8.ofNat (x / 256 ^ k)] = bs ++ (be 8 x).take (8 - k) := by
            rw [← Hcs.out, List.append_assoc, ← be_take_succ _ _ _ (by omega)]
          exact hfin ▸ Hst.out
        case measure => simp [intOf]
    · obtain rfl : m = 0 := by omega
      rw [take_done] at hWr
      go_wp2
      go_end0
      exact ⟨rfl, hWr⟩
theorem put64_any (w : World) (g : Nat) (r : Option Nat) (bs : List UInt8) (n : Int) (h0 : 0 ≤ n) (h1 : n ≤ 18446744073709551615) (hW : Wr w g r bs) (hl : bs.length ≤ 1099511627776) :
    Calls Try.prog 31 #[.pointer (some ⟨g, 0, none⟩), .int .u64 n] w fun e w' => e = .returned (.tuple #[]) ∧ WStep w g r w' (bs ++ be 8 n.toNat) := by
  obtain ⟨x, rfl⟩ := Int.eq_ofNat_of_zero_le h0
  rw [Int.toNat_natCast]
  exact put64_nat w g r bs x h1 hW hl

end Go.Proofs.Ytnaolhjbapgjgaa
