import Derived.Test.YtnaolhjbapgjgaaMg03
import Derived.Test.YtnaolhjbapgjgaaMg04
import Derived.Test.YtnaolhjbapgjgaaMg05
import Derived.Test.YtnaolhjbapgjgaaMg07
import Derived.Test.YtnaolhjbapgjgaaMg09
import Derived.Laws.IdiomCopy
/- Contract of docketbook.Same[byte]. -/
namespace Go.Proofs.Ytnaolhjbapgjgaa
open Go.RowKit

set_option maxRecDepth 100000 in
set_option maxHeartbeats 1600000 in
theorem sameb_any (w : World) (A B : Option Addr) (c d : Nat) (x y : List UInt8) (hx : Rd w 1 A x.length (x.map bv)) (hy : Rd w 1 B y.length (y.map bv)) (hxl : x.length ≤ 1000000000000) :
    Calls Try.prog 21 #[.slice A x.length c, .slice B y.length d] w fun e w' => e = .returned (.bool (decide (x = y))) ∧ Old w w' := by
  by_cases hl : x.length = y.length
  case neg =>
    have hne : x ≠ y := fun e => hl (by rw [e])
    have h1 : ((x.length : Int) != (y.length : Int)) = true := bne_iff_ne.2 (by omega)
    rw [decide_eq_false hne]
    go_enter Try.func21, Try.ntmps21
    go_wp2
    go_ret
    exact ⟨rfl, Kp.refl _ _⟩
  have h1 : ((x.length : Int) != (y.length : Int)) = false := bne_eq_false_iff_eq.2 (by omega)
  have Hxy := Lib.hid hl
  rw [← hl] at hy ⊢
  clear hl
  go_enter Try.func21, Try.ntmps21
  go_wp2
  go_loopw [5] (fun i wr => ∃ k : Nat, k ≤ x.length ∧ i = .int .i64 k ∧ x.take k = y.take k ∧ Old w wr) (fun i _ => x.length - (intOf i).toNat)
  case atStart => exact ⟨0, by omega, rfl, rfl, Kp.refl _ _⟩
  case round =>
    obtain ⟨k, hk, rfl, hpre, hold⟩ := hrel
    by_cases hlt : k < x.length
    · have hly : k < y.length := by have := Hxy.out; omega
      obtain ⟨b1, o1, u1, rfl, hu1, hc1⟩ := (hx.old hold).at_ hlt
      obtain ⟨b2, o2, u2, rfl, hu2, hc2⟩ := (hy.old hold).at_ hlt
      rw [List.getElem?_map, List.getElem?_eq_getElem hlt] at hu1
      rw [List.getElem?_map, List.getElem?_eq_getElem hly] at hu2
      simp only [Option.map_some, Option.some.injEq, bv] at hu1 hu2
      subst hu1 hu2
      have hn1 : (x[k].toNat : Int) ≤ 255 := by have := x[k].toNat_lt; omega
      have hn2 : (y[k].toNat : Int) ≤ 255 := by have := y[k].toNat_lt; omega
      have b5 : (k : Int) ≤ 1000000000000 := by omega
      have b6 : (0 : Int) ≤ (k : Int) := by omega
      have b7 : (k : Int) < (x.length : Int) := by omega
      have b8 : (k : Int).toNat = k := by omega
      have Hp := Lib.hid hpre
      have Ho := Lib.hid hold
      clear hpre hold
      by_cases he : x[k] = y[k]
      · have hq : ((x[k].toNat : Int) != (y[k].toNat : Int)) = false := by simp [he]
        have Hnext := Lib.hid (show x.take (k + 1) = y.take (k + 1) by rw [List.take_succ_eq_append_getElem hlt, List.take_succ_eq_append_getElem hly, Hp.out, he])
        clear he
        generalize (x[k].toNat : Int) = xa at *
        generalize (y[k].toNat : Int) = ya at *
        go_wp2
        go_quiet (fail)
        go_wp2
        go_roundw
        case rel => exact ⟨k + 1, by omega, by go_num, Hnext.out, Ho.out.drewN _⟩
        case measure => simp [intOf]; omega
      · have hq : ((x[k].toNat : Int) != (y[k].toNat : Int)) = true := by
          simp only [bne_iff_ne, ne_eq]
          intro h
          exact he (UInt8.toNat_inj.1 (by omega))
        have hne : x ≠ y := fun e => he (by subst e; rfl)
        clear he
        generalize (x[k].toNat : Int) = xa at *
        generalize (y[k].toNat : Int) = ya at *
        go_wp2
        go_quiet (fail)
        go_wp2
        go_ret
        exact ⟨ret_eq (bool_eq (decide_eq_false hne).symm), Ho.out.drewN _⟩
    · obtain rfl : k = x.length := by omega
      have he : x = y := by
        rw [List.take_length, Hxy.out, List.take_length] at hpre
        exact hpre
      have Ho := Lib.hid hold
      clear hold
      go_wp2
      go_ret
      exact ⟨ret_eq (bool_eq (decide_eq_true he).symm), Ho.out⟩
end Go.Proofs.Ytnaolhjbapgjgaa

/- Contracts of docketbook.Roomy[byte], Intact[byte]. -/
namespace Go.Proofs.Ytnaolhjbapgjgaa
open Go.RowKit

theorem Try.sizeByte : (Try.prog.info? 5).map (·.size) = some 1 := by kernel_rfl
theorem Try.copy_bytes {w : World} {ops : Array Oper} {rest : List Oper} {o : Oper} {a : Act} {Q : Exit → Act → World → Prop} (d s : Operand) {g dl dc : Nat} {cs : List Value} (hb : Blk w g 5 cs.toArray) (hcs : cs.length = dl)
    {A : Option Addr} {n c : Nat} {l : List UInt8} (hr : Rd w 1 A n (l.map bv)) (hn : l.length = n) (hle : n ≤ dl)
    (hgd : o.guard = none) (ho : o.op = .call { callee := .builtin .copy, args := #[d, s], argTypes := #[27, 27] }) (hd : a.eval d = .slice (some ⟨g, 0, none⟩) dl dc) (hs : a.eval s = .slice A n c)
    (hK : wpList Try.prog ops Q rest (a.put o.dst (.int .i64 n)) (w.setCells g 0 (l.map bv))) : wpList Try.prog ops Q (o :: rest) a w := by
  refine wpList_plain hgd fun K hK' => ?_
  have hrun : (Builtin.copy_ #[27, 27] o.type #[.slice (some ⟨g, 0, none⟩) dl dc, .slice A n c]).run Try.prog w = .ok (.int .i64 n) (w.setCells g 0 (l.map bv)) := by
    cases A with
    | none =>
      have h0 : n = 0 := by
        rcases Nat.eq_zero_or_pos n with h | h
        · exact h
        · obtain ⟨b, o, h', _⟩ := hr.2 h
          cases h'
      subst h0
      have : l = [] := List.eq_nil_of_length_eq_zero hn
      subst this
      exact run_copy_none (P := Try.prog) w 27 27 o.type 5 _ none dl dc 0 c Try.underlying27 Try.sizeByte (by simp)
    | some ad =>
      have hlm : (l.map bv).length = n := by rw [List.length_map, hn]
      have := run_copy_cells (P := Try.prog) w 27 27 o.type 5 g 0 dl dc ad n c (l.map bv) Try.underlying27 Try.sizeByte (by rw [hlm]; exact (Nat.min_eq_left hle).symm) (fun j v hv => by
          have hj : j < n := by rw [← hlm]; exact (List.getElem?_eq_some_iff.1 hv).1
          obtain ⟨b, o, h', hc⟩ := hr.2 (by omega)
          injection h' with h'
          subst h'
          rw [Addr.add_lit]
          exact hc j v hv)
        (fun j hj => by
          rw [Nat.zero_add, hb.cell, List.getElem?_toArray, List.getElem?_eq_getElem (by omega)]
          rfl)
        (fun j hj => hb.frozen _) (one_bytes l)
      rw [hlm] at this
      exact this
  unfold Oper.wp execOp
  simp only [ho, resolve, invoke, builtin, Sem.run_bind, Sem.run_pure, Result.andThen_ok, List.map_toArray, List.map_cons, List.map_nil, hd, hs, hrun]
  exact hK' _ _ hK

def zerosA (n : Nat) : Array Value := (List.replicate n (Value.int .u8 0)).toArray
/-- bytes with 80 marks behind them -/
def roomy (l : List UInt8) : List UInt8 := l ++ List.replicate 80 165
theorem roomy_len (l : List UInt8) : (roomy l).length = l.length + 80 := by simp [roomy]
theorem roomy_get (l : List UInt8) (k : Nat) (h1 : l.length ≤ k) (h2 : k < (roomy l).length) : (roomy l)[k] = 165 := by
  have h3 : (roomy l)[k]? = some 165 := by
    rw [roomy_len] at h2
    unfold roomy
    rw [List.getElem?_append_right h1, List.getElem?_replicate, if_pos (by omega)]
  rw [List.getElem?_eq_getElem h2] at h3
  injection h3
set_option maxRecDepth 100000 in
set_option maxHeartbeats 1600000 in
theorem roomy_any (w : World) (A : Option Addr) (c : Nat) (l : List UInt8) (hr : Rd w 1 A l.length (l.map bv)) (hl : l.length ≤ 10000000000) :
    Calls Try.prog 22 #[.slice A l.length c, .int .u8 165] w fun e w' => ∃ g, e = .returned (.slice (some ⟨g, 0, none⟩) (l.length + 80) (l.length + 80)) ∧ w.heap.size ≤ g ∧ Blk w' g 5 ((roomy l).map bv).toArray ∧ Old w w' := by
  have hmk0 := Try.make_bytes (l.length + 80) (by omega)
  have hmk : ∀ W : World, (Instr.makeSlice 27 (.int .i64 ((l.length : Int) + 80)) (.int .i64 ((l.length : Int) + 80))).run Try.prog W = .ok (.slice (some ⟨W.heap.size, 0, none⟩) (l.length + 80) (l.length + 80)) (W.alloc (.cells (zerosA (l.length + 80)) 5)) := by
    intro W
    have h := hmk0 W
    rw [show ((l.length + 80 : Nat) : Int) = (l.length : Int) + 80 by simp] at h
    exact h
  clear hmk0
  have e80 : IntKind.i64.wrap ((l.length : Int) + 80) = (l.length : Int) + 80 := IntWalk.i64_in _ (by omega)
  have Hl := Lib.hid hl
  have Hr := Lib.hid (hr.alloc (.cells (zerosA (l.length + 80)) 5))
  have Hb := Lib.hid (show Blk (w.alloc (.cells (zerosA (l.length + 80)) 5)) w.heap.size 5 (List.replicate (l.length + 80) (Value.int .u8 0)).toArray from Blk.new w 5 (zerosA (l.length + 80)))
  have Hfull := Lib.hid (fillF_full (roomy l) (.int .u8 0))
  have Hs := Lib.hid (show Blk ((w.alloc (.cells (zerosA (l.length + 80)) 5)).setCells w.heap.size 0 (l.map bv)) w.heap.size 5 (fillF (roomy l) (l.length + 80) l.length (.int .u8 0)).toArray by
    have h1 : Blk (w.alloc (.cells (zerosA (l.length + 80)) 5)) w.heap.size 5 (([] : List Value) ++ (List.replicate l.length (Value.int .u8 0) ++ List.replicate 80 (Value.int .u8 0))).toArray := by
      rw [List.nil_append, List.replicate_append_replicate]
      exact Hb.out
    have h2 := Blk.setCells h1 (l.map bv) (by simp)
    have h3 : fillF (roomy l) (l.length + 80) l.length (.int .u8 0) = ([] : List Value) ++ (l.map bv ++ List.replicate 80 (Value.int .u8 0)) := by
      simp [fillF, roomy]
    rw [h3]
    exact h2)
  have Ho := Lib.hid (show Old w ((w.alloc (.cells (zerosA (l.length + 80)) 5)).setCells w.heap.size 0 (l.map bv)) from ((Kp.refl NoX w).alloc _).trans (Kp.setCells _ _ _ _) (fun b hb e => by omega))
  clear hr hl
  have Hn := Lib.hid (roomy_len l)
  go_enter Try.func22, Try.ntmps22
  go_wp2_with (first | refine Try.copy_bytes (.tmp 11) (.tmp 12) (dl := l.length + 80) (dc := l.length + 80) (c := c) Hb.out List.length_replicate Hr.out rfl (Nat.le_add_right _ _) rfl rfl rfl rfl ?_ | fail)
  generalize (w.alloc _).setCells _ _ _ = W at *
  go_loopw [6] (fun i wr => ∃ k : Nat, l.length ≤ k ∧ k ≤ l.length + 80 ∧ i = .int .i64 k ∧ Blk wr w.heap.size 5 (fillF (roomy l) (l.length + 80) k (.int .u8 0)).toArray ∧ Old w wr) (fun i _ => l.length + 80 - (intOf i).toNat)
  case atStart => exact ⟨l.length, Nat.le_refl _, Nat.le_add_right _ _, rfl, Hs.out, Ho.out⟩
  case round =>
    obtain ⟨k, hk1, hk2, rfl, hb, ho⟩ := hrel
    have HB := Lib.hid hb
    have HO := Lib.hid ho
    clear hb ho
    by_cases hlt : k < l.length + 80
    · have hc := HB.out.at_ k (v := .int .u8 0) (by rw [List.getElem?_toArray]; exact fillF_get _ _ k _ hlt (by rw [Hn.out]; omega))
      have hz := HB.out.frozen k
      have b1 : (0 : Int) ≤ (k : Int) := by omega
      have b2 : (k : Int) < (l.length : Int) + 80 := by omega
      have b3 : (k : Int).toNat = k := by omega
      have b4 : (k : Int) ≤ 10000000100 := by have := Hl.out; omega
      go_wp2
      go_roundw
      case rel =>
        refine ⟨k + 1, by omega, by omega, by go_num, ?_, HO.out.setCell (p := ⟨w.heap.size, k, none⟩) (fun h => absurd h (Nat.lt_irrefl _)) _⟩
        have h1 := HB.out.set_ k (.int .u8 165)
        rw [List.setIfInBounds_toArray] at h1
        have h2 := fillF_set (roomy l) (l.length + 80) k (.int .u8 0) hlt (by rw [Hn.out]; exact hlt)
        rw [roomy_get l k hk1] at h2
        rw [← h2]
        exact h1
      case measure => simp [intOf]; omega
    · obtain rfl : k = l.length + 80 := by omega
      go_wp2
      go_ret
      refine ⟨_, rfl, Nat.le_refl _, ?_, HO.out⟩
      have h2 := Hfull.out
      rw [Hn.out] at h2
      rw [← h2]
      exact HB.out

set_option maxRecDepth 100000 in
set_option maxHeartbeats 1600000 in
theorem intact_any (w : World) (g : Nat) (B : Option Addr) (d : Nat) (l : List UInt8) (hb : Blk w g 5 ((roomy l).map bv).toArray) (hr : Rd w 1 B l.length (l.map bv)) (hl : l.length ≤ 10000000000) :
    Calls Try.prog 26 #[.slice (some ⟨g, 0, none⟩) (l.length + 80) (l.length + 80), .slice B l.length d, .int .u8 165] w fun e w' => e = .returned (.bool true) ∧ Old w w' := by
  have hRd := Rd.of_blk hb
  have hpre := hRd.take_ (k := l.length) (by rw [List.length_map, roomy_len]; omega)
  rw [Nat.mul_one, ← List.map_take, show (roomy l).take l.length = l by simp [roomy]] at hpre
  have HS := Lib.hid (sameb_any w (some ⟨g, 0, none⟩) B (l.length + 80) d l l hpre hr (by omega))
  have hsl := fun W => cut_h (P := Try.prog) Try.elemBytes Try.sizeBytes (some ⟨g, 0, none⟩) (l.length + 80) (l.length + 80) l.length .i64 (l.length : Int) rfl (by omega) W
  have e80 : IntKind.i64.wrap ((l.length : Int) + 80) = (l.length : Int) + 80 := IntWalk.i64_in _ (by omega)
  have Hl := Lib.hid hl
  have Hb := Lib.hid hb
  clear hb hr hl hRd hpre
  go_enter Try.func26, Try.ntmps26
  go_wp2_with fail
  refine HS.out.mono ?_
  rintro e w1 ⟨rfl, ho1⟩
  have Ho1 := Lib.hid ho1
  clear ho1 HS hsl
  go_wp2_with fail
  go_loopw [7] (fun i wr => ∃ k : Nat, l.length ≤ k ∧ k ≤ l.length + 80 ∧ i = .int .i64 k ∧ wr = w1) (fun i _ => l.length + 80 - (intOf i).toNat)
  case atStart => exact ⟨l.length, Nat.le_refl _, Nat.le_add_right _ _, rfl, rfl⟩
  case round =>
    obtain ⟨k, hk1, hk2, rfl, rfl⟩ := hrel
    by_cases hlt : k < l.length + 80
    · have hc : wr.cell? ⟨g, k, none⟩ = some (.int .u8 165) := by
        rw [(Hb.out.old Ho1.out).cell, List.getElem?_toArray, List.getElem?_map, List.getElem?_eq_getElem (by rw [roomy_len]; exact hlt), roomy_get l k hk1]
        rfl
      have b1 : (0 : Int) ≤ (k : Int) := by omega
      have b2 : (k : Int) < (l.length : Int) + 80 := by omega
      have b3 : (k : Int).toNat = k := by omega
      have b4 : (k : Int) ≤ 10000000100 := by have := Hl.out; omega
      go_wp2
      go_roundw
      case rel => exact ⟨k + 1, by omega, by omega, by go_num, by trivial⟩
      case measure => simp [intOf]; omega
    · obtain rfl : k = l.length + 80 := by omega
      go_wp2
      go_ret
      exact ⟨rfl, Ho1.out⟩
end Go.Proofs.Ytnaolhjbapgjgaa

/- Contracts of docketbook.Same[string], docketlaw24.sameValues. -/
namespace Go.Proofs.Ytnaolhjbapgjgaa
open Go.RowKit

theorem bytes_same {a b : ByteArray} (h : a.toList = b.toList) : a = b := by
  rw [ByteArray.toList_eq, ByteArray.toList_eq] at h
  exact sb_inj h
set_option maxRecDepth 100000 in
set_option maxHeartbeats 1600000 in
theorem sames_any (w : World) (A B : Option Addr) (c d : Nat) (x y : List ByteArray) (hx : Rd w 1 A x.length (x.map sv)) (hy : Rd w 1 B y.length (y.map sv)) (hxl : x.length ≤ 1000000000000) :
    Calls Try.prog 82 #[.slice A x.length c, .slice B y.length d] w fun e w' => e = .returned (.bool (decide (x = y))) ∧ Old w w' := by
  by_cases hl : x.length = y.length
  case neg =>
    have hne : x ≠ y := fun e => hl (by rw [e])
    have h1 : ((x.length : Int) != (y.length : Int)) = true := bne_iff_ne.2 (by omega)
    rw [decide_eq_false hne]
    go_enter Try.func82, Try.ntmps82
    go_wp2
    go_ret
    exact ⟨rfl, Kp.refl _ _⟩
  have h1 : ((x.length : Int) != (y.length : Int)) = false := bne_eq_false_iff_eq.2 (by omega)
  have Hxy := Lib.hid hl
  rw [← hl] at hy ⊢
  clear hl
  go_enter Try.func82, Try.ntmps82
  go_wp2
  go_loopw [5] (fun i wr => ∃ k : Nat, k ≤ x.length ∧ i = .int .i64 k ∧ x.take k = y.take k ∧ Old w wr) (fun i _ => x.length - (intOf i).toNat)
  case atStart => exact ⟨0, by omega, rfl, rfl, Kp.refl _ _⟩
  case round =>
    obtain ⟨k, hk, rfl, hpre, hold⟩ := hrel
    by_cases hlt : k < x.length
    · have hly : k < y.length := by have := Hxy.out; omega
      obtain ⟨b1, o1, u1, rfl, hu1, hc1⟩ := (hx.old hold).at_ hlt
      obtain ⟨b2, o2, u2, rfl, hu2, hc2⟩ := (hy.old hold).at_ hlt
      rw [List.getElem?_map, List.getElem?_eq_getElem hlt] at hu1
      rw [List.getElem?_map, List.getElem?_eq_getElem hly] at hu2
      simp only [Option.map_some, Option.some.injEq, sv] at hu1 hu2
      subst hu1 hu2
      have b5 : (k : Int) ≤ 1000000000000 := by omega
      have b6 : (0 : Int) ≤ (k : Int) := by omega
      have b7 : (k : Int) < (x.length : Int) := by omega
      have b8 : (k : Int).toNat = k := by omega
      have Hp := Lib.hid hpre
      have Ho := Lib.hid hold
      clear hpre hold
      by_cases he : x[k] = y[k]
      · have hq : (x[k].toList == y[k].toList) = true := by rw [he]; simp
        have Hnext := Lib.hid (show x.take (k + 1) = y.take (k + 1) by rw [List.take_succ_eq_append_getElem hlt, List.take_succ_eq_append_getElem hly, Hp.out, he])
        clear he
        generalize x[k] = xa at *
        generalize y[k] = ya at *
        go_wp2
        go_quiet (fail)
        go_wp2
        go_roundw
        case rel => exact ⟨k + 1, by omega, by go_num, Hnext.out, Ho.out.drewN _⟩
        case measure => simp [intOf]; omega
      · have hq : (x[k].toList == y[k].toList) = false := by
          rw [beq_eq_false_iff_ne]
          intro h
          exact he (bytes_same h)
        have hne : x ≠ y := fun e => he (by subst e; rfl)
        clear he
        generalize x[k] = xa at *
        generalize y[k] = ya at *
        go_wp2
        go_quiet (fail)
        go_wp2
        go_ret
        exact ⟨ret_eq (bool_eq (decide_eq_false hne).symm), Ho.out.drewN _⟩
    · obtain rfl : k = x.length := by omega
      have he : x = y := by
        rw [List.take_length, Hxy.out, List.take_length] at hpre
        exact hpre
      have Ho := Lib.hid hold
      clear hold
      go_wp2
      go_ret
      exact ⟨ret_eq (bool_eq (decide_eq_true he).symm), Ho.out⟩

set_option maxRecDepth 100000 in
set_option maxHeartbeats 800000 in
theorem samev_eq (w : World) (v : Val) (A B : Option Addr) (c d : Nat) (hx : Rd w 1 A v.s.length (v.s.map sv)) (hy : Rd w 1 B v.s.length (v.s.map sv)) (hl : v.s.length ≤ 1000000000000) :
    Calls Try.prog 63 #[vV v A c, vV v B d] w fun e w' => e = .returned (.bool true) ∧ Old w w' := by
  obtain ⟨k, n, t, s⟩ := v
  have HS := Lib.hid (fun W (ho : Old w W) => sames_any W A B c d s s (hx.old ho) (hy.old ho) hl)
  have Ho := Lib.hid (((Kp.refl NoX w).alloc (.cells #[.int .i64 k, .int .i64 n, .string t, .slice A s.length c] 25)).alloc (.cells #[.int .i64 k, .int .i64 n, .string t, .slice B s.length d] 25))
  clear hx hy hl
  simp only [vV] at *
  go_enter Try.func63, Try.ntmps63
  go_wp2_with fail
  refine (HS.out _ Ho.out).mono ?_
  rintro e w1 ⟨rfl, ho1⟩
  go_wp2
  go_ret
  exact ⟨by simp, Ho.out.old ho1⟩
end Go.Proofs.Ytnaolhjbapgjgaa

/- Small facts on texts laid down, new slices and steps. -/
namespace Go.Proofs.Ytnaolhjbapgjgaa
open Go.RowKit

theorem Rd.arr_new (w : World) (t : TypeId) (l : List Value) : Rd (w.alloc (.cells l.toArray t)) 1 (some ⟨w.heap.size, 0, none⟩) l.length l := by
  refine ⟨by simp, fun _ => ⟨_, _, rfl, fun j u hu => ?_⟩⟩
  have hb := Blk.new w t l.toArray
  rw [Nat.zero_add, hb.cell j]
  simpa using hu
theorem Av.new {w : World} {g n : Nat} {r : Option Nat} {bs : List UInt8} (h : Wr w g r bs) : Av (WX g r) n (some ⟨w.heap.size, 0, none⟩) := by
  intro _ ad e
  injection e with e
  subst e
  exact wx_new h (Nat.le_refl _)
theorem WStep.after {w1 w2 w3 : World} {g : Nat} {r : Option Nat} {bs : List UInt8} (ho : Old w1 w2) (h : WStep w2 g r w3 bs) : WStep w1 g r w3 bs :=
  WStep.trans (ho.mono (Y := WX g r) (fun _ _ f => f.elim)) (.inl rfl) h
theorem WStep.old {w1 w2 w3 : World} {g : Nat} {r : Option Nat} {bs : List UInt8} (h : WStep w1 g r w2 bs) (ho : Old w2 w3) : WStep w1 g r w3 bs := by
  obtain ⟨r', hW, hk, hf⟩ := h
  exact ⟨r', hW.old ho, hk.old ho, hf⟩

theorem lps4_one (a : ByteArray) : lps4 [a] = lp 4 (sb a) := by simp [lps4]
theorem lps4_two (a b : ByteArray) : lps4 [a, b] = lp 4 (sb a) ++ lp 4 (sb b) := by simp [lps4]

/-- one text: laid down, or too long and nothing -/
theorem TextPost.one {w w' : World} {g : Nat} {r : Option Nat} {bs : List UInt8} {a : ByteArray} {e : Ending} (h : TextPost w g r bs [a] e w') :
    (e = .returned (.bool true) ∧ a.size ≤ 4194304 ∧ WStep w g r w' (bs ++ lp 4 (sb a))) ∨ (e = .returned (.bool false) ∧ 4194304 < a.size ∧ WStep w g r w' bs) := by
  obtain ⟨k, hk, he, h1, h2, hst⟩ := h
  simp only [List.length_cons, List.length_nil] at hk h2 he
  have hk' : k = 0 ∨ k = 1 := by omega
  rcases hk' with rfl | rfl
  · exact .inr ⟨he, h2 (by omega), by simpa [lps4] using hst⟩
  · exact .inl ⟨he, h1 0 (by omega), by simpa [lps4] using hst⟩
/-- two texts -/
theorem TextPost.two {w w' : World} {g : Nat} {r : Option Nat} {bs : List UInt8} {a b : ByteArray} {e : Ending} (h : TextPost w g r bs [a, b] e w') :
    (e = .returned (.bool true) ∧ a.size ≤ 4194304 ∧ b.size ≤ 4194304 ∧ WStep w g r w' (bs ++ (lp 4 (sb a) ++ lp 4 (sb b)))) ∨
    (e = .returned (.bool false) ∧ (4194304 < a.size ∨ 4194304 < b.size) ∧ ∃ bs', bs'.length ≤ 4194308 ∧ WStep w g r w' (bs ++ bs')) := by
  obtain ⟨k, hk, he, h1, h2, hst⟩ := h
  simp only [List.length_cons, List.length_nil] at hk h2 he
  have hk' : k = 0 ∨ k = 1 ∨ k = 2 := by omega
  rcases hk' with rfl | rfl | rfl
  · exact .inr ⟨he, .inl (h2 (by omega)), [], by simp, by simpa [lps4] using hst⟩
  · have ha := h1 0 (by omega)
    refine .inr ⟨he, .inr (h2 (by omega)), lp 4 (sb a), ?_, by simpa [lps4] using hst⟩
    rw [lp_length, sb_length]
    have : ([a, b] : List ByteArray).getD 0 ByteArray.empty = a := rfl
    rw [this] at ha
    omega
  · exact .inl ⟨he, h1 0 (by omega), h1 1 (by omega), by simpa [lps4] using hst⟩

theorem flatMap_get4 (l : List MVal) : ∀ (k j : Nat) (hk : k < l.length) (_hj : j < 4), (l.flatMap MVal.cells)[k * 4 + j]? = (l[k]).cells[j]? := by
  induction l with
  | nil => intro k j hk; simp at hk
  | cons a l ih =>
    intro k j hk hj
    have hl : a.cells.length = 4 := rfl
    rw [List.flatMap_cons]
    cases k with
    | zero =>
      rw [List.getElem?_append_left (by omega)]
      simp
    | succ k =>
      rw [List.getElem?_append_right (by omega), hl]
      have e : (k + 1) * 4 + j - 4 = k * 4 + j := by omega
      rw [e, ih k j (by simpa using hk) hj]
      simp
/-- the cells of the k-th value of a row -/
theorem Rd.mval {w : World} {A : Option Addr} {l : List MVal} (h : Rd w 4 A l.length (l.flatMap MVal.cells)) {k : Nat} (hk : k < l.length) :
    ∃ b o, A = some ⟨b, o, none⟩ ∧ w.cell? ⟨b, o + k * 4, none⟩ = some (.int .i64 l[k].v.kind) ∧ w.cell? ⟨b, o + k * 4 + 1, none⟩ = some (.int .i64 l[k].v.n) ∧
      w.cell? ⟨b, o + k * 4 + 2, none⟩ = some (.string l[k].v.t) ∧ w.cell? ⟨b, o + k * 4 + 3, none⟩ = some (.slice l[k].A l[k].v.s.length l[k].c) := by
  obtain ⟨b, o, e, hc⟩ := h.2 (by omega)
  refine ⟨b, o, e, ?_, ?_, ?_, ?_⟩
  · exact hc (k * 4 + 0) _ (flatMap_get4 l k 0 hk (by decide))
  · exact hc (k * 4 + 1) _ (flatMap_get4 l k 1 hk (by decide))
  · exact hc (k * 4 + 2) _ (flatMap_get4 l k 2 hk (by decide))
  · exact hc (k * 4 + 3) _ (flatMap_get4 l k 3 hk (by decide))

/-- values one behind the other -/
def valsB (l : List Val) : List UInt8 := (l.map valB).flatten
theorem valsB_take_succ (l : List Val) (k : Nat) (h : k < l.length) : valsB (l.take (k + 1)) = valsB (l.take k) ++ valB l[k] := by
  rw [List.take_succ_eq_append_getElem h]
  unfold valsB
  rw [List.map_append, List.flatten_append]
  congr 1
  simp
theorem valsB_length (l : List Val) : ∀ k, k ≤ l.length → (∀ j (hj : j < l.length), j < k → rightE l[j] = 0) → (valsB (l.take k)).length ≤ k * 100000 := by
  intro k
  induction k with
  | zero => intro _ _; simp [valsB]
  | succ k ih =>
    intro hk h
    have h1 := ih (by omega) (fun j hj hjk => h j hj (by omega))
    have h2 := valB_length l[k] (h k (by omega) (by omega))
    rw [valsB_take_succ l k (by omega), List.length_append]
    omega
end Go.Proofs.Ytnaolhjbapgjgaa
