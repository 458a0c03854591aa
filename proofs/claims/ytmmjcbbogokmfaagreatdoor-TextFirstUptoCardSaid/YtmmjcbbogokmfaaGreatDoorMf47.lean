import Derived.Test.YtmmjcbbogokmfaaGreatDoorMf01
import Derived.Test.YtmmjcbbogokmfaaGreatDoorMf12
import Derived.Test.YtmmjcbbogokmfaaGreatDoorMf19
import Derived.Test.YtmmjcbbogokmfaaGreatDoorMf46
import Derived.Laws.IdiomCopy
import Derived.Laws.MakeOwn
import Derived.Laws.OwnMore
set_option maxRecDepth 100000
set_option maxHeartbeats 25600000
namespace Go.Proofs.YtmmjcbbogokmfaaGreatDoor
open Go.RowKit
theorem Tryz.copy_vals (sl el : TypeId) (hu : Tryz.prog.underlying sl = some (.slice el)) (hs1 : (Tryz.prog.info? el).map (·.size) = some 1) {w : World} {ops : Array Oper} {rest : List Oper} {o : Oper} {a : Act} {Q : Exit -> Act -> World -> Prop} (d s : Operand) {g dl dc : Nat} {cs : List Value} (hb : Blk w g el cs.toArray) (hcs : cs.length = dl)
    {A : Option Addr} {n c : Nat} {l : List Value} (hr : Rd w 1 A n l) (hn : l.length = n) (h1 : ∀ u ∈ l, u.oneCell' = true) (hle : n <= dl)
    (hgd : o.guard = none) (ho : o.op = .call { callee := .builtin .copy, args := #[d, s], argTypes := #[sl, sl] }) (hd : a.eval d = .slice (some ⟨g, 0, none⟩) dl dc) (hs : a.eval s = .slice A n c)
    (hK : wpList Tryz.prog ops Q rest (a.put o.dst (.int .i64 n)) (w.setCells g 0 l)) : wpList Tryz.prog ops Q (o :: rest) a w := by
  refine wpList_plain hgd fun K hK' => ?_
  have hrun : (Builtin.copy_ #[sl, sl] o.type #[.slice (some ⟨g, 0, none⟩) dl dc, .slice A n c]).run Tryz.prog w = .ok (.int .i64 n) (w.setCells g 0 l) := by
    cases A with
    | none =>
      have h0 : n = 0 := by
        rcases Nat.eq_zero_or_pos n with h | h
        · exact h
        · obtain ⟨b, o, h', _⟩ := hr.2 h
          cases h'
      subst h0
      have : l = [] := List.eq_nil_of_length_eq_zero hn
      subst this
      exact run_copy_none (P := Tryz.prog) w sl sl o.type el _ none dl dc 0 c hu hs1 (by simp)
    | some ad =>
      have := run_copy_cells (P := Tryz.prog) w sl sl o.type el g 0 dl dc ad n c l hu hs1 (by rw [hn]; exact (Nat.min_eq_left hle).symm) (fun j v hv => by
          have hj : j < n := by rw [<- hn]; exact (List.getElem?_eq_some_iff.1 hv).1
          obtain ⟨b, o, h', hc⟩ := hr.2 (by omega)
          injection h' with h'
          subst h'
          rw [Addr.add_lit]
          exact hc j v hv)
        (fun j hj => by
          rw [Nat.zero_add, hb.cell, List.getElem?_toArray, List.getElem?_eq_getElem (by omega)]
          rfl)
        (fun j hj => hb.frozen _) h1
      rw [hn] at this
      exact this
  unfold Oper.wp execOp
  simp only [ho, resolve, invoke, builtin, Sem.run_bind, Sem.run_pure, Result.andThen_ok, List.map_toArray, List.map_cons, List.map_nil, hd, hs, hrun]
  exact hK' _ _ hK
def fillV (xs : List Value) (n k : Nat) (v : Value) : List Value := xs.take k ++ List.replicate (n - k) v
theorem fillV_full (xs : List Value) (v : Value) : fillV xs xs.length xs.length v = xs := by simp [fillV]
theorem fillV_set (xs : List Value) (n k : Nat) (v : Value) (hk : k < n) (hx : k < xs.length) : (fillV xs n k v).set k xs[k] = fillV xs n (k + 1) v := by
  unfold fillV
  have hl : (xs.take k).length = k := by rw [List.length_take]; omega
  rw [List.set_append_right _ _ (by omega), hl, Nat.sub_self, List.take_succ_eq_append_getElem hx]
  obtain ⟨m, hm⟩ : ∃ m, n - k = m + 1 := ⟨n - k - 1, by omega⟩
  rw [hm, List.replicate_succ, List.set_cons_zero, show n - (k + 1) = m by omega, List.append_assoc]
  rfl
theorem fillV_get (xs : List Value) (n k : Nat) (v : Value) (hk : k < n) (hx : k <= xs.length) : (fillV xs n k v)[k]? = some v := by
  unfold fillV
  have hl : (xs.take k).length = k := by rw [List.length_take]; omega
  rw [List.getElem?_append_right (by omega), hl, Nat.sub_self]
  obtain ⟨m, hm⟩ : ∃ m, n - k = m + 1 := ⟨n - k - 1, by omega⟩
  rw [hm, List.replicate_succ]
  rfl
def kU (l : List Value) (m : Value) : List Value := l ++ List.replicate 80 m
theorem roomV_len (l : List Value) (m : Value) : (kU l m).length = l.length + 80 := by simp [kU]
theorem vP? (l : List Value) (m : Value) (k : Nat) (h1 : l.length <= k) (h2 : k < l.length + 80) : (kU l m)[k]? = some m := by
  unfold kU
  rw [List.getElem?_append_right h1, List.getElem?_replicate, if_pos (by omega)]
theorem vP (l : List Value) (m : Value) (k : Nat) (h1 : l.length <= k) (h2 : k < (kU l m).length) : (kU l m)[k] = m := by
  have h3 := vP? l m k h1 (by rw [roomV_len] at h2; exact h2)
  rw [List.getElem?_eq_getElem h2] at h3
  injection h3
theorem Rd.of_blkV {w : World} {g : Nat} {t : TypeId} {xs : List Value} (h : Blk w g t xs.toArray) : Rd w 1 (some ⟨g, 0, none⟩) xs.length xs := by
  refine ⟨by simp, fun _ => ⟨_, _, rfl, fun j u hu => ?_⟩⟩
  rw [Nat.zero_add, h.cell j]
  simpa using hu
theorem roomV_rd {w : World} {g : Nat} {t : TypeId} {l : List Value} {m : Value} (h : Blk w g t (kU l m).toArray) : Rd w 1 (some ⟨g, 0, none⟩) l.length l := by
  refine ⟨by simp, fun _ => ⟨_, _, rfl, fun j u hu => ?_⟩⟩
  have hj := (List.getElem?_eq_some_iff.1 hu).1
  rw [Nat.zero_add, h.cell j, List.getElem?_toArray]
  unfold kU
  rw [List.getElem?_append_left hj]
  exact hu
theorem one_ints (l : List Int) : ∀ u ∈ l.map iv, u.oneCell' = true := by
  intro u hu
  obtain ⟨b, _, rfl⟩ := List.mem_map.1 hu
  rfl
theorem Tryz.infoI : (Tryz.prog.info? 3).map (fun i => (i.zero, i.size, i.bytes)) = some (some (.int .i64 0), 1, 8) := by kernel_rfl
theorem Tryz.infoS : (Tryz.prog.info? 9).map (fun i => (i.zero, i.size, i.bytes)) = some (some (.string ⟨#[]⟩), 1, 16) := by kernel_rfl
theorem Tryz.infoB : (Tryz.prog.info? 5).map (fun i => (i.zero, i.size, i.bytes)) = some (some (.int .u8 0), 1, 1) := by kernel_rfl
theorem Tryz.sizeI : (Tryz.prog.info? 3).map (·.size) = some 1 := by kernel_rfl
theorem Tryz.makeI (n : Nat) (hn : n <= 10000000000000) (W : World) :
    (Instr.makeSlice 27 (.int .i64 (n : Int)) (.int .i64 (n : Int))).run Tryz.prog W = .ok (.slice (some ⟨W.heap.size, 0, none⟩) n n) (W.alloc (.cells (List.replicate n (Value.int .i64 0)).toArray 3)) := by
  obtain ⟨i, hi, hz0, hz1, hz2⟩ := info_parts Tryz.infoI
  have hr := run_make (P := Tryz.prog) W 27 3 i (Value.int .i64 0) Tryz.underlying27 hi hz0 .i64 .i64 n n (by omega) (by omega) (by rw [hz2]; omega) (by omega)
  simp only [Int.toNat_natCast, hz1, Nat.mul_one] at hr
  have e : madeCells ((Value.int .i64 0)).cells n = (List.replicate n (Value.int .i64 0)).toArray := by
    rw [show ((Value.int .i64 0)).cells = #[(Value.int .i64 0)] from rfl]
    apply Array.toList_inj.1
    rw [toList_madeCells_one]
  rw [hr, e]
theorem roomI (w : World) (A : Option Addr) (c : Nat) (l : List Int) (hr : Rd w 1 A l.length (l.map iv)) (hl : l.length <= 1000000000000) :
    Calls Tryz.prog 18 #[.slice A l.length c, (Value.int .i64 (-77))] w fun e w' => ∃ g, e = .returned (.slice (some ⟨g, 0, none⟩) (l.length + 80) (l.length + 80)) /\ w.heap.size <= g /\ Blk w' g 3 (kU (l.map iv) (Value.int .i64 (-77))).toArray /\ Old w w' := by
  have eR : (List.replicate (l.length + 80) (Value.int .i64 0)).toArray = Array.replicate (l.length + 80) (Value.int .i64 0) := List.toArray_replicate ..
  have hmk0 := Tryz.makeI (l.length + 80) (by omega)
  have hmk : ∀ W : World, (Instr.makeSlice 27 (.int .i64 ((l.length : Int) + 80)) (.int .i64 ((l.length : Int) + 80))).run Tryz.prog W = .ok (.slice (some ⟨W.heap.size, 0, none⟩) (l.length + 80) (l.length + 80)) (W.alloc (.cells (Array.replicate (l.length + 80) (Value.int .i64 0)) 3)) := by
    intro W
    have h := hmk0 W
    rw [show ((l.length + 80 : Nat) : Int) = (l.length : Int) + 80 by simp, eR] at h
    exact h
  clear hmk0
  have e80 : IntKind.i64.wrap ((l.length : Int) + 80) = (l.length : Int) + 80 := IntWalk.i64_in _ (by omega)
  have Hl := jJ0 hl
  have hlm : (l.map iv).length = l.length := List.length_map ..
  have Hr := jJ0 (hr.alloc (.cells (Array.replicate (l.length + 80) (Value.int .i64 0)) 3))
  have Hb := jJ0 (show Blk (w.alloc (.cells (Array.replicate (l.length + 80) (Value.int .i64 0)) 3)) w.heap.size 3 (List.replicate (l.length + 80) (Value.int .i64 0)).toArray by rw [eR]; exact Blk.new w _ _)
  have Hs := jJ0 (show Blk ((w.alloc (.cells (Array.replicate (l.length + 80) (Value.int .i64 0)) 3)).setCells w.heap.size 0 (l.map iv)) w.heap.size 3 (fillV (kU (l.map iv) (Value.int .i64 (-77))) (l.length + 80) l.length (Value.int .i64 0)).toArray by
    have h1 : Blk (w.alloc (.cells (Array.replicate (l.length + 80) (Value.int .i64 0)) 3)) w.heap.size 3 (([] : List Value) ++ (List.replicate l.length (Value.int .i64 0) ++ List.replicate 80 (Value.int .i64 0))).toArray := by
      rw [List.nil_append, List.replicate_append_replicate]
      exact Hb.out
    have h2 := Blk.setCells h1 (l.map iv) (by simp)
    have h3 : fillV (kU (l.map iv) (Value.int .i64 (-77))) (l.length + 80) l.length (Value.int .i64 0) = ([] : List Value) ++ (l.map iv ++ List.replicate 80 (Value.int .i64 0)) := by
      simp [fillV, kU, hlm]
    rw [h3]
    exact h2)
  have Ho := jJ0 (show Old w ((w.alloc (.cells (Array.replicate (l.length + 80) (Value.int .i64 0)) 3)).setCells w.heap.size 0 (l.map iv)) from ((Kp.refl NoX w).alloc _).trans (Kp.setCells _ _ _ _) (fun b hb e => by omega))
  have Hg := jJ0 (fun k (h1 : l.length <= k) (h2 : k < (kU (l.map iv) (Value.int .i64 (-77))).length) => vP (l.map iv) (Value.int .i64 (-77)) k (by rw [hlm]; exact h1) h2)
  have Hn := jJ0 (show (kU (l.map iv) (Value.int .i64 (-77))).length = l.length + 80 by rw [roomV_len, hlm])
  have H1 := jJ0 (one_ints l)
  have Hlm := jJ0 hlm
  clear hr hl hlm
  generalize l.map iv = vs at *
  go_enter Tryz.func18, Tryz.ntmps18
  go_wp2_with (first | refine Tryz.copy_vals 27 3 Tryz.underlying27 Tryz.sizeI (.tmp 11) (.tmp 12) (dl := l.length + 80) (dc := l.length + 80) (c := c) Hb.out List.length_replicate Hr.out Hlm.out H1.out (Nat.le_add_right _ _) rfl rfl rfl rfl ?_ | fail)
  generalize (w.alloc _).setCells _ _ _ = W at *
  go_loopw [6] (fun i wr => ∃ k : Nat, l.length <= k /\ k <= l.length + 80 /\ i = .int .i64 k /\ Blk wr w.heap.size 3 (fillV (kU vs (Value.int .i64 (-77))) (l.length + 80) k (Value.int .i64 0)).toArray /\ Old w wr) (fun i _ => l.length + 80 - (intOf i).toNat)
  case atStart => exact ⟨l.length, Nat.le_refl _, Nat.le_add_right _ _, rfl, Hs.out, Ho.out⟩
  case round =>
    obtain ⟨k, hk1, hk2, rfl, hb, ho⟩ := hrel
    have HB := jJ0 hb
    have HO := jJ0 ho
    clear hb ho
    by_cases hlt : k < l.length + 80
    · have hc := HB.out.at_ k (v := (Value.int .i64 0)) (by rw [List.getElem?_toArray]; exact fillV_get _ _ k _ hlt (by rw [Hn.out]; omega))
      have hz := HB.out.frozen k
      have b1 : (0 : Int) <= (k : Int) := by omega
      have b2 : (k : Int) < (l.length : Int) + 80 := by omega
      have b3 : (k : Int).toNat = k := by omega
      have b4 : (k : Int) <= 1000000000100 := by have := Hl.out; omega
      go_wp2
      go_roundw
      case rel =>
        refine ⟨k + 1, by omega, by omega, by go_num, ?_, HO.out.setCell (p := ⟨w.heap.size, k, none⟩) (fun h => absurd h (Nat.lt_irrefl _)) _⟩
        have h1 := HB.out.set_ k (Value.int .i64 (-77))
        rw [List.setIfInBounds_toArray] at h1
        have h2 := fillV_set (kU vs (Value.int .i64 (-77))) (l.length + 80) k (Value.int .i64 0) hlt (by rw [Hn.out]; exact hlt)
        rw [Hg.out k hk1] at h2
        rw [<- h2]
        exact h1
      case measure => simp [intOf]; omega
    · obtain rfl : k = l.length + 80 := by omega
      go_wp2
      go_ret
      refine ⟨_, rfl, Nat.le_refl _, ?_, HO.out⟩
      have h2 := fillV_full (kU vs (Value.int .i64 (-77))) (Value.int .i64 0)
      rw [Hn.out] at h2
      rw [<- h2]
      exact HB.out
theorem Tryz.sizeS : (Tryz.prog.info? 9).map (·.size) = some 1 := by kernel_rfl
theorem Tryz.makeS (n : Nat) (hn : n <= 10000000000000) (W : World) :
    (Instr.makeSlice 42 (.int .i64 (n : Int)) (.int .i64 (n : Int))).run Tryz.prog W = .ok (.slice (some ⟨W.heap.size, 0, none⟩) n n) (W.alloc (.cells (List.replicate n (Value.string ⟨#[]⟩)).toArray 9)) := by
  obtain ⟨i, hi, hz0, hz1, hz2⟩ := info_parts Tryz.infoS
  have hr := run_make (P := Tryz.prog) W 42 9 i (Value.string ⟨#[]⟩) Tryz.underlying42 hi hz0 .i64 .i64 n n (by omega) (by omega) (by rw [hz2]; omega) (by omega)
  simp only [Int.toNat_natCast, hz1, Nat.mul_one] at hr
  have e : madeCells ((Value.string ⟨#[]⟩)).cells n = (List.replicate n (Value.string ⟨#[]⟩)).toArray := by
    rw [show ((Value.string ⟨#[]⟩)).cells = #[(Value.string ⟨#[]⟩)] from rfl]
    apply Array.toList_inj.1
    rw [toList_madeCells_one]
  rw [hr, e]
theorem roomS (w : World) (A : Option Addr) (c : Nat) (l : List ByteArray) (hr : Rd w 1 A l.length (l.map sv)) (hl : l.length <= 1000000000000) :
    Calls Tryz.prog 19 #[.slice A l.length c, (Value.string ⟨#[109, 97, 114, 107]⟩)] w fun e w' => ∃ g, e = .returned (.slice (some ⟨g, 0, none⟩) (l.length + 80) (l.length + 80)) /\ w.heap.size <= g /\ Blk w' g 9 (kU (l.map sv) (Value.string ⟨#[109, 97, 114, 107]⟩)).toArray /\ Old w w' := by
  have eR : (List.replicate (l.length + 80) (Value.string ⟨#[]⟩)).toArray = Array.replicate (l.length + 80) (Value.string ⟨#[]⟩) := List.toArray_replicate ..
  have hmk0 := Tryz.makeS (l.length + 80) (by omega)
  have hmk : ∀ W : World, (Instr.makeSlice 42 (.int .i64 ((l.length : Int) + 80)) (.int .i64 ((l.length : Int) + 80))).run Tryz.prog W = .ok (.slice (some ⟨W.heap.size, 0, none⟩) (l.length + 80) (l.length + 80)) (W.alloc (.cells (Array.replicate (l.length + 80) (Value.string ⟨#[]⟩)) 9)) := by
    intro W
    have h := hmk0 W
    rw [show ((l.length + 80 : Nat) : Int) = (l.length : Int) + 80 by simp, eR] at h
    exact h
  clear hmk0
  have e80 : IntKind.i64.wrap ((l.length : Int) + 80) = (l.length : Int) + 80 := IntWalk.i64_in _ (by omega)
  have Hl := jJ0 hl
  have hlm : (l.map sv).length = l.length := List.length_map ..
  have Hr := jJ0 (hr.alloc (.cells (Array.replicate (l.length + 80) (Value.string ⟨#[]⟩)) 9))
  have Hb := jJ0 (show Blk (w.alloc (.cells (Array.replicate (l.length + 80) (Value.string ⟨#[]⟩)) 9)) w.heap.size 9 (List.replicate (l.length + 80) (Value.string ⟨#[]⟩)).toArray by rw [eR]; exact Blk.new w _ _)
  have Hs := jJ0 (show Blk ((w.alloc (.cells (Array.replicate (l.length + 80) (Value.string ⟨#[]⟩)) 9)).setCells w.heap.size 0 (l.map sv)) w.heap.size 9 (fillV (kU (l.map sv) (Value.string ⟨#[109, 97, 114, 107]⟩)) (l.length + 80) l.length (Value.string ⟨#[]⟩)).toArray by
    have h1 : Blk (w.alloc (.cells (Array.replicate (l.length + 80) (Value.string ⟨#[]⟩)) 9)) w.heap.size 9 (([] : List Value) ++ (List.replicate l.length (Value.string ⟨#[]⟩) ++ List.replicate 80 (Value.string ⟨#[]⟩))).toArray := by
      rw [List.nil_append, List.replicate_append_replicate]
      exact Hb.out
    have h2 := Blk.setCells h1 (l.map sv) (by simp)
    have h3 : fillV (kU (l.map sv) (Value.string ⟨#[109, 97, 114, 107]⟩)) (l.length + 80) l.length (Value.string ⟨#[]⟩) = ([] : List Value) ++ (l.map sv ++ List.replicate 80 (Value.string ⟨#[]⟩)) := by
      simp [fillV, kU, hlm]
    rw [h3]
    exact h2)
  have Ho := jJ0 (show Old w ((w.alloc (.cells (Array.replicate (l.length + 80) (Value.string ⟨#[]⟩)) 9)).setCells w.heap.size 0 (l.map sv)) from ((Kp.refl NoX w).alloc _).trans (Kp.setCells _ _ _ _) (fun b hb e => by omega))
  have Hg := jJ0 (fun k (h1 : l.length <= k) (h2 : k < (kU (l.map sv) (Value.string ⟨#[109, 97, 114, 107]⟩)).length) => vP (l.map sv) (Value.string ⟨#[109, 97, 114, 107]⟩) k (by rw [hlm]; exact h1) h2)
  have Hn := jJ0 (show (kU (l.map sv) (Value.string ⟨#[109, 97, 114, 107]⟩)).length = l.length + 80 by rw [roomV_len, hlm])
  have H1 := jJ0 (one_texts l)
  have Hlm := jJ0 hlm
  clear hr hl hlm
  generalize l.map sv = vs at *
  go_enter Tryz.func19, Tryz.ntmps19
  go_wp2_with (first | refine Tryz.copy_vals 42 9 Tryz.underlying42 Tryz.sizeS (.tmp 11) (.tmp 12) (dl := l.length + 80) (dc := l.length + 80) (c := c) Hb.out List.length_replicate Hr.out Hlm.out H1.out (Nat.le_add_right _ _) rfl rfl rfl rfl ?_ | fail)
  generalize (w.alloc _).setCells _ _ _ = W at *
  go_loopw [6] (fun i wr => ∃ k : Nat, l.length <= k /\ k <= l.length + 80 /\ i = .int .i64 k /\ Blk wr w.heap.size 9 (fillV (kU vs (Value.string ⟨#[109, 97, 114, 107]⟩)) (l.length + 80) k (Value.string ⟨#[]⟩)).toArray /\ Old w wr) (fun i _ => l.length + 80 - (intOf i).toNat)
  case atStart => exact ⟨l.length, Nat.le_refl _, Nat.le_add_right _ _, rfl, Hs.out, Ho.out⟩
  case round =>
    obtain ⟨k, hk1, hk2, rfl, hb, ho⟩ := hrel
    have HB := jJ0 hb
    have HO := jJ0 ho
    clear hb ho
    by_cases hlt : k < l.length + 80
    · have hc := HB.out.at_ k (v := (Value.string ⟨#[]⟩)) (by rw [List.getElem?_toArray]; exact fillV_get _ _ k _ hlt (by rw [Hn.out]; omega))
      have hz := HB.out.frozen k
      have b1 : (0 : Int) <= (k : Int) := by omega
      have b2 : (k : Int) < (l.length : Int) + 80 := by omega
      have b3 : (k : Int).toNat = k := by omega
      have b4 : (k : Int) <= 1000000000100 := by have := Hl.out; omega
      go_wp2
      go_roundw
      case rel =>
        refine ⟨k + 1, by omega, by omega, by go_num, ?_, HO.out.setCell (p := ⟨w.heap.size, k, none⟩) (fun h => absurd h (Nat.lt_irrefl _)) _⟩
        have h1 := HB.out.set_ k (Value.string ⟨#[109, 97, 114, 107]⟩)
        rw [List.setIfInBounds_toArray] at h1
        have h2 := fillV_set (kU vs (Value.string ⟨#[109, 97, 114, 107]⟩)) (l.length + 80) k (Value.string ⟨#[]⟩) hlt (by rw [Hn.out]; exact hlt)
        rw [Hg.out k hk1] at h2
        rw [<- h2]
        exact h1
      case measure => simp [intOf]; omega
    · obtain rfl : k = l.length + 80 := by omega
      go_wp2
      go_ret
      refine ⟨_, rfl, Nat.le_refl _, ?_, HO.out⟩
      have h2 := fillV_full (kU vs (Value.string ⟨#[109, 97, 114, 107]⟩)) (Value.string ⟨#[]⟩)
      rw [Hn.out] at h2
      rw [<- h2]
      exact HB.out
theorem Tryz.sizeB : (Tryz.prog.info? 5).map (·.size) = some 1 := by kernel_rfl
theorem Tryz.makeB (n : Nat) (hn : n <= 10000000000000) (W : World) :
    (Instr.makeSlice 33 (.int .i64 (n : Int)) (.int .i64 (n : Int))).run Tryz.prog W = .ok (.slice (some ⟨W.heap.size, 0, none⟩) n n) (W.alloc (.cells (List.replicate n (Value.int .u8 0)).toArray 5)) := by
  obtain ⟨i, hi, hz0, hz1, hz2⟩ := info_parts Tryz.infoB
  have hr := run_make (P := Tryz.prog) W 33 5 i (Value.int .u8 0) Tryz.underlying33 hi hz0 .i64 .i64 n n (by omega) (by omega) (by rw [hz2]; omega) (by omega)
  simp only [Int.toNat_natCast, hz1, Nat.mul_one] at hr
  have e : madeCells ((Value.int .u8 0)).cells n = (List.replicate n (Value.int .u8 0)).toArray := by
    rw [show ((Value.int .u8 0)).cells = #[(Value.int .u8 0)] from rfl]
    apply Array.toList_inj.1
    rw [toList_madeCells_one]
  rw [hr, e]
theorem roomB (w : World) (A : Option Addr) (c : Nat) (l : List UInt8) (hr : Rd w 1 A l.length (l.map bv)) (hl : l.length <= 1000000000000) :
    Calls Tryz.prog 41 #[.slice A l.length c, (Value.int .u8 219)] w fun e w' => ∃ g, e = .returned (.slice (some ⟨g, 0, none⟩) (l.length + 80) (l.length + 80)) /\ w.heap.size <= g /\ Blk w' g 5 (kU (l.map bv) (Value.int .u8 219)).toArray /\ Old w w' := by
  have eR : (List.replicate (l.length + 80) (Value.int .u8 0)).toArray = Array.replicate (l.length + 80) (Value.int .u8 0) := List.toArray_replicate ..
  have hmk0 := Tryz.makeB (l.length + 80) (by omega)
  have hmk : ∀ W : World, (Instr.makeSlice 33 (.int .i64 ((l.length : Int) + 80)) (.int .i64 ((l.length : Int) + 80))).run Tryz.prog W = .ok (.slice (some ⟨W.heap.size, 0, none⟩) (l.length + 80) (l.length + 80)) (W.alloc (.cells (Array.replicate (l.length + 80) (Value.int .u8 0)) 5)) := by
    intro W
    have h := hmk0 W
    rw [show ((l.length + 80 : Nat) : Int) = (l.length : Int) + 80 by simp, eR] at h
    exact h
  clear hmk0
  have e80 : IntKind.i64.wrap ((l.length : Int) + 80) = (l.length : Int) + 80 := IntWalk.i64_in _ (by omega)
  have Hl := jJ0 hl
  have hlm : (l.map bv).length = l.length := List.length_map ..
  have Hr := jJ0 (hr.alloc (.cells (Array.replicate (l.length + 80) (Value.int .u8 0)) 5))
  have Hb := jJ0 (show Blk (w.alloc (.cells (Array.replicate (l.length + 80) (Value.int .u8 0)) 5)) w.heap.size 5 (List.replicate (l.length + 80) (Value.int .u8 0)).toArray by rw [eR]; exact Blk.new w _ _)
  have Hs := jJ0 (show Blk ((w.alloc (.cells (Array.replicate (l.length + 80) (Value.int .u8 0)) 5)).setCells w.heap.size 0 (l.map bv)) w.heap.size 5 (fillV (kU (l.map bv) (Value.int .u8 219)) (l.length + 80) l.length (Value.int .u8 0)).toArray by
    have h1 : Blk (w.alloc (.cells (Array.replicate (l.length + 80) (Value.int .u8 0)) 5)) w.heap.size 5 (([] : List Value) ++ (List.replicate l.length (Value.int .u8 0) ++ List.replicate 80 (Value.int .u8 0))).toArray := by
      rw [List.nil_append, List.replicate_append_replicate]
      exact Hb.out
    have h2 := Blk.setCells h1 (l.map bv) (by simp)
    have h3 : fillV (kU (l.map bv) (Value.int .u8 219)) (l.length + 80) l.length (Value.int .u8 0) = ([] : List Value) ++ (l.map bv ++ List.replicate 80 (Value.int .u8 0)) := by
      simp [fillV, kU, hlm]
    rw [h3]
    exact h2)
  have Ho := jJ0 (show Old w ((w.alloc (.cells (Array.replicate (l.length + 80) (Value.int .u8 0)) 5)).setCells w.heap.size 0 (l.map bv)) from ((Kp.refl NoX w).alloc _).trans (Kp.setCells _ _ _ _) (fun b hb e => by omega))
  have Hg := jJ0 (fun k (h1 : l.length <= k) (h2 : k < (kU (l.map bv) (Value.int .u8 219)).length) => vP (l.map bv) (Value.int .u8 219) k (by rw [hlm]; exact h1) h2)
  have Hn := jJ0 (show (kU (l.map bv) (Value.int .u8 219)).length = l.length + 80 by rw [roomV_len, hlm])
  have H1 := jJ0 (vQ l)
  have Hlm := jJ0 hlm
  clear hr hl hlm
  generalize l.map bv = vs at *
  go_enter Tryz.func41, Tryz.ntmps41
  go_wp2_with (first | refine Tryz.copy_vals 33 5 Tryz.underlying33 Tryz.sizeB (.tmp 11) (.tmp 12) (dl := l.length + 80) (dc := l.length + 80) (c := c) Hb.out List.length_replicate Hr.out Hlm.out H1.out (Nat.le_add_right _ _) rfl rfl rfl rfl ?_ | fail)
  generalize (w.alloc _).setCells _ _ _ = W at *
  go_loopw [6] (fun i wr => ∃ k : Nat, l.length <= k /\ k <= l.length + 80 /\ i = .int .i64 k /\ Blk wr w.heap.size 5 (fillV (kU vs (Value.int .u8 219)) (l.length + 80) k (Value.int .u8 0)).toArray /\ Old w wr) (fun i _ => l.length + 80 - (intOf i).toNat)
  case atStart => exact ⟨l.length, Nat.le_refl _, Nat.le_add_right _ _, rfl, Hs.out, Ho.out⟩
  case round =>
    obtain ⟨k, hk1, hk2, rfl, hb, ho⟩ := hrel
    have HB := jJ0 hb
    have HO := jJ0 ho
    clear hb ho
    by_cases hlt : k < l.length + 80
    · have hc := HB.out.at_ k (v := (Value.int .u8 0)) (by rw [List.getElem?_toArray]; exact fillV_get _ _ k _ hlt (by rw [Hn.out]; omega))
      have hz := HB.out.frozen k
      have b1 : (0 : Int) <= (k : Int) := by omega
      have b2 : (k : Int) < (l.length : Int) + 80 := by omega
      have b3 : (k : Int).toNat = k := by omega
      have b4 : (k : Int) <= 1000000000100 := by have := Hl.out; omega
      go_wp2
      go_roundw
      case rel =>
        refine ⟨k + 1, by omega, by omega, by go_num, ?_, HO.out.setCell (p := ⟨w.heap.size, k, none⟩) (fun h => absurd h (Nat.lt_irrefl _)) _⟩
        have h1 := HB.out.set_ k (Value.int .u8 219)
        rw [List.setIfInBounds_toArray] at h1
        have h2 := fillV_set (kU vs (Value.int .u8 219)) (l.length + 80) k (Value.int .u8 0) hlt (by rw [Hn.out]; exact hlt)
        rw [Hg.out k hk1] at h2
        rw [<- h2]
        exact h1
      case measure => simp [intOf]; omega
    · obtain rfl : k = l.length + 80 := by omega
      go_wp2
      go_ret
      refine ⟨_, rfl, Nat.le_refl _, ?_, HO.out⟩
      have h2 := fillV_full (kU vs (Value.int .u8 219)) (Value.int .u8 0)
      rw [Hn.out] at h2
      rw [<- h2]
      exact HB.out
theorem Tryz.elemI : Tryz.prog.underlying 27 = some (.slice (Tryz.prog.elem 27)) := by kernel_rfl
theorem Tryz.sizeEI (w : World) : (sizeOf (Tryz.prog.elem 27)).run Tryz.prog w = .ok 1 w := by kernel_rfl
theorem sameI (w : World) (A B : Option Addr) (c d : Nat) (l : List Int) (hx : Rd w 1 A l.length (l.map iv)) (hy : Rd w 1 B l.length (l.map iv)) (hl : l.length <= 9223372036854775807) :
    Calls Tryz.prog 74 #[.slice A l.length c, .slice B l.length d] w fun e w' => e = .returned (.bool true) /\ Old w w' := by
  have h1 : ((l.length : Int) != (l.length : Int)) = false := bne_eq_false_iff_eq.2 rfl
  go_enter Tryz.func74, Tryz.ntmps74
  go_wp2
  go_loopw [5] (fun i wr => ∃ k : Nat, k <= l.length /\ i = .int .i64 k /\ Old w wr) (fun i _ => l.length - (intOf i).toNat)
  case atStart => exact ⟨0, by omega, rfl, Kp.refl _ _⟩
  case round =>
    obtain ⟨k, hk, rfl, hold⟩ := hrel
    by_cases hlt : k < l.length
    · obtain ⟨b1, o1, u1, rfl, hu1, hc1⟩ := (hx.old hold).at_ hlt
      obtain ⟨b2, o2, u2, rfl, hu2, hc2⟩ := (hy.old hold).at_ hlt
      rw [List.getElem?_map, List.getElem?_eq_getElem hlt] at hu1 hu2
      simp only [Option.map_some, Option.some.injEq, iv] at hu1 hu2
      subst hu1 hu2
      have b5 : (k : Int) <= 9223372036854775806 := by omega
      have b6 : (0 : Int) <= (k : Int) := by omega
      have b7 : (k : Int) < (l.length : Int) := by omega
      have b8 : (k : Int).toNat = k := by omega
      have Ho := jJ0 hold
      clear hold
      generalize l[k] = q at *
      have hq : ((q:Int)!=q)=false := by simp
      go_wp2
      go_quiet (fail)
      go_wp2
      go_roundw
      case rel => exact ⟨k + 1, by omega, by go_num, Ho.out.drewN _⟩
      case measure => simp [intOf]; omega
    · obtain rfl : k = l.length := by omega
      have Ho := jJ0 hold
      clear hold
      go_wp2
      go_ret
      exact ⟨rfl, Ho.out⟩
theorem intactI (w : World) (g : Nat) (B : Option Addr) (d : Nat) (l : List Int) (hb : Blk w g 3 (kU (l.map iv) (Value.int .i64 (-77))).toArray) (hr : Rd w 1 B l.length (l.map iv)) (hl : l.length <= 1000000000000) :
    Calls Tryz.prog 24 #[.slice (some ⟨g, 0, none⟩) (l.length + 80) (l.length + 80), .slice B l.length d, (Value.int .i64 (-77))] w fun e w' => e = .returned (.bool true) /\ Old w w' := by
  have hpre := roomV_rd hb
  rw [List.length_map] at hpre
  have HS := jJ0 (sameI w (some ⟨g, 0, none⟩) B (l.length + 80) d l hpre hr (by omega))
  have hsl := fun W => cut_h (P := Tryz.prog) Tryz.elemI Tryz.sizeEI (some ⟨g, 0, none⟩) (l.length + 80) (l.length + 80) l.length .i64 (l.length : Int) rfl (by omega) W
  have e80 : IntKind.i64.wrap ((l.length : Int) + 80) = (l.length : Int) + 80 := IntWalk.i64_in _ (by omega)
  have Hl := jJ0 hl
  have Hb := jJ0 hb
  have Hlm := jJ0 (show (l.map iv).length = l.length from List.length_map ..)
  clear hb hr hl hpre
  go_enter Tryz.func24, Tryz.ntmps24
  go_wp2_with fail
  refine HS.out.mono ?_
  rintro e w1 ⟨rfl, ho1⟩
  have Ho1 := jJ0 ho1
  clear ho1 HS hsl
  go_wp2_with fail
  go_loopw [7] (fun i wr => ∃ k : Nat, l.length <= k /\ k <= l.length + 80 /\ i = .int .i64 k /\ wr = w1) (fun i _ => l.length + 80 - (intOf i).toNat)
  case atStart => exact ⟨l.length, Nat.le_refl _, Nat.le_add_right _ _, rfl, rfl⟩
  case round =>
    obtain ⟨k, hk1, hk2, rfl, rfl⟩ := hrel
    by_cases hlt : k < l.length + 80
    · have hc : wr.cell? ⟨g, k, none⟩ = some (Value.int .i64 (-77)) := by
        rw [(Hb.out.old Ho1.out).cell, List.getElem?_toArray, vP? _ _ k (by rw [Hlm.out]; exact hk1) (by rw [Hlm.out]; exact hlt)]
      have b1 : (0 : Int) <= (k : Int) := by omega
      have b2 : (k : Int) < (l.length : Int) + 80 := by omega
      have b3 : (k : Int).toNat = k := by omega
      have b4 : (k : Int) <= 1000000000100 := by have := Hl.out; omega
      go_wp2
      go_roundw
      case rel => exact ⟨k + 1, by omega, by omega, by go_num, by trivial⟩
      case measure => simp [intOf]; omega
    · obtain rfl : k = l.length + 80 := by omega
      go_wp2
      go_ret
      exact ⟨rfl, Ho1.out⟩
theorem Tryz.elemS : Tryz.prog.underlying 42 = some (.slice (Tryz.prog.elem 42)) := by kernel_rfl
theorem Tryz.sizeES (w : World) : (sizeOf (Tryz.prog.elem 42)).run Tryz.prog w = .ok 1 w := by kernel_rfl
theorem sameS (w : World) (A B : Option Addr) (c d : Nat) (l : List ByteArray) (hx : Rd w 1 A l.length (l.map sv)) (hy : Rd w 1 B l.length (l.map sv)) (hl : l.length <= 9223372036854775807) :
    Calls Tryz.prog 75 #[.slice A l.length c, .slice B l.length d] w fun e w' => e = .returned (.bool true) /\ Old w w' := by
  have h1 : ((l.length : Int) != (l.length : Int)) = false := bne_eq_false_iff_eq.2 rfl
  go_enter Tryz.func75, Tryz.ntmps75
  go_wp2
  go_loopw [5] (fun i wr => ∃ k : Nat, k <= l.length /\ i = .int .i64 k /\ Old w wr) (fun i _ => l.length - (intOf i).toNat)
  case atStart => exact ⟨0, by omega, rfl, Kp.refl _ _⟩
  case round =>
    obtain ⟨k, hk, rfl, hold⟩ := hrel
    by_cases hlt : k < l.length
    · obtain ⟨b1, o1, u1, rfl, hu1, hc1⟩ := (hx.old hold).at_ hlt
      obtain ⟨b2, o2, u2, rfl, hu2, hc2⟩ := (hy.old hold).at_ hlt
      rw [List.getElem?_map, List.getElem?_eq_getElem hlt] at hu1 hu2
      simp only [Option.map_some, Option.some.injEq, sv] at hu1 hu2
      subst hu1 hu2
      have b5 : (k : Int) <= 9223372036854775806 := by omega
      have b6 : (0 : Int) <= (k : Int) := by omega
      have b7 : (k : Int) < (l.length : Int) := by omega
      have b8 : (k : Int).toNat = k := by omega
      have Ho := jJ0 hold
      clear hold
      generalize l[k] = q at *
      have hq : (q.toList==q.toList)=true := by simp
      go_wp2
      go_quiet (fail)
      go_wp2
      go_roundw
      case rel => exact ⟨k + 1, by omega, by go_num, Ho.out.drewN _⟩
      case measure => simp [intOf]; omega
    · obtain rfl : k = l.length := by omega
      have Ho := jJ0 hold
      clear hold
      go_wp2
      go_ret
      exact ⟨rfl, Ho.out⟩
theorem intactS (w : World) (g : Nat) (B : Option Addr) (d : Nat) (l : List ByteArray) (hb : Blk w g 9 (kU (l.map sv) (Value.string ⟨#[109, 97, 114, 107]⟩)).toArray) (hr : Rd w 1 B l.length (l.map sv)) (hl : l.length <= 1000000000000) :
    Calls Tryz.prog 25 #[.slice (some ⟨g, 0, none⟩) (l.length + 80) (l.length + 80), .slice B l.length d, (Value.string ⟨#[109, 97, 114, 107]⟩)] w fun e w' => e = .returned (.bool true) /\ Old w w' := by
  have hpre := roomV_rd hb
  rw [List.length_map] at hpre
  have HS := jJ0 (sameS w (some ⟨g, 0, none⟩) B (l.length + 80) d l hpre hr (by omega))
  have hsl := fun W => cut_h (P := Tryz.prog) Tryz.elemS Tryz.sizeES (some ⟨g, 0, none⟩) (l.length + 80) (l.length + 80) l.length .i64 (l.length : Int) rfl (by omega) W
  have e80 : IntKind.i64.wrap ((l.length : Int) + 80) = (l.length : Int) + 80 := IntWalk.i64_in _ (by omega)
  have Hl := jJ0 hl
  have Hb := jJ0 hb
  have Hlm := jJ0 (show (l.map sv).length = l.length from List.length_map ..)
  clear hb hr hl hpre
  go_enter Tryz.func25, Tryz.ntmps25
  go_wp2_with fail
  refine HS.out.mono ?_
  rintro e w1 ⟨rfl, ho1⟩
  have Ho1 := jJ0 ho1
  clear ho1 HS hsl
  go_wp2_with fail
  go_loopw [7] (fun i wr => ∃ k : Nat, l.length <= k /\ k <= l.length + 80 /\ i = .int .i64 k /\ wr = w1) (fun i _ => l.length + 80 - (intOf i).toNat)
  case atStart => exact ⟨l.length, Nat.le_refl _, Nat.le_add_right _ _, rfl, rfl⟩
  case round =>
    obtain ⟨k, hk1, hk2, rfl, rfl⟩ := hrel
    by_cases hlt : k < l.length + 80
    · have hc : wr.cell? ⟨g, k, none⟩ = some (Value.string ⟨#[109, 97, 114, 107]⟩) := by
        rw [(Hb.out.old Ho1.out).cell, List.getElem?_toArray, vP? _ _ k (by rw [Hlm.out]; exact hk1) (by rw [Hlm.out]; exact hlt)]
      have b1 : (0 : Int) <= (k : Int) := by omega
      have b2 : (k : Int) < (l.length : Int) + 80 := by omega
      have b3 : (k : Int).toNat = k := by omega
      have b4 : (k : Int) <= 1000000000100 := by have := Hl.out; omega
      go_wp2
      go_roundw
      case rel => exact ⟨k + 1, by omega, by omega, by go_num, by trivial⟩
      case measure => simp [intOf]; omega
    · obtain rfl : k = l.length + 80 := by omega
      go_wp2
      go_ret
      exact ⟨rfl, Ho1.out⟩
theorem Tryz.elemB : Tryz.prog.underlying 33 = some (.slice (Tryz.prog.elem 33)) := by kernel_rfl
theorem Tryz.sizeEB (w : World) : (sizeOf (Tryz.prog.elem 33)).run Tryz.prog w = .ok 1 w := by kernel_rfl
theorem sameB (w : World) (A B : Option Addr) (c d : Nat) (l : List UInt8) (hx : Rd w 1 A l.length (l.map bv)) (hy : Rd w 1 B l.length (l.map bv)) (hl : l.length <= 9223372036854775807) :
    Calls Tryz.prog 61 #[.slice A l.length c, .slice B l.length d] w fun e w' => e = .returned (.bool true) /\ Old w w' := by
  have h1 : ((l.length : Int) != (l.length : Int)) = false := bne_eq_false_iff_eq.2 rfl
  go_enter Tryz.func61, Tryz.ntmps61
  go_wp2
  go_loopw [5] (fun i wr => ∃ k : Nat, k <= l.length /\ i = .int .i64 k /\ Old w wr) (fun i _ => l.length - (intOf i).toNat)
  case atStart => exact ⟨0, by omega, rfl, Kp.refl _ _⟩
  case round =>
    obtain ⟨k, hk, rfl, hold⟩ := hrel
    by_cases hlt : k < l.length
    · obtain ⟨b1, o1, u1, rfl, hu1, hc1⟩ := (hx.old hold).at_ hlt
      obtain ⟨b2, o2, u2, rfl, hu2, hc2⟩ := (hy.old hold).at_ hlt
      rw [List.getElem?_map, List.getElem?_eq_getElem hlt] at hu1 hu2
      simp only [Option.map_some, Option.some.injEq, bv] at hu1 hu2
      subst hu1 hu2
      have b5 : (k : Int) <= 9223372036854775806 := by omega
      have b6 : (0 : Int) <= (k : Int) := by omega
      have b7 : (k : Int) < (l.length : Int) := by omega
      have b8 : (k : Int).toNat = k := by omega
      have Ho := jJ0 hold
      clear hold
      generalize l[k] = q at *
      have hq : ((q.toNat:Int)!=(q.toNat:Int))=false := by simp
      go_wp2
      go_quiet (fail)
      go_wp2
      go_roundw
      case rel => exact ⟨k + 1, by omega, by go_num, Ho.out.drewN _⟩
      case measure => simp [intOf]; omega
    · obtain rfl : k = l.length := by omega
      have Ho := jJ0 hold
      clear hold
      go_wp2
      go_ret
      exact ⟨rfl, Ho.out⟩
theorem intactB (w : World) (g : Nat) (B : Option Addr) (d : Nat) (l : List UInt8) (hb : Blk w g 5 (kU (l.map bv) (Value.int .u8 219)).toArray) (hr : Rd w 1 B l.length (l.map bv)) (hl : l.length <= 1000000000000) :
    Calls Tryz.prog 112 #[.slice (some ⟨g, 0, none⟩) (l.length + 80) (l.length + 80), .slice B l.length d, (Value.int .u8 219)] w fun e w' => e = .returned (.bool true) /\ Old w w' := by
  have hpre := roomV_rd hb
  rw [List.length_map] at hpre
  have HS := jJ0 (sameB w (some ⟨g, 0, none⟩) B (l.length + 80) d l hpre hr (by omega))
  have hsl := fun W => cut_h (P := Tryz.prog) Tryz.elemB Tryz.sizeEB (some ⟨g, 0, none⟩) (l.length + 80) (l.length + 80) l.length .i64 (l.length : Int) rfl (by omega) W
  have e80 : IntKind.i64.wrap ((l.length : Int) + 80) = (l.length : Int) + 80 := IntWalk.i64_in _ (by omega)
  have Hl := jJ0 hl
  have Hb := jJ0 hb
  have Hlm := jJ0 (show (l.map bv).length = l.length from List.length_map ..)
  clear hb hr hl hpre
  go_enter Tryz.func112, Tryz.ntmps112
  go_wp2_with fail
  refine HS.out.mono ?_
  rintro e w1 ⟨rfl, ho1⟩
  have Ho1 := jJ0 ho1
  clear ho1 HS hsl
  go_wp2_with fail
  go_loopw [7] (fun i wr => ∃ k : Nat, l.length <= k /\ k <= l.length + 80 /\ i = .int .i64 k /\ wr = w1) (fun i _ => l.length + 80 - (intOf i).toNat)
  case atStart => exact ⟨l.length, Nat.le_refl _, Nat.le_add_right _ _, rfl, rfl⟩
  case round =>
    obtain ⟨k, hk1, hk2, rfl, rfl⟩ := hrel
    by_cases hlt : k < l.length + 80
    · have hc : wr.cell? ⟨g, k, none⟩ = some (Value.int .u8 219) := by
        rw [(Hb.out.old Ho1.out).cell, List.getElem?_toArray, vP? _ _ k (by rw [Hlm.out]; exact hk1) (by rw [Hlm.out]; exact hlt)]
      have b1 : (0 : Int) <= (k : Int) := by omega
      have b2 : (k : Int) < (l.length : Int) + 80 := by omega
      have b3 : (k : Int).toNat = k := by omega
      have b4 : (k : Int) <= 1000000000100 := by have := Hl.out; omega
      go_wp2
      go_roundw
      case rel => exact ⟨k + 1, by omega, by omega, by go_num, by trivial⟩
      case measure => simp [intOf]; omega
    · obtain rfl : k = l.length + 80 := by omega
      go_wp2
      go_ret
      exact ⟨rfl, Ho1.out⟩
end Go.Proofs.YtmmjcbbogokmfaaGreatDoor
