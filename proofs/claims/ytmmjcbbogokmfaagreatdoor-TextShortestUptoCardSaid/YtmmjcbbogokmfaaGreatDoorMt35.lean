import Derived.Test.YtmmjcbbogokmfaaGreatDoorMt01
import Derived.Test.YtmmjcbbogokmfaaGreatDoorMt27
import Derived.Test.YtmmjcbbogokmfaaGreatDoorMt34
import Derived.Laws.MakeOwn
import Derived.Laws.OwnMore
import Derived.BigQuiet
set_option maxRecDepth 100000
set_option maxHeartbeats 25600000
namespace Go.Proofs.YtmmjcbbogokmfaaGreatDoor
open Go.RowKit
theorem layAll_snoc (fam : Int) (o : Int) : ∀ (l : List Int) (i : Nat) (s : LayP), kI fam (l ++ [o]) i s = layN fam (i + l.length) o (kI fam l i s)
  | [], i, s => rfl
  | x :: l, i, s => by
    rw [List.cons_append, kI, layAll_snoc fam o l (i + 1) _, kI, List.length_cons]
    congr 1
    omega
theorem layAll_take (fam : Int) (l : List Int) (k : Nat) (hk : k < l.length) (s : LayP) : kI fam (l.take (k + 1)) 0 s = layN fam k l[k] (kI fam (l.take k) 0 s) := by
  rw [List.take_succ_eq_append_getElem hk, layAll_snoc, Nat.zero_add, List.length_take, Nat.min_eq_left (Nat.le_of_lt hk)]
theorem lp_zero : ∀ n, (List.replicate n ((0 : Int), (0 : Int))).flatMap lpC = List.replicate (n * 2) (iv 0)
  | 0 => rfl
  | n + 1 => by
    rw [List.replicate_succ, List.flatMap_cons, lp_zero n, show (n + 1) * 2 = n * 2 + 1 + 1 by omega, List.replicate_succ, List.replicate_succ]
    rfl
theorem made_two (n : Nat) : madeCells #[Value.int .i64 0, Value.int .i64 0] (n * 2) = ((List.replicate n ((0 : Int), (0 : Int))).flatMap lpC).toArray := by
  rw [lp_zero]
  unfold madeCells
  apply Array.ext
  · simp
  · intro i h1 h2
    simp only [Array.getElem_map, Array.getElem_range]
    have h3 : i % 2 < 2 := Nat.mod_lt _ (by decide)
    have h4 : i % (#[Value.int .i64 0, Value.int .i64 0] : Array Value).size = 0 \/ i % (#[Value.int .i64 0, Value.int .i64 0] : Array Value).size = 1 := by show i % 2 = 0 \/ i % 2 = 1; omega
    rcases h4 with e | e <;> rw [e] <;> simp [iv]
theorem Tryz.info2 : (Tryz.prog.info? 134).map (fun i => (i.zero, i.size, i.bytes)) = some (some (.agg #[.int .i64 0, .int .i64 0]), 2, 16) := by kernel_rfl
theorem make_lay (n : Nat) (hn : n <= 4000000) (W : World) :
    (Instr.makeSlice 130 (.int .i64 (n : Int)) (.int .i64 (n : Int))).run Tryz.prog W = .ok (.slice (some ⟨W.heap.size, 0, none⟩) n n) (W.alloc (.cells ((List.replicate n ((0 : Int), (0 : Int))).flatMap lpC).toArray 134)) := by
  obtain ⟨i, hi, hz0, hz1, hz2⟩ := info_parts Tryz.info2
  have hr := run_make (P := Tryz.prog) W 130 134 i (.agg #[.int .i64 0, .int .i64 0]) Tryz.underlying130 hi hz0 .i64 .i64 n n (by omega) (by omega) (by rw [hz2]; omega) (by omega)
  simp only [Int.toNat_natCast, hz1] at hr
  rw [hr, show (Value.agg #[Value.int .i64 0, Value.int .i64 0]).cells = #[Value.int .i64 0, Value.int .i64 0] from rfl, made_two]
structure LdS (w : World) (t : Tre) (s : Sl) (lp : LayP) (W : World) : Prop where
  box : Blk W w.heap.size 29 (jl t s).toArray
  ly : LyS (w.heap.size + 1) (w.heap.size + 1 + 1) (w.heap.size + 1 + 1 + 1) (w.heap.size + 1 + 1 + 1 + 1) lp W
  inv : LyI lp
  kp : Kp (fromB w.heap.size) w W
section
variable {w W W1 : World} {t : Tre} {s : Sl} {lp : LayP}
theorem LdS.old (h : LdS w t s lp W) (ho : Old W W1) : LdS w t s lp W1 := ⟨h.box.old ho, h.ly.old ho, h.inv, h.kp.old ho⟩
theorem LdS.lay {W2 : World} {fam order : Int} {i : Nat} {e : Ending} (h : LdS w t s lp W) (ho : Old W W1) (hf : 0 <= fam /\ fam <= 4) (hi : i <= 1000000) (hr : LyR (w.heap.size + 1) (w.heap.size + 1 + 1) (w.heap.size + 1 + 1 + 1) (w.heap.size + 1 + 1 + 1 + 1) (layN fam i order lp) W1 e W2) : LdS w t s (layN fam i order lp) W2 :=
  ⟨(h.box.old ho).kp hr.2.2 (fun e => by unfold LyX at e; omega), hr.2.1, h.inv.next fam i order hf hi, (h.kp.old ho).trans hr.2.2 (fun b _ e => by
    show w.heap.size <= b
    unfold LyX at e
    omega)⟩
theorem LdS.cellw (h : LdS w t s lp W) {p : Addr} {u : Value} (hc : w.cell? p = some u) : W.cell? p = some u := by
  have hb := jk hc
  rw [World.cell?_of_block (h.kp.block p.block hb (fun e : w.heap.size <= p.block => by omega))]
  exact hc
theorem ld_begin (w : World) (t : Tre) (s : Sl) (n : Nat) (hn : n <= 4000000) : LdS w t s ⟨List.replicate n (0, 0), -1, true⟩ (((((w.alloc (.cells (jl t s).toArray 29)).alloc (.cells ((List.replicate n ((0 : Int), (0 : Int))).flatMap lpC).toArray 134)).alloc (.cells #[.slice (some ⟨w.heap.size + 1, 0, none⟩) n n] 130)).alloc (.cells #[.int .i64 (-1)] 3)).alloc (.cells #[.bool true] 4)) := by
  have e1 : ∀ o, (w.alloc o).heap.size = w.heap.size + 1 := fun o => by simp
  have e2 : ∀ o p, ((w.alloc o).alloc p).heap.size = w.heap.size + 1 + 1 := fun o p => by simp
  have e3 : ∀ o p q, (((w.alloc o).alloc p).alloc q).heap.size = w.heap.size + 1 + 1 + 1 := fun o p q => by simp
  have e4 : ∀ o p q r, ((((w.alloc o).alloc p).alloc q).alloc r).heap.size = w.heap.size + 1 + 1 + 1 + 1 := fun o p q r => by simp
  refine ⟨((((Blk.new w _ _).alloc _).alloc _).alloc _).alloc _, ⟨?_, ?_, ?_, ?_⟩, ⟨(by decide : (-1 : Int) <= -1), by show (List.replicate n _).length <= _; rw [List.length_replicate]; exact hn, fun p hp => ?_⟩, (((((Kp.refl NoX w).alloc _).alloc _).alloc _).alloc _).alloc _ |>.mono (fun _ _ e => e.elim)⟩
  · have h := (((Blk.new (w.alloc (.cells (jl t s).toArray 29)) 134 ((List.replicate n ((0 : Int), (0 : Int))).flatMap lpC).toArray).alloc (.cells #[.slice (some ⟨w.heap.size + 1, 0, none⟩) n n] 130)).alloc (.cells #[.int .i64 (-1)] 3)).alloc (.cells #[.bool true] 4)
    rw [e1] at h
    exact h
  · have h := ((Blk.new ((w.alloc (.cells (jl t s).toArray 29)).alloc (.cells ((List.replicate n ((0 : Int), (0 : Int))).flatMap lpC).toArray 134)) 130 #[.slice (some ⟨w.heap.size + 1, 0, none⟩) n n]).alloc (.cells #[.int .i64 (-1)] 3)).alloc (.cells #[.bool true] 4)
    rw [e2] at h
    show Blk _ _ _ #[.slice (some ⟨w.heap.size + 1, 0, none⟩) (List.replicate n _).length (List.replicate n _).length]
    rw [List.length_replicate]
    exact h
  · have h := (Blk.new (((w.alloc (.cells (jl t s).toArray 29)).alloc (.cells ((List.replicate n ((0 : Int), (0 : Int))).flatMap lpC).toArray 134)).alloc (.cells #[.slice (some ⟨w.heap.size + 1, 0, none⟩) n n] 130)) 3 #[.int .i64 (-1)]).alloc (.cells #[.bool true] 4)
    rw [e3] at h
    exact h
  · have h := Blk.new ((((w.alloc (.cells (jl t s).toArray 29)).alloc (.cells ((List.replicate n ((0 : Int), (0 : Int))).flatMap lpC).toArray 134)).alloc (.cells #[.slice (some ⟨w.heap.size + 1, 0, none⟩) n n] 130)).alloc (.cells #[.int .i64 (-1)] 3)) 4 #[.bool true]
    rw [e4] at h
    exact h
  · rw [List.eq_of_mem_replicate hp]
    decide
end
def LaidR (w : World) (lp : LayP) (e : Ending) (W : World) : Prop := ∃ q, e = .returned (.tuple #[.slice (some ⟨q, 0, none⟩) lp.l.length lp.l.length, .bool lp.ok]) /\ Blk W q 134 (lp.l.flatMap lpC).toArray /\ w.heap.size <= q /\ Kp (fromB w.heap.size) w W
theorem count_le {w : World} {t : Tre} {s : Sl} {ns : List MNd} {ps : List MSt} (TD : TrD w t s ns ps) : t.count <= 4000000 := by
  have h1 := TD.nA; have h2 := TD.nG; have h3 := TD.nM; have h4 := TD.nP
  unfold Tre.count
  omega
theorem laid_any (w : World) (t : Tre) (s : Sl) (ns : List MNd) (ps : List MSt) (TD : TrD w t s ns ps) :
    Calls Tryz.prog 51 #[.agg (jl t s).toArray] w (LaidR w (laidN t)) := by
  have hcnt := count_le TD
  have hmk := make_lay t.count hcnt
  have n1 := TD.nA; have n2 := TD.nG; have n3 := TD.nM; have n4 := TD.nP
  have g1 : IntKind.i64.wrap ((t.attrs.length : Int) + (t.stages.length : Int)) = (t.attrs.length : Int) + (t.stages.length : Int) := IntWalk.i64_in _ (by omega)
  have g2 : IntKind.i64.wrap ((t.attrs.length : Int) + (t.stages.length : Int) + (t.miles.length : Int)) = (t.attrs.length : Int) + (t.stages.length : Int) + (t.miles.length : Int) := IntWalk.i64_in _ (by omega)
  have g3 : IntKind.i64.wrap ((t.attrs.length : Int) + (t.stages.length : Int) + (t.miles.length : Int) + (t.steps.length : Int)) = (t.count : Int) := by
    rw [IntWalk.i64_in _ (by omega)]
    unfold Tre.count
    omega
  have TDh := jJ0 TD
  have L0 := jJ0 (ld_begin w t s t.count hcnt)
  have Hres := jJ0 (show laidN t = kI 4 (t.steps.map Stp.order) 0 (kI 3 (t.miles.map Mil.order) 0 (kI 2 (t.stages.map Stg.order) 0 (kI 1 (t.attrs.map Atr.order) 0 ⟨List.replicate t.count (0, 0), -1, true⟩))) from rfl)
  have HL1 := jJ0 (show (t.attrs.map Atr.order).length = t.attrs.length from List.length_map ..)
  have HL2 := jJ0 (show (t.stages.map Stg.order).length = t.stages.length from List.length_map ..)
  have HL3 := jJ0 (show (t.miles.map Mil.order).length = t.miles.length from List.length_map ..)
  have HL4 := jJ0 (show (t.steps.map Stp.order).length = t.steps.length from List.length_map ..)
  generalize laidN t = R at *
  clear TD hcnt
  unfold jl at L0
  have HK := jJ0 (fun lp W (h : LdS w t s lp W) => (show W.cell? ⟨w.heap.size, 3, none⟩ = some (.slice s.gA t.stages.length s.gc) /\ W.cell? ⟨w.heap.size, 4, none⟩ = some (.slice s.mA t.miles.length s.mc) /\ W.cell? ⟨w.heap.size, 5, none⟩ = some (.slice s.pA t.steps.length s.pc) from ⟨h.box.at_ 3 rfl, h.box.at_ 4 rfl, h.box.at_ 5 rfl⟩))
  have HKs := jJ0 (fun lp W (h : LdS w t s lp W) => (show W.cell? ⟨w.heap.size + 1 + 1, 0, none⟩ = some (.slice (some ⟨w.heap.size + 1, 0, none⟩) lp.l.length lp.l.length) /\ W.cell? ⟨w.heap.size + 1 + 1 + 1 + 1, 0, none⟩ = some (.bool lp.ok) from ⟨h.ly.lb.at_ 0 rfl, h.ly.kb.at_ 0 rfl⟩))
  unfold jl iv at *
  go_enter Tryz.func51, Tryz.ntmps51
  go_wp2_with fail
  go_loopw [36] (fun i wr => ∃ k : Nat, k <= t.attrs.length /\ i = .int .i64 (k : Int) /\ LdS w t s (kI 1 ((t.attrs.map Atr.order).take k) 0 ⟨List.replicate t.count (0, 0), -1, true⟩) wr) (fun i _ => t.attrs.length - (intOf i).toNat)
  case atStart => exact ⟨0, Nat.zero_le _, rfl, L0.out⟩
  case round =>
    clear L0
    obtain ⟨k, hk, rfl, hd⟩ := hrel
    have HD := jJ0 hd
    by_cases hlt : k < t.attrs.length
    · have hsn := layAll_take 1 (t.attrs.map Atr.order) k (by rw [HL1.out]; exact hlt) ⟨List.replicate t.count (0, 0), -1, true⟩
      rw [List.getElem_map] at hsn
      have hx : t.attrs[k]? = some t.attrs[k] := List.getElem?_eq_getElem hlt
      obtain ⟨b, o, hA, hc⟩ := vf (C := atC) (fun x => rfl) TDh.out.rA hx hlt
      generalize t.attrs[k] = x at *
      have hw := fun i u hu => hd.cellw (hc i u hu)
      have c0 : wr.cell? ⟨b, o + k * 7, none⟩ = some (.string x.name) := hw 0 _ rfl
      have c1 : wr.cell? ⟨b, o + k * 7 + 1, none⟩ = some (.int .i64 x.at_) := hw 1 _ rfl
      have c2 : wr.cell? ⟨b, o + k * 7 + 2, none⟩ = some (.int .i64 x.order) := hw 2 _ rfl
      have c3 : wr.cell? ⟨b, o + k * 7 + 3, none⟩ = some (.int .i64 x.kind) := hw 3 _ rfl
      have c4 : wr.cell? ⟨b, o + k * 7 + 4, none⟩ = some (.bool x.opt) := hw 4 _ rfl
      have c5 : wr.cell? ⟨b, o + k * 7 + 5, none⟩ = some (.int .i64 x.dflt) := hw 5 _ rfl
      have c6 : wr.cell? ⟨b, o + k * 7 + 6, none⟩ = some (.int .i64 x.when_) := hw 6 _ rfl
      have HL := jJ0 (lay_any (wr.alloc (.cells #[.string x.name, .int .i64 x.at_, .int .i64 x.order, .int .i64 x.kind, .bool x.opt, .int .i64 x.dflt, .int .i64 x.when_] 114)) _ _ _ _ _ (hd.ly.old ((Kp.refl NoX wr).alloc _)) hd.inv 1 k x.order)
      have Hs := jJ0 hsn
      have Hn := jJ0 n1
      have Hlt := jJ0 hlt
      have f1 : (0 : Int) <= (k : Int) := by omega
      have f2 : (k : Int).toNat = k := by omega
      have f3 : (k : Int) < (t.attrs.length : Int) := by omega
      have f4 : IntKind.i64.wrap ((k : Int) + 1) = (k : Int) + 1 := IntWalk.i64_in _ (by omega)
      clear hd hsn hx hc hw
      rw [hA]
      clear hA
      unfold iv at *
      go_wp2_with (first | (go_at_call 113; refine HL.out.mono ?_; rintro e w2 hX; obtain rfl := hX.1; have HX := jJ0 (HD.out.lay ((Kp.refl NoX _).alloc _) (by decide) (by have := Hn.out; have := Hlt.out; omega) hX); clear hX) | fail)
      rw [<- Hs.out] at HX
      exact ⟨⟨k + 1, by omega, by rw [show ((k + 1 : Nat) : Int) = (k : Int) + 1 by omega], HX.out⟩, by simp only [intOf]; omega⟩
    · obtain rfl : k = t.attrs.length := by omega
      rw [List.take_of_length_le (by rw [HL1.out]; exact Nat.le_refl _)] at hd
      have D1 := jJ0 hd
      obtain ⟨k3, k4, k5⟩ := HK.out _ _ hd
      clear hd HD
      go_wp2_with fail
      go_loopw [50] (fun i wr => ∃ k : Nat, k <= t.stages.length /\ i = .int .i64 (k : Int) /\ LdS w t s (kI 2 ((t.stages.map Stg.order).take k) 0 (kI 1 (t.attrs.map Atr.order) 0 ⟨List.replicate t.count (0, 0), -1, true⟩)) wr) (fun i _ => t.stages.length - (intOf i).toNat)
      case atStart => exact ⟨0, Nat.zero_le _, rfl, D1.out⟩
      case round =>
        clear D1
        obtain ⟨k, hk, rfl, hd⟩ := hrel
        have HD := jJ0 hd
        by_cases hlt : k < t.stages.length
        · have hsn := layAll_take 2 (t.stages.map Stg.order) k (by rw [HL2.out]; exact hlt) (kI 1 (t.attrs.map Atr.order) 0 ⟨List.replicate t.count (0, 0), -1, true⟩)
          rw [List.getElem_map] at hsn
          have hx : t.stages[k]? = some t.stages[k] := List.getElem?_eq_getElem hlt
          obtain ⟨b, o, hA, hc⟩ := vf (C := sgC) (fun x => rfl) TDh.out.rG hx hlt
          generalize t.stages[k] = x at *
          have hw := fun i u hu => hd.cellw (hc i u hu)
          have c0 : wr.cell? ⟨b, o + k * 7, none⟩ = some (.string x.name) := hw 0 _ rfl
          have c1 : wr.cell? ⟨b, o + k * 7 + 1, none⟩ = some (.int .i64 x.at_) := hw 1 _ rfl
          have c2 : wr.cell? ⟨b, o + k * 7 + 2, none⟩ = some (.int .i64 x.order) := hw 2 _ rfl
          have c3 : wr.cell? ⟨b, o + k * 7 + 3, none⟩ = some (.string x.in_) := hw 3 _ rfl
          have c4 : wr.cell? ⟨b, o + k * 7 + 4, none⟩ = some (.int .i64 x.inAt) := hw 4 _ rfl
          have c5 : wr.cell? ⟨b, o + k * 7 + 5, none⟩ = some (.int .i64 x.opens) := hw 5 _ rfl
          have c6 : wr.cell? ⟨b, o + k * 7 + 6, none⟩ = some (.int .i64 x.closes) := hw 6 _ rfl
          have HL := jJ0 (lay_any (wr.alloc (.cells #[.string x.name, .int .i64 x.at_, .int .i64 x.order, .string x.in_, .int .i64 x.inAt, .int .i64 x.opens, .int .i64 x.closes] 117)) _ _ _ _ _ (hd.ly.old ((Kp.refl NoX wr).alloc _)) hd.inv 2 k x.order)
          have Hs := jJ0 hsn
          have Hn := jJ0 n2
          have Hlt := jJ0 hlt
          have f1 : (0 : Int) <= (k : Int) := by omega
          have f2 : (k : Int).toNat = k := by omega
          have f3 : (k : Int) < (t.stages.length : Int) := by omega
          have f4 : IntKind.i64.wrap ((k : Int) + 1) = (k : Int) + 1 := IntWalk.i64_in _ (by omega)
          clear hd hsn hx hc hw
          rw [hA]
          clear hA
          unfold iv at *
          go_wp2_with (first | (go_at_call 113; refine HL.out.mono ?_; rintro e w2 hX; obtain rfl := hX.1; have HX := jJ0 (HD.out.lay ((Kp.refl NoX _).alloc _) (by decide) (by have := Hn.out; have := Hlt.out; omega) hX); clear hX) | fail)
          rw [<- Hs.out] at HX
          exact ⟨⟨k + 1, by omega, by rw [show ((k + 1 : Nat) : Int) = (k : Int) + 1 by omega], HX.out⟩, by simp only [intOf]; omega⟩
        · obtain rfl : k = t.stages.length := by omega
          rw [List.take_of_length_le (by rw [HL2.out]; exact Nat.le_refl _)] at hd
          have D2 := jJ0 hd
          obtain ⟨k3, k4, k5⟩ := HK.out _ _ hd
          clear hd HD
          go_wp2_with fail
          go_loopw [64] (fun i wr => ∃ k : Nat, k <= t.miles.length /\ i = .int .i64 (k : Int) /\ LdS w t s (kI 3 ((t.miles.map Mil.order).take k) 0 (kI 2 (t.stages.map Stg.order) 0 (kI 1 (t.attrs.map Atr.order) 0 ⟨List.replicate t.count (0, 0), -1, true⟩))) wr) (fun i _ => t.miles.length - (intOf i).toNat)
          case atStart => exact ⟨0, Nat.zero_le _, rfl, D2.out⟩
          case round =>
            clear D2
            obtain ⟨k, hk, rfl, hd⟩ := hrel
            have HD := jJ0 hd
            by_cases hlt : k < t.miles.length
            · have hsn := layAll_take 3 (t.miles.map Mil.order) k (by rw [HL3.out]; exact hlt) (kI 2 (t.stages.map Stg.order) 0 (kI 1 (t.attrs.map Atr.order) 0 ⟨List.replicate t.count (0, 0), -1, true⟩))
              rw [List.getElem_map] at hsn
              have hx : t.miles[k]? = some t.miles[k] := List.getElem?_eq_getElem hlt
              obtain ⟨b, o, hA, hc⟩ := vf (C := miC) (fun x => rfl) TDh.out.rM hx hlt
              generalize t.miles[k] = x at *
              have hw := fun i u hu => hd.cellw (hc i u hu)
              have c0 : wr.cell? ⟨b, o + k * 6, none⟩ = some (.string x.name) := hw 0 _ rfl
              have c1 : wr.cell? ⟨b, o + k * 6 + 1, none⟩ = some (.int .i64 x.at_) := hw 1 _ rfl
              have c2 : wr.cell? ⟨b, o + k * 6 + 2, none⟩ = some (.int .i64 x.order) := hw 2 _ rfl
              have c3 : wr.cell? ⟨b, o + k * 6 + 3, none⟩ = some (.string x.in_) := hw 3 _ rfl
              have c4 : wr.cell? ⟨b, o + k * 6 + 4, none⟩ = some (.int .i64 x.inAt) := hw 4 _ rfl
              have c5 : wr.cell? ⟨b, o + k * 6 + 5, none⟩ = some (.int .i64 x.when_) := hw 5 _ rfl
              have HL := jJ0 (lay_any (wr.alloc (.cells #[.string x.name, .int .i64 x.at_, .int .i64 x.order, .string x.in_, .int .i64 x.inAt, .int .i64 x.when_] 64)) _ _ _ _ _ (hd.ly.old ((Kp.refl NoX wr).alloc _)) hd.inv 3 k x.order)
              have Hs := jJ0 hsn
              have Hn := jJ0 n3
              have Hlt := jJ0 hlt
              have f1 : (0 : Int) <= (k : Int) := by omega
              have f2 : (k : Int).toNat = k := by omega
              have f3 : (k : Int) < (t.miles.length : Int) := by omega
              have f4 : IntKind.i64.wrap ((k : Int) + 1) = (k : Int) + 1 := IntWalk.i64_in _ (by omega)
              clear hd hsn hx hc hw
              rw [hA]
              clear hA
              unfold iv at *
              go_wp2_with (first | (go_at_call 113; refine HL.out.mono ?_; rintro e w2 hX; obtain rfl := hX.1; have HX := jJ0 (HD.out.lay ((Kp.refl NoX _).alloc _) (by decide) (by have := Hn.out; have := Hlt.out; omega) hX); clear hX) | fail)
              rw [<- Hs.out] at HX
              exact ⟨⟨k + 1, by omega, by rw [show ((k + 1 : Nat) : Int) = (k : Int) + 1 by omega], HX.out⟩, by simp only [intOf]; omega⟩
            · obtain rfl : k = t.miles.length := by omega
              rw [List.take_of_length_le (by rw [HL3.out]; exact Nat.le_refl _)] at hd
              have D3 := jJ0 hd
              obtain ⟨k3, k4, k5⟩ := HK.out _ _ hd
              clear hd HD
              go_wp2_with fail
              go_loopw [78] (fun i wr => ∃ k : Nat, k <= t.steps.length /\ i = .int .i64 (k : Int) /\ LdS w t s (kI 4 ((t.steps.map Stp.order).take k) 0 (kI 3 (t.miles.map Mil.order) 0 (kI 2 (t.stages.map Stg.order) 0 (kI 1 (t.attrs.map Atr.order) 0 ⟨List.replicate t.count (0, 0), -1, true⟩)))) wr) (fun i _ => t.steps.length - (intOf i).toNat)
              case atStart => exact ⟨0, Nat.zero_le _, rfl, D3.out⟩
              case round =>
                clear D3
                obtain ⟨k, hk, rfl, hd⟩ := hrel
                have HD := jJ0 hd
                by_cases hlt : k < t.steps.length
                · have hsn := layAll_take 4 (t.steps.map Stp.order) k (by rw [HL4.out]; exact hlt) (kI 3 (t.miles.map Mil.order) 0 (kI 2 (t.stages.map Stg.order) 0 (kI 1 (t.attrs.map Atr.order) 0 ⟨List.replicate t.count (0, 0), -1, true⟩)))
                  rw [List.getElem_map] at hsn
                  have hpe := TDh.out.pe
                  have hlt2 : k < ps.length := by rw [<- List.length_map (·.s), hpe]; exact hlt
                  have hx : ps[k]? = some ps[k] := List.getElem?_eq_getElem hlt2
                  have hxs : t.steps[k] = ps[k].s := by simp only [<- hpe, List.getElem_map]
                  rw [hxs] at hsn
                  obtain ⟨b, o, hA, hc⟩ := vf (C := stC) (fun x => rfl) TDh.out.rP hx hlt
                  generalize ps[k] = x at *
                  have hw := fun i u hu => hd.cellw (hc i u hu)
                  have c0 : wr.cell? ⟨b, o + k * 8, none⟩ = some (.string x.s.name) := hw 0 _ rfl
                  have c1 : wr.cell? ⟨b, o + k * 8 + 1, none⟩ = some (.int .i64 x.s.at_) := hw 1 _ rfl
                  have c2 : wr.cell? ⟨b, o + k * 8 + 2, none⟩ = some (.int .i64 x.s.order) := hw 2 _ rfl
                  have c3 : wr.cell? ⟨b, o + k * 8 + 3, none⟩ = some (.slice x.pA x.s.params.length x.pc) := hw 3 _ rfl
                  have c4 : wr.cell? ⟨b, o + k * 8 + 4, none⟩ = some (.string x.s.in_) := hw 4 _ rfl
                  have c5 : wr.cell? ⟨b, o + k * 8 + 5, none⟩ = some (.int .i64 x.s.inAt) := hw 5 _ rfl
                  have c6 : wr.cell? ⟨b, o + k * 8 + 6, none⟩ = some (.int .i64 x.s.when_) := hw 6 _ rfl
                  have c7 : wr.cell? ⟨b, o + k * 8 + 7, none⟩ = some (.slice x.eA x.s.effects.length x.ec) := hw 7 _ rfl
                  have HL := jJ0 (lay_any (wr.alloc (.cells #[.string x.s.name, .int .i64 x.s.at_, .int .i64 x.s.order, .slice x.pA x.s.params.length x.pc, .string x.s.in_, .int .i64 x.s.inAt, .int .i64 x.s.when_, .slice x.eA x.s.effects.length x.ec] 111)) _ _ _ _ _ (hd.ly.old ((Kp.refl NoX wr).alloc _)) hd.inv 4 k x.s.order)
                  have Hs := jJ0 hsn
                  have Hn := jJ0 n4
                  have Hlt := jJ0 hlt
                  have f1 : (0 : Int) <= (k : Int) := by omega
                  have f2 : (k : Int).toNat = k := by omega
                  have f3 : (k : Int) < (t.steps.length : Int) := by omega
                  have f4 : IntKind.i64.wrap ((k : Int) + 1) = (k : Int) + 1 := IntWalk.i64_in _ (by omega)
                  clear hd hsn hx hc hw hpe hxs hlt2
                  rw [hA]
                  clear hA
                  unfold iv at *
                  go_wp2_with (first | (go_at_call 113; refine HL.out.mono ?_; rintro e w2 hX; obtain rfl := hX.1; have HX := jJ0 (HD.out.lay ((Kp.refl NoX _).alloc _) (by decide) (by have := Hn.out; have := Hlt.out; omega) hX); clear hX) | fail)
                  rw [<- Hs.out] at HX
                  exact ⟨⟨k + 1, by omega, by rw [show ((k + 1 : Nat) : Int) = (k : Int) + 1 by omega], HX.out⟩, by simp only [intOf]; omega⟩
                · obtain rfl : k = t.steps.length := by omega
                  rw [List.take_of_length_le (by rw [HL4.out]; exact Nat.le_refl _)] at hd
                  have D4 := jJ0 hd
                  obtain ⟨k3, k4, k5⟩ := HK.out _ _ hd
                  obtain ⟨k6, k7⟩ := HKs.out _ _ hd
                  rw [<- Hres.out] at k6 k7 D4
                  clear hd HD
                  go_wp2_with (first | go_quiet (fail) | fail)
                  go_ret2
                  exact ⟨_, rfl, (D4.out.old ((Kp.refl NoX _).drewN _)).ly.row, by omega, (D4.out.old ((Kp.refl NoX _).drewN _)).kp⟩
theorem tree_neg (w : World) (t : Tre) (s : Sl) (l : List UInt8) (B : Option Addr) (bc : Nat) (root : Int) (W : World) (next : Nat) (r0 : root < 0) (h : Pr w t s next l B bc W) :
    Calls Tryz.prog 117 #[.pointer (some ⟨w.heap.size, 0, none⟩), iv root] W (TrR w t s l B bc none W) := by
  have H := jJ0 h
  clear h
  unfold iv
  go_enter Tryz.func117, Tryz.ntmps117
  go_wp2
  go_ret
  exact ⟨rfl, next, fun n e => (by cases e), H.out, FrP.refl _⟩
theorem tree_far (w : World) (t : Tre) (s : Sl) (l : List UInt8) (B : Option Addr) (bc : Nat) (root : Int) (W : World) (next : Nat) (r0 : ¬ root < 0) (r1 : (t.nodes.length : Int) <= root) (h : Pr w t s next l B bc W) :
    Calls Tryz.prog 117 #[.pointer (some ⟨w.heap.size, 0, none⟩), iv root] W (TrR w t s l B bc none W) := by
  have H := jJ0 h
  have hc6 := h.c6
  clear h
  unfold iv
  go_enter Tryz.func117, Tryz.ntmps117
  go_wp2
  go_ret
  exact ⟨rfl, next, fun n e => (by cases e), H.out, FrP.refl _⟩
theorem tree_any (w : World) (hg : Sg w) (h80 : 8 <= w.heap.size) (t : Tre) (s : Sl) (ns : List MNd) (TN : TrN w t s ns) (l : List UInt8) (B : Option Addr) (bc : Nat) : ∀ (f : Nat) (root : Int) (W : World) (next : Nat), root < (f : Int) -> next <= 1000000 -> Pr w t s next l B bc W ->
    Calls Tryz.prog 117 #[.pointer (some ⟨w.heap.size, 0, none⟩), iv root] W (TrR w t s l B bc (yI t.nodes f root next) W) := by
  intro f
  induction f with
  | zero => exact fun root W next hf hn h => (by rw [yI]; exact tree_neg w t s l B bc root W next (by omega) h)
  | succ f ih =>
    intro root W next hf hn h
    rcases Int.lt_or_le root 0 with r0 | r0
    · rw [yI, if_pos (.inl r0)]
      exact tree_neg w t s l B bc root W next r0 h
    rcases Int.lt_or_le root (t.nodes.length : Int) with r1 | r1
    rotate_left
    · rw [yI, if_pos (.inr r1)]
      exact tree_far w t s l B bc root W next (by omega) r1 h
    obtain ⟨r, rfl⟩ : ∃ r : Nat, root = (r : Int) := ⟨root.toNat, by omega⟩
    have hlt : r < t.nodes.length := by omega
    have hnr : t.nodes[r]? = some t.nodes[r] := List.getElem?_eq_getElem hlt
    obtain ⟨x, b, o, hx, e, hA, hc, hrd, hkn⟩ := TN.at_ hnr
    have hT : yI t.nodes (f + 1) (r : Int) next = if jB x.n = false then none else (kidsN t.nodes f (r : Int) x.n.kids (some next)).bind fun nx => if (r : Int) = (nx : Int) then some (nx + 1) else none := by
      rw [yI, if_neg (by omega), show ((r : Int).toNat) = r by omega, hnr, <- e]
      rfl
    rw [hT]
    have HR := jJ0 (fun W1 (hp : Pr w t s next l B bc W1) => right_any W1 (hp.sg hg h80) x)
    have H := jJ0 h
    have hc6 := h.c6
    rw [hA] at hc6
    have hlim := TN.cnt
    clear hnr hT e hx
    obtain ⟨⟨op, name, vk, vn, vt, vs, kids⟩, A, c, vA, vc⟩ := x
    simp only at hrd hkn HR ⊢
    have hw := fun i u hu => h.cellw (hc i u hu)
    have c0 : W.cell? ⟨b, o + r * 7, none⟩ = some (.int .i64 op) := hw 0 _ rfl
    have c1 : W.cell? ⟨b, o + r * 7 + 1, none⟩ = some (.string name) := hw 1 _ rfl
    have c2 : W.cell? ⟨b, o + r * 7 + 2, none⟩ = some (.int .i64 vk) := hw 2 _ rfl
    have c3 : W.cell? ⟨b, o + r * 7 + 3, none⟩ = some (.int .i64 vn) := hw 3 _ rfl
    have c4 : W.cell? ⟨b, o + r * 7 + 4, none⟩ = some (.string vt) := hw 4 _ rfl
    have c5 : W.cell? ⟨b, o + r * 7 + 5, none⟩ = some (.slice vA vs.length vc) := hw 5 _ rfl
    have c6 : W.cell? ⟨b, o + r * 7 + 6, none⟩ = some (.slice A kids.length c) := hw 6 _ rfl
    have HK := jJ0 (fun W1 (hp : Pr w t s next l B bc W1) => (show W1.cell? ⟨b, o + r * 7 + 6, none⟩ = some (.slice A kids.length c) from hp.cellw (hc 6 _ rfl)))
    have f2 : (r : Int).toNat = r := by omega
    have f4 : ¬ (r : Int) < 0 := by omega
    have f5 : ¬ (t.nodes.length : Int) <= (r : Int) := by omega
    have HX := jJ0 ih
    have HD := jJ0 hrd
    have Hna := jJ0 hA
    have Hf0 := jJ0 hf
    clear hc hA hrd TN hg ih hf h hw
    unfold ndC iv at *
    cases hr : jB ⟨op, name, vk, vn, vt, vs, kids⟩ with
    | false =>
      rw [if_pos rfl]
      rw [hr] at HR
      clear hr HX HD
      go_enter Tryz.func117, Tryz.ntmps117
      go_wp2_with (first | (go_at_call 22; refine (HR.out _ H.out).mono ?_; rintro e w1 ⟨rfl, ho⟩; have HO := jJ0 ho; clear ho) | fail)
      go_ret
      exact ⟨rfl, next, fun n e => (by cases e), H.out.old HO.out, FrP.of_old HO.out⟩
    | true =>
      rw [if_neg (by decide)]
      rw [hr] at HR
      clear hr
      obtain ⟨O, hO⟩ : ∃ O, kidsN t.nodes f (r : Int) kids (some next) = O := ⟨_, rfl⟩
      rw [hO]
      obtain ⟨OB, hOB⟩ : ∃ OB, (O.bind fun nx => if (r : Int) = (nx : Int) then some (nx + 1) else none) = OB := ⟨_, rfl⟩
      rw [hOB]
      have HO := jJ0 hO
      have HOB := jJ0 hOB
      clear hO hOB
      go_enter Tryz.func117, Tryz.ntmps117
      go_wp2_with (first | (go_at_call 22; refine (HR.out _ H.out).mono ?_; rintro e w1 ⟨rfl, ho⟩; have HP := jJ0 (H.out.old ho); have HF := jJ0 (FrP.of_old ho); clear ho; have k6 := HP.out.c6; rw [Hna.out] at k6; have kk := HK.out _ HP.out) | fail)
      go_loopw [41] (fun i wr => ∃ (j nx : Nat), j <= kids.length /\ i = .int .i64 (j : Int) /\ kidsN t.nodes f (r : Int) (kids.drop j) (some nx) = O /\ nx <= 1000000 /\ Pr w t s nx l B bc wr /\ FrP W wr) (fun i _ => kids.length - (intOf i).toNat)
      case atStart => exact ⟨0, next, Nat.zero_le _, rfl, HO.out, hn, HP.out, HF.out⟩
      case round =>
        clear k6 kk c0 c1 c2 c3 c4 c5 c6 hc6
        obtain ⟨j, nx, hj, rfl, heq, hnx, hp, hf⟩ := hrel
        have Hp := jJ0 hp
        have Hf := jJ0 hf
        by_cases hlt2 : j < kids.length
        · have hd : kids.drop j = kids[j] :: kids.drop (j + 1) := List.drop_eq_getElem_cons hlt2
          obtain ⟨b3, o3, u, hA3, hu, hc3⟩ := HD.out.at_ hlt2
          have hu2 : iv kids[j] = u := by rw [List.getElem?_map, List.getElem?_eq_getElem hlt2] at hu; injection hu
          subst hu2
          subst hA3
          have hcw : wr.cell? ⟨b3, o3 + j, none⟩ = some (.int .i64 kids[j]) := hp.cellw hc3
          rw [hd, kidsN_cons] at heq
          generalize kids[j] = k at *
          have b1 : (0 : Int) <= (j : Int) := by omega
          have b2 : (j : Int).toNat = j := by omega
          have b3' : (j : Int) < (kids.length : Int) := by omega
          have b4 : IntKind.i64.wrap ((j : Int) + 1) = (j : Int) + 1 := IntWalk.i64_in _ (by omega)
          clear hd hu hc3 hf
          by_cases hk : (r : Int) <= k
          · rw [if_pos hk] at heq
            subst heq
            obtain rfl : none = OB := HOB.out
            clear hp
            go_wp2
            go_ret
            exact ⟨rfl, nx, fun n e => (by cases e), Hp.out, Hf.out⟩
          · rw [if_neg hk] at heq
            have HC := jJ0 (HX.out k wr nx (by have := Hf0.out; omega) hnx hp)
            clear hp
            cases hT : yI t.nodes f k nx with
            | none =>
              rw [hT, kidsN_none] at heq
              rw [hT] at HC
              subst heq
              obtain rfl : none = OB := HOB.out
              go_wp2_with (first | (go_at_call 117; refine HC.out.mono ?_; rintro e w2 ⟨rfl, n2, hn2, hX, hg2⟩; have HX2 := jJ0 hX; have HF2 := jJ0 hg2; clear hX hg2 hn2) | fail)
              go_ret
              exact ⟨rfl, n2, fun n e => (by cases e), HX2.out, Hf.out.trans HF2.out⟩
            | some m =>
              rw [hT] at heq HC
              have hm := treeN_le hT
              have HE := jJ0 heq
              clear heq hT
              go_wp2_with (first | (go_at_call 117; refine HC.out.mono ?_; rintro e w2 ⟨rfl, n2, hn2, hX, hg2⟩; obtain rfl := hn2 m rfl; have HX2 := jJ0 hX; have HF2 := jJ0 hg2; clear hX hg2 hn2) | fail)
              exact ⟨⟨j + 1, n2, by omega, by rw [show ((j + 1 : Nat) : Int) = (j : Int) + 1 by omega], HE.out, by omega, HX2.out, Hf.out.trans HF2.out⟩, by simp only [intOf]; omega⟩
        · obtain rfl : j = kids.length := by omega
          rw [List.drop_length] at heq
          have HE := jJ0 (show some nx = O from heq)
          have q8 := hp.c8
          have y8 := hp.z 8
          have HN := jJ0 (hp.setNext (nx + 1))
          have b5 : (nx : Int) <= 1000000 := by omega
          have b6 : (0 : Int) <= (nx : Int) := by omega
          rw [show ((nx + 1 : Nat) : Int) = (nx : Int) + 1 by omega] at HN
          clear heq hp hf hnx
          have HB2 := jJ0 (show (if (r : Int) = (nx : Int) then some (nx + 1) else none) = OB by rw [<- HOB.out, <- HE.out]; rfl)
          by_cases he : (r : Int) = (nx : Int)
          · obtain rfl : some (nx + 1) = OB := (if_pos he).symm.trans HB2.out
            have he2 : ((r : Int) == (nx : Int)) = true := beq_iff_eq.2 he
            clear he
            go_wp2
            go_ret
            exact ⟨rfl, nx + 1, fun n e => (by injection e), HN.out.1, Hf.out.trans HN.out.2⟩
          · obtain rfl : none = OB := (if_neg he).symm.trans HB2.out
            have he2 : ((r : Int) == (nx : Int)) = false := beq_eq_false_iff_ne.2 he
            clear he
            go_wp2
            go_ret
            exact ⟨rfl, nx + 1, fun n e => (by cases e), HN.out.1, Hf.out.trans HN.out.2⟩
end Go.Proofs.YtmmjcbbogokmfaaGreatDoor
