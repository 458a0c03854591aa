import Derived.Test.YtnaolhjbapgjgaaGreatMg03
import Derived.Test.YtnaolhjbapgjgaaGreatMg05
import Derived.Test.YtnaolhjbapgjgaaGreatMg10
import Derived.Test.YtnaolhjbapgjgaaGreatMg12
import Derived.Test.YtnaolhjbapgjgaaGreatMg13
import Derived.Laws.CopyOwn
import Derived.Laws.MakeOwn
import Derived.Laws.OwnMore
set_option maxRecDepth 100000
set_option maxHeartbeats 3200000
namespace Go.Proofs.YtnaolhjbapgjgaaGreat
open Go.RowKit
def zD : List UInt8 := List.replicate 32 0
theorem kg : zD.length = 32 := by simp [zD]
theorem zD_cells : jB zD = zero32 := by simp [jB, zD, zero32, bv, List.replicate]
theorem Kp.of_under {B : Nat} {w w1 : World} (h : Below B w w1) : Kp (fun k => B <= k) w w1 :=
  ⟨h.os, h.tape, h.output, h.size, fun k _ hx => h.block k (by omega)⟩
def digN (bs : List UInt8) (s : Rs) : List UInt8 × Rs := (if (rawN bs 32 s).1 = [] then zD else (rawN bs 32 s).1, (rawN bs 32 s).2)
theorem rawN_len (bs : List UInt8) (n : Nat) (s : Rs) : (rawN bs (n : Int) s).1 = [] \/ (rawN bs (n : Int) s).1.length = n := by
  unfold rawN
  split
  · exact .inl rfl
  · split
    · exact .inl rfl
    · right
      simp only [List.length_take, List.length_drop]
      omega
theorem vH (bs : List UInt8) (s : Rs) : (digN bs s).1.length = 32 := by
  have h := rawN_len bs 32 s
  unfold digN
  by_cases e : (rawN bs 32 s).1 = []
  · simp only [if_pos e, kg]
  · simp only [if_neg e]
    exact h.resolve_left e
theorem splice_dig (l : List UInt8) (hl : l = [] \/ l.length = 32) : splice zero32 0 (l.map bv) = jB (if l = [] then zD else l) := by
  rcases hl with rfl | hl
  · rw [if_pos rfl, zD_cells]
    simp [splice]
  · rw [if_neg (by rintro rfl; simp at hl)]
    have h32 : zero32.drop 32 = [] := List.drop_eq_nil_of_le (by decide)
    simp [splice, hl, jB, h32]
theorem jW {P : Program} {ops : Array Oper} {rest : List Oper} {d : Option Tmp} {ty : TypeId} {pos : String} {after : Array Edge} {gd : Option (Nat × Bool)} {a : Act} {w : World} {Q : Exit -> Act -> World -> Prop} (t : TypeId) (x : Operand)
    (h : wpList P ops Q (⟨d, .load t x, ty, pos, after, gd⟩ :: rest) a w) : wpList P ops Q (⟨d, .load t x, ty, pos, after, gd⟩ :: rest) a w := h
theorem vT (w : World) (g : Nat) (bs : List UInt8) (s : Rs) (h : Rr w g bs s) :
    Calls Tryz.prog 138 #[.pointer (some ⟨g, 0, none⟩)] w fun e w' => e = .returned (.agg (jB (digN bs s).1).toArray) /\ Rr w' g bs (digN bs s).2 /\ Kp (RX g) w w' := by
  have hgl := h.lt
  have HD := jJ0 (show digN bs s = (if (rawN bs 32 s).1 = [] then zD else (rawN bs 32 s).1, (rawN bs 32 s).2) from rfl)
  have H32 := jJ0 (vH bs s)
  have HL := jJ0 (rawN_len bs 32 s)
  have HR := jJ0 (fun W (hR : Rr W g bs s) => ko W g bs 32 s hR (by omega))
  have HbR := jJ0 (Blk.new w 40 zero32.toArray)
  have Hb0 := jJ0 (Blk.new (w.alloc (.cells zero32.toArray 40)) 40 zero32.toArray)
  have HO := jJ0 (((Kp.refl NoX w).alloc (.cells zero32.toArray 40)).alloc (.cells zero32.toArray 40))
  have Hsz0 := jJ0 (show (w.alloc (.cells zero32.toArray 40)).heap.size = w.heap.size + 1 by simp)
  have Hi1 := jJ0 (show (Tryz.prog.info? 5).map (·.size) = some 1 by kernel_rfl)
  rw [Hsz0.out] at Hb0
  have Hh := jJ0 h
  clear h
  generalize digN bs s = DN at *
  generalize rawN bs 32 s = RN at *
  obtain ⟨l, s1⟩ := RN
  simp only at HD HL HR
  unfold zero32 at HbR Hb0 HO Hsz0
  go_enter Tryz.func138, Tryz.ntmps138
  have HbR2 := jJ0 (HbR.out.alloc (.cells #[.int .u8 0, .int .u8 0, .int .u8 0, .int .u8 0, .int .u8 0, .int .u8 0, .int .u8 0, .int .u8 0, .int .u8 0, .int .u8 0, .int .u8 0, .int .u8 0, .int .u8 0, .int .u8 0, .int .u8 0, .int .u8 0, .int .u8 0, .int .u8 0, .int .u8 0, .int .u8 0, .int .u8 0, .int .u8 0, .int .u8 0, .int .u8 0, .int .u8 0, .int .u8 0, .int .u8 0, .int .u8 0, .int .u8 0, .int .u8 0, .int .u8 0, .int .u8 0] 40))
  go_wp2_with fail
  generalize (w.alloc _).alloc _ = W at *
  refine wp_region_held_drew (S := fun _ => True) (by kernel_rfl) trivial (fun hHeld => ?_)
  refine' jJ 0 rfl rfl (by kernel_rfl) (by kernel_rfl) (by kernel_rfl) (fun _ _ _ h => h) rfl hHeld (fun w hSw => ?_) ?_
  rotate_left
  · ((try dsimp only at hSw); go_simp <;> with_reducible rfl)
  simp only [Act.put, List.setIfInBounds_toArray, List.set_cons_zero, List.set_cons_succ]
  refine' jJ 1 rfl rfl (by kernel_rfl) (by kernel_rfl) (by kernel_rfl) (fun _ _ _ h => h) rfl hHeld (fun w hSw => ?_) ?_
  rotate_left
  · ((try dsimp only at hSw); go_simp <;> with_reducible rfl)
  simp only [Act.put, List.setIfInBounds_toArray, List.set_cons_zero, List.set_cons_succ]
  refine je 2 rfl (by kernel_rfl) (fun K hK => ?_)
  go_simp
  go_at_call 90
  refine (HR.out _ (Hh.out.old HO.out.drew)).mono ?_
  rintro e w1 ⟨A, c, rfl, hrd, hav, hcap, hr, hk⟩
  have Hg := jJ0 ((Hb0.out.drew).kp hk (show ¬ RX g (w.heap.size + 1) from fun e => by have : w.heap.size + 1 = g := e; omega))
  go_wp2_with fail
  refine hK.out _ _ trivial (fun hHeld => ?_)
  clear hK K
  refine je 3 rfl (by kernel_rfl) (fun K hK => ?_)
  refine step_copy_splice rfl (.tmp 4) (.tmp 6) 22 22 rfl 5 Tryz.underlying22 Hi1.out (some ⟨w.heap.size + 1, 0, none⟩) A 32 32 l.length c rfl rfl (w.heap.size + 1) 0 _ 40 Hg.out (l.map bv) ?_ ?_ ?_ ?_ (w.heap.size + 1) _ (Below.refl _ _) (Nat.le_refl _) ?_
  · rcases HL.out with e | e <;> simp [e]
  · intro hn
    obtain ⟨b, o, rfl, hc⟩ := hrd.2 (by simpa using hn)
    exact ⟨rfl, _, rfl, fun j v hv => by rw [Addr.add_lit]; exact hc j v hv⟩
  · rcases HL.out with e | e <;> simp [e]
  · exact jr l
  intro w2 hG2 hB2
  have HG2 := jJ0 hG2.out
  have HB2 := jJ0 hB2
  clear hG2 hB2
  go_wp2_with fail
  refine hK.out _ _ trivial (fun hHeld => ?_)
  clear hK K
  refine wpAnyH_done (by kernel_rfl) ?_ _
  have k0 : Kp (RX g) w w1 := ((HO.out.drew).mono (Y := RX g) (fun _ _ f => f.elim)).trans hk (fun _ _ e => e)
  have k1 := Kp.of_under HB2.out
  have hs2 : s1 = DN.2 := by rw [HD.out]
  have HR2 := jJ0 (show Rr w2 g bs DN.2 from hs2 ▸ hr.kp k1 (fun b hb e => by omega))
  have HK2 := jJ0 (show Kp (RX g) w w2 from k0.trans k1 (fun b hb e => by omega))
  have Hblk := jJ0 (show Blk w2 (w.heap.size + 1) 40 (jB DN.1).toArray from by
    have h := HG2.out
    have e := splice_dig l HL.out
    unfold zero32 at e
    rw [e] at h
    rw [HD.out]
    exact h)
  have HblkR := jJ0 (show Blk w2 w.heap.size 40 zero32.toArray from ((HbR2.out.drew).kp hk (show ¬ RX g w.heap.size from fun e => by have : w.heap.size = g := e; omega)).kp k1 (fun e => by omega))
  have Hth := jJ0 (HblkR.out.there 0 (jB DN.1).toArray.size (by rw [List.size_toArray, jD, H32.out]; decide))
  have Hsz := jJ0 (show (Tryz.prog.info? 40).map (·.size) = some (jB DN.1).length by rw [jD, H32.out]; exact Tryz.sizeDigest)
  have Hrg := jJ0 Hblk.out.range
  have Hend := jJ0 (HblkR.out.setWhole (jB DN.1) (by rw [jD, H32.out]; rfl))
  have HkE := jJ0 (show Kp (fun k => k = w.heap.size) w2 (w2.setCells w.heap.size 0 (jB DN.1)) from Kp.setCells _ _ _ _)
  have HRE := jJ0 (HR2.out.kp HkE.out (fun b hb e => by omega))
  have HKE := jJ0 (HK2.out.trans HkE.out (fun b hb e => by omega))
  clear k0 k1 hk hr hrd hav hcap hs2
  go_wp2_with (first | ((with_reducible refine jW 40 (.tmp 3) ?_); refine Tryz.load_w rfl 40 (.tmp 3) rfl (w.heap.size + 1) 0 rfl (jB DN.1) _ Hrg.out Tryz.underlying40 rfl Hsz.out ?_) | refine wpList_store_mid rfl 40 (.tmp 2) (.tmp 8) rfl w.heap.size 0 (jB DN.1).toArray rfl rfl Hth.out Hsz.out (kn _) ?_ | fail)
  refine ret_cell (g := w.heap.size) (cs := (jB DN.1).toArray) rfl rfl Hend.out Tryz.underlying40 rfl (by rw [List.size_toArray]; exact Hsz.out) rfl ?_
  exact ⟨rfl, HRE.out, HKE.out⟩
theorem made_same (z : Array Value) (v : Value) (h0 : 0 < z.size) (h : ∀ i, i < z.size -> z[i]! = v) (n : Nat) : madeCells z n = (List.replicate n v).toArray := by
  apply Array.ext
  · simp [madeCells]
  · intro i h1 h2
    simp only [madeCells, Array.getElem_map, Array.getElem_range]
    rw [h _ (Nat.mod_lt _ h0)]
    simp
theorem zeros_get (i : Nat) (h : i < 32) : zero32.toArray[i]! = Value.int .u8 0 := by
  have : i = 0 \/ i = 1 \/ i = 2 \/ i = 3 \/ i = 4 \/ i = 5 \/ i = 6 \/ i = 7 \/ i = 8 \/ i = 9 \/ i = 10 \/ i = 11 \/ i = 12 \/ i = 13 \/ i = 14 \/ i = 15 \/ i = 16 \/ i = 17 \/ i = 18 \/ i = 19 \/ i = 20 \/ i = 21 \/ i = 22 \/ i = 23 \/ i = 24 \/ i = 25 \/ i = 26 \/ i = 27 \/ i = 28 \/ i = 29 \/ i = 30 \/ i = 31 := by omega
  rcases this with rfl | rfl | rfl | rfl | rfl | rfl | rfl | rfl | rfl | rfl | rfl | rfl | rfl | rfl | rfl | rfl | rfl | rfl | rfl | rfl | rfl | rfl | rfl | rfl | rfl | rfl | rfl | rfl | rfl | rfl | rfl | rfl <;> rfl
theorem rep_zD : ∀ n, (List.replicate n zD).flatMap jB = List.replicate (n * 32) (Value.int .u8 0)
  | 0 => rfl
  | n + 1 => by
    rw [List.replicate_succ, List.flatMap_cons, rep_zD n, zD_cells, show (n + 1) * 32 = 32 + n * 32 by omega, <- List.replicate_append_replicate]
    rfl
theorem Tryz.infoDig2 : (Tryz.prog.info? 40).map (fun i => (i.zero, i.size, i.bytes)) = some (some (.agg zero32.toArray), 32, 32) := by kernel_rfl
theorem Tryz.make_digs (n : Nat) (hn : n <= 100000000000) (W : World) :
    (Instr.makeSlice 49 (.int .i64 (n : Int)) (.int .i64 (n : Int))).run Tryz.prog W = .ok (.slice (some ⟨W.heap.size, 0, none⟩) n n) (W.alloc (.cells ((List.replicate n zD).flatMap jB).toArray 40)) := by
  obtain ⟨i, hi, hz0, hz1, hz2⟩ := info_parts Tryz.infoDig2
  have hr := run_make (P := Tryz.prog) W 49 40 i _ Tryz.underlying49 hi hz0 .i64 .i64 n n (by omega) (by omega) (by rw [hz2]; omega) (by omega)
  simp only [Int.toNat_natCast, hz1] at hr
  rw [hr, rep_zD]
  have e : (Value.agg zero32.toArray).cells = zero32.toArray := rfl
  rw [e, made_same _ (.int .u8 0) (by decide) (fun i h => zeros_get i h)]
def chunk (bs : List UInt8) (p i : Nat) : List UInt8 := (bs.drop (p + 32 * i)).take 32
def yF (bs : List UInt8) (p n : Nat) : List (List UInt8) := (List.range n).map (chunk bs p)
theorem digsL_len (bs : List UInt8) (p n : Nat) : (yF bs p n).length = n := by simp [yF]
theorem chunk_len {bs : List UInt8} {p n i : Nat} (h : p + 32 * n <= bs.length) (hi : i < n) : (chunk bs p i).length = 32 := by
  simp only [chunk, List.length_take, List.length_drop]; omega
theorem digsL_dgs {bs : List UInt8} {p n : Nat} (h : p + 32 * n <= bs.length) : Dgs (yF bs p n) := by
  intro d hd
  obtain ⟨i, hi, rfl⟩ := List.mem_map.1 hd
  exact chunk_len h (List.mem_range.1 hi)
theorem digN_chunk {bs : List UInt8} {p n k : Nat} (h : p + 32 * n <= bs.length) (hk : k < n) : digN bs ⟨p + 32 * k, 0⟩ = (chunk bs p k, ⟨p + 32 * (k + 1), 0⟩) := by
  have hc := chunk_len h hk
  have e : rawN bs 32 ⟨p + 32 * k, 0⟩ = (chunk bs p k, ⟨p + 32 * (k + 1), 0⟩) := by
    simp only [rawN]
    rw [if_neg (by simp), if_neg (by omega)]
    rfl
  unfold digN
  rw [e, if_neg (by intro e'; simp only at e'; rw [e'] at hc; simp at hc)]
def vX (bs : List UInt8) (n : Int) (s : Rs) : List (List UInt8) × Rs :=
  if s.why ≠ 0 then ([], s) else if n < 0 \/ (((bs.length - s.at_) / 32 : Nat) : Int) < n then ([], ⟨s.at_, 8⟩) else (yF bs s.at_ n.toNat, ⟨s.at_ + 32 * n.toNat, 0⟩)
def TookD (w : World) (g : Nat) (bs : List UInt8) (l : List (List UInt8)) (s : Rs) (e : Ending) (w' : World) : Prop :=
  ∃ A c, e = .returned (.slice A l.length c) /\ Rd w' 32 A l.length (l.flatMap jB) /\ Av (fun k => k < w.heap.size) l.length A /\ l.length <= c /\ Rr w' g bs s /\ Kp (RX g) w w'
theorem TookD.none_ {w w' : World} {g : Nat} {bs : List UInt8} {s : Rs} (h : Rr w' g bs s) (hk : Kp (RX g) w w') : TookD w g bs [] s (.returned (.slice none 0 0)) w' :=
  ⟨none, 0, rfl, Rd.none_, fun h => absurd h (by simp), Nat.le_refl _, h, hk⟩
def fillD (bs : List UInt8) (p n k : Nat) : List Value := (yF bs p k ++ List.replicate (n - k) zD).flatMap jB
theorem fillD_zero (bs : List UInt8) (p n : Nat) : fillD bs p n 0 = (List.replicate n zD).flatMap jB := by simp [fillD, yF]
theorem fillD_full (bs : List UInt8) (p n : Nat) : fillD bs p n n = (yF bs p n).flatMap jB := by simp [fillD]
theorem digsL_cells {bs : List UInt8} {p n k : Nat} (h : p + 32 * n <= bs.length) (hk : k <= n) : ((yF bs p k).flatMap jB).length = k * 32 := by
  rw [vG jB 32 _ ((digsL_dgs (n := k) (by omega)).cells), digsL_len]
theorem fillD_parts {bs : List UInt8} {p n k : Nat} (hk : k < n) : fillD bs p n k = (yF bs p k).flatMap jB ++ (jB zD ++ (List.replicate (n - (k + 1)) zD).flatMap jB) := by
  obtain ⟨m, hm⟩ : ∃ m, n - k = m + 1 := ⟨n - k - 1, by omega⟩
  rw [fillD, hm, List.replicate_succ, show n - (k + 1) = m by omega, List.flatMap_append, List.flatMap_cons]
theorem fillD_next {bs : List UInt8} {p n k : Nat} : fillD bs p n (k + 1) = (yF bs p k).flatMap jB ++ (jB (chunk bs p k) ++ (List.replicate (n - (k + 1)) zD).flatMap jB) := by
  rw [fillD, List.flatMap_append]
  have : yF bs p (k + 1) = yF bs p k ++ [chunk bs p k] := by simp [yF, List.range_succ]
  rw [this, List.flatMap_append, List.append_assoc, List.flatMap_singleton]
theorem fillD_len {bs : List UInt8} {p n k : Nat} (h : p + 32 * n <= bs.length) (hk : k <= n) : (fillD bs p n k).length = n * 32 := by
  rw [fillD, List.flatMap_append, List.length_append, digsL_cells h hk, rep_zD, List.length_replicate, <- Nat.add_mul]
  congr 1
  omega
theorem Blk.fillD {w : World} {L : Nat} {bs : List UInt8} {p n k : Nat} (h : Blk w L 40 (Go.Proofs.YtnaolhjbapgjgaaGreat.fillD bs p n k).toArray) (hp : p + 32 * n <= bs.length) (hk : k < n) :
    Blk (w.setCells L (k * 32) (jB (chunk bs p k))) L 40 (Go.Proofs.YtnaolhjbapgjgaaGreat.fillD bs p n (k + 1)).toArray := by
  rw [fillD_parts hk] at h
  have h2 := Blk.setCells h (jB (chunk bs p k)) (by rw [jD, jD, chunk_len hp hk, kg])
  rw [digsL_cells hp (by omega)] at h2
  rw [fillD_next]
  exact h2
structure DigsAt (w : World) (g L : Nat) (bs : List UInt8) (p n k : Nat) (wr : World) : Prop where
  le : k <= n
  blk : Blk wr L 40 (fillD bs p n k).toArray
  rr : Rr wr g bs ⟨p + 32 * k, 0⟩
  kp : Kp (RX g) w wr
theorem rdigs_any (w : World) (g : Nat) (bs : List UInt8) (n : Int) (s : Rs) (h : Rr w g bs s) (hi : n <= 9223372036854775807) :
    Calls Tryz.prog 144 #[.pointer (some ⟨g, 0, none⟩), .int .i64 n] w (TookD w g bs (vX bs n s).1 (vX bs n s).2) := by
  obtain ⟨p, y⟩ := s
  have hfit := h.fits
  have hgl := h.lt
  have Hh := jJ0 h
  obtain ⟨A, c, hb, hr, ha, hc, hs, hl⟩ := h
  have HO := jJ0 ((Kp.refl NoX w).alloc (.cells zero32.toArray 40))
  have Hb1 := jJ0 (hb.old HO.out)
  unfold zero32 at HO Hb1
  have Hd := jJ0 (show vX bs n ⟨p, y⟩ = if y ≠ 0 then ([], ⟨p, y⟩) else if n < 0 \/ (((bs.length - p) / 32 : Nat) : Int) < n then ([], ⟨p, 8⟩) else (yF bs p n.toNat, ⟨p + 32 * n.toNat, 0⟩) from rfl)
  generalize vX bs n ⟨p, y⟩ = DN at *
  clear hr ha hb hc
  simp only at hs hfit
  by_cases hy : y = 0
  case neg =>
    have Hn := jJ0 (show DN = ([], ⟨p, y⟩) by rw [Hd.out, if_pos hy])
    have hy' : (y != 0) = true := by simpa using hy
    have HR1 := jJ0 (Hh.out.old HO.out)
    have HK1 := jJ0 (HO.out.mono (Y := RX g) (fun _ _ f => f.elim))
    clear hy Hd
    have c2 := Hh.out.why
    simp only at c2
    go_enter Tryz.func144, Tryz.ntmps144
    go_wp2
    go_ret
    rw [Hn.out]
    exact TookD.none_ HR1.out HK1.out
  subst hy
  rw [if_neg (by simp)] at Hd
  have c2 := Hh.out.why
  simp only at c2
  have c0 := Hb1.out.at_ 0 (v := .slice A bs.length c) rfl
  have c1 := Hb1.out.at_ 1 (v := .int .i64 p) rfl
  have c2' := Hb1.out.at_ 2 (v := .int .i64 0) rfl
  have Hc2 := jJ0 c2'
  have Hc0 := jJ0 c0
  have Hc1 := jJ0 c1
  clear c0 c1 c2'
  have q1 : IntKind.i64.wrap ((bs.length : Int) - (p : Int)) = (bs.length : Int) - (p : Int) := IntWalk.i64_in _ (by omega)
  have q2 : ((bs.length : Int) - (p : Int)) = ((bs.length - p : Nat) : Int) := by omega
  go_enter Tryz.func144, Tryz.ntmps144
  go_wp2_with fail
  generalize w.alloc _ = W at *
  have c0 := Hc0.out
  have c1 := Hc1.out
  by_cases h0 : n < 0
  · have hd : decide (n < 0) = true := by simpa using h0
    have Hno := jJ0 (show DN = ([], ⟨p, 8⟩) by rw [Hd.out, if_pos (.inl h0)])
    clear q2 Hd
    go_quiet (fail)
    clear q1
    go_wp2_with fail
    refine (jp _ g bs ⟨p, 0⟩ 8 ((Hh.out.old HO.out).old ((Kp.refl _ _).drewN _)) rfl).mono ?_
    rintro e w1 ⟨rfl, hr1, hk1⟩
    go_wp2
    go_ret
    rw [Hno.out]
    exact TookD.none_ hr1 (((HO.out.drewN _).mono (Y := RX g) (fun _ _ f => f.elim)).trans hk1 (fun _ _ h => h))
  · have hd : decide (n < 0) = false := by simpa using h0
    obtain ⟨m, rfl⟩ := Int.eq_ofNat_of_zero_le (show 0 <= n by omega)
    by_cases h1 : (bs.length - p) / 32 < m
    · have Hno := jJ0 (show DN = ([], ⟨p, 8⟩) by rw [Hd.out, if_pos (.inr (by omega))])
      have q4 : ((bs.length : Int) - (p : Int)).tdiv 32 = (((bs.length - p) / 32 : Nat) : Int) := by
        rw [q2, Int.tdiv_eq_ediv_of_nonneg (by omega)]
        omega
      have q3 : (((bs.length - p) / 32 : Nat) : Int) < (m : Int) := by omega
      clear q2 Hd
      go_quiet (fail)
      clear q1 q4
      go_wp2_with fail
      refine (jp _ g bs ⟨p, 0⟩ 8 ((Hh.out.old HO.out).old ((Kp.refl _ _).drewN _)) rfl).mono ?_
      rintro e w1 ⟨rfl, hr1, hk1⟩
      go_wp2
      go_ret
      rw [Hno.out]
      exact TookD.none_ hr1 (((HO.out.drewN _).mono (Y := RX g) (fun _ _ f => f.elim)).trans hk1 (fun _ _ h => h))
    · have Hyes := jJ0 (show DN = (yF bs p m, ⟨p + 32 * m, 0⟩) by rw [Hd.out, if_neg (by omega)]; rfl)
      have q4 : ((bs.length : Int) - (p : Int)).tdiv 32 = (((bs.length - p) / 32 : Nat) : Int) := by
        rw [q2, Int.tdiv_eq_ediv_of_nonneg (by omega)]
        omega
      have q3 : ¬ (((bs.length - p) / 32 : Nat) : Int) < (m : Int) := by omega
      have Hfit := jJ0 (show p + 32 * m <= bs.length by omega)
      have hm : m <= 100000000 := by omega
      have Hmk := jJ0 (Tryz.make_digs m (by omega))
      clear q2 Hd
      go_quiet (fail)
      clear q1 q4 q3
      have hmk := Hmk.out
      go_wp2_with fail
      have Hat := jJ0 (show DigsAt w g W.heap.size bs p m 0 ((W.drewN nq).alloc (.cells ((List.replicate m zD).flatMap jB).toArray 40)) from
        ⟨by omega, by rw [fillD_zero]; exact Blk.new _ _ _, (Hh.out.old HO.out).old (((Kp.refl NoX W).drewN _).alloc _), ((HO.out.drewN _).alloc _).mono (fun _ _ f => f.elim)⟩)
      have hWg : w.heap.size <= W.heap.size := HO.out.size
      generalize ((W.drewN nq).alloc _) = W2 at *
      generalize hLL : W.heap.size = L at *
      clear c0 c1 c2 hmk Hmk Hc0 Hc1 Hc2 Hb1 hLL
      go_loopw [36, 7] (fun i _ wr => ∃ k : Nat, i = .int .i64 k /\ DigsAt w g L bs p m k wr) (fun i _ _ => m - (intOf i).toNat)
      case atStart => exact ⟨0, rfl, Hat.out⟩
      case round =>
        obtain ⟨k, rfl, hat⟩ := hrel
        have HA := jJ0 hat
        have hkm := hat.le
        clear hat Hat
        by_cases hlt : k < m
        · have HDg := jJ0 (fun W' (hR : Rr W' g bs ⟨p + 32 * k, 0⟩) => vT W' g bs ⟨p + 32 * k, 0⟩ hR)
          rw [digN_chunk Hfit.out hlt] at HDg
          simp only at HDg
          have b1 : (0 : Int) <= (k : Int) := by omega
          have b2 : (k : Int) < (m : Int) := by omega
          have b3 : (k : Int).toNat = k := by omega
          have hc32 := chunk_len Hfit.out hlt
          have Hc32 := jJ0 hc32
          clear hc32
          go_wp2_with fail
          refine (HDg.out _ HA.out.rr).mono ?_
          rintro e w1 ⟨rfl, hr1, hk1⟩
          have Hb := jJ0 (HA.out.blk.kp hk1 (show ¬ RX g L from fun e => by have : L = g := e; omega))
          have Hth := jJ0 (Hb.out.there (k * 32) (jB (chunk bs p k)).toArray.size (by rw [List.size_toArray, List.size_toArray, jD, Hc32.out, fillD_len Hfit.out (by omega)]; omega))
          have Hsz := jJ0 (show (Tryz.prog.info? 40).map (·.size) = some (jB (chunk bs p k)).length by rw [jD, Hc32.out]; exact Tryz.sizeDigest)
          have Hnext := jJ0 (show DigsAt w g L bs p m (k + 1) (w1.setCells L (k * 32) (jB (chunk bs p k))) from
            ⟨by omega, Hb.out.fillD Hfit.out hlt, hr1.kp (Kp.setCells _ _ _ _) (fun b hb e => by omega), (HA.out.kp.trans hk1 (fun _ _ e => e)).trans (Kp.setCells _ _ _ _) (fun b hb e => by omega)⟩)
          clear hr1 hk1
          go_wp2_with (first | refine wpList_store_mid rfl 40 (.tmp 43) (.tmp 42) rfl L (k * 32) (jB (chunk bs p k)).toArray rfl rfl Hth.out Hsz.out (kn _) ?_ | fail)
          go_roundw
          case rel => exact ⟨k + 1, by go_num, Hnext.out⟩
          case measure => simp [intOf]; omega
        · obtain rfl : k = m := by omega
          go_wp2
          go_ret
          rw [Hyes.out]
          have hb := HA.out.blk
          rw [fillD_full] at hb
          refine ⟨some ⟨L, 0, none⟩, k, kR (by rw [digsL_len]; rfl), ?_, ?_, by rw [digsL_len]; omega, HA.out.rr, HA.out.kp⟩
          · refine ⟨by rw [digsL_cells Hfit.out (Nat.le_refl _), digsL_len], fun _ => ⟨L, 0, rfl, fun j u hu => ?_⟩⟩
            exact hb.range j u hu
          · intro _ ad e hlt
            injection e with e
            subst e
            simp only at hlt
            omega
def jh : Val := ⟨0, 0, ByteArray.empty, []⟩
def i64 (n : Nat) : Int := wrap64 (n : Int)
def kX (bs : List UInt8) (k : Nat) (s : Rs) : Val × Rs :=
  if k = 1 \/ k = 4 then (⟨k, i64 (tkN bs 8 s).1, ByteArray.empty, []⟩, (tkN bs 8 s).2)
  else if k = 2 then (⟨2, if (kO bs s).1 then 1 else 0, ByteArray.empty, []⟩, (kO bs s).2)
  else if k = 3 then (⟨3, 0, ⟨(va bs 1024 s).1.toArray⟩, []⟩, (va bs 1024 s).2)
  else if k = 5 then (⟨5, 0, ByteArray.empty, (kY bs 64 1024 s).1⟩, (kY bs 64 1024 s).2)
  else (⟨k, 0, ByteArray.empty, []⟩, s)
def kN (vs : Val × Rs) : Val × Rs :=
  if vs.2.why ≠ 0 then (jh, vs.2) else if jP vs.1 ≠ 0 then (jh, ⟨vs.2.at_, 8⟩) else vs
def jN (bs : List UInt8) (s : Rs) : Val × Rs := kN (kX bs (tkN bs 1 s).1 (tkN bs 1 s).2)
def TookV (w : World) (g : Nat) (bs : List UInt8) (vs : Val × Rs) (e : Ending) (w' : World) : Prop :=
  ∃ A c, e = .returned (.tuple #[vV vs.1 A c, .int .i64 vs.2.why]) /\ Rd w' 1 A vs.1.s.length (vs.1.s.map sv) /\ Av (fun k => k < w.heap.size) vs.1.s.length A /\ vs.1.s.length <= c /\ Rr w' g bs vs.2 /\ Kp (RX g) w w'
theorem kE (bs : List UInt8) (k : Nat) (s : Rs) : (tkN bs k s).1 < 256 ^ k := by
  unfold tkN
  split
  · exact Nat.pow_pos (by decide)
  · split
    · exact jt _ _
    · exact Nat.pow_pos (by decide)
theorem takev_0 (w : World) (g : Nat) (bs : List UInt8) (s : Rs) (h : Rr w g bs s) (hk : (tkN bs 1 s).1 = 0) :
    Calls Tryz.prog 85 #[.pointer (some ⟨g, 0, none⟩)] w (TookV w g bs (jN bs s)) := by
  have HT := jJ0 (show jN bs s = kN (kX bs 0 (tkN bs 1 s).2) by rw [jN, hk])
  generalize jN bs s = TV at HT ⊢
  have hgl := h.lt
  have Hk := jJ0 hk
  clear hk
  go_enter Tryz.func85, Tryz.ntmps85
  go_wp2_with fail
  refine (jQ _ g bs s (h.old ((Kp.refl NoX w).alloc _))).mono ?_
  rintro e w1 ⟨rfl, hr1, hk1⟩
  rw [Hk.out]
  have hbR := (Blk.new w 29 #[.int .i64 0, .int .i64 0, .string ⟨#[]⟩, .slice none 0 0]).kp hk1 (show ¬ RX g w.heap.size from fun e => by have : w.heap.size = g := e; omega)
  have hkk : Kp (RX g) w w1 := ((Kp.refl (RX g) w).alloc _).trans hk1 (fun _ _ h => h)
  generalize (tkN bs 1 s).2 = s1 at *
  clear hk1
  have hbV := Blk.new w1 29 #[.int .i64 0, .int .i64 0, .string ⟨#[]⟩, .slice none 0 0]
  have hr2 := hr1.old ((Kp.refl NoX w1).alloc (.cells #[.int .i64 0, .int .i64 0, .string ⟨#[]⟩, .slice none 0 0] 29))
  have hbR2 := hbR.alloc (.cells #[.int .i64 0, .int .i64 0, .string ⟨#[]⟩, .slice none 0 0] 29)
  have hkk2 := hkk.alloc (.cells #[.int .i64 0, .int .i64 0, .string ⟨#[]⟩, .slice none 0 0] 29)
  have hw1 := hkk.size
  have hRlt : w.heap.size < w1.heap.size := hbR.lt
  have Hkv := jJ0 (show kX bs 0 s1 = ((⟨0, 0, ⟨#[]⟩, []⟩ : Val), s1) by simp [kX]; rfl)
  have hrz := hr2
  have hbVz := hbV
  have hbRz := hbR2
  have hkz := hkk2
  generalize s1 = sz at *
  clear hr2 hbV hbR2 hkk2
  go_wp2_with fail
  generalize hwz : w1.alloc (.cells #[.int .i64 0, .int .i64 0, .string ⟨#[]⟩, .slice none 0 0] 29) = wz at *
  clear hwz
  have HV := jJ0 (show TV = kN ((⟨0, 0, ⟨#[]⟩, []⟩ : Val), sz) from HT.out.trans (by rw [Hkv.out]))
  clear HT Hkv
  have u0 := hbVz.at_ 0 rfl
  have u1 := hbVz.at_ 1 rfl
  have u2 := hbVz.at_ 2 rfl
  have u3 := hbVz.at_ 3 rfl
  have v0 := hbRz.at_ 0 rfl
  have v1 := hbRz.at_ 1 rfl
  have v2 := hbRz.at_ 2 rfl
  have v3 := hbRz.at_ 3 rfl
  have y0 := hbRz.frozen 0
  have y1 := hbRz.frozen 1
  have y2 := hbRz.frozen 2
  have y3 := hbRz.frozen 3
  have hne : w.heap.size ≠ w1.heap.size := by omega
  obtain ⟨pz, yz⟩ := sz
  by_cases hyz : yz = 0
  case neg =>
    have hV : TV = (jh, ⟨pz, yz⟩) := by rw [HV.out, kN, if_pos hyz]
    have HV2 := jJ0 hV
    have hyz1 : (yz == 0) = false := beq_eq_false_iff_ne.2 hyz
    have hyz2 : (yz != 0) = true := by simpa using hyz
    clear hV hyz
    go_wp2_with fail
    refine (jR _ g bs ⟨pz, yz⟩ hrz).mono ?_
    rintro e w' ⟨rfl, rfl⟩
    go_wp2_with fail
    refine (jR _ g bs ⟨pz, yz⟩ hrz).mono ?_
    rintro e w' ⟨rfl, rfl⟩
    go_wp2
    rw [HV2.out]
    refine jA rfl rfl ((((hbRz.set_ 0 _).set_ 1 _).set_ 2 _).set_ 3 _) Tryz.underlying29 rfl (by kernel_rfl) rfl ?_
    refine ⟨none, 0, rfl, Rd.none_, fun h => absurd h (by simp [jh]), Nat.le_refl _, ?_, ?_⟩
    · exact (((hrz.set (p := ⟨w.heap.size, 0, none⟩) hgl _).set (p := ⟨w.heap.size, 1, none⟩) hgl _).set (p := ⟨w.heap.size, 2, none⟩) hgl _).set (p := ⟨w.heap.size, 3, none⟩) hgl _
    · exact (((hkz.setCell (p := ⟨w.heap.size, 0, none⟩) (fun h => absurd h (Nat.lt_irrefl _)) _).setCell (p := ⟨w.heap.size, 1, none⟩) (fun h => absurd h (Nat.lt_irrefl _)) _).setCell (p := ⟨w.heap.size, 2, none⟩) (fun h => absurd h (Nat.lt_irrefl _)) _).setCell (p := ⟨w.heap.size, 3, none⟩) (fun h => absurd h (Nat.lt_irrefl _)) _
  subst hyz
  have hrdz : Rd wz 1 none ((⟨0, 0, ⟨#[]⟩, []⟩ : Val)).s.length (((⟨0, 0, ⟨#[]⟩, []⟩ : Val)).s.map sv) := Rd.none_
  have hcapz : ((⟨0, 0, ⟨#[]⟩, []⟩ : Val)).s.length <= 0 := Nat.le_refl _
  have hbigz : ((⟨0, 0, ⟨#[]⟩, []⟩ : Val)).s.length <= 1000000000000 := (by simp)
  have Hav := jJ0 (show Av (fun k => k < w.heap.size) ((⟨0, 0, ⟨#[]⟩, []⟩ : Val)).s.length none from (fun h => absurd h (by simp)))
  by_cases hR : jP (⟨0, 0, ⟨#[]⟩, []⟩ : Val) = 0
  · have hV : TV = ((⟨0, 0, ⟨#[]⟩, []⟩ : Val), ⟨pz, 0⟩) := by rw [HV.out, kN, if_neg (by simp), if_neg (by simpa using hR)]
    have HV2 := jJ0 hV
    have HRt := jJ0 (ji (⟨0, 0, ⟨#[]⟩, []⟩ : Val) none 0 wz hrdz hcapz hbigz)
    rw [hR] at HRt
    clear hV hR
    go_wp2_with fail
    refine (jR _ g bs ⟨pz, 0⟩ hrz).mono ?_
    rintro e w' ⟨rfl, rfl⟩
    go_wp2_with fail
    refine HRt.out.mono ?_
    rintro e w3 ⟨rfl, ho3⟩
    have hrz3 := hrz.old ho3
    have hbRz3 := hbRz.old ho3
    have hbVz3 := hbVz.old ho3
    have hkz3 := hkz.old ho3
    have hrdz3 := hrdz.old ho3
    have s0 := hbVz3.at_ 0 rfl
    have s1 := hbVz3.at_ 1 rfl
    have s2 := hbVz3.at_ 2 rfl
    have s3 := hbVz3.at_ 3 rfl
    have t0 := hbRz3.at_ 0 rfl
    have t1 := hbRz3.at_ 1 rfl
    have t2 := hbRz3.at_ 2 rfl
    have t3 := hbRz3.at_ 3 rfl
    have r0 := hbRz3.frozen 0
    have r1 := hbRz3.frozen 1
    have r2 := hbRz3.frozen 2
    have r3 := hbRz3.frozen 3
    go_wp2_with fail
    refine (jR _ g bs ⟨pz, 0⟩ hrz3).mono ?_
    rintro e w' ⟨rfl, rfl⟩
    go_wp2
    rw [HV2.out]
    refine jA rfl rfl ((((hbRz3.set_ 0 _).set_ 1 _).set_ 2 _).set_ 3 _) Tryz.underlying29 rfl (by kernel_rfl) rfl ?_
    have hks : Kp (fun k => k = w.heap.size) w3 ((((w3.setCell ⟨w.heap.size, 0, none⟩ (.int .i64 0)).setCell ⟨w.heap.size, 1, none⟩ (.int .i64 0)).setCell ⟨w.heap.size, 2, none⟩ (.string ⟨#[]⟩)).setCell ⟨w.heap.size, 3, none⟩ (.slice none ((⟨0, 0, ⟨#[]⟩, []⟩ : Val)).s.length 0)) := ((((Kp.refl (fun k => k = w.heap.size) _).setCell (p := ⟨w.heap.size, 0, none⟩) (fun _ => rfl) _).setCell (p := ⟨w.heap.size, 1, none⟩) (fun _ => rfl) _).setCell (p := ⟨w.heap.size, 2, none⟩) (fun _ => rfl) _).setCell (p := ⟨w.heap.size, 3, none⟩) (fun _ => rfl) _
    refine ⟨none, 0, rfl, ?_, Hav.out, hcapz, ?_, ?_⟩
    · exact hrdz3.kp hks (fun h => absurd h (by simp))
    · exact (((hrz3.set (p := ⟨w.heap.size, 0, none⟩) hgl _).set (p := ⟨w.heap.size, 1, none⟩) hgl _).set (p := ⟨w.heap.size, 2, none⟩) hgl _).set (p := ⟨w.heap.size, 3, none⟩) hgl _
    · exact hkz3.trans hks (fun b hb e => by omega)
  · have hV : TV = (jh, ⟨pz, 8⟩) := by rw [HV.out, kN, if_neg (by simp), if_pos (by simpa using hR)]
    have HV2 := jJ0 hV
    have HRt := jJ0 (ji (⟨0, 0, ⟨#[]⟩, []⟩ : Val) none 0 wz hrdz hcapz hbigz)
    have hRb : (jP (⟨0, 0, ⟨#[]⟩, []⟩ : Val) != 0) = true := by simpa using hR
    generalize jP (⟨0, 0, ⟨#[]⟩, []⟩ : Val) = zz at HRt hRb
    clear hV hR
    go_wp2_with fail
    refine (jR _ g bs ⟨pz, 0⟩ hrz).mono ?_
    rintro e w' ⟨rfl, rfl⟩
    go_wp2_with fail
    refine HRt.out.mono ?_
    rintro e w3 ⟨rfl, ho3⟩
    go_wp2_with fail
    refine (ko _ g bs (-1) ⟨pz, 0⟩ (hrz.old ho3) (by omega)).mono ?_
    rintro e w4 ⟨A4, c4, rfl, _, _, _, hr4, hk4⟩
    rw [show (rawN bs (-1) ⟨pz, 0⟩).2 = ⟨pz, 8⟩ from rfl] at hr4
    have hgne : ¬ RX g w.heap.size := fun e => by have : w.heap.size = g := e; omega
    have hbR4 := (hbRz.old ho3).kp hk4 hgne
    have hkz4 : Kp (RX g) w w4 := (hkz.old ho3).trans hk4 (fun _ _ h => h)
    have t0 := hbR4.at_ 0 rfl
    have t1 := hbR4.at_ 1 rfl
    have t2 := hbR4.at_ 2 rfl
    have t3 := hbR4.at_ 3 rfl
    have r0 := hbR4.frozen 0
    have r1 := hbR4.frozen 1
    have r2 := hbR4.frozen 2
    have r3 := hbR4.frozen 3
    clear hk4 ho3
    go_wp2_with fail
    refine (jR _ g bs ⟨pz, 8⟩ hr4).mono ?_
    rintro e w' ⟨rfl, rfl⟩
    go_wp2
    rw [HV2.out]
    refine jA rfl rfl ((((hbR4.set_ 0 _).set_ 1 _).set_ 2 _).set_ 3 _) Tryz.underlying29 rfl (by kernel_rfl) rfl ?_
    refine ⟨none, 0, rfl, Rd.none_, fun h => absurd h (by simp [jh]), Nat.le_refl _, ?_, ?_⟩
    · exact (((hr4.set (p := ⟨w.heap.size, 0, none⟩) hgl _).set (p := ⟨w.heap.size, 1, none⟩) hgl _).set (p := ⟨w.heap.size, 2, none⟩) hgl _).set (p := ⟨w.heap.size, 3, none⟩) hgl _
    · exact (((hkz4.setCell (p := ⟨w.heap.size, 0, none⟩) (fun h => absurd h (Nat.lt_irrefl _)) _).setCell (p := ⟨w.heap.size, 1, none⟩) (fun h => absurd h (Nat.lt_irrefl _)) _).setCell (p := ⟨w.heap.size, 2, none⟩) (fun h => absurd h (Nat.lt_irrefl _)) _).setCell (p := ⟨w.heap.size, 3, none⟩) (fun h => absurd h (Nat.lt_irrefl _)) _
theorem takev_far (w : World) (g : Nat) (bs : List UInt8) (s : Rs) (h : Rr w g bs s) (k : Nat) (hk : (tkN bs 1 s).1 = k) (hkc : 5 < k) :
    Calls Tryz.prog 85 #[.pointer (some ⟨g, 0, none⟩)] w (TookV w g bs (jN bs s)) := by
  have HT := jJ0 (show jN bs s = kN (kX bs k (tkN bs 1 s).2) by rw [jN, hk])
  generalize jN bs s = TV at HT ⊢
  have hgl := h.lt
  have Hk := jJ0 hk
  clear hk
  go_enter Tryz.func85, Tryz.ntmps85
  go_wp2_with fail
  refine (jQ _ g bs s (h.old ((Kp.refl NoX w).alloc _))).mono ?_
  rintro e w1 ⟨rfl, hr1, hk1⟩
  rw [Hk.out]
  have hbR := (Blk.new w 29 #[.int .i64 0, .int .i64 0, .string ⟨#[]⟩, .slice none 0 0]).kp hk1 (show ¬ RX g w.heap.size from fun e => by have : w.heap.size = g := e; omega)
  have hkk : Kp (RX g) w w1 := ((Kp.refl (RX g) w).alloc _).trans hk1 (fun _ _ h => h)
  have hk255 : (k : Int) <= 255 := by have h1 := kE bs 1 s; rw [Hk.out] at h1; omega
  generalize (tkN bs 1 s).2 = s1 at *
  clear hk1
  have hbV := Blk.new w1 29 #[.int .i64 (k : Int), .int .i64 0, .string ⟨#[]⟩, .slice none 0 0]
  have hr2 := hr1.old ((Kp.refl NoX w1).alloc (.cells #[.int .i64 (k : Int), .int .i64 0, .string ⟨#[]⟩, .slice none 0 0] 29))
  have hbR2 := hbR.alloc (.cells #[.int .i64 (k : Int), .int .i64 0, .string ⟨#[]⟩, .slice none 0 0] 29)
  have hkk2 := hkk.alloc (.cells #[.int .i64 (k : Int), .int .i64 0, .string ⟨#[]⟩, .slice none 0 0] 29)
  have hw1 := hkk.size
  have hRlt : w.heap.size < w1.heap.size := hbR.lt
  have Hkv := jJ0 (show kX bs k s1 = ((⟨(k : Int), 0, ⟨#[]⟩, []⟩ : Val), s1) by rw [kX, if_neg (by omega), if_neg (by omega), if_neg (by omega), if_neg (by omega)]; rfl)
  have hrz := hr2
  have hbVz := hbV
  have hbRz := hbR2
  have hkz := hkk2
  generalize s1 = sz at *
  clear hr2 hbV hbR2 hkk2
  have q0 : ((k : Int) == 0) = false := beq_eq_false_iff_ne.2 (by omega)
  have q1 : ((k : Int) == 1) = false := beq_eq_false_iff_ne.2 (by omega)
  have q2 : ((k : Int) == 2) = false := beq_eq_false_iff_ne.2 (by omega)
  have q3 : ((k : Int) == 3) = false := beq_eq_false_iff_ne.2 (by omega)
  have q4 : ((k : Int) == 4) = false := beq_eq_false_iff_ne.2 (by omega)
  have q5 : ((k : Int) == 5) = false := beq_eq_false_iff_ne.2 (by omega)
  go_wp2_with fail
  generalize hwz : w1.alloc (.cells #[.int .i64 (k : Int), .int .i64 0, .string ⟨#[]⟩, .slice none 0 0] 29) = wz at *
  clear hwz
  have HV := jJ0 (show TV = kN ((⟨(k : Int), 0, ⟨#[]⟩, []⟩ : Val), sz) from HT.out.trans (by rw [Hkv.out]))
  clear HT Hkv
  have u0 := hbVz.at_ 0 rfl
  have u1 := hbVz.at_ 1 rfl
  have u2 := hbVz.at_ 2 rfl
  have u3 := hbVz.at_ 3 rfl
  have v0 := hbRz.at_ 0 rfl
  have v1 := hbRz.at_ 1 rfl
  have v2 := hbRz.at_ 2 rfl
  have v3 := hbRz.at_ 3 rfl
  have y0 := hbRz.frozen 0
  have y1 := hbRz.frozen 1
  have y2 := hbRz.frozen 2
  have y3 := hbRz.frozen 3
  have hne : w.heap.size ≠ w1.heap.size := by omega
  obtain ⟨pz, yz⟩ := sz
  by_cases hyz : yz = 0
  case neg =>
    have hV : TV = (jh, ⟨pz, yz⟩) := by rw [HV.out, kN, if_pos hyz]
    have HV2 := jJ0 hV
    have hyz1 : (yz == 0) = false := beq_eq_false_iff_ne.2 hyz
    have hyz2 : (yz != 0) = true := by simpa using hyz
    clear hV hyz
    go_wp2_with fail
    refine (jR _ g bs ⟨pz, yz⟩ hrz).mono ?_
    rintro e w' ⟨rfl, rfl⟩
    go_wp2_with fail
    refine (jR _ g bs ⟨pz, yz⟩ hrz).mono ?_
    rintro e w' ⟨rfl, rfl⟩
    go_wp2
    rw [HV2.out]
    refine jA rfl rfl ((((hbRz.set_ 0 _).set_ 1 _).set_ 2 _).set_ 3 _) Tryz.underlying29 rfl (by kernel_rfl) rfl ?_
    refine ⟨none, 0, rfl, Rd.none_, fun h => absurd h (by simp [jh]), Nat.le_refl _, ?_, ?_⟩
    · exact (((hrz.set (p := ⟨w.heap.size, 0, none⟩) hgl _).set (p := ⟨w.heap.size, 1, none⟩) hgl _).set (p := ⟨w.heap.size, 2, none⟩) hgl _).set (p := ⟨w.heap.size, 3, none⟩) hgl _
    · exact (((hkz.setCell (p := ⟨w.heap.size, 0, none⟩) (fun h => absurd h (Nat.lt_irrefl _)) _).setCell (p := ⟨w.heap.size, 1, none⟩) (fun h => absurd h (Nat.lt_irrefl _)) _).setCell (p := ⟨w.heap.size, 2, none⟩) (fun h => absurd h (Nat.lt_irrefl _)) _).setCell (p := ⟨w.heap.size, 3, none⟩) (fun h => absurd h (Nat.lt_irrefl _)) _
  subst hyz
  have hrdz : Rd wz 1 none ((⟨(k : Int), 0, ⟨#[]⟩, []⟩ : Val)).s.length (((⟨(k : Int), 0, ⟨#[]⟩, []⟩ : Val)).s.map sv) := Rd.none_
  have hcapz : ((⟨(k : Int), 0, ⟨#[]⟩, []⟩ : Val)).s.length <= 0 := Nat.le_refl _
  have hbigz : ((⟨(k : Int), 0, ⟨#[]⟩, []⟩ : Val)).s.length <= 1000000000000 := (by simp)
  have Hav := jJ0 (show Av (fun k => k < w.heap.size) ((⟨(k : Int), 0, ⟨#[]⟩, []⟩ : Val)).s.length none from (fun h => absurd h (by simp)))
  by_cases hR : jP (⟨(k : Int), 0, ⟨#[]⟩, []⟩ : Val) = 0
  · have hV : TV = ((⟨(k : Int), 0, ⟨#[]⟩, []⟩ : Val), ⟨pz, 0⟩) := by rw [HV.out, kN, if_neg (by simp), if_neg (by simpa using hR)]
    have HV2 := jJ0 hV
    have HRt := jJ0 (ji (⟨(k : Int), 0, ⟨#[]⟩, []⟩ : Val) none 0 wz hrdz hcapz hbigz)
    rw [hR] at HRt
    clear hV hR
    go_wp2_with fail
    refine (jR _ g bs ⟨pz, 0⟩ hrz).mono ?_
    rintro e w' ⟨rfl, rfl⟩
    go_wp2_with fail
    refine HRt.out.mono ?_
    rintro e w3 ⟨rfl, ho3⟩
    have hrz3 := hrz.old ho3
    have hbRz3 := hbRz.old ho3
    have hbVz3 := hbVz.old ho3
    have hkz3 := hkz.old ho3
    have hrdz3 := hrdz.old ho3
    have s0 := hbVz3.at_ 0 rfl
    have s1 := hbVz3.at_ 1 rfl
    have s2 := hbVz3.at_ 2 rfl
    have s3 := hbVz3.at_ 3 rfl
    have t0 := hbRz3.at_ 0 rfl
    have t1 := hbRz3.at_ 1 rfl
    have t2 := hbRz3.at_ 2 rfl
    have t3 := hbRz3.at_ 3 rfl
    have r0 := hbRz3.frozen 0
    have r1 := hbRz3.frozen 1
    have r2 := hbRz3.frozen 2
    have r3 := hbRz3.frozen 3
    go_wp2_with fail
    refine (jR _ g bs ⟨pz, 0⟩ hrz3).mono ?_
    rintro e w' ⟨rfl, rfl⟩
    go_wp2
    rw [HV2.out]
    refine jA rfl rfl ((((hbRz3.set_ 0 _).set_ 1 _).set_ 2 _).set_ 3 _) Tryz.underlying29 rfl (by kernel_rfl) rfl ?_
    have hks : Kp (fun k => k = w.heap.size) w3 ((((w3.setCell ⟨w.heap.size, 0, none⟩ (.int .i64 (k : Int))).setCell ⟨w.heap.size, 1, none⟩ (.int .i64 0)).setCell ⟨w.heap.size, 2, none⟩ (.string ⟨#[]⟩)).setCell ⟨w.heap.size, 3, none⟩ (.slice none ((⟨(k : Int), 0, ⟨#[]⟩, []⟩ : Val)).s.length 0)) := ((((Kp.refl (fun k => k = w.heap.size) _).setCell (p := ⟨w.heap.size, 0, none⟩) (fun _ => rfl) _).setCell (p := ⟨w.heap.size, 1, none⟩) (fun _ => rfl) _).setCell (p := ⟨w.heap.size, 2, none⟩) (fun _ => rfl) _).setCell (p := ⟨w.heap.size, 3, none⟩) (fun _ => rfl) _
    refine ⟨none, 0, rfl, ?_, Hav.out, hcapz, ?_, ?_⟩
    · exact hrdz3.kp hks (fun h => absurd h (by simp))
    · exact (((hrz3.set (p := ⟨w.heap.size, 0, none⟩) hgl _).set (p := ⟨w.heap.size, 1, none⟩) hgl _).set (p := ⟨w.heap.size, 2, none⟩) hgl _).set (p := ⟨w.heap.size, 3, none⟩) hgl _
    · exact hkz3.trans hks (fun b hb e => by omega)
  · have hV : TV = (jh, ⟨pz, 8⟩) := by rw [HV.out, kN, if_neg (by simp), if_pos (by simpa using hR)]
    have HV2 := jJ0 hV
    have HRt := jJ0 (ji (⟨(k : Int), 0, ⟨#[]⟩, []⟩ : Val) none 0 wz hrdz hcapz hbigz)
    have hRb : (jP (⟨(k : Int), 0, ⟨#[]⟩, []⟩ : Val) != 0) = true := by simpa using hR
    generalize jP (⟨(k : Int), 0, ⟨#[]⟩, []⟩ : Val) = zz at HRt hRb
    clear hV hR
    go_wp2_with fail
    refine (jR _ g bs ⟨pz, 0⟩ hrz).mono ?_
    rintro e w' ⟨rfl, rfl⟩
    go_wp2_with fail
    refine HRt.out.mono ?_
    rintro e w3 ⟨rfl, ho3⟩
    go_wp2_with fail
    refine (ko _ g bs (-1) ⟨pz, 0⟩ (hrz.old ho3) (by omega)).mono ?_
    rintro e w4 ⟨A4, c4, rfl, _, _, _, hr4, hk4⟩
    rw [show (rawN bs (-1) ⟨pz, 0⟩).2 = ⟨pz, 8⟩ from rfl] at hr4
    have hgne : ¬ RX g w.heap.size := fun e => by have : w.heap.size = g := e; omega
    have hbR4 := (hbRz.old ho3).kp hk4 hgne
    have hkz4 : Kp (RX g) w w4 := (hkz.old ho3).trans hk4 (fun _ _ h => h)
    have t0 := hbR4.at_ 0 rfl
    have t1 := hbR4.at_ 1 rfl
    have t2 := hbR4.at_ 2 rfl
    have t3 := hbR4.at_ 3 rfl
    have r0 := hbR4.frozen 0
    have r1 := hbR4.frozen 1
    have r2 := hbR4.frozen 2
    have r3 := hbR4.frozen 3
    clear hk4 ho3
    go_wp2_with fail
    refine (jR _ g bs ⟨pz, 8⟩ hr4).mono ?_
    rintro e w' ⟨rfl, rfl⟩
    go_wp2
    rw [HV2.out]
    refine jA rfl rfl ((((hbR4.set_ 0 _).set_ 1 _).set_ 2 _).set_ 3 _) Tryz.underlying29 rfl (by kernel_rfl) rfl ?_
    refine ⟨none, 0, rfl, Rd.none_, fun h => absurd h (by simp [jh]), Nat.le_refl _, ?_, ?_⟩
    · exact (((hr4.set (p := ⟨w.heap.size, 0, none⟩) hgl _).set (p := ⟨w.heap.size, 1, none⟩) hgl _).set (p := ⟨w.heap.size, 2, none⟩) hgl _).set (p := ⟨w.heap.size, 3, none⟩) hgl _
    · exact (((hkz4.setCell (p := ⟨w.heap.size, 0, none⟩) (fun h => absurd h (Nat.lt_irrefl _)) _).setCell (p := ⟨w.heap.size, 1, none⟩) (fun h => absurd h (Nat.lt_irrefl _)) _).setCell (p := ⟨w.heap.size, 2, none⟩) (fun h => absurd h (Nat.lt_irrefl _)) _).setCell (p := ⟨w.heap.size, 3, none⟩) (fun h => absurd h (Nat.lt_irrefl _)) _
end Go.Proofs.YtnaolhjbapgjgaaGreat
