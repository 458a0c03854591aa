import Derived.Test.YtnaolhjbapgjgaaGreatMg01
import Derived.Test.YtnaolhjbapgjgaaGreatMg30
import Derived.Test.YtnaolhjbapgjgaaGreatMg43
import Derived.ChangeSame
set_option maxRecDepth 100000
set_option maxHeartbeats 3200000
namespace Go.Proofs.YtnaolhjbapgjgaaGreat
open Go.RowKit Go.ChangeShapes
theorem jT (cs : List Value) (o k : Nat) : (cs.drop o).take k ++ cs.drop (o + k) = cs.drop o := by
  rw [<- List.drop_drop]
  exact List.take_append_drop _ _
theorem flatN (k : Nat) (hk : 0 < k) (f : Nat -> List Value) : ∀ (n : Nat), (∀ i, i < n -> (f i).length = k) -> ((List.range n).flatMap f).length = n * k /\ ∀ j u, ((List.range n).flatMap f)[j]? = some u -> ∃ i r, i < n /\ r < k /\ j = i * k + r /\ (f i)[r]? = some u
  | 0, _ => ⟨by simp, fun j u h => by simp at h⟩
  | n + 1, hf => by
    obtain ⟨h1, h2⟩ := flatN k hk f n (fun i hi => hf i (by omega))
    have hn := hf n (by omega)
    rw [List.range_succ, List.flatMap_append]
    have e : List.flatMap f [n] = f n := by simp
    rw [e]
    refine ⟨by rw [List.length_append, h1, hn, Nat.succ_mul], fun j u hu => ?_⟩
    by_cases hj : j < n * k
    · rw [List.getElem?_append_left (by rw [h1]; exact hj)] at hu
      obtain ⟨i, r, hi, hr, hjr, hv⟩ := h2 j u hu
      exact ⟨i, r, by omega, hr, hjr, hv⟩
    · rw [List.getElem?_append_right (by rw [h1]; omega), h1] at hu
      have := (List.getElem?_eq_some_iff.1 hu).1
      exact ⟨n, j - n * k, by omega, by omega, by omega, hu⟩
section
variable {H : Type} {enc : TypeId × Value -> H} {w : World} {fuel : Nat} {cs : List Value} {x : DataW H × List MemPlace}
theorem open_list {α : Type} [Inhabited α] {ts e : TypeId} {k : Nat} (f : α -> List Value) (Pr : α -> Prop) (hf : ∀ a, Pr a -> (f a).length = k) (ht : Tryz.prog.underlying ts = some (.slice e)) (hc : Tryz.prog.cellsOf e = k) (hk : 0 < k)
    (each : ∀ (cs : List Value) (fuel : Nat) (x : DataW H × List MemPlace), Tr enc w fuel e cs x -> Rows.uptoBulk x.1 <= 1048576 -> ∃ a, cs = f a /\ Pr a) (h : Tr enc w fuel ts cs x) (hB : Rows.uptoBulk x.1 <= 1048576) :
    ∃ A c, ∃ l : List α, cs = [.slice A l.length c] /\ Rd w k A l.length (l.flatMap f) /\ l.length <= c /\ l.length <= 1048576 /\ ∀ v ∈ l, Pr v := by
  rcases Deep.open_slice ht h with ⟨rfl, rfl⟩ | ⟨a, len, cap, m, n, D, Pl, rfl, _, hlc, _, hm, rfl, hx⟩
  · exact ⟨none, 0, [], rfl, Rd.none_, Nat.le_refl _, Nat.zero_le _, fun v hv => by cases hv⟩
  · simp only [if_true] at hm
    subst hm
    rw [hc] at hx
    simp only [Rows.uptoBulk] at hB
    have hlen := bulk_len ((List.range len).map D)
    rw [List.length_map, List.length_range] at hlen
    obtain ⟨g, hg⟩ := Deep.choose_lt (n := len) (p := fun i (v : α) => w.cells? 0 (a.add (i * k)) k = some (f v) /\ Pr v) (fun i hi => by
      obtain ⟨cs', h1, h2⟩ := hx i (by omega)
      have hb := bulk_part (List.mem_map_of_mem (f := D) (List.mem_range.2 hi))
      obtain ⟨v, rfl, h3⟩ := each _ _ _ h2 (by simp only; omega)
      exact ⟨v, h1, h3⟩)
    have hl : ((List.range len).map g).length = len := by simp
    refine ⟨some a, m, (List.range len).map g, by rw [hl], ?_, by omega, by omega, fun v hv => ?_⟩
    · rw [hl, List.flatMap_map]
      obtain ⟨h1, h2⟩ := flatN k hk (fun i => f (g i)) len (fun i hi => hf _ (hg i hi).2)
      refine Rd.of_add h1 hk (fun j u hu => ?_)
      obtain ⟨i, r, hi, hr, rfl, hv⟩ := h2 j u hu
      have h3 := (World.cells?_some (hg i hi).1).2.2 r hr
      rw [add_of_add] at h3
      rw [h3]
      exact hv
    · obtain ⟨i, hi, rfl⟩ := List.mem_map.1 hv
      exact (hg i (List.mem_range.1 hi)).2
theorem open_bool_ (h : Tr enc w fuel 4 cs x) : ∃ b, cs = [.bool b] := by
  obtain ⟨b, e, _⟩ := DataW.trod_bool Tryz.underlying4 h
  exact ⟨b, e⟩
def byteIn : Value -> UInt8
  | .int _ n => UInt8.ofNat n.toNat
  | _ => 0
theorem kV (h : Tr enc w fuel 40 cs x) : ∃ d : List UInt8, cs = jB d /\ d.length = 32 := by
  obtain ⟨xs, m, _, _, hl, hx, hi⟩ := DataW.trod_array Tryz.underlying40 h
  rw [show Tryz.prog.cellsOf 40 = 32 from by kernel_rfl] at hl
  rw [show Tryz.prog.cellsOf 5 = 1 from by kernel_rfl] at hi
  refine ⟨cs.map byteIn, ?_, by rw [List.length_map, hl]⟩
  refine List.ext_getElem (by simp [jB]) (fun i h1 h2 => ?_)
  have hlt : i < 32 := by omega
  have h3 := hi i hlt
  rw [Nat.mul_one, List.getElem?_eq_getElem (by omega)] at h3
  obtain ⟨n, e, _, hw⟩ := DataW.trod_int Tryz.underlying5 h3
  have e2 : cs[i] = .int .u8 n := by
    have e3 : ((cs.drop i).take 1)[0]? = some (.int .u8 n) := by rw [e]; rfl
    rw [List.getElem?_take, if_pos (by decide), List.getElem?_drop, Nat.add_zero, List.getElem?_eq_getElem h1] at e3
    exact Option.some.inj e3
  simp only [jB, List.getElem_map, e2, byteIn, bv, byte_of hw]
theorem open_digs_one (h : Tr enc w fuel 40 cs x) (_hB : Rows.uptoBulk x.1 <= 1048576) : ∃ d : List UInt8, cs = jB d /\ d.length = 32 := kV h
theorem open_digs (h : Tr enc w fuel 49 cs x) (hB : Rows.uptoBulk x.1 <= 1048576) : ∃ A c, ∃ l : List (List UInt8), cs = [.slice A l.length c] /\ Rd w 32 A l.length (l.flatMap jB) /\ l.length <= c /\ l.length <= 1048576 /\ ∀ v ∈ l, v.length = 32 := by
  haveI : Inhabited (List UInt8) := ⟨[]⟩
  exact open_list (k := 32) jB (fun v : List UInt8 => v.length = 32) (fun a h => by rw [jD, h]) Tryz.underlying49 (by kernel_rfl) (by decide) (fun cs fuel x h hB => open_digs_one h hB) h hB
theorem open_place (h : Tr enc w fuel 37 cs x) (_hB : Rows.uptoBulk x.1 <= 1048576) : ∃ a b c : Int, cs = [.int .i64 a, .int .i64 b, .int .i64 c] := by
  obtain ⟨hl, hf⟩ := jl Tryz.underlying37 h
  rw [show Tryz.prog.cellsOf 37 = 3 from by kernel_rfl] at hl
  obtain ⟨n0, y0, h0, b0⟩ := hf 0 3 0 rfl
  rw [show Tryz.prog.cellsOf 3 = 1 from by kernel_rfl] at h0
  obtain ⟨n1, y1, h1, b1⟩ := hf 1 3 1 rfl
  rw [show Tryz.prog.cellsOf 3 = 1 from by kernel_rfl] at h1
  obtain ⟨n2, y2, h2, b2⟩ := hf 2 3 2 rfl
  rw [show Tryz.prog.cellsOf 3 = 1 from by kernel_rfl] at h2
  have hcs : cs = (cs.drop 0).take 1 ++ ((cs.drop 1).take 1 ++ ((cs.drop 2).take 1)) := by
    have e3 : (cs.drop 2).take 1 = cs.drop 2 := List.take_of_length_le (by rw [List.length_drop, hl]; decide)
    rw [e3, jT cs 1 1, jT cs 0 1, List.drop_zero]
  obtain ⟨z0, e0, lo0, hi0⟩ := jn Tryz.underlying3 h0
  obtain ⟨z1, e1, lo1, hi1⟩ := jn Tryz.underlying3 h1
  obtain ⟨z2, e2, lo2, hi2⟩ := jn Tryz.underlying3 h2
  rw [e0, e1, e2] at hcs
  clear hf h0 e0 h1 e1 h2 e2
  exact ⟨z0, z1, z2, hcs⟩
theorem open_haps_one (h : Tr enc w fuel 105 cs x) (hB : Rows.uptoBulk x.1 <= 1048576) : ∃ m : MHap, cs = m.cells /\ m.name.size <= 1048576 := by
  obtain ⟨hl, hf⟩ := jl Tryz.underlying105 h
  rw [show Tryz.prog.cellsOf 105 = 2 from by kernel_rfl] at hl
  obtain ⟨n0, y0, h0, b0⟩ := hf 0 3 0 rfl
  rw [show Tryz.prog.cellsOf 3 = 1 from by kernel_rfl] at h0
  obtain ⟨n1, y1, h1, b1⟩ := hf 1 9 1 rfl
  rw [show Tryz.prog.cellsOf 9 = 1 from by kernel_rfl] at h1
  have hcs : cs = (cs.drop 0).take 1 ++ ((cs.drop 1).take 1) := by
    have e2 : (cs.drop 1).take 1 = cs.drop 1 := List.take_of_length_le (by rw [List.length_drop, hl]; decide)
    rw [e2, jT cs 0 1, List.drop_zero]
  obtain ⟨z0, e0, lo0, hi0⟩ := jn Tryz.underlying3 h0
  obtain ⟨s1, e1, l1⟩ := ky h1
  rw [e0, e1] at hcs
  clear hf h0 e0 h1 e1
  exact ⟨⟨z0, s1⟩, hcs, by simp only; omega⟩
theorem open_haps (h : Tr enc w fuel 38 cs x) (hB : Rows.uptoBulk x.1 <= 1048576) : ∃ A c, ∃ l : List (MHap), cs = [.slice A l.length c] /\ Rd w 2 A l.length (l.flatMap MHap.cells) /\ l.length <= c /\ l.length <= 1048576 /\ ∀ v ∈ l, v.name.size <= 1048576 := by
  haveI : Inhabited (MHap) := ⟨⟨0, ⟨#[]⟩⟩⟩
  exact open_list (k := 2) MHap.cells (fun v : MHap => v.name.size <= 1048576) (fun _ _ => rfl) Tryz.underlying38 (by kernel_rfl) (by decide) (fun cs fuel x h hB => open_haps_one h hB) h hB
theorem open_binds_one (h : Tr enc w fuel 108 cs x) (hB : Rows.uptoBulk x.1 <= 1048576) : ∃ m : MBind, cs = m.cells /\ m.Ok w NoX /\ vR m.v.v := by
  obtain ⟨hl, hf⟩ := jl Tryz.underlying108 h
  rw [show Tryz.prog.cellsOf 108 = 5 from by kernel_rfl] at hl
  obtain ⟨n0, y0, h0, b0⟩ := hf 0 9 0 rfl
  rw [show Tryz.prog.cellsOf 9 = 1 from by kernel_rfl] at h0
  obtain ⟨n1, y1, h1, b1⟩ := hf 1 29 1 rfl
  rw [show Tryz.prog.cellsOf 29 = 4 from by kernel_rfl] at h1
  have hcs : cs = (cs.drop 0).take 1 ++ ((cs.drop 1).take 4) := by
    have e2 : (cs.drop 1).take 4 = cs.drop 1 := List.take_of_length_le (by rw [List.length_drop, hl]; decide)
    rw [e2, jT cs 0 1, List.drop_zero]
  obtain ⟨s0, e0, l0⟩ := ky h0
  obtain ⟨m1, e1, k1, v1⟩ := open_value h1 (by omega)
  rw [e0, e1] at hcs
  clear hf h0 e0 h1 e1
  exact ⟨⟨s0, m1⟩, hcs, ⟨k1, by simp only; omega⟩, v1⟩
theorem open_binds (h : Tr enc w fuel 41 cs x) (hB : Rows.uptoBulk x.1 <= 1048576) : ∃ A c, ∃ l : List (MBind), cs = [.slice A l.length c] /\ Rd w 5 A l.length (l.flatMap MBind.cells) /\ l.length <= c /\ l.length <= 1048576 /\ ∀ v ∈ l, v.Ok w NoX /\ vR v.v.v := by
  haveI : Inhabited (MBind) := ⟨⟨⟨#[]⟩, ⟨⟨0, 0, ⟨#[]⟩, []⟩, none, 0⟩⟩⟩
  exact open_list (k := 5) MBind.cells (fun v : MBind => v.Ok w NoX /\ vR v.v.v) (fun _ _ => rfl) Tryz.underlying41 (by kernel_rfl) (by decide) (fun cs fuel x h hB => open_binds_one h hB) h hB
theorem textsOk_of {A : Option Addr} {c : Nat} {l : List ByteArray} {n : Nat} (hr : Rd w 1 A l.length (l.map sv)) (hc : l.length <= c) (h1 : l.length + 1 <= n) (h2 : ∀ s ∈ l, s.size + 1 <= n) (hn : n <= 1048576) : (⟨l, A, c⟩ : MTexts).Ok w NoX :=
  ⟨hr, Av.no _ _, hc, fun k hk => by
    have hk' : k < l.length := hk
    have := h2 l[k] (List.getElem_mem hk')
    simp only [List.getD, List.getElem?_eq_getElem hk', Option.getD_some]
    omega, by simp only; omega⟩
theorem open_case (h : Tr enc w fuel 43 cs x) (hB : Rows.uptoBulk x.1 <= 1048576) : ∃ m : MCase, cs = m.cells /\ m.Ok w NoX /\ ∀ v ∈ m.values, vR v.v.v := by
  obtain ⟨hl, hf⟩ := jl Tryz.underlying43 h
  rw [show Tryz.prog.cellsOf 43 = 39 from by kernel_rfl] at hl
  obtain ⟨n0, y0, h0, b0⟩ := hf 0 9 0 rfl
  rw [show Tryz.prog.cellsOf 9 = 1 from by kernel_rfl] at h0
  obtain ⟨n1, y1, h1, b1⟩ := hf 1 9 1 rfl
  rw [show Tryz.prog.cellsOf 9 = 1 from by kernel_rfl] at h1
  obtain ⟨n2, y2, h2, b2⟩ := hf 2 3 2 rfl
  rw [show Tryz.prog.cellsOf 3 = 1 from by kernel_rfl] at h2
  obtain ⟨n3, y3, h3, b3⟩ := hf 3 40 3 rfl
  rw [show Tryz.prog.cellsOf 40 = 32 from by kernel_rfl] at h3
  obtain ⟨n4, y4, h4, b4⟩ := hf 4 41 35 rfl
  rw [show Tryz.prog.cellsOf 41 = 1 from by kernel_rfl] at h4
  obtain ⟨n5, y5, h5, b5⟩ := hf 5 27 36 rfl
  rw [show Tryz.prog.cellsOf 27 = 1 from by kernel_rfl] at h5
  obtain ⟨n6, y6, h6, b6⟩ := hf 6 27 37 rfl
  rw [show Tryz.prog.cellsOf 27 = 1 from by kernel_rfl] at h6
  obtain ⟨n7, y7, h7, b7⟩ := hf 7 27 38 rfl
  rw [show Tryz.prog.cellsOf 27 = 1 from by kernel_rfl] at h7
  have hcs : cs = (cs.drop 0).take 1 ++ ((cs.drop 1).take 1 ++ ((cs.drop 2).take 1 ++ ((cs.drop 3).take 32 ++ ((cs.drop 35).take 1 ++ ((cs.drop 36).take 1 ++ ((cs.drop 37).take 1 ++ ((cs.drop 38).take 1))))))) := by
    have e8 : (cs.drop 38).take 1 = cs.drop 38 := List.take_of_length_le (by rw [List.length_drop, hl]; decide)
    rw [e8, jT cs 37 1, jT cs 36 1, jT cs 35 1, jT cs 3 32, jT cs 2 1, jT cs 1 1, jT cs 0 1, List.drop_zero]
  obtain ⟨s0, e0, l0⟩ := ky h0
  obtain ⟨s1, e1, l1⟩ := ky h1
  obtain ⟨z2, e2, lo2, hi2⟩ := jn Tryz.underlying3 h2
  obtain ⟨d3, e3, l3⟩ := kV h3
  obtain ⟨A4, c4, s4, e4, r4, cp4, l4, f4⟩ := open_binds h4 (by omega)
  obtain ⟨A5, c5, s5, e5, r5, cp5, l5, f5⟩ := open_texts h5
  obtain ⟨A6, c6, s6, e6, r6, cp6, l6, f6⟩ := open_texts h6
  obtain ⟨A7, c7, s7, e7, r7, cp7, l7, f7⟩ := open_texts h7
  rw [e0, e1, e2, e3, e4, e5, e6, e7] at hcs
  clear hf h0 e0 h1 e1 h2 e2 h3 e3 h4 e4 h5 e5 h6 e6 h7 e7
  exact ⟨⟨s0, s1, z2, d3, s4, A4, c4, ⟨s5, A5, c5⟩, ⟨s6, A6, c6⟩, ⟨s7, A7, c7⟩⟩, hcs, ⟨l3, fun v hv => (f4 v hv).1, r4, Av.no _ _, textsOk_of r5 cp5 l5 f5 (by omega), textsOk_of r6 cp6 l6 f6 (by omega), textsOk_of r7 cp7 l7 f7 (by omega), by simp only; omega⟩, fun v hv => (f4 v hv).2⟩
theorem open_head (h : Tr enc w fuel 45 cs x) (_hB : Rows.uptoBulk x.1 <= 1048576) : ∃ m : Hd, cs = m.cells /\ m.Ok /\ ((-9223372036854775808 <= m.size /\ m.size <= 9223372036854775807) /\ (-9223372036854775808 <= m.clock /\ m.clock <= 9223372036854775807)) := by
  obtain ⟨hl, hf⟩ := jl Tryz.underlying45 h
  rw [show Tryz.prog.cellsOf 45 = 98 from by kernel_rfl] at hl
  obtain ⟨n0, y0, h0, b0⟩ := hf 0 40 0 rfl
  rw [show Tryz.prog.cellsOf 40 = 32 from by kernel_rfl] at h0
  obtain ⟨n1, y1, h1, b1⟩ := hf 1 3 32 rfl
  rw [show Tryz.prog.cellsOf 3 = 1 from by kernel_rfl] at h1
  obtain ⟨n2, y2, h2, b2⟩ := hf 2 40 33 rfl
  rw [show Tryz.prog.cellsOf 40 = 32 from by kernel_rfl] at h2
  obtain ⟨n3, y3, h3, b3⟩ := hf 3 40 65 rfl
  rw [show Tryz.prog.cellsOf 40 = 32 from by kernel_rfl] at h3
  obtain ⟨n4, y4, h4, b4⟩ := hf 4 3 97 rfl
  rw [show Tryz.prog.cellsOf 3 = 1 from by kernel_rfl] at h4
  have hcs : cs = (cs.drop 0).take 32 ++ ((cs.drop 32).take 1 ++ ((cs.drop 33).take 32 ++ ((cs.drop 65).take 32 ++ ((cs.drop 97).take 1)))) := by
    have e5 : (cs.drop 97).take 1 = cs.drop 97 := List.take_of_length_le (by rw [List.length_drop, hl]; decide)
    rw [e5, jT cs 65 32, jT cs 33 32, jT cs 32 1, jT cs 0 32, List.drop_zero]
  obtain ⟨d0, e0, l0⟩ := kV h0
  obtain ⟨z1, e1, lo1, hi1⟩ := jn Tryz.underlying3 h1
  obtain ⟨d2, e2, l2⟩ := kV h2
  obtain ⟨d3, e3, l3⟩ := kV h3
  obtain ⟨z4, e4, lo4, hi4⟩ := jn Tryz.underlying3 h4
  rw [e0, e1, e2, e3, e4] at hcs
  clear hf h0 e0 h1 e1 h2 e2 h3 e3 h4 e4
  exact ⟨⟨d0, z1, d2, d3, z4⟩, hcs, ⟨l0, l2, l3⟩, ⟨lo1, hi1⟩, ⟨lo4, hi4⟩⟩
theorem open_signs_one (h : Tr enc w fuel 165 cs x) (_hB : Rows.uptoBulk x.1 <= 1048576) : ∃ m : Sgn, cs = m.cells /\ True := by
  obtain ⟨hl, hf⟩ := jl Tryz.underlying165 h
  rw [show Tryz.prog.cellsOf 165 = 64 from by kernel_rfl] at hl
  obtain ⟨n0, y0, h0, b0⟩ := hf 0 40 0 rfl
  rw [show Tryz.prog.cellsOf 40 = 32 from by kernel_rfl] at h0
  obtain ⟨n1, y1, h1, b1⟩ := hf 1 40 32 rfl
  rw [show Tryz.prog.cellsOf 40 = 32 from by kernel_rfl] at h1
  have hcs : cs = (cs.drop 0).take 32 ++ ((cs.drop 32).take 32) := by
    have e2 : (cs.drop 32).take 32 = cs.drop 32 := List.take_of_length_le (by rw [List.length_drop, hl]; decide)
    rw [e2, jT cs 0 32, List.drop_zero]
  obtain ⟨d0, e0, l0⟩ := kV h0
  obtain ⟨d1, e1, l1⟩ := kV h1
  rw [e0, e1] at hcs
  clear hf h0 e0 h1 e1
  exact ⟨⟨d0, d1, l0, l1⟩, hcs, trivial⟩
theorem open_signs (h : Tr enc w fuel 46 cs x) (hB : Rows.uptoBulk x.1 <= 1048576) : ∃ A c, ∃ l : List (Sgn), cs = [.slice A l.length c] /\ Rd w 64 A l.length (l.flatMap Sgn.cells) /\ l.length <= c /\ l.length <= 1048576 /\ ∀ v ∈ l, True := by
  haveI : Inhabited (Sgn) := ⟨⟨zeroD, zeroD, by decide, by decide⟩⟩
  exact open_list (k := 64) Sgn.cells (fun v : Sgn => True) (fun a _ => a.len) Tryz.underlying46 (by kernel_rfl) (by decide) (fun cs fuel x h hB => open_signs_one h hB) h hB
theorem open_note (h : Tr enc w fuel 48 cs x) (hB : Rows.uptoBulk x.1 <= 1048576) : ∃ m : MNote, cs = m.cells /\ m.Ok w NoX /\ ((-9223372036854775808 <= m.head.size /\ m.head.size <= 9223372036854775807) /\ (-9223372036854775808 <= m.head.clock /\ m.head.clock <= 9223372036854775807)) := by
  obtain ⟨hl, hf⟩ := jl Tryz.underlying48 h
  rw [show Tryz.prog.cellsOf 48 = 99 from by kernel_rfl] at hl
  obtain ⟨n0, y0, h0, b0⟩ := hf 0 45 0 rfl
  rw [show Tryz.prog.cellsOf 45 = 98 from by kernel_rfl] at h0
  obtain ⟨n1, y1, h1, b1⟩ := hf 1 46 98 rfl
  rw [show Tryz.prog.cellsOf 46 = 1 from by kernel_rfl] at h1
  have hcs : cs = (cs.drop 0).take 98 ++ ((cs.drop 98).take 1) := by
    have e2 : (cs.drop 98).take 1 = cs.drop 98 := List.take_of_length_le (by rw [List.length_drop, hl]; decide)
    rw [e2, jT cs 0 98, List.drop_zero]
  obtain ⟨m0, e0, k0, v0⟩ := open_head h0 (by omega)
  obtain ⟨A1, c1, s1, e1, r1, cp1, l1, f1⟩ := open_signs h1 (by omega)
  rw [e0, e1] at hcs
  clear hf h0 e0 h1 e1
  exact ⟨⟨m0, s1, A1, c1⟩, hcs, ⟨k0, r1, Av.no _ _, by simp only; omega⟩, v0⟩
theorem open_inc (h : Tr enc w fuel 51 cs x) (hB : Rows.uptoBulk x.1 <= 1048576) : ∃ m : MWay, cs = m.cells /\ m.Ok w NoX := by
  obtain ⟨hl, hf⟩ := jl Tryz.underlying51 h
  rw [show Tryz.prog.cellsOf 51 = 3 from by kernel_rfl] at hl
  obtain ⟨n0, y0, h0, b0⟩ := hf 0 3 0 rfl
  rw [show Tryz.prog.cellsOf 3 = 1 from by kernel_rfl] at h0
  obtain ⟨n1, y1, h1, b1⟩ := hf 1 3 1 rfl
  rw [show Tryz.prog.cellsOf 3 = 1 from by kernel_rfl] at h1
  obtain ⟨n2, y2, h2, b2⟩ := hf 2 49 2 rfl
  rw [show Tryz.prog.cellsOf 49 = 1 from by kernel_rfl] at h2
  have hcs : cs = (cs.drop 0).take 1 ++ ((cs.drop 1).take 1 ++ ((cs.drop 2).take 1)) := by
    have e3 : (cs.drop 2).take 1 = cs.drop 2 := List.take_of_length_le (by rw [List.length_drop, hl]; decide)
    rw [e3, jT cs 1 1, jT cs 0 1, List.drop_zero]
  obtain ⟨z0, e0, lo0, hi0⟩ := jn Tryz.underlying3 h0
  obtain ⟨z1, e1, lo1, hi1⟩ := jn Tryz.underlying3 h1
  obtain ⟨A2, c2, s2, e2, r2, cp2, l2, f2⟩ := open_digs h2 (by omega)
  rw [e0, e1, e2] at hcs
  clear hf h0 e0 h1 e1 h2 e2
  exact ⟨⟨z0, z1, s2, A2, c2⟩, hcs, ⟨f2, r2, Av.no _ _, by simp only; omega⟩⟩
theorem open_con (h : Tr enc w fuel 53 cs x) (hB : Rows.uptoBulk x.1 <= 1048576) : ∃ m : MWay, cs = m.cells /\ m.Ok w NoX := by
  obtain ⟨hl, hf⟩ := jl Tryz.underlying53 h
  rw [show Tryz.prog.cellsOf 53 = 3 from by kernel_rfl] at hl
  obtain ⟨n0, y0, h0, b0⟩ := hf 0 3 0 rfl
  rw [show Tryz.prog.cellsOf 3 = 1 from by kernel_rfl] at h0
  obtain ⟨n1, y1, h1, b1⟩ := hf 1 3 1 rfl
  rw [show Tryz.prog.cellsOf 3 = 1 from by kernel_rfl] at h1
  obtain ⟨n2, y2, h2, b2⟩ := hf 2 49 2 rfl
  rw [show Tryz.prog.cellsOf 49 = 1 from by kernel_rfl] at h2
  have hcs : cs = (cs.drop 0).take 1 ++ ((cs.drop 1).take 1 ++ ((cs.drop 2).take 1)) := by
    have e3 : (cs.drop 2).take 1 = cs.drop 2 := List.take_of_length_le (by rw [List.length_drop, hl]; decide)
    rw [e3, jT cs 1 1, jT cs 0 1, List.drop_zero]
  obtain ⟨z0, e0, lo0, hi0⟩ := jn Tryz.underlying3 h0
  obtain ⟨z1, e1, lo1, hi1⟩ := jn Tryz.underlying3 h1
  obtain ⟨A2, c2, s2, e2, r2, cp2, l2, f2⟩ := open_digs h2 (by omega)
  rw [e0, e1, e2] at hcs
  clear hf h0 e0 h1 e1 h2 e2
  exact ⟨⟨z0, z1, s2, A2, c2⟩, hcs, ⟨f2, r2, Av.no _ _, by simp only; omega⟩⟩
theorem open_incs_one (h : Tr enc w fuel 51 cs x) (hB : Rows.uptoBulk x.1 <= 1048576) : ∃ m : MWay, cs = m.cells /\ m.Ok w NoX := open_inc h hB
theorem open_incs (h : Tr enc w fuel 59 cs x) (hB : Rows.uptoBulk x.1 <= 1048576) : ∃ A c, ∃ l : List (MWay), cs = [.slice A l.length c] /\ Rd w 3 A l.length (l.flatMap MWay.cells) /\ l.length <= c /\ l.length <= 1048576 /\ ∀ v ∈ l, v.Ok w NoX := by
  haveI : Inhabited (MWay) := ⟨⟨0, 0, [], none, 0⟩⟩
  exact open_list (k := 3) MWay.cells (fun v : MWay => v.Ok w NoX) (fun _ _ => rfl) Tryz.underlying59 (by kernel_rfl) (by decide) (fun cs fuel x h hB => open_incs_one h hB) h hB
theorem open_evs_one (h : Tr enc w fuel 22 cs x) (hB : Rows.uptoBulk x.1 <= 1048576) : ∃ m : Part, cs = [m.sl] /\ m.Ok w NoX := by
  obtain ⟨A, c, l, e, r, _, hl⟩ := open_bytes h
  exact ⟨⟨A, l, c⟩, e, r, Av.no _ _, by simp only; omega⟩
theorem open_evs (h : Tr enc w fuel 58 cs x) (hB : Rows.uptoBulk x.1 <= 1048576) : ∃ A c, ∃ l : List (Part), cs = [.slice A l.length c] /\ Rd w 1 A l.length (l.flatMap (fun p : Part => [p.sl])) /\ l.length <= c /\ l.length <= 1048576 /\ ∀ v ∈ l, v.Ok w NoX := by
  haveI : Inhabited (Part) := ⟨⟨none, [], 0⟩⟩
  exact open_list (k := 1) (fun p : Part => [p.sl]) (fun v : Part => v.Ok w NoX) (fun _ _ => rfl) Tryz.underlying58 (by kernel_rfl) (by decide) (fun cs fuel x h hB => open_evs_one h hB) h hB
theorem open_entry (h : Tr enc w fuel 55 cs x) (_hB : Rows.uptoBulk x.1 <= 1048576) : ∃ (z : Int) (d : List UInt8), cs = .int .i64 z :: jB d /\ -9223372036854775808 <= z /\ z <= 9223372036854775807 /\ d.length = 32 := by
  obtain ⟨hl, hf⟩ := jl Tryz.underlying55 h
  rw [show Tryz.prog.cellsOf 55 = 33 from by kernel_rfl] at hl
  obtain ⟨n0, y0, h0, b0⟩ := hf 0 3 0 rfl
  rw [show Tryz.prog.cellsOf 3 = 1 from by kernel_rfl] at h0
  obtain ⟨n1, y1, h1, b1⟩ := hf 1 40 1 rfl
  rw [show Tryz.prog.cellsOf 40 = 32 from by kernel_rfl] at h1
  have hcs : cs = (cs.drop 0).take 1 ++ ((cs.drop 1).take 32) := by
    have e2 : (cs.drop 1).take 32 = cs.drop 1 := List.take_of_length_le (by rw [List.length_drop, hl]; decide)
    rw [e2, jT cs 0 1, List.drop_zero]
  obtain ⟨z0, e0, lo0, hi0⟩ := jn Tryz.underlying3 h0
  obtain ⟨d1, e1, l1⟩ := kV h1
  rw [e0, e1] at hcs
  clear hf h0 e0 h1 e1
  exact ⟨z0, d1, hcs, lo0, hi0, l1⟩
theorem open_idx (h : Tr enc w fuel 57 cs x) (hB : Rows.uptoBulk x.1 <= 1048576) : ∃ (m : Idx) (A : Option Addr) (c : Nat), cs = m.cells A c /\ m.Ok /\ Rd w 32 A m.way.length (m.way.flatMap jB) := by
  obtain ⟨hl, hf⟩ := jl Tryz.underlying57 h
  rw [show Tryz.prog.cellsOf 57 = 68 from by kernel_rfl] at hl
  obtain ⟨n0, y0, h0, b0⟩ := hf 0 9 0 rfl
  rw [show Tryz.prog.cellsOf 9 = 1 from by kernel_rfl] at h0
  obtain ⟨n1, y1, h1, b1⟩ := hf 1 4 1 rfl
  rw [show Tryz.prog.cellsOf 4 = 1 from by kernel_rfl] at h1
  obtain ⟨n2, y2, h2, b2⟩ := hf 2 55 2 rfl
  rw [show Tryz.prog.cellsOf 55 = 33 from by kernel_rfl] at h2
  obtain ⟨n3, y3, h3, b3⟩ := hf 3 40 35 rfl
  rw [show Tryz.prog.cellsOf 40 = 32 from by kernel_rfl] at h3
  obtain ⟨n4, y4, h4, b4⟩ := hf 4 49 67 rfl
  rw [show Tryz.prog.cellsOf 49 = 1 from by kernel_rfl] at h4
  have hcs : cs = (cs.drop 0).take 1 ++ ((cs.drop 1).take 1 ++ ((cs.drop 2).take 33 ++ ((cs.drop 35).take 32 ++ ((cs.drop 67).take 1)))) := by
    have e5 : (cs.drop 67).take 1 = cs.drop 67 := List.take_of_length_le (by rw [List.length_drop, hl]; decide)
    rw [e5, jT cs 35 32, jT cs 2 33, jT cs 1 1, jT cs 0 1, List.drop_zero]
  obtain ⟨s0, e0, l0⟩ := ky h0
  obtain ⟨z1, e1⟩ := open_bool_ h1
  obtain ⟨z2, d2, e2, lo2, hi2, l2⟩ := open_entry h2 (by omega)
  obtain ⟨d3, e3, l3⟩ := kV h3
  obtain ⟨A4, c4, s4, e4, r4, cp4, l4, f4⟩ := open_digs h4 (by omega)
  rw [e0, e1, e2, e3, e4] at hcs
  clear hf h0 e0 h1 e1 h2 e2 h3 e3 h4 e4
  exact ⟨⟨s0, z1, z2, d2, d3, s4⟩, A4, c4, by rw [hcs]; simp [Idx.cells], ⟨l2, l3, f4, ⟨lo2, hi2⟩, by simp only; omega⟩, r4⟩
theorem flat_sl (l : List Part) : l.flatMap (fun p : Part => [p.sl]) = l.map Part.sl := by
  induction l with
  | nil => rfl
  | cons a r ih => rw [List.flatMap_cons, ih]; rfl
theorem open_piece (h : Tr enc w fuel 61 cs x) (hB : Rows.uptoBulk x.1 <= 1048576) : ∃ m : MPiece, cs = m.cells /\ m.Ok w NoX := by
  obtain ⟨hl, hf⟩ := jl Tryz.underlying61 h
  rw [show Tryz.prog.cellsOf 61 = 36 from by kernel_rfl] at hl
  obtain ⟨n0, y0, h0, b0⟩ := hf 0 9 0 rfl
  rw [show Tryz.prog.cellsOf 9 = 1 from by kernel_rfl] at h0
  obtain ⟨n1, y1, h1, b1⟩ := hf 1 3 1 rfl
  rw [show Tryz.prog.cellsOf 3 = 1 from by kernel_rfl] at h1
  obtain ⟨n2, y2, h2, b2⟩ := hf 2 40 2 rfl
  rw [show Tryz.prog.cellsOf 40 = 32 from by kernel_rfl] at h2
  obtain ⟨n3, y3, h3, b3⟩ := hf 3 58 34 rfl
  rw [show Tryz.prog.cellsOf 58 = 1 from by kernel_rfl] at h3
  obtain ⟨n4, y4, h4, b4⟩ := hf 4 59 35 rfl
  rw [show Tryz.prog.cellsOf 59 = 1 from by kernel_rfl] at h4
  have hcs : cs = (cs.drop 0).take 1 ++ ((cs.drop 1).take 1 ++ ((cs.drop 2).take 32 ++ ((cs.drop 34).take 1 ++ ((cs.drop 35).take 1)))) := by
    have e5 : (cs.drop 35).take 1 = cs.drop 35 := List.take_of_length_le (by rw [List.length_drop, hl]; decide)
    rw [e5, jT cs 34 1, jT cs 2 32, jT cs 1 1, jT cs 0 1, List.drop_zero]
  obtain ⟨s0, e0, l0⟩ := ky h0
  obtain ⟨z1, e1, lo1, hi1⟩ := jn Tryz.underlying3 h1
  obtain ⟨d2, e2, l2⟩ := kV h2
  obtain ⟨A3, c3, s3, e3, r3, cp3, l3, f3⟩ := open_evs h3 (by omega)
  obtain ⟨A4, c4, s4, e4, r4, cp4, l4, f4⟩ := open_incs h4 (by omega)
  rw [e0, e1, e2, e3, e4] at hcs
  clear hf h0 e0 h1 e1 h2 e2 h3 e3 h4 e4
  rw [flat_sl] at r3
  exact ⟨⟨s0, z1, d2, s3, A3, c3, s4, A4, c4⟩, hcs, ⟨l2, f3, r3, Av.no _ _, f4, r4, Av.no _ _, by simp only; omega⟩⟩
theorem open_reply (h : Tr enc w fuel 63 cs x) (hB : Rows.uptoBulk x.1 <= 1048576) : ∃ m : MReply, cs = m.cells /\ m.Ok w NoX /\ ∀ v ∈ m.case_.values, vR v.v.v := by
  obtain ⟨hl, hf⟩ := jl Tryz.underlying63 h
  rw [show Tryz.prog.cellsOf 63 = 256 from by kernel_rfl] at hl
  obtain ⟨n0, y0, h0, b0⟩ := hf 0 23 0 rfl
  rw [show Tryz.prog.cellsOf 23 = 1 from by kernel_rfl] at h0
  obtain ⟨n1, y1, h1, b1⟩ := hf 1 37 1 rfl
  rw [show Tryz.prog.cellsOf 37 = 3 from by kernel_rfl] at h1
  obtain ⟨n2, y2, h2, b2⟩ := hf 2 3 4 rfl
  rw [show Tryz.prog.cellsOf 3 = 1 from by kernel_rfl] at h2
  obtain ⟨n3, y3, h3, b3⟩ := hf 3 38 5 rfl
  rw [show Tryz.prog.cellsOf 38 = 1 from by kernel_rfl] at h3
  obtain ⟨n4, y4, h4, b4⟩ := hf 4 43 6 rfl
  rw [show Tryz.prog.cellsOf 43 = 39 from by kernel_rfl] at h4
  obtain ⟨n5, y5, h5, b5⟩ := hf 5 22 45 rfl
  rw [show Tryz.prog.cellsOf 22 = 1 from by kernel_rfl] at h5
  obtain ⟨n6, y6, h6, b6⟩ := hf 6 3 46 rfl
  rw [show Tryz.prog.cellsOf 3 = 1 from by kernel_rfl] at h6
  obtain ⟨n7, y7, h7, b7⟩ := hf 7 48 47 rfl
  rw [show Tryz.prog.cellsOf 48 = 99 from by kernel_rfl] at h7
  obtain ⟨n8, y8, h8, b8⟩ := hf 8 51 146 rfl
  rw [show Tryz.prog.cellsOf 51 = 3 from by kernel_rfl] at h8
  obtain ⟨n9, y9, h9, b9⟩ := hf 9 53 149 rfl
  rw [show Tryz.prog.cellsOf 53 = 3 from by kernel_rfl] at h9
  obtain ⟨n10, y10, h10, b10⟩ := hf 10 57 152 rfl
  rw [show Tryz.prog.cellsOf 57 = 68 from by kernel_rfl] at h10
  obtain ⟨n11, y11, h11, b11⟩ := hf 11 61 220 rfl
  rw [show Tryz.prog.cellsOf 61 = 36 from by kernel_rfl] at h11
  have hcs : cs = (cs.drop 0).take 1 ++ ((cs.drop 1).take 3 ++ ((cs.drop 4).take 1 ++ ((cs.drop 5).take 1 ++ ((cs.drop 6).take 39 ++ ((cs.drop 45).take 1 ++ ((cs.drop 46).take 1 ++ ((cs.drop 47).take 99 ++ ((cs.drop 146).take 3 ++ ((cs.drop 149).take 3 ++ ((cs.drop 152).take 68 ++ ((cs.drop 220).take 36))))))))))) := by
    have e12 : (cs.drop 220).take 36 = cs.drop 220 := List.take_of_length_le (by rw [List.length_drop, hl]; decide)
    rw [e12, jT cs 152 68, jT cs 149 3, jT cs 146 3, jT cs 47 99, jT cs 46 1, jT cs 45 1, jT cs 6 39, jT cs 5 1, jT cs 4 1, jT cs 1 3, jT cs 0 1, List.drop_zero]
  obtain ⟨z0, e0, lo0, hi0⟩ := jn Tryz.underlying23 h0
  obtain ⟨p1, q1, r1, e1⟩ := open_place h1 (by omega)
  obtain ⟨z2, e2, lo2, hi2⟩ := jn Tryz.underlying3 h2
  obtain ⟨A3, c3, s3, e3, r3, cp3, l3, f3⟩ := open_haps h3 (by omega)
  obtain ⟨m4, e4, k4, v4⟩ := open_case h4 (by omega)
  obtain ⟨A5, c5, s5, e5, r5, cp5, l5⟩ := open_bytes h5
  obtain ⟨z6, e6, lo6, hi6⟩ := jn Tryz.underlying3 h6
  obtain ⟨m7, e7, k7, v7⟩ := open_note h7 (by omega)
  obtain ⟨m8, e8, k8⟩ := open_inc h8 (by omega)
  obtain ⟨m9, e9, k9⟩ := open_con h9 (by omega)
  obtain ⟨m10, A10, c10, e10, k10, r10⟩ := open_idx h10 (by omega)
  obtain ⟨m11, e11, k11⟩ := open_piece h11 (by omega)
  rw [e0, e1, e2, e3, e4, e5, e6, e7, e8, e9, e10, e11] at hcs
  clear hf h0 e0 h1 e1 h2 e2 h3 e3 h4 e4 h5 e5 h6 e6 h7 e7 h8 e8 h9 e9 h10 e10 h11 e11
  exact ⟨⟨z0, p1, q1, r1, z2, s3, A3, c3, m4, ⟨A5, s5, c5⟩, z6, m7, m8, m9, m10, A10, c10, m11⟩, by rw [hcs]; simp [MReply.cells, Part.sl], ⟨r3, Av.no _ _, ⟨fun v hv => by have := f3 v hv; omega, by simp only; omega⟩, k4, ⟨r5, Av.no _ _, by simp only; omega⟩, k7, v7, k8, k9, k10, r10, Av.no _ _, k11⟩, v4⟩
end
open Go.RowKit Go.ChangeShapes Go.WideShapes
theorem Old.kept {W W' : World} (h : Old W W') (may : MemPlace -> Prop) : W.keptBut W' may := by
  refine World.keptBut_mono (may := fun _ => False) (fun _ f => f.elim) (World.keptBut_none_iff.2 ⟨h.os, h.output, fun i hi => ?_⟩)
  exact h.block i hi (fun f => f)
section
variable {H : Type} {enc : TypeId × Value -> H} {P : Program}
theorem post_of_old {f : Func} {s : ChangeSpec} {apart fresh handsOn again : Bool} {W W' : World} {args : Array Value} {v : Value} {ds gs : List (DataW H)} {before pa pv : List MemPlace}
    (hW : DataW.Whole enc P f.params.toList s.vars apart W args.toList ds gs before)
    (hres : ∀ (b : Nat) (sp : Nat -> Bool) (hd : Bool), DataW.TrodAll enc P W' b sp hd f.resultTypes.toList (v.resultList f.resultTypes.size) (s.fn H (ds ++ gs)).results [])
    (hargs : ∀ sp : Nat -> Bool, (∀ p ∈ before, sp p.block = true) -> DataW.TrodAll enc P W' 0 sp true f.params.toList args.toList (s.fn H (ds ++ gs)).args pa)
    (hvars : ∀ sp : Nat -> Bool, (∀ p ∈ before, sp p.block = true) -> DataW.TrodVars enc P W' sp s.vars (s.fn H (ds ++ gs)).vars pv)
    (hps : before = pa ++ pv) (ho : Old W W')
    (hok : ∀ (j : Nat) (t : TypeId) (r : Value), f.resultTypes[j]? = some t -> (v.resultList f.resultTypes.size)[j]? = some r -> Value.okWide P W' .any 0 t r) :
    s.post enc P f apart fresh handsOn again W args v W' := by
  have hold : ∀ p ∈ before, (fun b => decide (b < W.heap.size)) p.block = true := fun p hp => by simpa using hW.lt p hp
  refine ⟨ds, gs, before, [], pa, pv, hW, hres _ _ _, hargs _ hold, hvars _ hold, World.keptBut_mono (fun p hp => ⟨hp, ?_⟩) (Old.kept ho (· ∈ before)), fun _ => ?_⟩
  · rw [hps, List.mem_append] at hp
    exact Or.inr hp
  · have hlt := hW.lt
    obtain ⟨_, _, _, _, _, hz, hn⟩ := hW
    refine ⟨hok, _, _, ([] ++ pa) ++ pv, ⟨[] ++ pa, pv, trodAll_append (hargs _ (fun _ _ => rfl)) (hres _ _ _), hvars _ (fun _ _ => rfl), rfl, ?_, ?_⟩, ?_⟩
    · intro b off hp
      have hm : MemPlace.cell b off ∈ before := by rw [hps]; simpa using hp
      rw [World.frozen?_of_block (ho.block b (hlt _ hm) (fun f => f))]
      exact hz b off hm
    · intro ha
      have := hn ha
      rw [hps] at this
      simpa using this
    · intro p hp _
      rw [hps]
      simpa using hp
end
end Go.Proofs.YtnaolhjbapgjgaaGreat
