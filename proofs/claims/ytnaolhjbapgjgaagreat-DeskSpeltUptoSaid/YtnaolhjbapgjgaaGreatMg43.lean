import Derived.Test.YtnaolhjbapgjgaaGreatMg05
import Derived.Test.YtnaolhjbapgjgaaGreatRows
import Derived.Deep.Slices
import Derived.OpenShut
import Derived.SliceStrings
set_option maxRecDepth 100000
set_option maxHeartbeats 3200000
namespace Go.Proofs.YtnaolhjbapgjgaaGreat
open Go.RowKit Go.ChangeShapes
section
variable {H : Type}
theorem bulk_pos (d : DataW H) : 1 <= Rows.uptoBulk d := by
  cases d with
  | lit l => cases l <;> simp [Rows.uptoBulk]
  | nil => simp [Rows.uptoBulk]
  | ptr d => simp [Rows.uptoBulk]
  | slice elems spare => simp [Rows.uptoBulk]
  | agg yD => simp [Rows.uptoBulk]
  | iface t d => simp [Rows.uptoBulk]
  | map entries => simp [Rows.uptoBulk]
  | held h => simp [Rows.uptoBulk]
theorem bulk_part {d : DataW H} {l : List (DataW H)} (h : d ∈ l) : Rows.uptoBulk d <= Rows.uptoBulkAll l := by
  induction l with
  | nil => cases h
  | cons x r ih =>
    simp only [Rows.uptoBulkAll]
    cases List.mem_cons.1 h with
    | inl e => subst e; omega
    | inr e => have := ih e; omega
theorem bulk_len (l : List (DataW H)) : l.length <= Rows.uptoBulkAll l := by
  induction l with
  | nil => simp [Rows.uptoBulkAll]
  | cons x r ih => have := bulk_pos x; simp only [Rows.uptoBulkAll, List.length_cons]; omega
variable {enc : TypeId × Value -> H} {w : World} {fuel : Nat} {cs : List Value} {x : DataW H × List MemPlace}
abbrev Tr (enc : TypeId × Value -> H) (w : World) (fuel : Nat) (t : TypeId) (cs : List Value) (x : DataW H × List MemPlace) : Prop := DataW.trod enc Tryz.prog w 0 (fun _ => true) true fuel t cs = some x
theorem jl {t : TypeId} {fs : Array Field} (ht : Tryz.prog.underlying t = some (.struct fs)) (h : Tr enc w fuel t cs x) :
    cs.length = Tryz.prog.cellsOf t /\ ∀ (i : Nat) (ft : TypeId) (o : Nat), (fs[i]?).map (fun f => (f.type, f.offset)) = some (ft, o) -> ∃ n y, Tr enc w n ft ((cs.drop o).take (Tryz.prog.cellsOf ft)) y /\ Rows.uptoBulk y.1 + 1 <= Rows.uptoBulk x.1 := by
  obtain ⟨xs, n, _, rfl, hl, hlen, hf⟩ := DataW.trod_struct ht h
  refine ⟨hl, fun i ft o hi => ?_⟩
  obtain ⟨f, hif, e⟩ := Option.map_eq_some_iff.1 hi
  injection e with e1 e2
  subst e1 e2
  have hlt : i < xs.length := by rw [hlen]; exact (Array.getElem?_eq_some_iff.1 hif).1
  have h1 := hf i f hif
  rw [List.getElem?_eq_getElem hlt] at h1
  refine ⟨n, xs[i], h1, ?_⟩
  have := bulk_part (List.mem_map_of_mem (f := fun y : DataW H × List MemPlace => y.1) (List.getElem_mem hlt))
  simp only [Rows.uptoBulk]
  omega
theorem jn {t : TypeId} (ht : Tryz.prog.underlying t = some (.int .i64)) (h : Tr enc w fuel t cs x) : ∃ n : Int, cs = [.int .i64 n] /\ -9223372036854775808 <= n /\ n <= 9223372036854775807 := by
  obtain ⟨n, rfl, _, hw⟩ := DataW.trod_int ht h
  refine ⟨n, rfl, ?_⟩
  simpa [Lit.wf, IntKind.min, IntKind.max, IntKind.signed, IntKind.bits] using hw
theorem ky (h : Tr enc w fuel 9 cs x) : ∃ s : ByteArray, cs = [.string s] /\ s.size + 1 <= Rows.uptoBulk x.1 := by
  obtain ⟨s, rfl, rfl, hw⟩ := DataW.trod_string Tryz.underlying9 h
  refine ⟨s, rfl, ?_⟩
  have e : s.data.toList.length = s.size := by rw [Array.length_toList]; rfl
  simp only [Rows.uptoBulk]
  omega
theorem byte_of {n : Int} (h : (Lit.int .u8 n).wf = true) : ((UInt8.ofNat n.toNat).toNat : Int) = n := by
  have h1 : 0 <= n /\ n <= 255 := by simpa [Lit.wf, IntKind.min, IntKind.max, IntKind.signed, IntKind.bits] using h
  rw [UInt8.toNat_ofNat']
  omega
theorem open_bytes (h : Tr enc w fuel 22 cs x) : ∃ A c, ∃ l : List UInt8, cs = [.slice A l.length c] /\ Rd w 1 A l.length (l.map bv) /\ l.length <= c /\ l.length + 1 <= Rows.uptoBulk x.1 := by
  rcases open_ints Tryz.underlying22 Tryz.underlying5 (by kernel_rfl) h with ⟨rfl, rfl⟩ | ⟨a, len, cap, zs, rfl, _, hlc, _, hzl, rfl, hcell, hwf⟩
  · exact ⟨none, 0, [], rfl, Rd.none_, Nat.le_refl _, by simp [Rows.uptoBulk]⟩
  · simp only [if_true] at hzl
    have hl : ((zs.take len).map fun z => UInt8.ofNat z.toNat).length = len := by simp; omega
    refine ⟨some a, cap, (zs.take len).map fun z => UInt8.ofNat z.toNat, by rw [hl], ?_, by omega, ?_⟩
    · rw [hl]
      refine Rd.of_add (by rw [List.length_map, hl, Nat.mul_one]) (by decide) (fun j u hu => ?_)
      have hj : j < len := by
        have := (List.getElem?_eq_some_iff.1 hu).1
        rw [List.length_map, hl] at this
        exact this
      have hjz : j < zs.length := by omega
      rw [hcell j hjz]
      rw [List.getElem?_map, List.getElem?_map, List.getElem?_take, if_pos hj, List.getElem?_eq_getElem hjz] at hu
      simp only [Option.map_some, Option.some.injEq] at hu
      rw [<- hu]
      simp only [bv, byte_of (hwf _ (List.getElem_mem hjz)), List.getD, List.getElem?_eq_getElem hjz, Option.getD_some]
    · have := bulk_len (lits (H := H) .u8 (zs.take len))
      rw [hl]
      simp only [Rows.uptoBulk]
      simp only [lits, List.length_map, List.length_take] at this
      simp only [lits]
      omega
theorem open_texts (h : Tr enc w fuel 27 cs x) : ∃ A c, ∃ l : List ByteArray, cs = [.slice A l.length c] /\ Rd w 1 A l.length (l.map sv) /\ l.length <= c /\ l.length + 1 <= Rows.uptoBulk x.1 /\ ∀ s ∈ l, s.size + 1 <= Rows.uptoBulk x.1 := by
  rcases open_strings Tryz.underlying27 Tryz.underlying9 (by kernel_rfl) h with ⟨rfl, rfl⟩ | ⟨a, len, cap, ss, rfl, _, hlc, _, hzl, rfl, hcell, _⟩
  · exact ⟨none, 0, [], rfl, Rd.none_, Nat.le_refl _, by simp [Rows.uptoBulk], fun s hs => by cases hs⟩
  · simp only [if_true] at hzl
    have hl : (ss.take len).length = len := by simp; omega
    refine ⟨some a, cap, ss.take len, by rw [hl], ?_, by omega, ?_, fun s hs => ?_⟩
    · rw [hl]
      refine Rd.of_add (by rw [List.length_map, hl, Nat.mul_one]) (by decide) (fun j u hu => ?_)
      have hj : j < len := by
        have := (List.getElem?_eq_some_iff.1 hu).1
        rw [List.length_map, hl] at this
        exact this
      have hjz : j < ss.length := by omega
      rw [hcell j hjz]
      rw [List.getElem?_map, List.getElem?_take, if_pos hj, List.getElem?_eq_getElem hjz] at hu
      simp only [Option.map_some, Option.some.injEq] at hu
      rw [<- hu]
      simp only [sv, List.getD, List.getElem?_eq_getElem hjz, Option.getD_some]
    · have := bulk_len (strs (H := H) (ss.take len))
      rw [hl]
      simp only [Rows.uptoBulk]
      simp only [strs, List.length_map, List.length_take] at this
      simp only [strs]
      omega
    · have h1 := bulk_part (List.mem_map_of_mem (f := fun s : ByteArray => DataW.lit (H := H) (.string s.data.toList)) hs)
      have e : s.data.toList.length = s.size := by rw [Array.length_toList]; rfl
      simp only [Rows.uptoBulk] at h1
      simp only [Rows.uptoBulk, strs]
      omega
theorem Tryz.cellsInt : Tryz.prog.cellsOf 3 = 1 := by kernel_rfl
theorem Tryz.cellsKind : Tryz.prog.cellsOf 26 = 1 := by kernel_rfl
theorem Tryz.cellsString : Tryz.prog.cellsOf 9 = 1 := by kernel_rfl
theorem Tryz.cellsTexts : Tryz.prog.cellsOf 27 = 1 := by kernel_rfl
theorem Tryz.cellsBytes : Tryz.prog.cellsOf 22 = 1 := by kernel_rfl
theorem Tryz.cellsVals : Tryz.prog.cellsOf 30 = 1 := by kernel_rfl
theorem Tryz.cellsValue : Tryz.prog.cellsOf 29 = 4 := by kernel_rfl
theorem Tryz.cellsOper : Tryz.prog.cellsOf 32 = 11 := by kernel_rfl
theorem Tryz.cellsReq : Tryz.prog.cellsOf 34 = 18 := by kernel_rfl
theorem jX {α : Type} {l : List α} {n : Nat} (h : l.length = n + 1) : ∃ a t, l = a :: t /\ t.length = n := by
  cases l with
  | nil => simp at h
  | cons a t => exact ⟨a, t, rfl, by simpa using h⟩
theorem open_value (h : Tr enc w fuel 29 cs x) (hB : Rows.uptoBulk x.1 <= 1048576) : ∃ m : MVal, cs = m.cells /\ m.Ok w NoX /\ vR m.v := by
  obtain ⟨hl, hf⟩ := jl Tryz.underlying29 h
  rw [Tryz.cellsValue] at hl
  obtain ⟨n0, y0, h0, b0⟩ := hf 0 26 0 rfl
  obtain ⟨n1, y1, h1, b1⟩ := hf 1 3 1 rfl
  obtain ⟨n2, y2, h2, b2⟩ := hf 2 9 2 rfl
  obtain ⟨n3, y3, h3, b3⟩ := hf 3 27 3 rfl
  obtain ⟨c0, l0, rfl, hl0⟩ := jX hl
  obtain ⟨c1, l1, rfl, hl1⟩ := jX hl0
  obtain ⟨c2, l2, rfl, hl2⟩ := jX hl1
  obtain ⟨c3, l3, rfl, hl3⟩ := jX hl2
  obtain rfl := List.eq_nil_of_length_eq_zero hl3
  simp only [Tryz.cellsKind, Tryz.cellsInt, Tryz.cellsString, Tryz.cellsTexts, List.drop_zero, List.drop_succ_cons, List.take_succ_cons, List.take_zero] at h0 h1 h2 h3
  obtain ⟨k, e0, _⟩ := jn Tryz.underlying26 h0
  obtain ⟨n, e1, _⟩ := jn Tryz.underlying3 h1
  obtain ⟨t, e2, s2⟩ := ky h2
  obtain ⟨A, c, l, e3, hrd, hc, s3, s4⟩ := open_texts h3
  simp only [List.cons.injEq, and_true] at e0 e1 e2 e3
  subst e0 e1 e2 e3
  exact ⟨⟨⟨k, n, t, l⟩, A, c⟩, rfl, ⟨hrd, Av.no _ _, hc, by simp only; omega⟩, by simp only; omega, fun s hs => by have := s4 s hs; omega⟩
theorem flat4 (f : Nat -> List Value) : ∀ (n : Nat), (∀ i, i < n -> (f i).length = 4) -> ((List.range n).flatMap f).length = n * 4 /\ ∀ j u, ((List.range n).flatMap f)[j]? = some u -> ∃ i r, i < n /\ r < 4 /\ j = i * 4 + r /\ (f i)[r]? = some u
  | 0, _ => ⟨rfl, fun j u h => by simp at h⟩
  | n + 1, hf => by
    obtain ⟨h1, h2⟩ := flat4 f n (fun i hi => hf i (by omega))
    have hn := hf n (by omega)
    rw [List.range_succ, List.flatMap_append]
    have e : List.flatMap f [n] = f n := by simp
    rw [e]
    refine ⟨by rw [List.length_append, h1, hn]; omega, fun j u hu => ?_⟩
    by_cases hj : j < n * 4
    · rw [List.getElem?_append_left (by rw [h1]; exact hj)] at hu
      obtain ⟨i, r, hi, hr, hjr, hv⟩ := h2 j u hu
      exact ⟨i, r, by omega, hr, hjr, hv⟩
    · rw [List.getElem?_append_right (by rw [h1]; omega), h1] at hu
      have := (List.getElem?_eq_some_iff.1 hu).1
      exact ⟨n, j - n * 4, by omega, by omega, by omega, hu⟩
theorem open_values (h : Tr enc w fuel 30 cs x) (hB : Rows.uptoBulk x.1 <= 1048576) : ∃ A c, ∃ l : List MVal, cs = [.slice A l.length c] /\ Rd w 4 A l.length (l.flatMap MVal.cells) /\ l.length <= c /\ l.length <= 1048576 /\ ∀ v ∈ l, MVal.Ok w NoX v /\ vR v.v := by
  rcases Deep.open_slice Tryz.underlying30 h with ⟨rfl, rfl⟩ | ⟨a, len, cap, m, n, D, Pl, rfl, _, hlc, _, hm, rfl, hx⟩
  · exact ⟨none, 0, [], rfl, Rd.none_, Nat.le_refl _, by decide, fun v hv => by cases hv⟩
  · simp only [if_true] at hm
    subst hm
    rw [Tryz.cellsValue] at hx
    simp only [Rows.uptoBulk] at hB
    have hlen := bulk_len ((List.range len).map D)
    rw [List.length_map, List.length_range] at hlen
    haveI : Inhabited MVal := ⟨⟨⟨0, 0, ⟨#[]⟩, []⟩, none, 0⟩⟩
    obtain ⟨f, hf⟩ := Deep.choose_lt (n := len) (p := fun i (v : MVal) => w.cells? 0 (a.add (i * 4)) 4 = some v.cells /\ v.Ok w NoX /\ vR v.v) (fun i hi => by
      obtain ⟨cs', h1, h2⟩ := hx i (by omega)
      have hb := bulk_part (List.mem_map_of_mem (f := D) (List.mem_range.2 hi))
      obtain ⟨v, rfl, h3, h4⟩ := open_value h2 (by simp only; omega)
      exact ⟨v, h1, h3, h4⟩)
    have hl : ((List.range len).map f).length = len := by simp
    refine ⟨some a, m, (List.range len).map f, by rw [hl], ?_, by omega, by omega, fun v hv => ?_⟩
    · rw [hl, List.flatMap_map]
      obtain ⟨h1, h2⟩ := flat4 (fun i => (f i).cells) len (fun i _ => rfl)
      refine Rd.of_add h1 (by decide) (fun j u hu => ?_)
      obtain ⟨i, r, hi, hr, rfl, hv⟩ := h2 j u hu
      have h3 := (World.cells?_some (hf i hi).1).2.2 r hr
      rw [add_of_add] at h3
      rw [h3]
      exact hv
    · obtain ⟨i, hi, rfl⟩ := List.mem_map.1 hv
      exact (hf i (List.mem_range.1 hi)).2
theorem open_oper (h : Tr enc w fuel 32 cs x) (hB : Rows.uptoBulk x.1 <= 1048576) : ∃ m : MOp, cs = m.cells /\ m.Ok w NoX /\ vR m.value.v /\ ∀ v ∈ m.args, vR v.v := by
  obtain ⟨hl, hf⟩ := jl Tryz.underlying32 h
  rw [Tryz.cellsOper] at hl
  obtain ⟨n0, y0, h0, b0⟩ := hf 0 3 0 rfl
  obtain ⟨n1, y1, h1, b1⟩ := hf 1 9 1 rfl
  obtain ⟨n2, y2, h2, b2⟩ := hf 2 9 2 rfl
  obtain ⟨n3, y3, h3, b3⟩ := hf 3 9 3 rfl
  obtain ⟨n4, y4, h4, b4⟩ := hf 4 29 4 rfl
  obtain ⟨n5, y5, h5, b5⟩ := hf 5 30 8 rfl
  obtain ⟨n6, y6, h6, b6⟩ := hf 6 22 9 rfl
  obtain ⟨n7, y7, h7, b7⟩ := hf 7 3 10 rfl
  obtain ⟨c0, l0, rfl, hl0⟩ := jX hl
  obtain ⟨c1, l1, rfl, hl1⟩ := jX hl0
  obtain ⟨c2, l2, rfl, hl2⟩ := jX hl1
  obtain ⟨c3, l3, rfl, hl3⟩ := jX hl2
  obtain ⟨c4, l4, rfl, hl4⟩ := jX hl3
  obtain ⟨c5, l5, rfl, hl5⟩ := jX hl4
  obtain ⟨c6, l6, rfl, hl6⟩ := jX hl5
  obtain ⟨c7, l7, rfl, hl7⟩ := jX hl6
  obtain ⟨c8, l8, rfl, hl8⟩ := jX hl7
  obtain ⟨c9, l9, rfl, hl9⟩ := jX hl8
  obtain ⟨c10, l10, rfl, hl10⟩ := jX hl9
  obtain rfl := List.eq_nil_of_length_eq_zero hl10
  simp only [Tryz.cellsInt, Tryz.cellsString, Tryz.cellsValue, Tryz.cellsVals, Tryz.cellsBytes, List.drop_zero, List.drop_succ_cons, List.take_succ_cons, List.take_zero] at h0 h1 h2 h3 h4 h5 h6 h7
  obtain ⟨op, e0, _⟩ := jn Tryz.underlying3 h0
  obtain ⟨ca, e1, s1⟩ := ky h1
  obtain ⟨ty, e2, s2⟩ := ky h2
  obtain ⟨na, e3, s3⟩ := ky h3
  obtain ⟨v, e4, hv, sv4⟩ := open_value h4 (by omega)
  obtain ⟨A5, c5', l5, e5, r5, cp5, s5, hv5⟩ := open_values h5 (by omega)
  obtain ⟨A6, c6', l6, e6, r6, cp6, s6⟩ := open_bytes h6
  obtain ⟨clk, e7, _⟩ := jn Tryz.underlying3 h7
  simp only [MVal.cells, List.cons.injEq, and_true] at e0 e1 e2 e3 e4 e5 e6 e7
  obtain ⟨e4, e4', e4'', e4'''⟩ := e4
  subst e0 e1 e2 e3 e4 e4' e4'' e4''' e5 e6 e7
  exact ⟨⟨op, ca, ty, na, v, l5, A5, c5', l6, A6, c6', clk⟩, rfl, ⟨hv, fun u hu => (hv5 u hu).1, r5, Av.no _ _, cp5, r6, Av.no _ _, by simp only; omega⟩, sv4, fun u hu => (hv5 u hu).2⟩
theorem open_req (h : Tr enc w fuel 34 cs x) (hB : Rows.uptoBulk x.1 <= 1048576) : ∃ m : MReq, cs = m.cells /\ m.Ok w /\ vR m.do_.value.v /\ ∀ v ∈ m.do_.args, vR v.v := by
  obtain ⟨hl, hf⟩ := jl Tryz.underlying34 h
  rw [Tryz.cellsReq] at hl
  obtain ⟨n0, y0, h0, b0⟩ := hf 0 3 0 rfl
  obtain ⟨n1, y1, h1, b1⟩ := hf 1 32 1 rfl
  obtain ⟨n2, y2, h2, b2⟩ := hf 2 9 12 rfl
  obtain ⟨n3, y3, h3, b3⟩ := hf 3 3 13 rfl
  obtain ⟨n4, y4, h4, b4⟩ := hf 4 3 14 rfl
  obtain ⟨n5, y5, h5, b5⟩ := hf 5 3 15 rfl
  obtain ⟨n6, y6, h6, b6⟩ := hf 6 3 16 rfl
  obtain ⟨n7, y7, h7, b7⟩ := hf 7 3 17 rfl
  obtain ⟨c0, l0, rfl, hl0⟩ := jX hl
  obtain ⟨c1, l1, rfl, hl1⟩ := jX hl0
  obtain ⟨c2, l2, rfl, hl2⟩ := jX hl1
  obtain ⟨c3, l3, rfl, hl3⟩ := jX hl2
  obtain ⟨c4, l4, rfl, hl4⟩ := jX hl3
  obtain ⟨c5, l5, rfl, hl5⟩ := jX hl4
  obtain ⟨c6, l6, rfl, hl6⟩ := jX hl5
  obtain ⟨c7, l7, rfl, hl7⟩ := jX hl6
  obtain ⟨c8, l8, rfl, hl8⟩ := jX hl7
  obtain ⟨c9, l9, rfl, hl9⟩ := jX hl8
  obtain ⟨c10, l10, rfl, hl10⟩ := jX hl9
  obtain ⟨c11, l11, rfl, hl11⟩ := jX hl10
  obtain ⟨c12, l12, rfl, hl12⟩ := jX hl11
  obtain ⟨c13, l13, rfl, hl13⟩ := jX hl12
  obtain ⟨c14, l14, rfl, hl14⟩ := jX hl13
  obtain ⟨c15, l15, rfl, hl15⟩ := jX hl14
  obtain ⟨c16, l16, rfl, hl16⟩ := jX hl15
  obtain ⟨c17, l17, rfl, hl17⟩ := jX hl16
  obtain rfl := List.eq_nil_of_length_eq_zero hl17
  simp only [Tryz.cellsInt, Tryz.cellsString, Tryz.cellsOper, List.drop_zero, List.drop_succ_cons, List.take_succ_cons, List.take_zero] at h0 h1 h2 h3 h4 h5 h6 h7
  obtain ⟨op, e0, _⟩ := jn Tryz.underlying3 h0
  obtain ⟨o, e1, ho, sv1, sa1⟩ := open_oper h1 (by omega)
  obtain ⟨na, e2, s2⟩ := ky h2
  obtain ⟨i3, e3, _⟩ := jn Tryz.underlying3 h3
  obtain ⟨i4, e4, _⟩ := jn Tryz.underlying3 h4
  obtain ⟨i5, e5, _⟩ := jn Tryz.underlying3 h5
  obtain ⟨i6, e6, _⟩ := jn Tryz.underlying3 h6
  obtain ⟨i7, e7, _⟩ := jn Tryz.underlying3 h7
  simp only [List.cons.injEq, and_true] at e0 e2 e3 e4 e5 e6 e7
  subst e0 e2 e3 e4 e5 e6 e7
  refine ⟨⟨op, o, na, i3, i4, i5, i6, i7⟩, ?_, ⟨ho, by simp only; omega⟩, sv1, sa1⟩
  simp only [MReq.cells, <- e1, List.cons_append, List.nil_append]
end
end Go.Proofs.YtnaolhjbapgjgaaGreat
