import Derived.Test.YtnaolhjbapgjgaaMg01
import Derived.Test.YtnaolhjbapgjgaaMg30
import Derived.Test.YtnaolhjbapgjgaaMg47
import Derived.Test.YtnaolhjbapgjgaaMg48
import Derived.Test.YtnaolhjbapgjgaaMg50
import Derived.Test.YtnaolhjbapgjgaaRows
import Derived.Deep.Slices
import Derived.OpenShut
import Derived.SliceStrings
import Derived.ChangeSame
/- Contract of docketlaw24.DeskRequests: true is told, nothing turns. -/
namespace Go.Proofs.Ytnaolhjbapgjgaa
open Go.RowKit

theorem BRow.cap {w : World} {base : Nat} {l : List UInt8} {A : Option Addr} {c : Nat} (h : BRow w base l A c) : l.length ≤ c := by
  rcases h.own.2 with ⟨hv, _⟩ | ⟨g, cap, cur, hv, _, _, hn, _⟩
  · injection hv with _ h1 h2
    omega
  · injection hv with _ _ h2
    omega
set_option maxRecDepth 100000 in
set_option maxHeartbeats 800000 in
theorem dreq_any (w : World) (m : MReq) (A : Option Addr) (c : Nat) (bs : List UInt8) (hok : m.Ok w) (hv : smallV m.do_.value.v) (ha : ∀ v ∈ m.do_.args, smallV v.v) (hrd : Rd w 1 A bs.length (bs.map bv)) (hc : bs.length ≤ c) (hl : bs.length ≤ 2147483647) :
    Calls Try.prog 3 #[.agg m.cells.toArray, .slice A bs.length c] w fun e w' => e = .returned (.bool true) ∧ Old w w' := by
  have HA := Lib.hid (fun W (ho : Old w W) => asked_some W m ⟨hok.do_.old ho, hok.name⟩ hv ha)
  have HE := Lib.hid (fun W (ho : Old w W) => enc_any m W ⟨hok.do_.old ho, hok.name⟩)
  have HQ := Lib.hid (fun W (ho : Old w W) => rreq_any m W ⟨hok.do_.old ho, hok.name⟩)
  have HR := Lib.hid (fun W (ho : Old w W) => asks_any W A c bs (hrd.old ho) hc hl)
  have Hz := Lib.hid (show ∀ l, encReq m.data = some l → l.length ≤ 1048576 from fun l h => encReq_le h)
  have Hn := Lib.hid (show (Try.prog.info? 31).map (·.size) = some m.cells.length from Try.sizeRequest)
  clear hok hv ha hrd hc hl
  generalize m.cells = cs at *
  generalize encReq m.data = ob at *
  have Hb := Lib.hid (Blk.new w 31 cs.toArray)
  have Ho := Lib.hid ((Kp.refl NoX w).alloc (.cells cs.toArray 31))
  go_enter Try.func3, Try.ntmps3
  go_wp2_with (first | refine Try.load_wanted rfl 31 (.tmp 2) rfl w.heap.size 0 rfl cs _ Hb.out.range Try.underlying31 rfl Hn.out ?_ | fail)
  generalize w.alloc _ = W at *
  refine (HA.out W Ho.out).mono ?_
  rintro e w1 ⟨r1, rfl, h1, h1', ho1⟩
  have Hb := Lib.hid (Hb.out.old ho1)
  have Ho := Lib.hid (Ho.out.old ho1)
  clear ho1
  go_wp2_with fail
  refine (room_some w1 r1 bs.length h1 h1' (by omega)).mono ?_
  rintro e w2 ⟨r2, rfl, h2, h2', rfl⟩
  by_cases hneg : r2 < 0
  · go_wp2
    go_ret
    exact ⟨rfl, Ho.out⟩
  · go_wp2_with (first | refine Try.load_wanted rfl 31 (.tmp 2) rfl w.heap.size 0 rfl cs _ Hb.out.range Try.underlying31 rfl Hn.out ?_ | fail)
    refine (HE.out w1 Ho.out).mono ?_
    rintro e w2 (⟨l, A1, c1, hob, rfl, hown, ho2⟩ | ⟨hno, rfl, ho2⟩)
    · have Hb := Lib.hid (Hb.out.old ho2)
      have Ho := Lib.hid (Ho.out.old ho2)
      have Hob := Lib.hid hob
      have HX := Lib.hid (Rd.of_own hown)
      clear ho2 hob hown
      go_wp2_with (first | refine Try.load_wanted rfl 31 (.tmp 2) rfl w.heap.size 0 rfl cs _ Hb.out.range Try.underlying31 rfl Hn.out ?_ | fail)
      refine (HQ.out w2 Ho.out).mono ?_
      rintro e w3 (⟨l', A2, c2, hob2, hne, rfl, hrow, ho3⟩ | ⟨hno, rfl, ho3⟩)
      · obtain rfl : l = l' := Option.some.inj (Hob.out.symm.trans hob2)
        obtain ⟨g, rfl, _⟩ := hrow.some_ hne
        have hle := Hz.out l hob2
        have HL := Lib.hid (laid_some w3 A1 c1 g c2 l (HX.out.old ho3) hrow.rd (by omega))
        have Ho := Lib.hid (Ho.out.old ho3)
        have HW := Lib.hid (fun W' (ho : Old w3 W') => asks_any W' (some ⟨g, 0, none⟩) c2 l ((hrow.old ho).rd) hrow.cap (by omega))
        clear ho3 hob2 hne hrow hle
        go_wp2_with fail
        refine HL.out.mono ?_
        rintro e w4 ⟨rfl, ho4⟩
        have HR4 := Lib.hid (HR.out w4 (Ho.out.old ho4))
        have Ho4 := Lib.hid ho4
        clear ho4
        go_wp2_with fail
        refine HR4.out.mono ?_
        rintro e w5 ⟨rfl, ho5⟩
        have HW5 := Lib.hid (HW.out w5 (Ho4.out.old ho5))
        have Ho5 := Lib.hid ho5
        clear ho5
        go_wp2_with fail
        refine HW5.out.mono ?_
        rintro e w6 ⟨rfl, ho6⟩
        go_wp2
        go_ret
        exact ⟨rfl, ((Ho.out.old Ho4.out).old Ho5.out).old ho6⟩
      · rw [Hob.out] at hno
        cases hno
    · have Hb := Lib.hid (Hb.out.old ho2)
      have Ho := Lib.hid (Ho.out.old ho2)
      have Hob := Lib.hid hno
      clear ho2 hno
      go_wp2_with (first | refine Try.load_wanted rfl 31 (.tmp 2) rfl w.heap.size 0 rfl cs _ Hb.out.range Try.underlying31 rfl Hn.out ?_ | fail)
      refine (HQ.out w2 Ho.out).mono ?_
      rintro e w3 (⟨l', A2, c2, hob2, hne, rfl, hrow, ho3⟩ | ⟨hno, rfl, ho3⟩)
      · rw [Hob.out] at hob2
        cases hob2
      · have HL := Lib.hid (laid_nil w3)
        have Ho := Lib.hid (Ho.out.old ho3)
        have HW := Lib.hid (fun W' (ho : Old w3 W') => asks_any W' none 0 [] Rd.none_ (Nat.le_refl _) (by decide))
        clear ho3 hno
        go_wp2_with fail
        refine HL.out.mono ?_
        rintro e w4 ⟨rfl, ho4⟩
        have HR4 := Lib.hid (HR.out w4 (Ho.out.old ho4))
        have Ho4 := Lib.hid ho4
        clear ho4
        go_wp2_with fail
        refine HR4.out.mono ?_
        rintro e w5 ⟨rfl, ho5⟩
        have HW5 := Lib.hid (HW.out w5 (Ho4.out.old ho5))
        have Ho5 := Lib.hid ho5
        clear ho5
        go_wp2_with fail
        refine HW5.out.mono ?_
        rintro e w6 ⟨rfl, ho6⟩
        go_wp2
        go_ret
        exact ⟨rfl, ((Ho.out.old Ho4.out).old Ho5.out).old ho6⟩
end Go.Proofs.Ytnaolhjbapgjgaa

/- What the row's reading tells of bytes, texts, values, an operation, a request; and of their sizes. -/
namespace Go.Proofs.Ytnaolhjbapgjgaa
open Go.RowKit Go.ChangeShapes

section
variable {H : Type}
theorem bulk_pos (d : DataW H) : 1 ≤ Rows.uptoBulk d := by
  cases d with
  | lit l => cases l <;> simp [Rows.uptoBulk]
  | nil => simp [Rows.uptoBulk]
  | ptr d => simp [Rows.uptoBulk]
  | slice elems spare => simp [Rows.uptoBulk]
  | agg parts => simp [Rows.uptoBulk]
  | iface t d => simp [Rows.uptoBulk]
  | map entries => simp [Rows.uptoBulk]
  | held h => simp [Rows.uptoBulk]
theorem bulk_part {d : DataW H} {l : List (DataW H)} (h : d ∈ l) : Rows.uptoBulk d ≤ Rows.uptoBulkAll l := by
  induction l with
  | nil => cases h
  | cons x r ih =>
    simp only [Rows.uptoBulkAll]
    cases List.mem_cons.1 h with
    | inl e => subst e; omega
    | inr e => have := ih e; omega
theorem bulk_len (l : List (DataW H)) : l.length ≤ Rows.uptoBulkAll l := by
  induction l with
  | nil => simp [Rows.uptoBulkAll]
  | cons x r ih => have := bulk_pos x; simp only [Rows.uptoBulkAll, List.length_cons]; omega

variable {enc : TypeId × Value → H} {w : World} {fuel : Nat} {cs : List Value} {x : DataW H × List MemPlace}
/-- as the row reads its arguments -/
abbrev Tr (enc : TypeId × Value → H) (w : World) (fuel : Nat) (t : TypeId) (cs : List Value) (x : DataW H × List MemPlace) : Prop := DataW.trod enc Try.prog w 0 (fun _ => true) true fuel t cs = some x

theorem open_fields {t : TypeId} {fs : Array Field} (ht : Try.prog.underlying t = some (.struct fs)) (h : Tr enc w fuel t cs x) :
    cs.length = Try.prog.cellsOf t ∧ ∀ (i : Nat) (ft : TypeId) (o : Nat), (fs[i]?).map (fun f => (f.type, f.offset)) = some (ft, o) → ∃ n y, Tr enc w n ft ((cs.drop o).take (Try.prog.cellsOf ft)) y ∧ Rows.uptoBulk y.1 + 1 ≤ Rows.uptoBulk x.1 := by
  obtain ⟨xs, n, _, rfl, hl, hlen, hf⟩ := DataW.trod_struct ht h
  refine ⟨hl, fun i ft o hi => ?_⟩
  obtain ⟨f, hif, e⟩ := Option.map_eq_some_iff.1 hi
  injection e with e1 e2
  subst e1 e2
  have hlt : i < xs.length := by rw [hlen]; exact (Array.getElem?_eq_some_iff.1 hif).1
  have h1 := hf i f hif
  rw [List.getElem?_eq_getElem hlt] at h1
  refine ⟨n, xs[i], h1, ?_⟩
  have := bulk_part (List.mem_map_of_mem (f := fun y : DataW H × List MemPlace => y.1) (List.getElem_mem hlt))
  simp only [Rows.uptoBulk]
  omega
theorem open_i64 {t : TypeId} (ht : Try.prog.underlying t = some (.int .i64)) (h : Tr enc w fuel t cs x) : ∃ n : Int, cs = [.int .i64 n] ∧ -9223372036854775808 ≤ n ∧ n ≤ 9223372036854775807 := by
  obtain ⟨n, rfl, _, hw⟩ := DataW.trod_int ht h
  refine ⟨n, rfl, ?_⟩
  simpa [Lit.wf, IntKind.min, IntKind.max, IntKind.signed, IntKind.bits] using hw
theorem open_text (h : Tr enc w fuel 9 cs x) : ∃ s : ByteArray, cs = [.string s] ∧ s.size + 1 ≤ Rows.uptoBulk x.1 := by
  obtain ⟨s, rfl, rfl, hw⟩ := DataW.trod_string Try.underlying9 h
  refine ⟨s, rfl, ?_⟩
  have e : s.data.toList.length = s.size := by rw [Array.length_toList]; rfl
  simp only [Rows.uptoBulk]
  omega

theorem byte_of {n : Int} (h : (Lit.int .u8 n).wf = true) : ((UInt8.ofNat n.toNat).toNat : Int) = n := by
  have h1 : 0 ≤ n ∧ n ≤ 255 := by simpa [Lit.wf, IntKind.min, IntKind.max, IntKind.signed, IntKind.bits] using h
  rw [UInt8.toNat_ofNat']
  omega
theorem open_bytes (h : Tr enc w fuel 27 cs x) : ∃ A c, ∃ l : List UInt8, cs = [.slice A l.length c] ∧ Rd w 1 A l.length (l.map bv) ∧ l.length ≤ c ∧ l.length + 1 ≤ Rows.uptoBulk x.1 := by
  rcases open_ints Try.underlying27 Try.underlying5 (by kernel_rfl) h with ⟨rfl, rfl⟩ | ⟨a, len, cap, zs, rfl, _, hlc, _, hzl, rfl, hcell, hwf⟩
  · exact ⟨none, 0, [], rfl, Rd.none_, Nat.le_refl _, by simp [Rows.uptoBulk]⟩
  · simp only [if_true] at hzl
    have hl : ((zs.take len).map fun z => UInt8.ofNat z.toNat).length = len := by simp; omega
    refine ⟨some a, cap, (zs.take len).map fun z => UInt8.ofNat z.toNat, by rw [hl], ?_, by omega, ?_⟩
    · rw [hl]
      refine Rd.of_add (by rw [List.length_map, hl, Nat.mul_one]) (by decide) (fun j u hu => ?_)
      have hj : j < len := by
        have := (List.getElem?_eq_some_iff.1 hu).1
        rw [List.length_map, hl] at this
        exact this
      have hjz : j < zs.length := by omega
      rw [hcell j hjz]
      rw [List.getElem?_map, List.getElem?_map, List.getElem?_take, if_pos hj, List.getElem?_eq_getElem hjz] at hu
      simp only [Option.map_some, Option.some.injEq] at hu
      rw [← hu]
      simp only [bv, byte_of (hwf _ (List.getElem_mem hjz)), List.getD, List.getElem?_eq_getElem hjz, Option.getD_some]
    · have := bulk_len (lits (H := H) .u8 (zs.take len))
      rw [hl]
      simp only [Rows.uptoBulk]
      simp only [lits, List.length_map, List.length_take] at this
      simp only [lits]
      omega
theorem open_texts (h : Tr enc w fuel 23 cs x) : ∃ A c, ∃ l : List ByteArray, cs = [.slice A l.length c] ∧ Rd w 1 A l.length (l.map sv) ∧ l.length ≤ c ∧ l.length + 1 ≤ Rows.uptoBulk x.1 ∧ ∀ s ∈ l, s.size + 1 ≤ Rows.uptoBulk x.1 := by
  rcases open_strings Try.underlying23 Try.underlying9 (by kernel_rfl) h with ⟨rfl, rfl⟩ | ⟨a, len, cap, ss, rfl, _, hlc, _, hzl, rfl, hcell, _⟩
  · exact ⟨none, 0, [], rfl, Rd.none_, Nat.le_refl _, by simp [Rows.uptoBulk], fun s hs => by cases hs⟩
  · simp only [if_true] at hzl
    have hl : (ss.take len).length = len := by simp; omega
    refine ⟨some a, cap, ss.take len, by rw [hl], ?_, by omega, ?_, fun s hs => ?_⟩
    · rw [hl]
      refine Rd.of_add (by rw [List.length_map, hl, Nat.mul_one]) (by decide) (fun j u hu => ?_)
      have hj : j < len := by
        have := (List.getElem?_eq_some_iff.1 hu).1
        rw [List.length_map, hl] at this
        exact this
      have hjz : j < ss.length := by omega
      rw [hcell j hjz]
      rw [List.getElem?_map, List.getElem?_take, if_pos hj, List.getElem?_eq_getElem hjz] at hu
      simp only [Option.map_some, Option.some.injEq] at hu
      rw [← hu]
      simp only [sv, List.getD, List.getElem?_eq_getElem hjz, Option.getD_some]
    · have := bulk_len (strs (H := H) (ss.take len))
      rw [hl]
      simp only [Rows.uptoBulk]
      simp only [strs, List.length_map, List.length_take] at this
      simp only [strs]
      omega
    · have h1 := bulk_part (List.mem_map_of_mem (f := fun s : ByteArray => DataW.lit (H := H) (.string s.data.toList)) hs)
      have e : s.data.toList.length = s.size := by rw [Array.length_toList]; rfl
      simp only [Rows.uptoBulk] at h1
      simp only [Rows.uptoBulk, strs]
      omega

theorem Try.cellsInt : Try.prog.cellsOf 3 = 1 := by kernel_rfl
theorem Try.cellsKind : Try.prog.cellsOf 22 = 1 := by kernel_rfl
theorem Try.cellsString : Try.prog.cellsOf 9 = 1 := by kernel_rfl
theorem Try.cellsTexts : Try.prog.cellsOf 23 = 1 := by kernel_rfl
theorem Try.cellsBytes : Try.prog.cellsOf 27 = 1 := by kernel_rfl
theorem Try.cellsVals : Try.prog.cellsOf 26 = 1 := by kernel_rfl
theorem Try.cellsValue : Try.prog.cellsOf 25 = 4 := by kernel_rfl
theorem Try.cellsOper : Try.prog.cellsOf 29 = 11 := by kernel_rfl
theorem Try.cellsReq : Try.prog.cellsOf 31 = 18 := by kernel_rfl

theorem len_succ {α : Type} {l : List α} {n : Nat} (h : l.length = n + 1) : ∃ a t, l = a :: t ∧ t.length = n := by
  cases l with
  | nil => simp at h
  | cons a t => exact ⟨a, t, rfl, by simpa using h⟩
theorem open_value (h : Tr enc w fuel 25 cs x) (hB : Rows.uptoBulk x.1 ≤ 1048576) : ∃ m : MVal, cs = m.cells ∧ m.Ok w NoX ∧ smallV m.v := by
  obtain ⟨hl, hf⟩ := open_fields Try.underlying25 h
  rw [Try.cellsValue] at hl
  obtain ⟨n0, y0, h0, b0⟩ := hf 0 22 0 rfl
  obtain ⟨n1, y1, h1, b1⟩ := hf 1 3 1 rfl
  obtain ⟨n2, y2, h2, b2⟩ := hf 2 9 2 rfl
  obtain ⟨n3, y3, h3, b3⟩ := hf 3 23 3 rfl
  obtain ⟨c0, l0, rfl, hl0⟩ := len_succ hl
  obtain ⟨c1, l1, rfl, hl1⟩ := len_succ hl0
  obtain ⟨c2, l2, rfl, hl2⟩ := len_succ hl1
  obtain ⟨c3, l3, rfl, hl3⟩ := len_succ hl2
  obtain rfl := List.eq_nil_of_length_eq_zero hl3
  simp only [Try.cellsKind, Try.cellsInt, Try.cellsString, Try.cellsTexts, List.drop_zero, List.drop_succ_cons, List.take_succ_cons, List.take_zero] at h0 h1 h2 h3
  obtain ⟨k, e0, _⟩ := open_i64 Try.underlying22 h0
  obtain ⟨n, e1, _⟩ := open_i64 Try.underlying3 h1
  obtain ⟨t, e2, s2⟩ := open_text h2
  obtain ⟨A, c, l, e3, hrd, hc, s3, s4⟩ := open_texts h3
  simp only [List.cons.injEq, and_true] at e0 e1 e2 e3
  subst e0 e1 e2 e3
  exact ⟨⟨⟨k, n, t, l⟩, A, c⟩, rfl, ⟨hrd, Av.no _ _, hc, by simp only; omega⟩, by simp only; omega, fun s hs => by have := s4 s hs; omega⟩
theorem flat4 (f : Nat → List Value) : ∀ (n : Nat), (∀ i, i < n → (f i).length = 4) → ((List.range n).flatMap f).length = n * 4 ∧ ∀ j u, ((List.range n).flatMap f)[j]? = some u → ∃ i r, i < n ∧ r < 4 ∧ j = i * 4 + r ∧ (f i)[r]? = some u
  | 0, _ => ⟨rfl, fun j u h => by simp at h⟩
  | n + 1, hf => by
    obtain ⟨h1, h2⟩ := flat4 f n (fun i hi => hf i (by omega))
    have hn := hf n (by omega)
    rw [List.range_succ, List.flatMap_append]
    have e : List.flatMap f [n] = f n := by simp
    rw [e]
    refine ⟨by rw [List.length_append, h1, hn]; omega, fun j u hu => ?_⟩
    by_cases hj : j < n * 4
    · rw [List.getElem?_append_left (by rw [h1]; exact hj)] at hu
      obtain ⟨i, r, hi, hr, hjr, hv⟩ := h2 j u hu
      exact ⟨i, r, by omega, hr, hjr, hv⟩
    · rw [List.getElem?_append_right (by rw [h1]; omega), h1] at hu
      have := (List.getElem?_eq_some_iff.1 hu).1
      exact ⟨n, j - n * 4, by omega, by omega, by omega, hu⟩
theorem open_values (h : Tr enc w fuel 26 cs x) (hB : Rows.uptoBulk x.1 ≤ 1048576) : ∃ A c, ∃ l : List MVal, cs = [.slice A l.length c] ∧ Rd w 4 A l.length (l.flatMap MVal.cells) ∧ l.length ≤ c ∧ l.length ≤ 1048576 ∧ ∀ v ∈ l, MVal.Ok w NoX v ∧ smallV v.v := by
  rcases Deep.open_slice Try.underlying26 h with ⟨rfl, rfl⟩ | ⟨a, len, cap, m, n, D, Pl, rfl, _, hlc, _, hm, rfl, hx⟩
  · exact ⟨none, 0, [], rfl, Rd.none_, Nat.le_refl _, by decide, fun v hv => by cases hv⟩
  · simp only [if_true] at hm
    subst hm
    rw [Try.cellsValue] at hx
    simp only [Rows.uptoBulk] at hB
    have hlen := bulk_len ((List.range len).map D)
    rw [List.length_map, List.length_range] at hlen
    haveI : Inhabited MVal := ⟨⟨⟨0, 0, ⟨#[]⟩, []⟩, none, 0⟩⟩
    obtain ⟨f, hf⟩ := Deep.choose_lt (n := len) (p := fun i (v : MVal) => w.cells? 0 (a.add (i * 4)) 4 = some v.cells ∧ v.Ok w NoX ∧ smallV v.v) (fun i hi => by
      obtain ⟨cs', h1, h2⟩ := hx i (by omega)
      have hb := bulk_part (List.mem_map_of_mem (f := D) (List.mem_range.2 hi))
      obtain ⟨v, rfl, h3, h4⟩ := open_value h2 (by simp only; omega)
      exact ⟨v, h1, h3, h4⟩)
    have hl : ((List.range len).map f).length = len := by simp
    refine ⟨some a, m, (List.range len).map f, by rw [hl], ?_, by omega, by omega, fun v hv => ?_⟩
    · rw [hl, List.flatMap_map]
      obtain ⟨h1, h2⟩ := flat4 (fun i => (f i).cells) len (fun i _ => rfl)
      refine Rd.of_add h1 (by decide) (fun j u hu => ?_)
      obtain ⟨i, r, hi, hr, rfl, hv⟩ := h2 j u hu
      have h3 := (World.cells?_some (hf i hi).1).2.2 r hr
      rw [add_of_add] at h3
      rw [h3]
      exact hv
    · obtain ⟨i, hi, rfl⟩ := List.mem_map.1 hv
      exact (hf i (List.mem_range.1 hi)).2
theorem open_oper (h : Tr enc w fuel 29 cs x) (hB : Rows.uptoBulk x.1 ≤ 1048576) : ∃ m : MOp, cs = m.cells ∧ m.Ok w NoX ∧ smallV m.value.v ∧ ∀ v ∈ m.args, smallV v.v := by
  obtain ⟨hl, hf⟩ := open_fields Try.underlying29 h
  rw [Try.cellsOper] at hl
  obtain ⟨n0, y0, h0, b0⟩ := hf 0 3 0 rfl
  obtain ⟨n1, y1, h1, b1⟩ := hf 1 9 1 rfl
  obtain ⟨n2, y2, h2, b2⟩ := hf 2 9 2 rfl
  obtain ⟨n3, y3, h3, b3⟩ := hf 3 9 3 rfl
  obtain ⟨n4, y4, h4, b4⟩ := hf 4 25 4 rfl
  obtain ⟨n5, y5, h5, b5⟩ := hf 5 26 8 rfl
  obtain ⟨n6, y6, h6, b6⟩ := hf 6 27 9 rfl
  obtain ⟨n7, y7, h7, b7⟩ := hf 7 3 10 rfl
  obtain ⟨c0, l0, rfl, hl0⟩ := len_succ hl
  obtain ⟨c1, l1, rfl, hl1⟩ := len_succ hl0
  obtain ⟨c2, l2, rfl, hl2⟩ := len_succ hl1
  obtain ⟨c3, l3, rfl, hl3⟩ := len_succ hl2
  obtain ⟨c4, l4, rfl, hl4⟩ := len_succ hl3
  obtain ⟨c5, l5, rfl, hl5⟩ := len_succ hl4
  obtain ⟨c6, l6, rfl, hl6⟩ := len_succ hl5
  obtain ⟨c7, l7, rfl, hl7⟩ := len_succ hl6
  obtain ⟨c8, l8, rfl, hl8⟩ := len_succ hl7
  obtain ⟨c9, l9, rfl, hl9⟩ := len_succ hl8
  obtain ⟨c10, l10, rfl, hl10⟩ := len_succ hl9
  obtain rfl := List.eq_nil_of_length_eq_zero hl10
  simp only [Try.cellsInt, Try.cellsString, Try.cellsValue, Try.cellsVals, Try.cellsBytes, List.drop_zero, List.drop_succ_cons, List.take_succ_cons, List.take_zero] at h0 h1 h2 h3 h4 h5 h6 h7
  obtain ⟨op, e0, _⟩ := open_i64 Try.underlying3 h0
  obtain ⟨ca, e1, s1⟩ := open_text h1
  obtain ⟨ty, e2, s2⟩ := open_text h2
  obtain ⟨na, e3, s3⟩ := open_text h3
  obtain ⟨v, e4, hv, sv4⟩ := open_value h4 (by omega)
  obtain ⟨A5, c5', l5, e5, r5, cp5, s5, hv5⟩ := open_values h5 (by omega)
  obtain ⟨A6, c6', l6, e6, r6, cp6, s6⟩ := open_bytes h6
  obtain ⟨clk, e7, _⟩ := open_i64 Try.underlying3 h7
  simp only [MVal.cells, List.cons.injEq, and_true] at e0 e1 e2 e3 e4 e5 e6 e7
  obtain ⟨e4, e4', e4'', e4'''⟩ := e4
  subst e0 e1 e2 e3 e4 e4' e4'' e4''' e5 e6 e7
  exact ⟨⟨op, ca, ty, na, v, l5, A5, c5', l6, A6, c6', clk⟩, rfl, ⟨hv, fun u hu => (hv5 u hu).1, r5, Av.no _ _, cp5, r6, Av.no _ _, by simp only; omega⟩, sv4, fun u hu => (hv5 u hu).2⟩
theorem open_req (h : Tr enc w fuel 31 cs x) (hB : Rows.uptoBulk x.1 ≤ 1048576) : ∃ m : MReq, cs = m.cells ∧ m.Ok w ∧ smallV m.do_.value.v ∧ ∀ v ∈ m.do_.args, smallV v.v := by
  obtain ⟨hl, hf⟩ := open_fields Try.underlying31 h
  rw [Try.cellsReq] at hl
  obtain ⟨n0, y0, h0, b0⟩ := hf 0 3 0 rfl
  obtain ⟨n1, y1, h1, b1⟩ := hf 1 29 1 rfl
  obtain ⟨n2, y2, h2, b2⟩ := hf 2 9 12 rfl
  obtain ⟨n3, y3, h3, b3⟩ := hf 3 3 13 rfl
  obtain ⟨n4, y4, h4, b4⟩ := hf 4 3 14 rfl
  obtain ⟨n5, y5, h5, b5⟩ := hf 5 3 15 rfl
  obtain ⟨n6, y6, h6, b6⟩ := hf 6 3 16 rfl
  obtain ⟨n7, y7, h7, b7⟩ := hf 7 3 17 rfl
  obtain ⟨c0, l0, rfl, hl0⟩ := len_succ hl
  obtain ⟨c1, l1, rfl, hl1⟩ := len_succ hl0
  obtain ⟨c2, l2, rfl, hl2⟩ := len_succ hl1
  obtain ⟨c3, l3, rfl, hl3⟩ := len_succ hl2
  obtain ⟨c4, l4, rfl, hl4⟩ := len_succ hl3
  obtain ⟨c5, l5, rfl, hl5⟩ := len_succ hl4
  obtain ⟨c6, l6, rfl, hl6⟩ := len_succ hl5
  obtain ⟨c7, l7, rfl, hl7⟩ := len_succ hl6
  obtain ⟨c8, l8, rfl, hl8⟩ := len_succ hl7
  obtain ⟨c9, l9, rfl, hl9⟩ := len_succ hl8
  obtain ⟨c10, l10, rfl, hl10⟩ := len_succ hl9
  obtain ⟨c11, l11, rfl, hl11⟩ := len_succ hl10
  obtain ⟨c12, l12, rfl, hl12⟩ := len_succ hl11
  obtain ⟨c13, l13, rfl, hl13⟩ := len_succ hl12
  obtain ⟨c14, l14, rfl, hl14⟩ := len_succ hl13
  obtain ⟨c15, l15, rfl, hl15⟩ := len_succ hl14
  obtain ⟨c16, l16, rfl, hl16⟩ := len_succ hl15
  obtain ⟨c17, l17, rfl, hl17⟩ := len_succ hl16
  obtain rfl := List.eq_nil_of_length_eq_zero hl17
  simp only [Try.cellsInt, Try.cellsString, Try.cellsOper, List.drop_zero, List.drop_succ_cons, List.take_succ_cons, List.take_zero] at h0 h1 h2 h3 h4 h5 h6 h7
  obtain ⟨op, e0, _⟩ := open_i64 Try.underlying3 h0
  obtain ⟨o, e1, ho, sv1, sa1⟩ := open_oper h1 (by omega)
  obtain ⟨na, e2, s2⟩ := open_text h2
  obtain ⟨i3, e3, _⟩ := open_i64 Try.underlying3 h3
  obtain ⟨i4, e4, _⟩ := open_i64 Try.underlying3 h4
  obtain ⟨i5, e5, _⟩ := open_i64 Try.underlying3 h5
  obtain ⟨i6, e6, _⟩ := open_i64 Try.underlying3 h6
  obtain ⟨i7, e7, _⟩ := open_i64 Try.underlying3 h7
  simp only [List.cons.injEq, and_true] at e0 e2 e3 e4 e5 e6 e7
  subst e0 e2 e3 e4 e5 e6 e7
  refine ⟨⟨op, o, na, i3, i4, i5, i6, i7⟩, ?_, ⟨ho, by simp only; omega⟩, sv1, sa1⟩
  simp only [MReq.cells, ← e1, List.cons_append, List.nil_append]
end
end Go.Proofs.Ytnaolhjbapgjgaa

/- A row's end: what was there is as it was. -/
namespace Go.Proofs.Ytnaolhjbapgjgaa
open Go.RowKit Go.ChangeShapes Go.WideShapes

theorem Old.kept {W W' : World} (h : Old W W') (may : MemPlace → Prop) : W.keptBut W' may := by
  refine World.keptBut_mono (may := fun _ => False) (fun _ f => f.elim) (World.keptBut_none_iff.2 ⟨h.os, h.output, fun i hi => ?_⟩)
  exact h.block i hi (fun f => f)

section
variable {H : Type} {enc : TypeId × Value → H} {P : Program}
theorem post_of_old {f : Func} {s : ChangeSpec} {apart fresh handsOn again : Bool} {W W' : World} {args : Array Value} {v : Value} {ds gs : List (DataW H)} {before pa pv : List MemPlace}
    (hW : DataW.Whole enc P f.params.toList s.vars apart W args.toList ds gs before)
    (hres : ∀ (b : Nat) (sp : Nat → Bool) (hd : Bool), DataW.TrodAll enc P W' b sp hd f.resultTypes.toList (v.resultList f.resultTypes.size) (s.fn H (ds ++ gs)).results [])
    (hargs : ∀ sp : Nat → Bool, (∀ p ∈ before, sp p.block = true) → DataW.TrodAll enc P W' 0 sp true f.params.toList args.toList (s.fn H (ds ++ gs)).args pa)
    (hvars : ∀ sp : Nat → Bool, (∀ p ∈ before, sp p.block = true) → DataW.TrodVars enc P W' sp s.vars (s.fn H (ds ++ gs)).vars pv)
    (hps : before = pa ++ pv) (ho : Old W W')
    (hok : ∀ (j : Nat) (t : TypeId) (r : Value), f.resultTypes[j]? = some t → (v.resultList f.resultTypes.size)[j]? = some r → Value.okWide P W' .any 0 t r) :
    s.post enc P f apart fresh handsOn again W args v W' := by
  have hold : ∀ p ∈ before, (fun b => decide (b < W.heap.size)) p.block = true := fun p hp => by simpa using hW.lt p hp
  refine ⟨ds, gs, before, [], pa, pv, hW, hres _ _ _, hargs _ hold, hvars _ hold, World.keptBut_mono (fun p hp => ⟨hp, ?_⟩) (Old.kept ho (· ∈ before)), fun _ => ?_⟩
  · rw [hps, List.mem_append] at hp
    exact Or.inr hp
  · have hlt := hW.lt
    obtain ⟨_, _, _, _, _, hz, hn⟩ := hW
    refine ⟨hok, _, _, ([] ++ pa) ++ pv, ⟨[] ++ pa, pv, trodAll_append (hargs _ (fun _ _ => rfl)) (hres _ _ _), hvars _ (fun _ _ => rfl), rfl, ?_, ?_⟩, ?_⟩
    · intro b off hp
      have hm : MemPlace.cell b off ∈ before := by rw [hps]; simpa using hp
      rw [World.frozen?_of_block (ho.block b (hlt _ hm) (fun f => f))]
      exact hz b off hm
    · intro ha
      have := hn ha
      rw [hps] at this
      simpa using this
    · intro p hp _
      rw [hps]
      simpa using hp
end
end Go.Proofs.Ytnaolhjbapgjgaa
