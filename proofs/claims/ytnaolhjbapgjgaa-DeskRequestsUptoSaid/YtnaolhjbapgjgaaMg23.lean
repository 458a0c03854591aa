import Derived.Test.YtnaolhjbapgjgaaMg03
import Derived.Test.YtnaolhjbapgjgaaMg20
import Derived.Test.YtnaolhjbapgjgaaMg21
import Derived.Test.YtnaolhjbapgjgaaMg22
import Derived.Deep.DeepCutAuto
/- Contract of docketref14.TakeValue. -/
namespace Go.Proofs.Ytnaolhjbapgjgaa
open Go.RowKit

/-- a struct in a slot in memory, and two values, told together -/
theorem ret_cell_tmp2 {P : Program} {fn : Func} {R : Ending → World → Prop} {a : Act} {w : World} {p u v : Tmp} {ty : TypeId} {g : Nat} {t : TypeId} {cs : Array Value} {d : TypeDesc} (h : fn.results = #[.cell p ty, .tmp u, .tmp v])
    (hp : a.tmps.getD p undef = .pointer (some ⟨g, 0, none⟩)) (hb : Blk w g t cs) (hu : P.underlying ty = some d) (hd : (match d with | .struct _ | .array _ _ => true | _ => false) = true) (hi : (P.info? ty).map (·.size) = some cs.size)
    (hdf : a.defers = []) (hR : R (.returned (.tuple #[.agg cs, a.tmps.getD u undef, a.tmps.getD v undef])) w) : bodyPost P fn R .ret a w := by
  refine bodyPost_ret ?_ hdf hR
  have hl := run_loadVar_row (P := P) w g t ty cs (0, 0) d hb hu hd hi
  simp only [results, h]
  simp only [Array.getD_eq_getD_getElem?] at hp
  simp [hp, asAddr, hl]
theorem Try.sizeValue : (Try.prog.info? 25).map (·.size) = some 4 := by kernel_rfl

/-- what taking a value off the front tells -/
def RtvPost (w : World) (V : Val × Rs) (e : Ending) (w' : World) : Prop :=
  ∃ A c n y, e = .returned (.tuple #[vV V.1 A c, .int .i64 n, .int .i64 y]) ∧ (V.2.why = 0 → y = 0 ∧ n = (V.2.at_ : Int)) ∧ (V.2.why ≠ 0 → y ≠ 0) ∧ Rd w' 1 A V.1.s.length (V.1.s.map sv) ∧ Av (fun k => k < w.heap.size) V.1.s.length A ∧ V.1.s.length ≤ c ∧ Old w w'
def zero4 : List Value := [.int .i64 0, .int .i64 0, .string ⟨#[]⟩, .slice none 0 0]
theorem RtvPost.bad {w w' : World} {V : Val × Rs} (n y : Int) (hV : V.1 = zeroVal) (hw : V.2.why ≠ 0) (hy : y ≠ 0) (ho : Old w w') : RtvPost w V (.returned (.tuple #[.agg zero4.toArray, .int .i64 n, .int .i64 y])) w' := by
  refine ⟨none, 0, n, y, ?_, fun h => absurd h hw, fun _ => hy, ?_, ?_, ?_, ho⟩
  all_goals rw [hV]
  · rfl
  · exact Rd.none_
  · exact fun h => absurd h (by simp [zeroVal])
  · exact Nat.le_refl _
/-- while a value is taken: the value so far in box V, the result's box R -/
structure TvSt (w : World) (R V : Nat) (cs : List Value) (s : List ByteArray) (A : Option Addr) (c : Nat) (W : World) : Prop where
  boxV : Blk W V 25 cs.toArray
  boxR : Blk W R 25 zero4.toArray
  rd : Rd W 1 A s.length (s.map sv)
  av : Av (fun k => k < w.heap.size + 2) s.length A
  cap : s.length ≤ c
  big : s.length ≤ 1000000000000
  old : Old w W
  le : w.heap.size = R
  lt : V = R + 1
theorem TvSt.still {w W W' : World} {R V c : Nat} {cs : List Value} {s : List ByteArray} {A : Option Addr} (h : TvSt w R V cs s A c W) (ho : Old W W') : TvSt w R V cs s A c W' :=
  ⟨h.boxV.old ho, h.boxR.old ho, h.rd.old ho, h.av, h.cap, h.big, h.old.old ho, h.le, h.lt⟩
theorem TvSt.put {w W W' : World} {R V c c' : Nat} {cs cs' : List Value} {s s' : List ByteArray} {A A' : Option Addr} (h : TvSt w R V cs s A c W) (hk : Kp (fun k => k = V) W W') (hb : Blk W' V 25 cs'.toArray) (hr : Rd W' 1 A' s'.length (s'.map sv)) (ha : Av (fun k => k < w.heap.size + 2) s'.length A') (hc : s'.length ≤ c') (hg : s'.length ≤ 1000000000000) : TvSt w R V cs' s' A' c' W' :=
  ⟨hb, h.boxR.kp hk (fun e => by have := h.lt; omega), hr, ha, hc, hg, h.old.trans hk (fun b hb e => by have := h.le; have := h.lt; omega), h.le, h.lt⟩
theorem TvSt.set {w W : World} {R V : Nat} {cs : List Value} (h : TvSt w R V cs [] none 0 W) (i : Nat) (v : Value) : TvSt w R V (cs.set i v) [] none 0 (W.setCell ⟨V, i, none⟩ v) :=
  h.put ((Kp.refl (fun k => k = V) W).setCell (p := ⟨V, i, none⟩) (fun _ => rfl) v) (by rw [← List.setIfInBounds_toArray]; exact h.boxV.set_ i v) Rd.none_ (fun h => absurd h (by simp)) (Nat.le_refl _) (Nat.zero_le _)
theorem TvSt.told {w W : World} {R V c : Nat} {cs : List Value} {s : List ByteArray} {A : Option Addr} (h : TvSt w R V cs s A c W) (vs : List Value) (hl : 4 = vs.length) :
    Blk (W.setCells R 0 vs) R 25 vs.toArray ∧ Old w (W.setCells R 0 vs) ∧ Rd (W.setCells R 0 vs) 1 A s.length (s.map sv) :=
  ⟨h.boxR.setWhole vs hl, h.old.trans (Kp.setCells R 0 vs W) (fun b hb e => by have := h.le; omega), h.rd.kp (Kp.setCells R 0 vs W) (fun hn ad e hx => h.av hn ad e (by have := h.le; have h2 : ad.block = R := hx; omega))⟩
theorem rtn_any (w : World) (A : Option Addr) (c n k : Nat) (b : List UInt8) (hr : Rd w 1 A n (b.map bv)) (hn : n = b.length) (hk : k ≤ 8) :
    Calls Try.prog 78 #[.slice A n c, .int .i64 (k : Int)] w fun e w' => ∃ p : Int, e = .returned (.tuple #[.int .u64 ((tkN b k ⟨0, 0⟩).1 : Int), .int .i64 p, .int .i64 (tkN b k ⟨0, 0⟩).2.why]) ∧ ((tkN b k ⟨0, 0⟩).2.why = 0 → p = ((tkN b k ⟨0, 0⟩).2.at_ : Int)) ∧ w = w' := by
  by_cases h : k ≤ n
  · have e : tkN b k ⟨0, 0⟩ = (ofBe (b.take k), ⟨k, 0⟩) := by simp [tkN]; omega
    rw [e]
    refine (rtn_ok w A c n k b hr hn h hk).mono ?_
    rintro e w' ⟨rfl, rfl⟩
    exact ⟨k, rfl, fun _ => rfl, rfl⟩
  · have e : tkN b k ⟨0, 0⟩ = (0, ⟨0, 8⟩) := by simp [tkN]; omega
    rw [e]
    refine (rtn_no w A c n k (by omega)).mono ?_
    rintro e w' ⟨rfl, rfl⟩
    exact ⟨0, rfl, fun _ => rfl, rfl⟩
theorem lookV_no (v : Val) (q : Nat) (y : Int) (hy : y ≠ 0) : lookV (sh 1 (v, ⟨q, y⟩)) = (zeroVal, ⟨1 + q, y⟩) := by
  unfold lookV sh
  exact if_pos hy
theorem lookV_ok (v : Val) (q : Nat) : lookV (sh 1 (v, ⟨q, 0⟩)) = if rightE v ≠ 0 then (zeroVal, ⟨1 + q, 8⟩) else (v, ⟨1 + q, 0⟩) := by
  unfold lookV sh
  exact if_neg (fun h => h rfl)
theorem tkN_first (b : List UInt8) (h : 0 < b.length) : tkN b 1 ⟨0, 0⟩ = ((b.getD 0 0).toNat, ⟨1, 0⟩) := by
  have h1 := ofBe_one b h
  have h2 : 0 + 1 ≤ b.length := by omega
  simp only [tkN, List.drop_zero, h1]
  rw [if_neg (by simp), if_pos h2]

set_option maxRecDepth 100000 in
set_option maxHeartbeats 800000 in
theorem rtv_nil (w : World) (A : Option Addr) (c : Nat) : Calls Try.prog 62 #[.slice A 0 c] w (RtvPost w (takeVal [] ⟨0, 0⟩)) := by
  have HT := Lib.hid (show (takeVal [] ⟨0, 0⟩).1 = zeroVal ∧ (takeVal [] ⟨0, 0⟩).2.why ≠ 0 by
    have e : tkN [] 1 ⟨0, 0⟩ = (0, ⟨0, 8⟩) := rfl
    rw [takeVal, e]
    simp [kindV, lookV])
  generalize takeVal [] ⟨0, 0⟩ = TV at HT ⊢
  have hb := Blk.new w 25 zero4.toArray
  have Hb := Lib.hid hb
  have Hz := Lib.hid (hb.setWhole zero4 rfl)
  have Ho := Lib.hid (show Old w ((w.alloc (.cells zero4.toArray 25)).setCells w.heap.size 0 zero4) from ((Kp.refl NoX w).alloc _).trans (Kp.setCells _ _ _ _) (fun b hb e => by omega))
  clear hb
  go_enter Try.func62, Try.ntmps62
  go_wp2_with (first | refine wpList_store_mid rfl 25 (.tmp 2) (.tmp 13) rfl w.heap.size 0 _ rfl rfl (Hb.out.there 0 4 (by decide)) Try.sizeValue (all_one rfl) ?_ | fail)
  refine ret_cell_tmp2 (g := w.heap.size) (cs := zero4.toArray) rfl rfl Hz.out Try.underlying25 rfl (by kernel_rfl) rfl ?_
  exact .bad 0 8 HT.out.1 HT.out.2 (by decide) Ho.out

set_option maxRecDepth 100000 in
set_option maxHeartbeats 3200000 in
theorem rtv_1 (w : World) (bb o c : Nat) (b : List UInt8) (hr : Rd w 1 (some ⟨bb, o, none⟩) b.length (b.map bv)) (hc : b.length ≤ c) (hlen : b.length ≤ 100000000000) (hb : 0 < b.length) (hk : (b.getD 0 0).toNat = 1) :
    Calls Try.prog 62 #[.slice (some ⟨bb, o, none⟩) b.length c] w (RtvPost w (takeVal b ⟨0, 0⟩)) := by
  have HT := Lib.hid (show takeVal b ⟨0, 0⟩ = lookV (sh 1 (kindV (b.drop 1) 1 ⟨0, 0⟩)) by
    rw [takeVal, tkN_first b hb]
    simp only [hk]
    have := kindV_sh b 1 hb 1 0 0
    rw [Nat.add_zero] at this
    rw [this])
  generalize takeVal b ⟨0, 0⟩ = TV at HT ⊢
  have hcell : w.cell? ⟨bb, o, none⟩ = some (.int .u8 1) := by
    obtain ⟨b', o', e, hc0⟩ := hr.byte (k := 0) hb
    injection e with e
    injection e with e1 e2
    subst e1 e2
    rw [hk, Nat.add_zero] at hc0
    exact hc0
  obtain ⟨m, hm⟩ : ∃ m, b.length = m + 1 := ⟨b.length - 1, by omega⟩
  have hcut := hr.cut (k := 1) (cap := c) hb hc
  rw [Nat.mul_one, ← List.map_drop] at hcut
  have hsl := fun W => cut_l (P := Try.prog) Try.elemBytes Try.sizeBytes (some ⟨bb, o, none⟩) b.length c 1 .i64 1 rfl (by omega) W
  rw [Nat.mul_one] at hsl
  generalize (if c = 1 then some (⟨bb, o, none⟩ : Addr) else (some (⟨bb, o, none⟩ : Addr)).map (·.add 1)) = AA at hcut hsl
  have hdl : b.length - 1 = (b.drop 1).length := by rw [List.length_drop]
  rw [hm, Nat.add_sub_cancel] at hcut hsl hdl
  rw [hm]
  have Hcut := Lib.hid hcut
  have Hdl := Lib.hid hdl
  have Hlen := Lib.hid (show m ≤ 100000000000 by omega)
  have Hc1 := Lib.hid (show m ≤ c - 1 by omega)
  generalize b.drop 1 = l at *
  have hbbl := cell_lt hcell
  clear hcut hdl hlen hk hr hb hm hc
  have hst0 : TvSt w w.heap.size (w.heap.size + 1) [.int .i64 1, .int .i64 0, .string ⟨#[]⟩, .slice none 0 0] [] none 0 ((w.alloc (.cells ([.int .i64 0, .int .i64 0, .string ⟨#[]⟩, .slice none 0 0] : List Value).toArray 25)).alloc (.cells ([.int .i64 1, .int .i64 0, .string ⟨#[]⟩, .slice none 0 0] : List Value).toArray 25)) := by
    have h1 := Blk.new (w.alloc (.cells ([.int .i64 0, .int .i64 0, .string ⟨#[]⟩, .slice none 0 0] : List Value).toArray 25)) 25 ([.int .i64 1, .int .i64 0, .string ⟨#[]⟩, .slice none 0 0] : List Value).toArray
    rw [show (w.alloc (.cells ([.int .i64 0, .int .i64 0, .string ⟨#[]⟩, .slice none 0 0] : List Value).toArray 25)).heap.size = w.heap.size + 1 by simp] at h1
    exact ⟨h1, (Blk.new w _ _).alloc _, Rd.none_, (fun h => absurd h (by simp)), Nat.le_refl _, Nat.zero_le _, ((Kp.refl NoX w).alloc _).alloc _, rfl, rfl⟩
  have Hst := Lib.hid hst0
  clear hst0
  have HK0 := Lib.hid (show kindV l 1 ⟨0, 0⟩ = (⟨1, i64 (tkN l 8 ⟨0, 0⟩).1, ByteArray.empty, []⟩, (tkN l 8 ⟨0, 0⟩).2) by simp [kindV])
  have Hq0 := Lib.hid (show (tkN l 8 ⟨0, 0⟩).2.at_ ≤ 100 by simp only [tkN]; split <;> (try split) <;> simp)
  have HC := Lib.hid (fun W (h : Old w W) => rtn_any W AA (c - 1) m 8 l (Hcut.out.old h) Hdl.out (by decide))
  generalize tkN l 8 ⟨0, 0⟩ = TK at HK0 HC Hq0
  obtain ⟨u, q, y⟩ := TK
  simp only at HK0 HC Hq0
  go_enter Try.func62, Try.ntmps62
  go_wp2_with fail
  generalize (w.alloc _).alloc _ = W0 at *
  refine (HC.out W0 Hst.out.old).mono ?_
  rintro e w3 ⟨n, rfl, hn, rfl⟩
  have Hn := Lib.hid hn
  have Hq := Hq0
  have HK : Hid (kindV l 1 ⟨0, 0⟩ = (⟨1, wrap64 (u : Int), ⟨#[]⟩, []⟩, ⟨q, y⟩)) := HK0
  clear hn
  have c1 := Hst.out.boxV.at_ 1 (v := .int .i64 0) rfl
  have z1 := Hst.out.boxV.frozen 1
  go_upto_region 19 with (fail)
  have Hst := Lib.hid (show TvSt w w.heap.size (w.heap.size + 1) [.int .i64 1, .int .i64 (wrap64 (u : Int)), .string ⟨#[]⟩, .slice none 0 0] [] none 0 (W0.setCell ⟨w.heap.size + 1, 1, none⟩ (.int .i64 (wrap64 (u : Int)))) from Hst.out.set 1 (.int .i64 (wrap64 (u : Int))))
  clear c1 z1 HC hsl hcell
  generalize W0.setCell _ _ = W1 at *
  by_cases hy : y = 0
  · subst hy
    obtain rfl := Hn.out rfl
    have HT2 := Lib.hid (show TV = if rightE ⟨1, wrap64 (u : Int), ⟨#[]⟩, []⟩ ≠ 0 then (zeroVal, ⟨1 + q, 8⟩) else (⟨1, wrap64 (u : Int), ⟨#[]⟩, []⟩, ⟨1 + q, 0⟩) by
      rw [HT.out, HK.out]
      exact lookV_ok _ q)
    have eq1 : IntKind.i64.wrap (1 + (q : Int)) = 1 + (q : Int) := IntWalk.i64_in _ (by have := Hq.out; omega)
    have Hz1 := Lib.hid (rright_any ⟨1, wrap64 (u : Int), ⟨#[]⟩, []⟩ none 0 _ Hst.out.rd Hst.out.big)
    go_wp2_with (first | refine wpList_load_mid rfl 25 (.tmp 5) rfl (w.heap.size + 1) 0 rfl [.int .i64 1, .int .i64 (wrap64 (u : Int)), .string ⟨#[]⟩, .slice none 0 0] _ Hst.out.boxV.range Try.underlying25 rfl Try.sizeValue ?_ | fail)
    refine Hz1.out.mono ?_
    rintro e w5 ⟨rfl, ho5⟩
    have Hst := Lib.hid (Hst.out.still ho5)
    clear ho5 Hz1
    by_cases hR : rightE ⟨1, wrap64 (u : Int), ⟨#[]⟩, []⟩ = 0
    · rw [hR]
      have HT3 := Lib.hid (HT2.out.trans (if_neg (fun h => h hR)))
      have Hz := Lib.hid (Hst.out.told [.int .i64 1, .int .i64 (wrap64 (u : Int)), .string ⟨#[]⟩, .slice none 0 0] rfl)
      go_wp2_with (first | refine wpList_load_mid rfl 25 (.tmp 5) rfl (w.heap.size + 1) 0 rfl [.int .i64 1, .int .i64 (wrap64 (u : Int)), .string ⟨#[]⟩, .slice none 0 0] _ Hst.out.boxV.range Try.underlying25 rfl Try.sizeValue ?_ | refine wpList_store_mid rfl 25 (.tmp 2) (.tmp 81) rfl w.heap.size 0 _ rfl rfl (Hst.out.boxR.there 0 4 (by decide)) Try.sizeValue (all_one rfl) ?_ | fail)
      refine ret_cell_tmp2 (g := w.heap.size) (cs := List.toArray [.int .i64 1, .int .i64 (wrap64 (u : Int)), .string ⟨#[]⟩, .slice none 0 0]) rfl rfl Hz.out.1 Try.underlying25 rfl (by kernel_rfl) rfl ?_
      rw [HT3.out]
      exact ⟨none, 0, 1 + (q : Int), 0, rfl, (fun _ => ⟨rfl, by simp⟩), (fun h => absurd rfl h), Hz.out.2.2, (fun hn ad e h => Hst.out.av hn ad e (Nat.lt_of_lt_of_le h (Nat.le_add_right _ _))), Hst.out.cap, Hz.out.2.1⟩
    · have hRb : (rightE ⟨1, wrap64 (u : Int), ⟨#[]⟩, []⟩ != 0) = true := bne_iff_ne.2 hR
      have HT3 := Lib.hid (HT2.out.trans (if_pos hR))
      have Hz := Lib.hid (Hst.out.told zero4 rfl)
      generalize rightE ⟨1, wrap64 (u : Int), ⟨#[]⟩, []⟩ = R at *
      go_wp2_with (first | refine wpList_store_mid rfl 25 (.tmp 2) (.tmp 78) rfl w.heap.size 0 _ rfl rfl (Hst.out.boxR.there 0 4 (by decide)) Try.sizeValue (all_one rfl) ?_ | fail)
      refine ret_cell_tmp2 (g := w.heap.size) (cs := zero4.toArray) rfl rfl Hz.out.1 Try.underlying25 rfl (by kernel_rfl) rfl ?_
      rw [HT3.out]
      exact .bad _ 8 rfl (by simp) (by decide) Hz.out.2.1
  · have hyb : (y != 0) = true := bne_iff_ne.2 hy
    have HT2 := Lib.hid (show TV = (zeroVal, ⟨1 + q, y⟩) by
      rw [HT.out, HK.out]
      exact lookV_no _ q y hy)
    have Hy := Lib.hid hy
    have Hz := Lib.hid (Hst.out.told zero4 rfl)
    clear hy
    go_wp2_with (first | refine wpList_store_mid rfl 25 (.tmp 2) (.tmp 73) rfl w.heap.size 0 _ rfl rfl (Hst.out.boxR.there 0 4 (by decide)) Try.sizeValue (all_one rfl) ?_ | fail)
    refine ret_cell_tmp2 (g := w.heap.size) (cs := zero4.toArray) rfl rfl Hz.out.1 Try.underlying25 rfl (by kernel_rfl) rfl ?_
    rw [HT2.out]
    exact .bad _ y rfl Hy.out Hy.out Hz.out.2.1

set_option maxRecDepth 100000 in
set_option maxHeartbeats 3200000 in
theorem rtv_4 (w : World) (bb o c : Nat) (b : List UInt8) (hr : Rd w 1 (some ⟨bb, o, none⟩) b.length (b.map bv)) (hc : b.length ≤ c) (hlen : b.length ≤ 100000000000) (hb : 0 < b.length) (hk : (b.getD 0 0).toNat = 4) :
    Calls Try.prog 62 #[.slice (some ⟨bb, o, none⟩) b.length c] w (RtvPost w (takeVal b ⟨0, 0⟩)) := by
  have HT := Lib.hid (show takeVal b ⟨0, 0⟩ = lookV (sh 1 (kindV (b.drop 1) 4 ⟨0, 0⟩)) by
    rw [takeVal, tkN_first b hb]
    simp only [hk]
    have := kindV_sh b 1 hb 4 0 0
    rw [Nat.add_zero] at this
    rw [this])
  generalize takeVal b ⟨0, 0⟩ = TV at HT ⊢
  have hcell : w.cell? ⟨bb, o, none⟩ = some (.int .u8 4) := by
    obtain ⟨b', o', e, hc0⟩ := hr.byte (k := 0) hb
    injection e with e
    injection e with e1 e2
    subst e1 e2
    rw [hk, Nat.add_zero] at hc0
    exact hc0
  obtain ⟨m, hm⟩ : ∃ m, b.length = m + 1 := ⟨b.length - 1, by omega⟩
  have hcut := hr.cut (k := 1) (cap := c) hb hc
  rw [Nat.mul_one, ← List.map_drop] at hcut
  have hsl := fun W => cut_l (P := Try.prog) Try.elemBytes Try.sizeBytes (some ⟨bb, o, none⟩) b.length c 1 .i64 1 rfl (by omega) W
  rw [Nat.mul_one] at hsl
  generalize (if c = 1 then some (⟨bb, o, none⟩ : Addr) else (some (⟨bb, o, none⟩ : Addr)).map (·.add 1)) = AA at hcut hsl
  have hdl : b.length - 1 = (b.drop 1).length := by rw [List.length_drop]
  rw [hm, Nat.add_sub_cancel] at hcut hsl hdl
  rw [hm]
  have Hcut := Lib.hid hcut
  have Hdl := Lib.hid hdl
  have Hlen := Lib.hid (show m ≤ 100000000000 by omega)
  have Hc1 := Lib.hid (show m ≤ c - 1 by omega)
  generalize b.drop 1 = l at *
  have hbbl := cell_lt hcell
  clear hcut hdl hlen hk hr hb hm hc
  have hst0 : TvSt w w.heap.size (w.heap.size + 1) [.int .i64 4, .int .i64 0, .string ⟨#[]⟩, .slice none 0 0] [] none 0 ((w.alloc (.cells ([.int .i64 0, .int .i64 0, .string ⟨#[]⟩, .slice none 0 0] : List Value).toArray 25)).alloc (.cells ([.int .i64 4, .int .i64 0, .string ⟨#[]⟩, .slice none 0 0] : List Value).toArray 25)) := by
    have h1 := Blk.new (w.alloc (.cells ([.int .i64 0, .int .i64 0, .string ⟨#[]⟩, .slice none 0 0] : List Value).toArray 25)) 25 ([.int .i64 4, .int .i64 0, .string ⟨#[]⟩, .slice none 0 0] : List Value).toArray
    rw [show (w.alloc (.cells ([.int .i64 0, .int .i64 0, .string ⟨#[]⟩, .slice none 0 0] : List Value).toArray 25)).heap.size = w.heap.size + 1 by simp] at h1
    exact ⟨h1, (Blk.new w _ _).alloc _, Rd.none_, (fun h => absurd h (by simp)), Nat.le_refl _, Nat.zero_le _, ((Kp.refl NoX w).alloc _).alloc _, rfl, rfl⟩
  have Hst := Lib.hid hst0
  clear hst0
  have HK0 := Lib.hid (show kindV l 4 ⟨0, 0⟩ = (⟨4, i64 (tkN l 8 ⟨0, 0⟩).1, ByteArray.empty, []⟩, (tkN l 8 ⟨0, 0⟩).2) by simp [kindV])
  have Hq0 := Lib.hid (show (tkN l 8 ⟨0, 0⟩).2.at_ ≤ 100 by simp only [tkN]; split <;> (try split) <;> simp)
  have HC := Lib.hid (fun W (h : Old w W) => rtn_any W AA (c - 1) m 8 l (Hcut.out.old h) Hdl.out (by decide))
  generalize tkN l 8 ⟨0, 0⟩ = TK at HK0 HC Hq0
  obtain ⟨u, q, y⟩ := TK
  simp only at HK0 HC Hq0
  go_enter Try.func62, Try.ntmps62
  go_wp2_with fail
  generalize (w.alloc _).alloc _ = W0 at *
  refine (HC.out W0 Hst.out.old).mono ?_
  rintro e w3 ⟨n, rfl, hn, rfl⟩
  have Hn := Lib.hid hn
  have Hq := Hq0
  have HK : Hid (kindV l 4 ⟨0, 0⟩ = (⟨4, wrap64 (u : Int), ⟨#[]⟩, []⟩, ⟨q, y⟩)) := HK0
  clear hn
  have c1 := Hst.out.boxV.at_ 1 (v := .int .i64 0) rfl
  have z1 := Hst.out.boxV.frozen 1
  go_upto_region 19 with (fail)
  have Hst := Lib.hid (show TvSt w w.heap.size (w.heap.size + 1) [.int .i64 4, .int .i64 (wrap64 (u : Int)), .string ⟨#[]⟩, .slice none 0 0] [] none 0 (W0.setCell ⟨w.heap.size + 1, 1, none⟩ (.int .i64 (wrap64 (u : Int)))) from Hst.out.set 1 (.int .i64 (wrap64 (u : Int))))
  clear c1 z1 HC hsl hcell
  generalize W0.setCell _ _ = W1 at *
  by_cases hy : y = 0
  · subst hy
    obtain rfl := Hn.out rfl
    have HT2 := Lib.hid (show TV = if rightE ⟨4, wrap64 (u : Int), ⟨#[]⟩, []⟩ ≠ 0 then (zeroVal, ⟨1 + q, 8⟩) else (⟨4, wrap64 (u : Int), ⟨#[]⟩, []⟩, ⟨1 + q, 0⟩) by
      rw [HT.out, HK.out]
      exact lookV_ok _ q)
    have eq1 : IntKind.i64.wrap (1 + (q : Int)) = 1 + (q : Int) := IntWalk.i64_in _ (by have := Hq.out; omega)
    have Hz1 := Lib.hid (rright_any ⟨4, wrap64 (u : Int), ⟨#[]⟩, []⟩ none 0 _ Hst.out.rd Hst.out.big)
    go_wp2_with (first | refine wpList_load_mid rfl 25 (.tmp 5) rfl (w.heap.size + 1) 0 rfl [.int .i64 4, .int .i64 (wrap64 (u : Int)), .string ⟨#[]⟩, .slice none 0 0] _ Hst.out.boxV.range Try.underlying25 rfl Try.sizeValue ?_ | fail)
    refine Hz1.out.mono ?_
    rintro e w5 ⟨rfl, ho5⟩
    have Hst := Lib.hid (Hst.out.still ho5)
    clear ho5 Hz1
    by_cases hR : rightE ⟨4, wrap64 (u : Int), ⟨#[]⟩, []⟩ = 0
    · rw [hR]
      have HT3 := Lib.hid (HT2.out.trans (if_neg (fun h => h hR)))
      have Hz := Lib.hid (Hst.out.told [.int .i64 4, .int .i64 (wrap64 (u : Int)), .string ⟨#[]⟩, .slice none 0 0] rfl)
      go_wp2_with (first | refine wpList_load_mid rfl 25 (.tmp 5) rfl (w.heap.size + 1) 0 rfl [.int .i64 4, .int .i64 (wrap64 (u : Int)), .string ⟨#[]⟩, .slice none 0 0] _ Hst.out.boxV.range Try.underlying25 rfl Try.sizeValue ?_ | refine wpList_store_mid rfl 25 (.tmp 2) (.tmp 81) rfl w.heap.size 0 _ rfl rfl (Hst.out.boxR.there 0 4 (by decide)) Try.sizeValue (all_one rfl) ?_ | fail)
      refine ret_cell_tmp2 (g := w.heap.size) (cs := List.toArray [.int .i64 4, .int .i64 (wrap64 (u : Int)), .string ⟨#[]⟩, .slice none 0 0]) rfl rfl Hz.out.1 Try.underlying25 rfl (by kernel_rfl) rfl ?_
      rw [HT3.out]
      exact ⟨none, 0, 1 + (q : Int), 0, rfl, (fun _ => ⟨rfl, by simp⟩), (fun h => absurd rfl h), Hz.out.2.2, (fun hn ad e h => Hst.out.av hn ad e (Nat.lt_of_lt_of_le h (Nat.le_add_right _ _))), Hst.out.cap, Hz.out.2.1⟩
    · have hRb : (rightE ⟨4, wrap64 (u : Int), ⟨#[]⟩, []⟩ != 0) = true := bne_iff_ne.2 hR
      have HT3 := Lib.hid (HT2.out.trans (if_pos hR))
      have Hz := Lib.hid (Hst.out.told zero4 rfl)
      generalize rightE ⟨4, wrap64 (u : Int), ⟨#[]⟩, []⟩ = R at *
      go_wp2_with (first | refine wpList_store_mid rfl 25 (.tmp 2) (.tmp 78) rfl w.heap.size 0 _ rfl rfl (Hst.out.boxR.there 0 4 (by decide)) Try.sizeValue (all_one rfl) ?_ | fail)
      refine ret_cell_tmp2 (g := w.heap.size) (cs := zero4.toArray) rfl rfl Hz.out.1 Try.underlying25 rfl (by kernel_rfl) rfl ?_
      rw [HT3.out]
      exact .bad _ 8 rfl (by simp) (by decide) Hz.out.2.1
  · have hyb : (y != 0) = true := bne_iff_ne.2 hy
    have HT2 := Lib.hid (show TV = (zeroVal, ⟨1 + q, y⟩) by
      rw [HT.out, HK.out]
      exact lookV_no _ q y hy)
    have Hy := Lib.hid hy
    have Hz := Lib.hid (Hst.out.told zero4 rfl)
    clear hy
    go_wp2_with (first | refine wpList_store_mid rfl 25 (.tmp 2) (.tmp 73) rfl w.heap.size 0 _ rfl rfl (Hst.out.boxR.there 0 4 (by decide)) Try.sizeValue (all_one rfl) ?_ | fail)
    refine ret_cell_tmp2 (g := w.heap.size) (cs := zero4.toArray) rfl rfl Hz.out.1 Try.underlying25 rfl (by kernel_rfl) rfl ?_
    rw [HT2.out]
    exact .bad _ y rfl Hy.out Hy.out Hz.out.2.1

end Go.Proofs.Ytnaolhjbapgjgaa
