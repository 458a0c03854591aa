import Derived.Test.YtmmjcbbogokmfaaGreatDoorMt09
import Derived.Test.YtmmjcbbogokmfaaGreatDoorMt12
import Derived.Test.YtmmjcbbogokmfaaGreatDoorMt18
import Derived.Test.YtmmjcbbogokmfaaGreatDoorRows
import Derived.Deep.Slices
import Derived.OpenShut
import Derived.SliceStrings
import Derived.Lib.LaidTab
import Derived.LaidLaws
import Derived.ChangeSame
set_option maxRecDepth 100000
set_option maxHeartbeats 25600000
namespace Go.Proofs.YtmmjcbbogokmfaaGreatDoor
open Go.RowKit Go.ChangeShapes
section
variable {H : Type}
theorem bulk_pos (d : DataW H) : 1 <= Rows.uptoBulk d := by
  cases d with
  | lit l => cases l <;> simp [Rows.uptoBulk]
  | nil => simp [Rows.uptoBulk]
  | ptr d => simp [Rows.uptoBulk]
  | slice elems spare => simp [Rows.uptoBulk]
  | agg parts => simp [Rows.uptoBulk]
  | iface t d => simp [Rows.uptoBulk]
  | map entries => simp [Rows.uptoBulk]
  | held h => simp [Rows.uptoBulk]
theorem bulk_len (l : List (DataW H)) : l.length <= Rows.uptoBulkAll l := by
  induction l with
  | nil => simp [Rows.uptoBulkAll]
  | cons x r ih => have := bulk_pos x; simp only [Rows.uptoBulkAll, List.length_cons]; omega
variable {enc : TypeId × Value -> H} {w : World} {fuel : Nat} {cs : List Value} {x : DataW H × List MemPlace}
abbrev Tr (enc : TypeId × Value -> H) (w : World) (fuel : Nat) (t : TypeId) (cs : List Value) (x : DataW H × List MemPlace) : Prop := DataW.trod enc Tryz.prog w 0 (fun _ => true) true fuel t cs = some x
theorem byte_of {n : Int} (h : (Lit.int .u8 n).wf = true) : ((UInt8.ofNat n.toNat).toNat : Int) = n := by
  have h1 : 0 <= n /\ n <= 255 := by simpa [Lit.wf, IntKind.min, IntKind.max, IntKind.signed, IntKind.bits] using h
  rw [UInt8.toNat_ofNat']
  omega
theorem open_bytes (h : Tr enc w fuel 33 cs x) : ∃ A c, ∃ l : List UInt8, cs = [.slice A l.length c] /\ Rd w 1 A l.length (l.map bv) /\ l.length <= c /\ l.length + 1 <= Rows.uptoBulk x.1 := by
  rcases open_ints Tryz.underlying33 Tryz.underlying5 (by kernel_rfl) h with ⟨rfl, rfl⟩ | ⟨a, len, cap, zs, rfl, _, hlc, _, hzl, rfl, hcell, hwf⟩
  · exact ⟨none, 0, [], rfl, Rd.none_, Nat.le_refl _, by simp [Rows.uptoBulk]⟩
  · simp only [if_true] at hzl
    have hl : ((zs.take len).map fun z => UInt8.ofNat z.toNat).length = len := by simp; omega
    refine ⟨some a, cap, (zs.take len).map fun z => UInt8.ofNat z.toNat, by rw [hl], ?_, by omega, ?_⟩
    · rw [hl]
      refine Rd.of_add (by rw [List.length_map, hl, Nat.mul_one]) (by decide) (fun j u hu => ?_)
      have hj : j < len := by
        have := (List.getElem?_eq_some_iff.1 hu).1
        rw [List.length_map, hl] at this
        exact this
      have hjz : j < zs.length := by omega
      rw [hcell j hjz]
      rw [List.getElem?_map, List.getElem?_map, List.getElem?_take, if_pos hj, List.getElem?_eq_getElem hjz] at hu
      simp only [Option.map_some, Option.some.injEq] at hu
      rw [<- hu]
      simp only [bv, byte_of (hwf _ (List.getElem_mem hjz)), List.getD, List.getElem?_eq_getElem hjz, Option.getD_some]
    · have := bulk_len (lits (H := H) .u8 (zs.take len))
      rw [hl]
      simp only [Rows.uptoBulk]
      simp only [lits, List.length_map, List.length_take] at this
      simp only [lits]
      omega
end
open Go.RowKit
def resR : List (List UInt8) := [[116, 121, 112, 101], [97, 116, 116, 114, 105, 98, 117, 116, 101], [115, 116, 97, 103, 101], [109, 105, 108, 101, 115, 116, 111, 110, 101], [115, 116, 101, 112], [105, 110], [111, 112, 101, 110, 115], [99, 108, 111, 115, 101, 115], [114, 101, 97, 99, 104, 101, 100], [119, 104, 101, 110], [114, 101, 111, 112, 101, 110], [105, 110, 116], [98, 111, 111, 108], [116, 101, 120, 116], [116, 105, 109, 101], [115, 101, 116], [111, 112, 116, 105, 111, 110, 97, 108], [105, 102], [116, 104, 101, 110], [101, 108, 115, 101], [111, 114], [97, 110, 100], [110, 111, 116], [116, 114, 117, 101], [102, 97, 108, 115, 101], [110, 111, 116, 104, 105, 110, 103], [104, 97, 115], [115, 105, 122, 101], [106, 111, 105, 110], [111, 112, 101, 110], [99, 108, 111, 99, 107], [115, 116, 101, 112, 115], [109, 105, 110], [109, 97, 120], [100, 101, 102, 97, 117, 108, 116]]
def SgR (w : World) : Prop := w.rangeAt 1 0 (wvs resR)
theorem SgR.kp {X : Nat -> Prop} {w w' : World} (h : SgR w) (hk : Kp X w w') (h1 : ¬ X 1) : SgR w' := rangeAt_kp h hk h1
theorem SgR.old {w w' : World} (h : SgR w) (hk : Old w w') : SgR w' := h.kp hk (fun f => f)
theorem laid_reads {P : Program} {w : World} : ∀ {l : List (String × DataW Unit)} {ps : List MemPlace}, DataW.LaidVars P w l ps -> ∀ n d, (n, d) ∈ l -> ∃ g t cs fuel p, P.globalNamed n = some g /\ (P.globals[g]?).map (·.type) = some t /\ w.var? P n = some cs /\ DataW.trod (fun _ => ()) P w 0 (fun _ => true) false fuel t cs.toList = some (d, p)
  | [], _, _, _, _, hm => by cases hm
  | (n', d') :: r, ps, h, n, d, hm => by
    obtain ⟨g, t, cs, fuel, p, q, h1, h2, h3, h4, h5, _⟩ := h
    rcases List.mem_cons.1 hm with e | e
    · cases e
      exact ⟨g, t, cs, fuel, p, h1, h2, h3, h4⟩
    · exact laid_reads h5 n d e
theorem cells_of_texts {H : Type} {enc : TypeId × Value -> H} {P : Program} {w : World} {base : Nat} {sp : Nat -> Bool} {held : Bool} {fuel : Nat} {t e : TypeId} {n : Nat} {cs : List Value} {ts : List (List UInt8)} {p : List MemPlace}
    (ht : P.underlying t = some (.array n e)) (he : P.underlying e = some .string) (hce : P.cellsOf e = 1) (hct : P.cellsOf t = n)
    (h : DataW.trod enc P w base sp held fuel t cs = some (.agg (ts.map fun s => .lit (.string s)), p)) : cs = wvs ts := by
  cases fuel with
  | zero => simp [DataW.trod] at h
  | succ fuel =>
    simp only [DataW.trod, ht, hce, hct, Nat.mul_one] at h
    split at h
    · rename_i hl
      obtain ⟨xs, hm, hx⟩ := Option.map_eq_some_iff.1 h
      have hxs : xs.map (·.1) = ts.map fun s => (DataW.lit (.string s) : DataW H) := by
        have := congrArg Prod.fst hx
        simpa using this
      have hxl : xs.length = n := by simpa using Lib.mapM_length hm
      have hzl : ts.length = n := by
        have := congrArg List.length hxs
        simp at this
        omega
      unfold wvs
      apply List.ext_getElem?
      intro i
      by_cases hi : i < n
      · obtain ⟨b, hb, hf⟩ := Lib.mapM_at hm i i (by simp [hi])
        obtain ⟨s, hc, rfl, _⟩ := DataW.trod_string he hf
        have h1 : cs[i]? = some (.string s) := by
          have := congrArg (·[0]?) hc
          simpa [List.getElem?_take, List.getElem?_drop] using this
        have h2 : (xs.map (·.1))[i]? = some (DataW.lit (.string s.data.toList) : DataW H) := by simp [hb]
        rw [hxs] at h2
        simp only [List.getElem?_map, Option.map_eq_some_iff, DataW.lit.injEq, Lit.string.injEq] at h2
        obtain ⟨s', hs', e'⟩ := h2
        rw [h1, List.getElem?_map, hs', e']
        rfl
      · rw [List.getElem?_eq_none (by omega), List.getElem?_eq_none (by simp; omega)]
    · cases h
theorem Tryz.gRes : Tryz.prog.globalNamed "docket/text.reserved" = some 0 := by kernel_rfl
theorem Tryz.gSig : Tryz.prog.globalNamed "docket/text.signs" = some 2 := by kernel_rfl
theorem Tryz.gBru : Tryz.prog.globalNamed "math/bits.deBruijn64tab" = some 7 := by kernel_rfl
theorem Tryz.gResT : (Tryz.prog.globals[0]?).map (·.type) = some 205 := by kernel_rfl
theorem Tryz.gSigT : (Tryz.prog.globals[2]?).map (·.type) = some 252 := by kernel_rfl
theorem Tryz.cells35 : Tryz.prog.cellsOf 205 = 35 := by kernel_rfl
theorem Tryz.cells19 : Tryz.prog.cellsOf 252 = 19 := by kernel_rfl
theorem Tryz.cellsStr : Tryz.prog.cellsOf 9 = 1 := by kernel_rfl
theorem texts_laid {W : World} {l : List (String × DataW Unit)} {n : String} {g m : Nat} {T : TypeId} {ts : List (List UInt8)} (h : laidMet Tryz.prog l W) (hm : (n, .agg (ts.map fun s => .lit (.string s))) ∈ l) (hg : Tryz.prog.globalNamed n = some g) (hT : (Tryz.prog.globals[g]?).map (·.type) = some T) (hu : Tryz.prog.underlying T = some (.array m 9)) (hc : Tryz.prog.cellsOf T = m) : W.rangeAt g 0 (wvs ts) := by
  obtain ⟨ps, hv, _⟩ := h
  obtain ⟨g', t', cs, fuel, p, h1, h2, h3, h4⟩ := laid_reads hv n _ hm
  obtain rfl := Option.some.inj (hg.symm.trans h1)
  obtain rfl := Option.some.inj (hT.symm.trans h2)
  have e := cells_of_texts hu Tryz.underlying9 Tryz.cellsStr hc h4
  intro j v hj
  rw [Nat.zero_add, World.var?_cell hg h3 j, <- Array.getElem?_toList, e]
  exact hj
theorem sg_laid {W : World} {l : List (String × DataW Unit)} (h : laidMet Tryz.prog l W) (h1 : ("docket/text.reserved", Rows.laid_docket_text_reserved) ∈ l) (h2 : ("docket/text.signs", Rows.laid_docket_text_signs) ∈ l) (h3 : ("math/bits.deBruijn64tab", Rows.laid_math_bits_deBruijn64tab) ∈ l) : Sg W /\ 8 <= W.heap.size := by
  refine ⟨⟨texts_laid (ts := resL) h h1 Tryz.gRes Tryz.gResT Tryz.underlying205 Tryz.cells35, texts_laid (ts := signL) h h2 Tryz.gSig Tryz.gSigT Tryz.underlying252 Tryz.cells19⟩, ?_⟩
  obtain ⟨ps, hv, _⟩ := h
  obtain ⟨g', t', cs, fuel, p, e1, e2, e3, e4⟩ := laid_reads hv _ _ h3
  have hlt : 7 < W.heap.size := by
    unfold World.var? at e3
    rw [Tryz.gBru] at e3
    rcases Nat.lt_or_ge 7 W.heap.size with hl | hl
    · exact hl
    · simp [Array.getElem?_eq_none hl] at e3
  exact hlt
noncomputable def low : Nat := (World.holding Tryz.prog default ⟨#[], #[], []⟩).heap.size
def pow10 : List Int := [1, 10, 100, 1000, 10000, 100000, 1000000, 10000000, 100000000, 1000000000, 10000000000, 100000000000, 1000000000000, 10000000000000, 100000000000000, 1000000000000000, 10000000000000000, 100000000000000000, 1000000000000000000, 10000000000000000000]
def bru32 : List Int := [0, 1, 28, 2, 29, 14, 24, 3, 30, 22, 20, 15, 25, 17, 4, 8, 31, 27, 13, 23, 21, 19, 16, 7, 26, 12, 18, 6, 11, 5, 10, 9]
def bru64 : List Int := [0, 1, 56, 2, 57, 49, 28, 3, 61, 58, 42, 50, 38, 29, 17, 4, 62, 47, 59, 36, 45, 43, 51, 22, 53, 39, 33, 30, 24, 18, 12, 5, 63, 55, 48, 27, 60, 41, 37, 16, 46, 35, 44, 21, 52, 32, 23, 11, 54, 26, 40, 15, 34, 20, 31, 10, 25, 14, 19, 9, 13, 8, 7, 6]
noncomputable def laidWorld (os : Os) : World :=
  let w0 := World.holding Tryz.prog os ⟨#[.cells #[.string ⟨#[105, 110, 118, 97, 108, 105, 100, 32, 115, 121, 110, 116, 97, 120]⟩] 320, .cells #[.string ⟨#[118, 97, 108, 117, 101, 32, 111, 117, 116, 32, 111, 102, 32, 114, 97, 110, 103, 101]⟩] 320], #[], []⟩
  let put (h : Array Obj) (g : Nat) (cs : Array Value) : Array Obj := h.modify g fun
    | .cells _ t frozen => .cells cs t frozen
    | o => o
  let h0 := put w0.heap 0 (wvs resL).toArray
  let h1 := put h0 1 (wvs resR).toArray
  let h2 := put h1 2 (wvs signL).toArray
  let h3 := put h2 3 (pow10.map fun z => Value.int .u64 z).toArray
  let h4 := put h3 4 #[.iface 318 (.pointer (some ⟨low, 0, none⟩))]
  let h5 := put h4 5 #[.iface 318 (.pointer (some ⟨low + 1, 0, none⟩))]
  let h6 := put h5 6 (bru32.map fun z => Value.int .u8 z).toArray
  let h7 := put h6 7 (bru64.map fun z => Value.int .u8 z).toArray
  { w0 with heap := h7 }
open Go.RowKit Go.ChangeShapes Go.WideShapes
theorem Old.kept {W W' : World} (h : Old W W') (may : MemPlace -> Prop) : W.keptBut W' may := by
  refine World.keptBut_mono (may := fun _ => False) (fun _ f => f.elim) (World.keptBut_none_iff.2 ⟨h.os, h.output, fun i hi => ?_⟩)
  exact h.block i hi (fun f => f)
section
variable {H : Type} {enc : TypeId × Value -> H} {P : Program}
theorem post_of_old {f : Func} {s : ChangeSpec} {apart fresh handsOn again : Bool} {W W' : World} {args : Array Value} {v : Value} {ds gs : List (DataW H)} {before pa pv : List MemPlace}
    (hW : DataW.Whole enc P f.params.toList s.vars apart W args.toList ds gs before)
    (hres : ∀ (b : Nat) (sp : Nat -> Bool) (hd : Bool), DataW.TrodAll enc P W' b sp hd f.resultTypes.toList (v.resultList f.resultTypes.size) (s.fn H (ds ++ gs)).results [])
    (hargs : ∀ sp : Nat -> Bool, (∀ p ∈ before, sp p.block = true) -> DataW.TrodAll enc P W' 0 sp true f.params.toList args.toList (s.fn H (ds ++ gs)).args pa)
    (hvars : ∀ sp : Nat -> Bool, (∀ p ∈ before, sp p.block = true) -> DataW.TrodVars enc P W' sp s.vars (s.fn H (ds ++ gs)).vars pv)
    (hps : before = pa ++ pv) (ho : Old W W')
    (hok : ∀ (j : Nat) (t : TypeId) (r : Value), f.resultTypes[j]? = some t -> (v.resultList f.resultTypes.size)[j]? = some r -> Value.okWide P W' .any 0 t r) :
    s.post enc P f apart fresh handsOn again W args v W' := by
  have hold : ∀ p ∈ before, (fun b => decide (b < W.heap.size)) p.block = true := fun p hp => by simpa using hW.lt p hp
  refine ⟨ds, gs, before, [], pa, pv, hW, hres _ _ _, hargs _ hold, hvars _ hold, World.keptBut_mono (fun p hp => ⟨hp, ?_⟩) (Old.kept ho (· ∈ before)), fun _ => ?_⟩
  · rw [hps, List.mem_append] at hp
    exact Or.inr hp
  · have hlt := hW.lt
    obtain ⟨_, _, _, _, _, hz, hn⟩ := hW
    refine ⟨hok, _, _, ([] ++ pa) ++ pv, ⟨[] ++ pa, pv, trodAll_append (hargs _ (fun _ _ => rfl)) (hres _ _ _), hvars _ (fun _ _ => rfl), rfl, ?_, ?_⟩, ?_⟩
    · intro b off hp
      have hm : MemPlace.cell b off ∈ before := by rw [hps]; simpa using hp
      rw [World.frozen?_of_block (ho.block b (hlt _ hm) (fun f => f))]
      exact hz b off hm
    · intro ha
      have := hn ha
      rw [hps] at this
      simpa using this
    · intro p hp _
      rw [hps]
      simpa using hp
end
end Go.Proofs.YtmmjcbbogokmfaaGreatDoor
