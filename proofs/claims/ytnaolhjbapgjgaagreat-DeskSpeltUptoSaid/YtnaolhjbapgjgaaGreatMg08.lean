import Derived.Test.YtnaolhjbapgjgaaGreatMg01
import Derived.Test.YtnaolhjbapgjgaaGreatMg02
import Derived.Test.YtnaolhjbapgjgaaGreatMg07
import Derived.Shelf.SlGeneric
import Derived.Shelf.SlSortCmp.WholeK
import Derived.Shelf.Small.Bits
import Derived.Ground.SlsfProg
import Derived.Ground.NamesProg
import Derived.Test.YtnaolhjbapgjgaaGreatProg
set_option maxRecDepth 100000
set_option maxHeartbeats 3200000
namespace Go.Proofs
open Go.Shelf
def Tryz.sortSign_ren : Go.Shelf.Ren := ⟨fun | 6 => 150 | 15 => 152 | 14 => 176 | 28 => 178 | 29 => 179 | 20 => 188 | 21 => 189 | 22 => 190 | 23 => 191 | 24 => 192 | 25 => 193 | 26 => 194 | 27 => 195 | 46 => 199 | 47 => 200 | 48 => 201 | 49 => 202 | 50 => 203 | 57 => 205 | n => n, fun | 22 => 46 | 24 => 165 | 25 => 247 | 3 => 3 | 39 => 192 | 0 => 0 | 53 => 97 | 55 => 133 | 4 => 4 | 46 => 286 | 45 => 285 | 50 => 202 | 5 => 5 | 9 => 9 | 66 => 293 | 70 => 297 | 76 => 300 | 77 => 301 | n => n, fun | n => n⟩
theorem Tryz.sortSign : Go.Proofs.SlLaysF0.n6 Tryz.prog Tryz.sortSign_ren := {
  mixed := by kernel_rfl
  f6 := ⟨Tryz.f150.name, by decide, Tryz.func150.trans (congrArg some (by kernel_rfl))⟩
  f14 := ⟨Tryz.f176.name, by decide, Tryz.func176.trans (congrArg some (by kernel_rfl))⟩
  f15 := Tryz.func152.trans (congrArg some (by kernel_rfl))
  f20 := ⟨Tryz.f188.name, by decide, Tryz.func188.trans (congrArg some (by kernel_rfl))⟩
  f21 := ⟨Tryz.f189.name, by decide, Tryz.func189.trans (congrArg some (by kernel_rfl))⟩
  f22 := ⟨Tryz.f190.name, by decide, Tryz.func190.trans (congrArg some (by kernel_rfl))⟩
  f23 := ⟨Tryz.f191.name, by decide, Tryz.func191.trans (congrArg some (by kernel_rfl))⟩
  f24 := ⟨Tryz.f192.name, by decide, Tryz.func192.trans (congrArg some (by kernel_rfl))⟩
  f25 := ⟨Tryz.f193.name, by decide, Tryz.func193.trans (congrArg some (by kernel_rfl))⟩
  f26 := ⟨Tryz.f194.name, by decide, Tryz.func194.trans (congrArg some (by kernel_rfl))⟩
  f27 := ⟨Tryz.f195.name, by decide, Tryz.func195.trans (congrArg some (by kernel_rfl))⟩
  f28 := Tryz.func178.trans (congrArg some (by kernel_rfl))
  f29 := Tryz.func179.trans (congrArg some (by kernel_rfl))
  f46 := ⟨Tryz.f199.name, by decide, Tryz.func199.trans (congrArg some (by kernel_rfl))⟩
  f47 := Tryz.func200.trans (congrArg some (by kernel_rfl))
  f48 := Tryz.func201.trans (congrArg some (by kernel_rfl))
  f49 := ⟨Tryz.f202.name, by decide, Tryz.func202.trans (congrArg some (by kernel_rfl))⟩
  f50 := ⟨Tryz.f203.name, by decide, Tryz.func203.trans (congrArg some (by kernel_rfl))⟩
  f57 := ⟨Tryz.f205.name, by decide, Tryz.func205.trans (congrArg some (by kernel_rfl))⟩
  t0 := Tryz.underlying0
  a0 := Tryz.isAgg0
  z0 := Tryz.sizeOf0
  v0 := Tryz.zeroValue0
  t3 := Tryz.underlying3
  a3 := Tryz.isAgg3
  z3 := Tryz.sizeOf3
  v3 := Tryz.zeroValue3
  t4 := Tryz.underlying4
  a4 := Tryz.isAgg4
  z4 := Tryz.sizeOf4
  v4 := Tryz.zeroValue4
  t5 := Tryz.underlying5
  a5 := Tryz.isAgg5
  z5 := Tryz.sizeOf5
  v5 := Tryz.zeroValue5
  t9 := Tryz.underlying9
  a9 := Tryz.isAgg9
  z9 := Tryz.sizeOf9
  v9 := Tryz.zeroValue9
  t22 := Tryz.underlying46
  a22 := Tryz.isAgg46
  z22 := Tryz.sizeOf46
  v22 := Tryz.zeroValue46
  t25 := Tryz.underlying247
  a25 := Tryz.isAgg247
  z25 := Tryz.sizeOf247
  v25 := Tryz.zeroValue247
  t39 := Tryz.underlying192
  a39 := Tryz.isAgg192
  z39 := Tryz.sizeOf192
  v39 := Tryz.zeroValue192
  t45 := Tryz.underlying285
  a45 := Tryz.isAgg285
  z45 := Tryz.sizeOf285
  v45 := Tryz.zeroValue285
  t46 := Tryz.underlying286
  a46 := Tryz.isAgg286
  z46 := Tryz.sizeOf286
  v46 := Tryz.zeroValue286
  t50 := Tryz.underlying202
  a50 := Tryz.isAgg202
  z50 := Tryz.sizeOf202
  v50 := Tryz.zeroValue202
  t53 := Tryz.underlying97
  a53 := Tryz.isAgg97
  z53 := Tryz.sizeOf97
  v53 := Tryz.zeroValue97
  t55 := Tryz.underlying133
  a55 := Tryz.isAgg133
  z55 := Tryz.sizeOf133
  v55 := Tryz.zeroValue133
  t66 := Tryz.underlying293
  a66 := Tryz.isAgg293
  z66 := Tryz.sizeOf293
  v66 := Tryz.zeroValue293
  t70 := Tryz.underlying297
  a70 := Tryz.isAgg297
  z70 := Tryz.sizeOf297
  v70 := Tryz.zeroValue297
  t76 := Tryz.underlying300
  a76 := Tryz.isAgg300
  z76 := Tryz.sizeOf300
  v76 := Tryz.zeroValue300
  t77 := Tryz.underlying301
  a77 := Tryz.isAgg301
  z77 := Tryz.sizeOf301
  v77 := Tryz.zeroValue301 }
def Tryz.bitsLen_ren : Go.Shelf.Ren := ⟨fun | 125 => 152 | 128 => 178 | 129 => 179 | n => n, fun | 46 => 192 | 3 => 3 | 51 => 97 | 53 => 133 | 4 => 4 | 5 => 5 | 9 => 9 | n => n, fun | n => n⟩
theorem Tryz.bitsLen : Go.Proofs.Lays.n125 Tryz.prog Tryz.bitsLen_ren := {
  mixed := by kernel_rfl
  f125 := Tryz.func152.trans (congrArg some (by kernel_rfl))
  f128 := Tryz.func178.trans (congrArg some (by kernel_rfl))
  f129 := Tryz.func179.trans (congrArg some (by kernel_rfl))
  t3 := Tryz.underlying3
  a3 := Tryz.isAgg3
  z3 := Tryz.sizeOf3
  v3 := Tryz.zeroValue3
  t4 := Tryz.underlying4
  a4 := Tryz.isAgg4
  z4 := Tryz.sizeOf4
  v4 := Tryz.zeroValue4
  t5 := Tryz.underlying5
  a5 := Tryz.isAgg5
  z5 := Tryz.sizeOf5
  v5 := Tryz.zeroValue5
  t9 := Tryz.underlying9
  a9 := Tryz.isAgg9
  z9 := Tryz.sizeOf9
  v9 := Tryz.zeroValue9
  t46 := Tryz.underlying192
  a46 := Tryz.isAgg192
  z46 := Tryz.sizeOf192
  v46 := Tryz.zeroValue192
  t51 := Tryz.underlying97
  a51 := Tryz.isAgg97
  z51 := Tryz.sizeOf97
  v51 := Tryz.zeroValue97
  t53 := Tryz.underlying133
  a53 := Tryz.isAgg133
  z53 := Tryz.sizeOf133
  v53 := Tryz.zeroValue133 }
def Tryz.bitsOnes_ren : Go.Shelf.Ren := ⟨fun | 135 => 174 | n => n, fun | 5 => 5 | 3 => 3 | 9 => 9 | n => n, fun | n => n⟩
theorem Tryz.bitsOnes : Go.Proofs.Lays.n135 Tryz.prog Tryz.bitsOnes_ren := {
  mixed := by kernel_rfl
  f135 := Tryz.func174.trans (congrArg some (by kernel_rfl))
  t3 := Tryz.underlying3
  a3 := Tryz.isAgg3
  z3 := Tryz.sizeOf3
  v3 := Tryz.zeroValue3
  t5 := Tryz.underlying5
  a5 := Tryz.isAgg5
  z5 := Tryz.sizeOf5
  v5 := Tryz.zeroValue5
  t9 := Tryz.underlying9
  a9 := Tryz.isAgg9
  z9 := Tryz.sizeOf9
  v9 := Tryz.zeroValue9 }
end Go.Proofs
namespace Go.Proofs.YtnaolhjbapgjgaaGreat
open Go.RowKit Go.Sort
theorem cmp_refl : ∀ a : List UInt8, Lib.compareBytes a a = 0
  | [] => rfl
  | x :: a => by rw [Lib.compareBytes, if_neg (by simp), if_neg (by simp)]; exact cmp_refl a
theorem cmp_neg : ∀ a b : List UInt8, Lib.compareBytes b a = - Lib.compareBytes a b
  | [], [] => rfl
  | [], _ :: _ => rfl
  | _ :: _, [] => rfl
  | x :: a, y :: b => by
    rw [Lib.compareBytes, Lib.compareBytes]
    by_cases h1 : x < y
    · have h2 : ¬ y < x := fun h => absurd (UInt8.lt_trans h1 h) (UInt8.lt_irrefl _)
      rw [if_pos h1, if_neg h2, if_pos h1]
      rfl
    · by_cases h2 : y < x
      · rw [if_pos h2, if_neg h1, if_pos h2]
      · rw [if_neg h1, if_neg h2, if_neg h2, if_neg h1]
        exact cmp_neg a b
theorem cmp_zero : ∀ a b : List UInt8, Lib.compareBytes a b = 0 -> a = b
  | [], [], _ => rfl
  | [], _ :: _, h => by simp [Lib.compareBytes] at h
  | _ :: _, [], h => by simp [Lib.compareBytes] at h
  | x :: a, y :: b, h => by
    rw [Lib.compareBytes] at h
    split at h
    · simp at h
    · split at h
      · simp at h
      · rename_i h1 h2
        have e : x = y := by
          apply UInt8.toNat_inj.1
          rw [UInt8.lt_iff_toNat_lt] at h1 h2
          omega
        rw [e, cmp_zero a b h]
theorem cmp_trans : ∀ a b c : List UInt8, Lib.compareBytes a b < 0 -> Lib.compareBytes b c < 0 -> Lib.compareBytes a c < 0
  | [], [], _, h, _ => by simp [Lib.compareBytes] at h
  | [], _ :: _, [], _, h => by simp [Lib.compareBytes] at h
  | [], _ :: _, _ :: _, _, _ => by simp [Lib.compareBytes]
  | _ :: _, [], _, h, _ => by simp [Lib.compareBytes] at h
  | _ :: _, _ :: _, [], _, h => by simp [Lib.compareBytes] at h
  | x :: a, y :: b, z :: c, h1, h2 => by
    rw [Lib.compareBytes] at h1 h2 ⊢
    simp only [UInt8.lt_iff_toNat_lt] at *
    by_cases p : x.toNat < y.toNat
    · by_cases q : y.toNat < z.toNat
      · rw [if_pos (by omega)]; decide
      · rw [if_neg q] at h2
        by_cases q' : z.toNat < y.toNat
        · rw [if_pos q'] at h2; simp at h2
        · rw [if_pos (by omega)]; decide
    · rw [if_neg p] at h1
      by_cases p' : y.toNat < x.toNat
      · rw [if_pos p'] at h1; simp at h1
      · rw [if_neg p'] at h1
        by_cases q : y.toNat < z.toNat
        · rw [if_pos (by omega)]; decide
        · rw [if_neg q] at h2
          by_cases q' : z.toNat < y.toNat
          · rw [if_pos q'] at h2; simp at h2
          · rw [if_neg q'] at h2
            rw [if_neg (by omega), if_neg (by omega)]
            exact cmp_trans a b c h1 h2
def sgnCmp (x y : Sgn) : Int := Lib.compareBytes x.key y.key
instance : Inhabited Sgn := ⟨⟨List.replicate 32 0, List.replicate 32 0, by simp, by simp⟩⟩
theorem lt_sgn (x y : Sgn) : ltOf sgnCmp x y = decide (Lib.compareBytes x.key y.key < 0) := rfl
theorem swo_sgn : Sort.SWO (ltOf sgnCmp) := by
  refine ⟨fun x => by rw [lt_sgn, cmp_refl]; rfl, fun x y z h1 h2 => ?_, fun x y z h1 h2 => ?_⟩
  · rw [lt_sgn] at *
    simp only [decide_eq_true_eq] at *
    exact cmp_trans _ _ _ h1 h2
  · rw [lt_sgn] at *
    simp only [decide_eq_false_iff_not] at *
    intro h3
    have n1 := cmp_neg x.key y.key
    have n2 := cmp_neg y.key z.key
    have n3 := cmp_neg x.key z.key
    rcases Int.lt_trichotomy (Lib.compareBytes x.key y.key) 0 with a | a | a
    · exact h1 a
    · rw [cmp_zero _ _ a] at h3
      exact h2 h3
    · rcases Int.lt_trichotomy (Lib.compareBytes y.key z.key) 0 with b | b | b
      · exact h2 b
      · rw [<- cmp_zero _ _ b] at h3
        omega
      · have := cmp_trans z.key y.key x.key (by omega) (by omega)
        omega
theorem cmpLays (blk off size : Nat) (w : World) : CmpLays Tryz.prog 151 #[] Sgn.cells 64 sgnCmp blk off size w :=
  fun _ _ _ _ x y => bykey_any x y _
theorem sgn_flat (l : List Sgn) (t : Nat) (ht : t < l.length * 64) : (l.flatMap Sgn.cells)[t]? = some ((Sgn.cells l.toArray[t / 64]!)[t % 64]!) := by
  have hk : t / 64 < l.length := by omega
  have e : t = t / 64 * 64 + t % 64 := by omega
  have h1 := flat_get Sgn.cells 64 l (fun s _ => s.len) (t / 64) hk (t % 64) (by omega)
  rw [<- e] at h1
  rw [h1]
  have e2 : l.toArray[t / 64]! = l[t / 64] := by simp [hk]
  rw [e2]
  have hc : t % 64 < l[t / 64].cells.length := by rw [Sgn.len]; omega
  rw [List.getElem?_eq_getElem hc, List.getElem!_eq_getElem?_getD, List.getElem?_eq_getElem hc]
  rfl
theorem holds_of_rd {w : World} {g : Nat} {l : List Sgn} (hr : Rd w 64 (some ⟨g, 0, none⟩) l.length (l.flatMap Sgn.cells)) (hz : ∀ j, w.frozen? ⟨g, j, none⟩ = false) : HoldsK Sgn.cells 64 w g 0 l.toArray := by
  intro t ht
  have ht' : t < l.length * 64 := by simpa using ht
  refine ⟨?_, by rw [Nat.zero_add]; exact hz t⟩
  obtain ⟨b, o, e, hc⟩ := hr.2 (by omega)
  injection e with e
  injection e with e1 e2
  subst e1 e2
  rw [hc t _ (sgn_flat l t ht'), get_flatK _ _ _ _ (by simpa using ht')]
  rfl
theorem rd_of_holds {w : World} {g : Nat} {d : Array Sgn} (h : HoldsK Sgn.cells 64 w g 0 d) : Rd w 64 (some ⟨g, 0, none⟩) d.size (d.toList.flatMap Sgn.cells) := by
  have hl : (d.toList.flatMap Sgn.cells).length = d.size * 64 := by rw [vG Sgn.cells 64 _ (fun s _ => s.len), Array.length_toList]
  refine ⟨hl, fun _ => ⟨_, _, rfl, fun t u hu => ?_⟩⟩
  have ht : t < d.size * 64 := by rw [<- hl]; exact (List.getElem?_eq_some_iff.1 hu).1
  rw [sgn_flat d.toList t (by rw [Array.length_toList]; exact ht)] at hu
  have h1 := (h t (by rw [size_flatK]; exact ht)).1
  rw [get_flatK _ _ _ _ ht] at h1
  rw [h1]
  simpa using hu
theorem old_sort (w : World) (g n : Nat) (d : Array Sgn) (os : Array Obj) : Kp (fun k => k = g) w (sortWorldK Sgn.cells 64 w g 0 n d os) := by
  refine ⟨rfl, rfl, rfl, ?_, fun k hk hx => ?_⟩
  · show w.heap.size <= (Sort.grow (putRowK Sgn.cells 64 (Sort.ahead w n) g 0 d) os).heap.size
    rw [Sort.size_grow]
    show w.heap.size <= (Sort.putRow id (Sort.ahead w n) g 0 _).heap.size + os.size
    rw [Sort.size_putRow]
    exact Nat.le_add_right _ _
  · show (Sort.grow (putRowK Sgn.cells 64 (Sort.ahead w n) g 0 d) os).heap[k]? = _
    rw [Sort.heap_grow_old _ _ (by
      show k < (Sort.putRow id (Sort.ahead w n) g 0 _).heap.size
      rw [Sort.size_putRow]
      exact hk)]
    show ((Sort.ahead w n).heap.modify g _)[k]? = _
    rw [Array.getElem?_modify, if_neg (fun e => hx e.symm)]
    rfl
theorem Tryz.aggSign (w : World) : (isAgg (Tryz.sortSign_ren.t 24)).run Tryz.prog w = .ok true w := by kernel_rfl
theorem Tryz.sizeOfSign (w : World) : (Go.sizeOf (Tryz.sortSign_ren.t 24)).run Tryz.prog w = .ok 64 w := by kernel_rfl
def SortPost (w : World) (g : Nat) (d : Array Sgn) (e : Ending) (w' : World) : Prop := e = .returned (.tuple #[]) /\ ∃ d' n os, PermIn 0 d.size d d' /\ SortedIn (ltOf sgnCmp) 0 d.size d' /\ w' = sortWorldK Sgn.cells 64 w g 0 n d' os
theorem sort_any (w : World) (g cap : Nat) (d : Array Sgn) (hH : HoldsK Sgn.cells 64 w g 0 d) (hb : g < w.heap.size) (hs : d.size < 4611686018427387904) :
    Calls Tryz.prog 150 #[.slice (some ⟨g, 0, none⟩) d.size cap, .func (.func 151) #[] #[]] w (SortPost w g d) := by
  have eg : ∀ args w, (callFunc 151 args).run Tryz.prog w = .ok (.enter 151 args) w := enters_of Tryz.func151 (by kernel_rfl) rfl
  exact AnyQ.slices_SortFunc Tryz.sortSign 64 Tryz.aggSign Tryz.sizeOfSign Sgn.cells Sgn.len Sgn.one sgnCmp swo_sgn 151 #[] g 0 cap d w eg (cmpLays g 0 d.size w) hH hb hs
theorem Tryz.infoSign : ∃ i z, Tryz.prog.info? 165 = some i /\ i.zero = some (.agg z) /\ i.size = 64 /\ i.bytes = 64 /\ z.size = 64 := by
  have h : (Tryz.prog.info? 165).map (fun i => (i.zero, i.size, i.bytes)) = some (some (.agg (zero32 ++ zero32).toArray), 64, 64) := by kernel_rfl
  obtain ⟨i, hi, h1, h2, h3⟩ := info_parts h
  exact ⟨i, _, hi, h1, h2, h3, rfl⟩
def RisePost (w : World) (l : List Sgn) (e : Ending) (w' : World) : Prop :=
  ∃ (l' : List Sgn) (g c : Nat), l'.Perm l /\ (∀ i j (hi : i < l'.length) (hj : j < l'.length), i < j -> 0 <= Lib.compareBytes l'[j].key l'[i].key) /\ e = .returned (.tuple #[.slice (some ⟨g, 0, none⟩) l'.length c, .bool (riseK (l'.map (·.key)))]) /\
    Rd w' 64 (some ⟨g, 0, none⟩) l'.length (l'.flatMap Sgn.cells) /\ w.heap.size <= g /\ Old w w'
theorem one_sgns (l : List Sgn) : ∀ u ∈ l.flatMap Sgn.cells, u.oneCell' = true := by
  intro u hu
  obtain ⟨s, _, hs⟩ := List.mem_flatMap.1 hu
  exact s.one u hs
theorem sort_world {w : World} {g n : Nat} {l : List Sgn} {d' : Array Sgn} {os : Array Obj} (hH : HoldsK Sgn.cells 64 w g 0 l.toArray) (hb : g < w.heap.size) (hp : PermIn 0 l.length l.toArray d') :
    Rd (sortWorldK Sgn.cells 64 w g 0 n d' os) 64 (some ⟨g, 0, none⟩) d'.toList.length (d'.toList.flatMap Sgn.cells) := by
  have h1 : HoldsK Sgn.cells 64 (putRowK Sgn.cells 64 (Sort.ahead w n) g 0 d') g 0 d' := holdsK_putRowK Sgn.cells 64 (Sort.ahead w n) g 0 l.toArray d' (holdsK_ahead Sgn.cells 64 w n g 0 l.toArray hH) hp.1
  have h2 : HoldsK Sgn.cells 64 (grow (putRowK Sgn.cells 64 (Sort.ahead w n) g 0 d') os) g 0 d' := holdsK_grow Sgn.cells 64 _ os g 0 d' (by
    show g < (putRow id (Sort.ahead w n) g 0 _).heap.size
    rw [size_putRow]
    exact hb) h1
  have h3 := rd_of_holds h2
  rw [Array.length_toList]
  exact h3
theorem perm_list {l : List Sgn} {d' : Array Sgn} (h : PermIn 0 l.length l.toArray d') : d'.toList.Perm l := by
  obtain ⟨h1, _, h3⟩ := h
  have e1 : d'.extract 0 l.length = d' := by
    have : l.length = d'.size := by rw [h1]; simp
    rw [this]; simp
  have e2 : l.toArray.extract 0 l.length = l.toArray := by simp
  rw [e1, e2] at h3
  simpa using h3
theorem sorted_list {n : Nat} {d' : Array Sgn} (h : SortedIn (ltOf sgnCmp) 0 n d') (hn : d'.size = n) : ∀ i j (hi : i < d'.toList.length) (hj : j < d'.toList.length), i < j -> 0 <= Lib.compareBytes d'.toList[j].key d'.toList[i].key := by
  intro i j hi hj hij
  have hj' : j < d'.size := by rw [<- Array.length_toList]; exact hj
  have hi' : i < d'.size := by omega
  have h1 := h i j (Nat.zero_le _) hij (by omega)
  have ej : d'[j]! = d'[j] := getElem!_pos d' j hj'
  have ei : d'[i]! = d'[i] := getElem!_pos d' i hi'
  rw [lt_sgn, ej, ei] at h1
  simp only [decide_eq_false_iff_not] at h1
  rw [Array.getElem_toList, Array.getElem_toList]
  omega
theorem rising_any (w : World) (A : Option Addr) (c : Nat) (l : List Sgn) (hrd : Rd w 64 A l.length (l.flatMap Sgn.cells)) (h0 : 0 < l.length) (hn : l.length <= 1000000) :
    Calls Tryz.prog 106 #[.slice A l.length c] w (RisePost w l) := by
  obtain ⟨i0, z0, hi, hz0, hz1, hz2, hzs⟩ := Tryz.infoSign
  have Hrd := jJ0 hrd
  have H63 := jJ0 (show 0 + l.length <= maxLen by unfold maxLen; omega)
  have H47 := jJ0 (show (0 + l.length) * 64 <= 140737488355328 by omega)
  have Hown := jJ0 (World.ownsRow_nil w w.heap.size 165 64)
  clear hrd
  go_enter Tryz.func106, Tryz.ntmps106
  go_wp2_with (at_builtin; refine jO _ rfl (.const (.slice none 0 0)) (.tmp 5) 46 rfl w.heap.size 165 i0 (.agg z0) 64 64 Tryz.underlying46 hi hz0 hz1 hz2 hzs (by decide) (.slice none 0 0) 0 [] rfl Hown.out A l.length c (l.flatMap Sgn.cells) rfl Hrd.out (one_sgns l) H63.out H47.out (Nat.le_refl _) ?_; intro A' c' w2 hown hgrow hat; rw [Nat.zero_add, List.nil_append] at hown)
  obtain ⟨g, cap, hv, hbase, hlt⟩ := hown.form h0
  injection hv with hv _ hcap
  subst hv hcap
  have hfz : ∀ j, w2.frozen? ⟨g, j, none⟩ = false := by
    rcases hown.2 with ⟨e, _⟩ | ⟨g', cap', cur, e, _, hb, _⟩
    · cases e
    · injection e with e _ _
      injection e with e
      injection e with e
      subst e
      exact fun j => Blk.frozen (cs := cur) hb j
  have hH := holds_of_rd (Rd.of_own hown) hfz
  have Ho2 := jJ0 (show Old w w2 from (Kp.refl NoX w).grown hgrow (fun k e _ => by cases e))
  have HS := jJ0 (show Calls Tryz.prog 150 #[.slice (some ⟨g, 0, none⟩) l.length c', .func (.func 151) #[] #[]] w2 (SortPost w2 g l.toArray) by
    have := sort_any w2 g c' l.toArray hH hlt (by simp; omega)
    rwa [List.size_toArray] at this)
  have HH := jJ0 hH
  clear hown hgrow hat hfz hH
  refine HS.out.mono ?_
  rintro e w3 ⟨rfl, d', n, os, hp, hs, rfl⟩
  rw [List.size_toArray] at hp hs
  have hr3 := sort_world (n := n) (os := os) HH.out hlt hp
  have Hk3 := jJ0 (old_sort w2 g n d' os)
  have hsz : d'.size = l.length := by have := hp.1; simpa using this
  have hlen : d'.toList.length = l.length := by rw [Array.length_toList]; exact hsz
  have Hp := jJ0 (perm_list hp)
  have Hs := jJ0 (sorted_list hs hsz)
  generalize sortWorldK Sgn.cells 64 w2 g 0 n d' os = w3 at *
  have HR := jJ0 (rise_any w3 (some ⟨g, 0, none⟩) c' d'.toList hr3 (by omega))
  have Hr3 := jJ0 hr3
  have Ho3 := jJ0 (show Old w w3 from Ho2.out.trans Hk3.out (fun b hb e => by omega))
  clear hp hs hr3 hsz
  rw [hlen] at HR
  generalize d'.toList = l' at *
  have Hlen := jJ0 hlen
  clear hlen
  go_wp2_with fail
  refine HR.out.mono ?_
  rintro e w4 ⟨rfl, ho4⟩
  have Hend := jJ0 (show RisePost w l (.returned (.tuple #[.slice (some ⟨g, 0, none⟩) l.length c', .bool (riseK (l'.map (·.key)))])) w4 from
    ⟨l', g, c', Hp.out, Hs.out, by rw [Hlen.out], Hr3.out.old ho4, hbase, Ho3.out.old ho4⟩)
  generalize riseK (l'.map (·.key)) = R at *
  clear ho4
  go_wp2
  go_ret2
  exact Hend.out
open Go.RowKit
attribute [local go_sem ↓] Go.wp_at_zero Go.wp_at_succ
def ofBe (l : List UInt8) : Nat := l.foldl (fun n b => n * 256 + b.toNat) 0
theorem ofBe_snoc (l : List UInt8) (b : UInt8) : ofBe (l ++ [b]) = ofBe l * 256 + b.toNat := by simp [ofBe]
theorem ofBe_fold (l : List UInt8) : ∀ n, l.foldl (fun n b => n * 256 + b.toNat) n < (n + 1) * 256 ^ l.length := by
  induction l with
  | nil => intro n; simp
  | cons a l ih =>
    intro n
    have h := ih (n * 256 + a.toNat)
    rw [List.foldl_cons, List.length_cons]
    have ha := a.toNat_lt
    refine Nat.lt_of_lt_of_le h ?_
    rw [Nat.pow_succ, Nat.mul_comm (256 ^ l.length) 256, <- Nat.mul_assoc]
    refine Nat.mul_le_mul_right _ ?_
    omega
theorem ofBe_lt (l : List UInt8) : ofBe l < 256 ^ l.length := by
  have := ofBe_fold l 0
  simpa [ofBe] using this
theorem or_step (n y : Nat) (hn : n < 72057594037927936) (hy : y < 256) : bits .or .u64 (IntKind.u64.wrap ((n : Int) * 256)) (IntKind.u64.wrap (y : Int)) = ((n * 256 + y : Nat) : Int) := by
  have e1 : IntKind.u64.wrap ((n : Int) * 256) = ((n * 256 : Nat) : Int) := by rw [IntWalk.u64_in _ (by omega)]; simp
  have e2 : IntKind.u64.wrap (y : Int) = (y : Int) := IntWalk.u64_in _ (by omega)
  rw [e1, e2, u64_or_nat _ _ (by omega) (by omega)]
  have := Nat.two_pow_add_eq_or_of_lt (i := 8) (b := y) (by omega) n
  rw [show n * 256 = 2 ^ 8 * n by omega, <- this]
theorem vm (bs : List UInt8) (p j : Nat) (h : p + j < bs.length) : ofBe ((bs.drop p).take (j + 1)) = ofBe ((bs.drop p).take j) * 256 + (bs.getD (p + j) 0).toNat := by
  have hl : j < (bs.drop p).length := by rw [List.length_drop]; omega
  rw [List.take_succ_eq_append_getElem hl, ofBe_snoc, List.getElem_drop]
  simp [List.getD, List.getElem?_eq_getElem h]
theorem jt (l : List UInt8) (k : Nat) : ofBe (l.take k) < 256 ^ k := by
  refine Nat.lt_of_lt_of_le (ofBe_lt _) (Nat.pow_le_pow_right (by decide) ?_)
  rw [List.length_take]
  omega
theorem tuple3_eq {a a' b b' c c' : Value} (h1 : a = a') (h2 : b = b') (h3 : c = c') : Ending.returned (.tuple #[a, b, c]) = .returned (.tuple #[a', b', c']) := by rw [h1, h2, h3]
structure Rs where
  at_ : Nat
  why : Int
def Rr (w : World) (g : Nat) (bs : List UInt8) (s : Rs) : Prop :=
  ∃ A c, Blk w g 170 #[.slice A bs.length c, .int .i64 s.at_, .int .i64 s.why] /\ Rd w 1 A bs.length (bs.map bv) /\ Av (fun k => g <= k) bs.length A /\ bs.length <= c /\ s.at_ <= bs.length /\ bs.length <= 100000000
def RX (g : Nat) : Nat -> Prop := fun k => k = g
section
variable {w w1 : World} {g : Nat} {bs : List UInt8} {s : Rs}
theorem Rr.old (h : Rr w g bs s) (ho : Old w w1) : Rr w1 g bs s := by
  obtain ⟨A, c, hb, hr, ha, hc, hs, hl⟩ := h
  exact ⟨A, c, hb.old ho, hr.old ho, ha, hc, hs, hl⟩
theorem Rr.kp {X : Nat -> Prop} (h : Rr w g bs s) (hk : Kp X w w1) (hX : ∀ k, k <= g -> ¬ X k) : Rr w1 g bs s := by
  obtain ⟨A, c, hb, hr, ha, hc, hs, hl⟩ := h
  refine ⟨A, c, hb.kp hk (hX g (Nat.le_refl _)), hr.kp hk (fun hn ad e hx => ?_), ha, hc, hs, hl⟩
  have := ha hn ad e
  exact hX ad.block (by omega) hx
theorem Rr.set (h : Rr w g bs s) {p : Addr} (hp : g < p.block) (u : Value) : Rr (w.setCell p u) g bs s :=
  h.kp ((Kp.refl (fun k => k = p.block) w).setCell (fun _ => rfl) u) (fun k hk e => by omega)
theorem av_eq {n : Nat} {A : Option Addr} (h : Av (fun k => g <= k) n A) : Av (fun k => k = g) n A := fun hn ad e hx => h hn ad e (by omega)
theorem Rr.lt (h : Rr w g bs s) : g < w.heap.size := by
  obtain ⟨A, c, hb, _⟩ := h
  exact hb.lt
theorem Rr.why (h : Rr w g bs s) : w.cell? ⟨g, 2, none⟩ = some (.int .i64 s.why) := by
  obtain ⟨A, c, hb, _⟩ := h
  exact hb.at_ 2 rfl
theorem Rr.atc (h : Rr w g bs s) : w.cell? ⟨g, 1, none⟩ = some (.int .i64 s.at_) := by
  obtain ⟨A, c, hb, _⟩ := h
  exact hb.at_ 1 rfl
theorem Rr.zer (h : Rr w g bs s) (i : Nat) : w.frozen? ⟨g, i, none⟩ = false := by
  obtain ⟨A, c, hb, _⟩ := h
  exact hb.frozen i
theorem Rr.fits (h : Rr w g bs s) : s.at_ <= bs.length /\ bs.length <= 100000000 := by
  obtain ⟨A, c, _, _, _, _, hs, hl⟩ := h
  exact ⟨hs, hl⟩
theorem Rr.setAt (h : Rr w g bs s) (n : Nat) (hn : n <= bs.length) : Rr (w.setCell ⟨g, 1, none⟩ (.int .i64 n)) g bs ⟨n, s.why⟩ := by
  obtain ⟨A, c, hb, hr, ha, hc, hs, hl⟩ := h
  refine ⟨A, c, hb.set_ 1 _, hr.kp ((Kp.refl (fun k => k = g) _).setCell (p := ⟨g, 1, none⟩) (fun _ => rfl) _) (av_eq ha), ha, hc, hn, hl⟩
theorem Rr.setWhy (h : Rr w g bs s) (n : Int) : Rr (w.setCell ⟨g, 2, none⟩ (.int .i64 n)) g bs ⟨s.at_, n⟩ := by
  obtain ⟨A, c, hb, hr, ha, hc, hs, hl⟩ := h
  refine ⟨A, c, hb.set_ 2 _, hr.kp ((Kp.refl (fun k => k = g) _).setCell (p := ⟨g, 2, none⟩) (fun _ => rfl) _) (av_eq ha), ha, hc, hs, hl⟩
end
theorem kS (w : World) (A : Option Addr) (n c : Nat) (bs : List UInt8) (hr : Rd w 1 A n (bs.map bv)) (hn : n <= 100000000) :
    Calls Tryz.prog 39 #[.slice A n c] w fun e w' => ∃ g, e = .returned (.pointer (some ⟨g, 0, none⟩)) /\ w.heap.size <= g /\ Rr w' g bs ⟨0, 0⟩ /\ Old w w' := by
  have hl : bs.length = n := by simpa using hr.1
  subst hl
  have H63 := jJ0 (show 0 + bs.length <= maxLen by unfold maxLen; omega)
  have H47 := jJ0 (show (0 + bs.length) * 1 <= 140737488355328 by omega)
  have Hn := jJ0 hn
  clear hn
  obtain ⟨i0, hi, hz0, hz1, hz2⟩ := info_parts Tryz.infoByte
  go_enter Tryz.func39, Tryz.ntmps39
  go_wp2_with (at_builtin; refine jO _ rfl (.const (.slice none 0 0)) (.tmp 3) 22 rfl w.heap.size 5 i0 (.int .u8 0) 1 1 Tryz.underlying22 hi hz0 hz1 hz2 rfl (by decide) (.slice none 0 0) 0 [] rfl (World.ownsRow_nil _ _ _ _) A bs.length c (bs.map bv) rfl hr (jr _) H63.out H47.out (Nat.le_refl _) ?_; intro A' c' w1 hown hgrow hat)
  go_ret
  have ho1 : Old w w1 := (Kp.refl _ _).grown hgrow (fun k e => by simp [Value.ownBlock] at e)
  rw [Nat.zero_add, List.nil_append] at hown
  have hrd := Rd.of_own hown
  refine ⟨w1.heap.size, rfl, ho1.size, ⟨A', c', ?_, hrd.alloc _, ?_, ?_, Nat.zero_le _, Hn.out⟩, ho1.alloc _⟩
  · exact Blk.new _ _ _
  · intro hn ad e hx
    have := hrd.lt (by decide) hn e
    omega
  · rcases hown.2 with ⟨e, h0⟩ | ⟨g, cap, cur, e, _, _, hnc, _⟩
    · omega
    · injection e with e1 e2 e3
      omega
theorem jp (w : World) (g : Nat) (bs : List UInt8) (s : Rs) (e : Int) (h : Rr w g bs s) (hw : s.why = 0) :
    Calls Tryz.prog 83 #[.pointer (some ⟨g, 0, none⟩), .int .i64 e] w fun x w' => x = .returned (.tuple #[]) /\ Rr w' g bs ⟨s.at_, e⟩ /\ Kp (RX g) w w' := by
  have hc2 := h.why
  have hz2 := h.zer 2
  rw [hw] at hc2
  have Hw := jJ0 hw
  clear hw
  go_enter Tryz.func83, Tryz.ntmps83
  go_wp2
  go_end0
  exact ⟨rfl, h.setWhy e, (Kp.refl (RX g) _).setCell (p := ⟨g, 2, none⟩) (fun _ => rfl) _⟩
theorem ahead8_no (w : World) (g : Nat) (bs : List UInt8) (s : Rs) (p : Nat) (h : Rr w g bs s) (hp : p <= bs.length) (hk : bs.length < p + 1) :
    Calls Tryz.prog 82 #[.pointer (some ⟨g, 0, none⟩), .int .i64 p] w fun e w' => e = .returned (.tuple #[.int .u8 0, .int .i64 p, .bool false]) /\ w = w' := by
  obtain ⟨A, c, hb, hr, ha, hc, hs, hl⟩ := h
  have hc0 := hb.at_ 0 rfl
  go_enter Tryz.func82, Tryz.ntmps82
  go_wp2_with (go_at_call 49; refine (width8_any _).mono ?_; rintro e w' ⟨rfl, rfl⟩)
  go_ret3
  exact ⟨rfl, rfl⟩
theorem ahead8_yes (w : World) (g : Nat) (bs : List UInt8) (s : Rs) (p : Nat) (h : Rr w g bs s) (hk : p + 1 <= bs.length) :
    Calls Tryz.prog 82 #[.pointer (some ⟨g, 0, none⟩), .int .i64 p] w fun e w' => e = .returned (.tuple #[.int .u8 (ofBe ((bs.drop p).take 1)), .int .i64 ((p + 1 : Nat) : Int), .bool true]) /\ w = w' := by
  obtain ⟨A, c, hb, hr, ha, hc, hs, hl⟩ := h
  have hc0 := hb.at_ 0 rfl
  obtain ⟨b, o, rfl, hcell⟩ := hr.2 (by omega)
  have Hcell := jJ0 hcell
  clear hcell
  go_enter Tryz.func82, Tryz.ntmps82
  go_wp2_with (go_at_call 49; refine (width8_any _).mono ?_; rintro e w' ⟨rfl, rfl⟩)
  go_loop [32, 8] (fun i n => ∃ j : Nat, j <= 1 /\ i = .int .i64 j /\ n = .int .u64 (ofBe ((bs.drop p).take j))) (fun i _ => 1 - (intOf i).toNat)
  case atStart => exact ⟨0, by omega, rfl, rfl⟩
  case round =>
    obtain ⟨j, hj, rfl, rfl⟩ := hrel
    by_cases hlt : j < 1
    · have hx : w.cell? ⟨b, o + p + j, none⟩ = some (.int .u8 ((bs.getD (p + j) 0).toNat : Int)) := by
        rw [Nat.add_assoc]
        refine Hcell.out (p + j) _ ?_
        rw [List.getElem?_map, List.getElem?_eq_getElem (by omega)]
        simp [bv, List.getD, List.getElem?_eq_getElem (show p + j < bs.length by omega)]
      have hsucc := vm bs p j (by omega)
      have hlt56 : ofBe ((bs.drop p).take j) < 72057594037927936 := Nat.lt_of_lt_of_le (jt _ _) (Nat.le_trans (Nat.pow_le_pow_right (n := 256) (by decide) (show j <= 7 by omega)) (by decide))
      generalize bs.getD (p + j) 0 = y at hx hsucc
      generalize ofBe ((bs.drop p).take j) = nn at *
      have Hs := jJ0 hsucc
      have H56 := jJ0 hlt56
      clear hsucc hlt56
      go_wp2
      go_round
      case rel => exact ⟨j + 1, by omega, by go_num, vW (by rw [or_step nn y.toNat H56.out y.toNat_lt, Hs.out])⟩
      case measure => simp [intOf]; omega
    · obtain rfl : j = 1 := by omega
      have hN := jt (bs.drop p) 1
      generalize hnn : ofBe ((bs.drop p).take 1) = nn at *
      have HN := jJ0 hN
      have Hnn := jJ0 hnn
      clear hN hnn
      go_wp2
      go_ret3
      have hN := HN.out
      refine ⟨tuple3_eq (vW ?_) rfl rfl, rfl⟩
      have hnn := Hnn.out
      first | omega | (rw [hnn]; exact IntWalk.u8_in _ (by omega))
theorem ahead16_no (w : World) (g : Nat) (bs : List UInt8) (s : Rs) (p : Nat) (h : Rr w g bs s) (hp : p <= bs.length) (hk : bs.length < p + 2) :
    Calls Tryz.prog 88 #[.pointer (some ⟨g, 0, none⟩), .int .i64 p] w fun e w' => e = .returned (.tuple #[.int .u16 0, .int .i64 p, .bool false]) /\ w = w' := by
  obtain ⟨A, c, hb, hr, ha, hc, hs, hl⟩ := h
  have hc0 := hb.at_ 0 rfl
  go_enter Tryz.func88, Tryz.ntmps88
  go_wp2_with (go_at_call 53; refine (width16_any _).mono ?_; rintro e w' ⟨rfl, rfl⟩)
  go_ret3
  exact ⟨rfl, rfl⟩
theorem ahead16_yes (w : World) (g : Nat) (bs : List UInt8) (s : Rs) (p : Nat) (h : Rr w g bs s) (hk : p + 2 <= bs.length) :
    Calls Tryz.prog 88 #[.pointer (some ⟨g, 0, none⟩), .int .i64 p] w fun e w' => e = .returned (.tuple #[.int .u16 (ofBe ((bs.drop p).take 2)), .int .i64 ((p + 2 : Nat) : Int), .bool true]) /\ w = w' := by
  obtain ⟨A, c, hb, hr, ha, hc, hs, hl⟩ := h
  have hc0 := hb.at_ 0 rfl
  obtain ⟨b, o, rfl, hcell⟩ := hr.2 (by omega)
  have Hcell := jJ0 hcell
  clear hcell
  go_enter Tryz.func88, Tryz.ntmps88
  go_wp2_with (go_at_call 53; refine (width16_any _).mono ?_; rintro e w' ⟨rfl, rfl⟩)
  go_loop [32, 8] (fun i n => ∃ j : Nat, j <= 2 /\ i = .int .i64 j /\ n = .int .u64 (ofBe ((bs.drop p).take j))) (fun i _ => 2 - (intOf i).toNat)
  case atStart => exact ⟨0, by omega, rfl, rfl⟩
  case round =>
    obtain ⟨j, hj, rfl, rfl⟩ := hrel
    by_cases hlt : j < 2
    · have hx : w.cell? ⟨b, o + p + j, none⟩ = some (.int .u8 ((bs.getD (p + j) 0).toNat : Int)) := by
        rw [Nat.add_assoc]
        refine Hcell.out (p + j) _ ?_
        rw [List.getElem?_map, List.getElem?_eq_getElem (by omega)]
        simp [bv, List.getD, List.getElem?_eq_getElem (show p + j < bs.length by omega)]
      have hsucc := vm bs p j (by omega)
      have hlt56 : ofBe ((bs.drop p).take j) < 72057594037927936 := Nat.lt_of_lt_of_le (jt _ _) (Nat.le_trans (Nat.pow_le_pow_right (n := 256) (by decide) (show j <= 7 by omega)) (by decide))
      generalize bs.getD (p + j) 0 = y at hx hsucc
      generalize ofBe ((bs.drop p).take j) = nn at *
      have Hs := jJ0 hsucc
      have H56 := jJ0 hlt56
      clear hsucc hlt56
      go_wp2
      go_round
      case rel => exact ⟨j + 1, by omega, by go_num, vW (by rw [or_step nn y.toNat H56.out y.toNat_lt, Hs.out])⟩
      case measure => simp [intOf]; omega
    · obtain rfl : j = 2 := by omega
      have hN := jt (bs.drop p) 2
      generalize hnn : ofBe ((bs.drop p).take 2) = nn at *
      have HN := jJ0 hN
      have Hnn := jJ0 hnn
      clear hN hnn
      go_wp2
      go_ret3
      have hN := HN.out
      refine ⟨tuple3_eq (vW ?_) rfl rfl, rfl⟩
      have hnn := Hnn.out
      first | omega | (rw [hnn]; exact IntWalk.u16_in _ (by omega))
theorem ahead32_no (w : World) (g : Nat) (bs : List UInt8) (s : Rs) (p : Nat) (h : Rr w g bs s) (hp : p <= bs.length) (hk : bs.length < p + 4) :
    Calls Tryz.prog 97 #[.pointer (some ⟨g, 0, none⟩), .int .i64 p] w fun e w' => e = .returned (.tuple #[.int .u32 0, .int .i64 p, .bool false]) /\ w = w' := by
  obtain ⟨A, c, hb, hr, ha, hc, hs, hl⟩ := h
  have hc0 := hb.at_ 0 rfl
  go_enter Tryz.func97, Tryz.ntmps97
  go_wp2_with (go_at_call 115; refine (width32_any _).mono ?_; rintro e w' ⟨rfl, rfl⟩)
  go_ret3
  exact ⟨rfl, rfl⟩
theorem ahead32_yes (w : World) (g : Nat) (bs : List UInt8) (s : Rs) (p : Nat) (h : Rr w g bs s) (hk : p + 4 <= bs.length) :
    Calls Tryz.prog 97 #[.pointer (some ⟨g, 0, none⟩), .int .i64 p] w fun e w' => e = .returned (.tuple #[.int .u32 (ofBe ((bs.drop p).take 4)), .int .i64 ((p + 4 : Nat) : Int), .bool true]) /\ w = w' := by
  obtain ⟨A, c, hb, hr, ha, hc, hs, hl⟩ := h
  have hc0 := hb.at_ 0 rfl
  obtain ⟨b, o, rfl, hcell⟩ := hr.2 (by omega)
  have Hcell := jJ0 hcell
  clear hcell
  go_enter Tryz.func97, Tryz.ntmps97
  go_wp2_with (go_at_call 115; refine (width32_any _).mono ?_; rintro e w' ⟨rfl, rfl⟩)
  go_loop [32, 8] (fun i n => ∃ j : Nat, j <= 4 /\ i = .int .i64 j /\ n = .int .u64 (ofBe ((bs.drop p).take j))) (fun i _ => 4 - (intOf i).toNat)
  case atStart => exact ⟨0, by omega, rfl, rfl⟩
  case round =>
    obtain ⟨j, hj, rfl, rfl⟩ := hrel
    by_cases hlt : j < 4
    · have hx : w.cell? ⟨b, o + p + j, none⟩ = some (.int .u8 ((bs.getD (p + j) 0).toNat : Int)) := by
        rw [Nat.add_assoc]
        refine Hcell.out (p + j) _ ?_
        rw [List.getElem?_map, List.getElem?_eq_getElem (by omega)]
        simp [bv, List.getD, List.getElem?_eq_getElem (show p + j < bs.length by omega)]
      have hsucc := vm bs p j (by omega)
      have hlt56 : ofBe ((bs.drop p).take j) < 72057594037927936 := Nat.lt_of_lt_of_le (jt _ _) (Nat.le_trans (Nat.pow_le_pow_right (n := 256) (by decide) (show j <= 7 by omega)) (by decide))
      generalize bs.getD (p + j) 0 = y at hx hsucc
      generalize ofBe ((bs.drop p).take j) = nn at *
      have Hs := jJ0 hsucc
      have H56 := jJ0 hlt56
      clear hsucc hlt56
      go_wp2
      go_round
      case rel => exact ⟨j + 1, by omega, by go_num, vW (by rw [or_step nn y.toNat H56.out y.toNat_lt, Hs.out])⟩
      case measure => simp [intOf]; omega
    · obtain rfl : j = 4 := by omega
      have hN := jt (bs.drop p) 4
      generalize hnn : ofBe ((bs.drop p).take 4) = nn at *
      have HN := jJ0 hN
      have Hnn := jJ0 hnn
      clear hN hnn
      go_wp2
      go_ret3
      have hN := HN.out
      refine ⟨tuple3_eq (vW ?_) rfl rfl, rfl⟩
      have hnn := Hnn.out
      first | omega | (rw [hnn]; exact IntWalk.u32_in _ (by omega))
theorem ahead64_no (w : World) (g : Nat) (bs : List UInt8) (s : Rs) (p : Nat) (h : Rr w g bs s) (hp : p <= bs.length) (hk : bs.length < p + 8) :
    Calls Tryz.prog 137 #[.pointer (some ⟨g, 0, none⟩), .int .i64 p] w fun e w' => e = .returned (.tuple #[.int .u64 0, .int .i64 p, .bool false]) /\ w = w' := by
  obtain ⟨A, c, hb, hr, ha, hc, hs, hl⟩ := h
  have hc0 := hb.at_ 0 rfl
  go_enter Tryz.func137, Tryz.ntmps137
  go_wp2_with (go_at_call 102; refine (width64_any _).mono ?_; rintro e w' ⟨rfl, rfl⟩)
  go_ret3
  exact ⟨rfl, rfl⟩
theorem ahead64_yes (w : World) (g : Nat) (bs : List UInt8) (s : Rs) (p : Nat) (h : Rr w g bs s) (hk : p + 8 <= bs.length) :
    Calls Tryz.prog 137 #[.pointer (some ⟨g, 0, none⟩), .int .i64 p] w fun e w' => e = .returned (.tuple #[.int .u64 (ofBe ((bs.drop p).take 8)), .int .i64 ((p + 8 : Nat) : Int), .bool true]) /\ w = w' := by
  obtain ⟨A, c, hb, hr, ha, hc, hs, hl⟩ := h
  have hc0 := hb.at_ 0 rfl
  obtain ⟨b, o, rfl, hcell⟩ := hr.2 (by omega)
  have Hcell := jJ0 hcell
  clear hcell
  go_enter Tryz.func137, Tryz.ntmps137
  go_wp2_with (go_at_call 102; refine (width64_any _).mono ?_; rintro e w' ⟨rfl, rfl⟩)
  go_loop [32, 8] (fun i n => ∃ j : Nat, j <= 8 /\ i = .int .i64 j /\ n = .int .u64 (ofBe ((bs.drop p).take j))) (fun i _ => 8 - (intOf i).toNat)
  case atStart => exact ⟨0, by omega, rfl, rfl⟩
  case round =>
    obtain ⟨j, hj, rfl, rfl⟩ := hrel
    by_cases hlt : j < 8
    · have hx : w.cell? ⟨b, o + p + j, none⟩ = some (.int .u8 ((bs.getD (p + j) 0).toNat : Int)) := by
        rw [Nat.add_assoc]
        refine Hcell.out (p + j) _ ?_
        rw [List.getElem?_map, List.getElem?_eq_getElem (by omega)]
        simp [bv, List.getD, List.getElem?_eq_getElem (show p + j < bs.length by omega)]
      have hsucc := vm bs p j (by omega)
      have hlt56 : ofBe ((bs.drop p).take j) < 72057594037927936 := Nat.lt_of_lt_of_le (jt _ _) (Nat.le_trans (Nat.pow_le_pow_right (n := 256) (by decide) (show j <= 7 by omega)) (by decide))
      generalize bs.getD (p + j) 0 = y at hx hsucc
      generalize ofBe ((bs.drop p).take j) = nn at *
      have Hs := jJ0 hsucc
      have H56 := jJ0 hlt56
      clear hsucc hlt56
      go_wp2
      go_round
      case rel => exact ⟨j + 1, by omega, by go_num, vW (by rw [or_step nn y.toNat H56.out y.toNat_lt, Hs.out])⟩
      case measure => simp [intOf]; omega
    · obtain rfl : j = 8 := by omega
      have hN := jt (bs.drop p) 8
      generalize hnn : ofBe ((bs.drop p).take 8) = nn at *
      have HN := jJ0 hN
      have Hnn := jJ0 hnn
      clear hN hnn
      go_wp2
      go_ret3
      have hN := HN.out
      refine ⟨tuple3_eq (vW ?_) rfl rfl, rfl⟩
      have hnn := Hnn.out
      first | omega | (rw [hnn]; exact IntWalk.u64_in _ (by omega))
section
variable {P : Program}
theorem cut_lh {t : TypeId} (ht : P.underlying t = some (.slice (P.elem t))) {s : Nat} (hs : ∀ w, (sizeOf (P.elem t)).run P w = .ok s w) (A : Option Addr) (len c l h : Nat) (kl kh : IntKind) (L H : Int) (hL : L = l) (hH : H = h) (hlh : l <= h) (hh : h <= c) (w : World) :
    (Instr.slice t (.slice A len c) (some (.int kl L)) (some (.int kh H)) none).run P w = .ok (.slice (if c = l then A else A.map (·.add (l * s))) (h - l) (c - l)) w := by
  subst hL
  subst hH
  rw [run_slice_lh (ht := ht) (h0 := by omega) (h1 := by omega) (h2 := by omega), hs]
  simp [sliced]
theorem cut_h {t : TypeId} (ht : P.underlying t = some (.slice (P.elem t))) {s : Nat} (hs : ∀ w, (sizeOf (P.elem t)).run P w = .ok s w) (A : Option Addr) (len c h : Nat) (kh : IntKind) (H : Int) (hH : H = h) (hh : h <= c) (w : World) :
    (Instr.slice t (.slice A len c) none (some (.int kh H)) none).run P w = .ok (.slice A h c) w := by
  subst hH
  rw [run_slice_h (ht := ht) (h0 := by omega) (h2 := by omega), hs]
  simp [sliced]
  intro _
  cases A <;> rfl
end
end Go.Proofs.YtnaolhjbapgjgaaGreat
