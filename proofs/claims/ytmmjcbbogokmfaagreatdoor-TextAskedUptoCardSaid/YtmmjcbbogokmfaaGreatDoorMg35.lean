import Derived.Test.YtmmjcbbogokmfaaGreatDoorMg15
import Derived.Test.YtmmjcbbogokmfaaGreatDoorMg33
import Derived.Test.YtmmjcbbogokmfaaGreatDoorMg34
/- Plain: the count of nodes keeps small; what is written only grows. -/
namespace Go.Proofs.YtmmjcbbogokmfaaGreatDoor

section
variable {ns : List Nd} {nx n2 : Nat}
theorem perhaps2_le {a b : Int} (h : (perhapsN ns a nx).bind (perhapsN ns b) = some n2) (hn : nx ≤ 1000000) (hl : ns.length ≤ 1000000) : n2 ≤ 1000000 := by
  obtain ⟨m, h1, h2⟩ := Option.bind_eq_some_iff.1 h
  exact perhapsN_le h2 (perhapsN_le h1 hn hl) hl
theorem rightE_le : ∀ (l : List Eff) {nx : Nat}, rightE ns l nx = some n2 → nx ≤ 1000000 → ns.length ≤ 1000000 → n2 ≤ 1000000
  | [], nx, h, hn, _ => by
    rw [rightE] at h
    injection h with h
    omega
  | e :: l, nx, h, hn, hl => by
    rw [rightE] at h
    split at h
    · obtain ⟨m, h1, h2⟩ := Option.bind_eq_some_iff.1 h
      exact rightE_le l h2 (perhapsN_le h1 hn hl) hl
    · cases h
end
theorem rightD_le {t : Tre} {d : Int × Int} {nx n2 : Nat} (h : rightD t d nx = some n2) (hn : nx ≤ 1000000) (hl : t.nodes.length ≤ 1000000) : n2 ≤ 1000000 := by
  unfold rightD at h
  split at h
  · obtain ⟨a, _, h⟩ := Option.bind_eq_some_iff.1 h
    unfold rightA at h
    split at h
    · exact perhaps2_le h hn hl
    · cases h
  split at h
  · obtain ⟨a, _, h⟩ := Option.bind_eq_some_iff.1 h
    unfold rightG at h
    split at h
    · exact perhaps2_le h hn hl
    · cases h
  split at h
  · obtain ⟨a, _, h⟩ := Option.bind_eq_some_iff.1 h
    unfold rightM at h
    split at h
    · have := treeN_le h; omega
    · cases h
  · obtain ⟨a, _, h⟩ := Option.bind_eq_some_iff.1 h
    unfold rightS at h
    split at h
    · obtain ⟨m, h1, h2⟩ := Option.bind_eq_some_iff.1 h
      exact rightE_le _ h2 (perhapsN_le h1 hn hl) hl
    · cases h
theorem putB_le (b x : List UInt8) : b.length ≤ (putB b x).length := (putB_len b x).1
theorem declA_len {ns : List Nd} {a : Atr} {b b' : List UInt8} (h : declA ns a b = some b') : b.length ≤ b'.length := by
  unfold declA at h
  obtain ⟨b3, h1, h⟩ := Option.bind_eq_some_iff.1 h
  obtain ⟨b4, h2, h⟩ := Option.map_eq_some_iff.1 h
  have e1 := ruledP_len _ _ _ _ _ h1
  have e2 := ruledP_len _ _ _ _ _ h2
  have e3 := putB_le b4 [59]
  rw [h] at e3
  have e4 := putsB_len [[97, 116, 116, 114, 105, 98, 117, 116, 101], tb a.name, [58]] b
  have e5 := putB_le (if a.opt = true then putB (putsB b [[97, 116, 116, 114, 105, 98, 117, 116, 101], tb a.name, [58]]) [111, 112, 116, 105, 111, 110, 97, 108] else putsB b [[97, 116, 116, 114, 105, 98, 117, 116, 101], tb a.name, [58]]) (kindW a.kind)
  have e6 : (putsB b [[97, 116, 116, 114, 105, 98, 117, 116, 101], tb a.name, [58]]).length ≤ (if a.opt = true then putB (putsB b [[97, 116, 116, 114, 105, 98, 117, 116, 101], tb a.name, [58]]) [111, 112, 116, 105, 111, 110, 97, 108] else putsB b [[97, 116, 116, 114, 105, 98, 117, 116, 101], tb a.name, [58]]).length := by
    split
    · exact putB_le _ _
    · exact Nat.le_refl _
  omega
theorem ruleP_len {ns : List Nd} {r : Int} {w b b' : List UInt8} (h : ruleP ns r w b = some b') : b.length ≤ b'.length := by
  unfold ruleP at h
  split at h
  · obtain ⟨b1, h1, h⟩ := Option.map_eq_some_iff.1 h
    have e1 := ruledP_len _ _ _ _ _ h1
    have e2 := putB_le b1 [59]
    rw [h] at e2
    omega
  · injection h with h
    rw [h]
    exact Nat.le_refl _
theorem declG_len {ns : List Nd} {a : Stg} {b b' : List UInt8} (h : declG ns a b = some b') : b.length ≤ b'.length := by
  unfold declG at h
  obtain ⟨b3, h1, h⟩ := Option.bind_eq_some_iff.1 h
  obtain ⟨b4, h2, h⟩ := Option.map_eq_some_iff.1 h
  have e1 := ruleP_len h1
  have e2 := ruleP_len h2
  have e3 := putB_le b4 [125]
  rw [h] at e3
  have e4 := putsB_len [[115, 116, 97, 103, 101], tb a.name] b
  have e5 := inP_len a.in_ (putsB b [[115, 116, 97, 103, 101], tb a.name])
  have e6 := putB_le (inP a.in_ (putsB b [[115, 116, 97, 103, 101], tb a.name])) [123]
  omega
theorem declM_len {ns : List Nd} {a : Mil} {b b' : List UInt8} (h : declM ns a b = some b') : b.length ≤ b'.length := by
  unfold declM at h
  obtain ⟨b4, h2, h⟩ := Option.map_eq_some_iff.1 h
  have e2 := ruledP_len _ _ _ _ _ h2
  have e3 := putB_le b4 [59]
  rw [h] at e3
  have e4 := putsB_len [[109, 105, 108, 101, 115, 116, 111, 110, 101], tb a.name] b
  have e5 := inP_len a.in_ (putsB b [[109, 105, 108, 101, 115, 116, 111, 110, 101], tb a.name])
  omega
theorem paramsP_len : ∀ (l : List Prm) (i : Nat) (b : List UInt8), b.length ≤ (paramsP l i b).length
  | [], _, b => Nat.le_refl _
  | p :: l, i, b => by
    rw [paramsP]
    refine Nat.le_trans ?_ (paramsP_len l (i + 1) _)
    refine Nat.le_trans ?_ (putsB_len _ _)
    split
    · exact putB_le _ _
    · exact Nat.le_refl _
theorem effectsP_len {ns : List Nd} : ∀ (l : List Eff) {b b' : List UInt8}, effectsP ns l b = some b' → b.length ≤ b'.length
  | [], b, b', h => by
    rw [effectsP] at h
    injection h with h
    rw [h]
    exact Nat.le_refl _
  | e :: l, b, b', h => by
    rw [effectsP] at h
    obtain ⟨b1, h1, h2⟩ := Option.bind_eq_some_iff.1 h
    have e2 := effectsP_len l h2
    have e3 := putB_le b1 [59]
    split at h1
    · injection h1 with h1
      have := putsB_len [[114, 101, 111, 112, 101, 110], tb e.name] b
      rw [h1] at this
      omega
    · have := ruledP_len _ _ _ _ _ h1
      omega
theorem declS_len {ns : List Nd} {a : Stp} {b b' : List UInt8} (h : declS ns a b = some b') : b.length ≤ b'.length := by
  unfold declS at h
  obtain ⟨b3, h1, h⟩ := Option.bind_eq_some_iff.1 h
  obtain ⟨b4, h2, h⟩ := Option.map_eq_some_iff.1 h
  have e1 := ruledP_len _ _ _ _ _ h1
  have e2 := effectsP_len _ h2
  have e3 := putB_le b4 [125]
  have e3' := putB_le b3 [123]
  rw [h] at e3
  have e4 := putsB_len [[115, 116, 101, 112], tb a.name, [40]] b
  have e5 := paramsP_len a.params 0 (putsB b [[115, 116, 101, 112], tb a.name, [40]])
  have e6 := putB_le (paramsP a.params 0 (putsB b [[115, 116, 101, 112], tb a.name, [40]])) [41]
  have e7 := inP_len a.in_ (putB (paramsP a.params 0 (putsB b [[115, 116, 101, 112], tb a.name, [40]])) [41])
  omega
theorem declP_len {t : Tre} {d : Int × Int} {b b' : List UInt8} (h : declP t d b = some b') : b.length + 1 ≤ b'.length := by
  unfold declP at h
  obtain ⟨b1, h, e⟩ := Option.map_eq_some_iff.1 h
  have hl : b1.length + 1 = b'.length := by rw [← e, List.length_append]; rfl
  rw [← hl]
  refine Nat.succ_le_succ ?_
  split at h
  · obtain ⟨a, _, h⟩ := Option.bind_eq_some_iff.1 h
    exact declA_len h
  split at h
  · obtain ⟨a, _, h⟩ := Option.bind_eq_some_iff.1 h
    exact declG_len h
  split at h
  · obtain ⟨a, _, h⟩ := Option.bind_eq_some_iff.1 h
    exact declM_len h
  · obtain ⟨a, _, h⟩ := Option.bind_eq_some_iff.1 h
    exact declS_len h
theorem declsP_len {t : Tre} : ∀ (l : List (Int × Int)) {b b' : List UInt8}, declsP t l b = some b' → b.length ≤ b'.length
  | [], b, b', h => by
    rw [declsP] at h
    injection h with h
    rw [h]
    exact Nat.le_refl _
  | d :: l, b, b', h => by
    rw [declsP] at h
    obtain ⟨b1, h1, h2⟩ := Option.bind_eq_some_iff.1 h
    have := declP_len h1
    have := declsP_len l h2
    omega
end Go.Proofs.YtmmjcbbogokmfaaGreatDoor

/- Contract of text.Print where the tree is one of a text. -/
namespace Go.Proofs.YtmmjcbbogokmfaaGreatDoor
open Go.RowKit

/-- what Print holds: the printer, the places, the tree's own box; w1: the world with that box -/
structure PrS (w : World) (w1 : World) (t : Tre) (s : Sl) (lp : List (Int × Int)) (q : Nat) (next : Nat) (l : List UInt8) (B : Option Addr) (bc : Nat) (W : World) : Prop where
  pr : Pr w1 t s next l B bc W
  row : Blk W q 134 (lp.flatMap lpC).toArray
  box : Blk W w.heap.size 29 (treeC t s).toArray
section
variable {w w1 W W1 : World} {t : Tre} {s : Sl} {lp : List (Int × Int)} {q next n2 : Nat} {l l2 : List UInt8} {B B2 : Option Addr} {bc c2 : Nat}
theorem PrS.old (h : PrS w w1 t s lp q next l B bc W) (ho : Old W W1) : PrS w w1 t s lp q next l B bc W1 := ⟨h.pr.old ho, h.row.old ho, h.box.old ho⟩
theorem PrS.step (h : PrS w w1 t s lp q next l B bc W) (hp : Pr w1 t s n2 l2 B2 c2 W1) (hf : FrP W W1) : PrS w w1 t s lp q n2 l2 B2 c2 W1 := ⟨hp, hf.blk _ _ _ (by decide) (by decide) h.row, hf.blk _ _ _ (by decide) (by decide) h.box⟩
theorem lp_cells (h : PrS w w1 t s lp q next l B bc W) {k : Nat} {d : Int × Int} (hk : lp[k]? = some d) : W.cell? ⟨q, k * 2, none⟩ = some (.int .i64 d.1) ∧ W.cell? ⟨q, k * 2 + 1, none⟩ = some (.int .i64 d.2) := by
  have hf := flat_z lpC 2 (fun _ => rfl) lp k _ hk
  refine ⟨h.row.at_ (k * 2) ?_, h.row.at_ (k * 2 + 1) ?_⟩
  · have := hf 0 (by decide); rw [List.getElem?_toArray]; exact this
  · have := hf 1 (by decide); rw [List.getElem?_toArray]; exact this
end
/-- the printer's functions over declarations, as they are asked -/
structure PrtOk (w1 : World) (t : Tre) (s : Sl) : Prop where
  right : ∀ d ∈ (laidN t).l, ∀ (W : World) (next : Nat) (l : List UInt8) (B : Option Addr) (bc : Nat), next ≤ 1000000 → Pr w1 t s next l B bc W →
    Calls Tryz.prog 52 #[.pointer (some ⟨w1.heap.size, 0, none⟩), iv d.1, iv d.2] W (TrR w1 t s l B bc (rightD t d next) W)
  decl : ∀ d ∈ (laidN t).l, ∀ (W : World) (next : Nat) (l l' : List UInt8) (B : Option Addr) (bc : Nat), Pr w1 t s next l B bc W → declP t d l = some l' → l'.length ≤ LIMP →
    Calls Tryz.prog 54 #[.pointer (some ⟨w1.heap.size, 0, none⟩), iv d.1, iv d.2] W (PrR w1 t s next l' W)
/-- what Print tells of a tree of a text -/
def PrintY (w : World) (l : List UInt8) (e : Ending) (W : World) : Prop := ∃ A c, e = .returned (.tuple #[.slice A l.length c, iv 0]) ∧ W.ownsRow (w.heap.size + 1) 5 1 (.slice A l.length c) l.length (l.map bv) ∧ Kp (fromB w.heap.size) w W
theorem pr_begin (w : World) (t : Tre) (s : Sl) : Pr w t s 0 [] none 0 (w.alloc (.cells (treeC t s ++ [Value.int .i64 0, Value.slice none 0 0]).toArray 129)) :=
  ⟨Blk.new _ _ _, World.ownsRow_nil _ _ _ _, ((Kp.refl NoX w).alloc _).mono (fun _ _ e => e.elim)⟩
theorem TrD.old {w w1 : World} {t : Tre} {s : Sl} {ns : List MNd} {ps : List MSt} (h : TrD w t s ns ps) (ho : Old w w1) : TrD w1 t s ns ps :=
  ⟨⟨h.nd.rows.old ho, h.nd.eq, h.nd.cnt, fun x hx => ⟨(h.nd.ok x hx).1.old ho, (h.nd.ok x hx).2⟩⟩, h.rA.old ho, h.rG.old ho, h.rM.old ho, h.rP.old ho, h.pe, fun x hx => ⟨⟨(h.po x hx).1.1.old ho, (h.po x hx).1.2⟩, (h.po x hx).2.1.old ho, (h.po x hx).2.2⟩, h.nA, h.nG, h.nM, h.nP⟩
theorem Pr.far {w W W1 : World} {t : Tre} {s : Sl} {next : Nat} {l : List UInt8} {B : Option Addr} {bc : Nat} (h : Pr w t s next l B bc W) (hk : Kp (fromB W.heap.size) W W1) : Pr w t s next l B bc W1 := by
  have hb := h.box.lt
  refine ⟨h.box.kp hk (fun e : W.heap.size ≤ w.heap.size => by omega), own_kp h.own hk (fun k e e2 => ?_), h.kp.trans hk (fun b _ e => ?_)⟩
  · have h1 := (own_ge h.own (b := k) (by rw [← ownBlock_slice]; exact e)).2
    have h2 : W.heap.size ≤ k := e2
    omega
  · have h1 := h.kp.size
    have h2 : W.heap.size ≤ b := e
    show w.heap.size ≤ b
    omega
theorem rightAll_cons {t : Tre} {d : Int × Int} {l : List (Int × Int)} {nx N : Nat} (h : rightAll t (d :: l) nx = some N) : ∃ m, rightD t d nx = some m ∧ rightAll t l m = some N := by
  rw [rightAll] at h
  exact Option.bind_eq_some_iff.1 h
theorem declsP_cons {t : Tre} {d : Int × Int} {l : List (Int × Int)} {b b' : List UInt8} (h : declsP t (d :: l) b = some b') : ∃ m, declP t d b = some m ∧ declsP t l m = some b' := by
  rw [declsP] at h
  exact Option.bind_eq_some_iff.1 h
set_option maxRecDepth 100000 in
set_option maxHeartbeats 12800000 in
theorem print_yes (w : World) (hg : Sg w) (h8 : 8 ≤ w.heap.size) (t : Tre) (s : Sl) (ns : List MNd) (ps : List MSt) (TD : TrD w t s ns ps) (OK : ∀ w1, Old w w1 → PrtOk w1 t s) (hfit : fitT t = true) (lE : List UInt8) (hbytes : bytesP t = some lE) (hl : lE.length ≤ LIMP) :
    Calls Tryz.prog 14 #[.agg (treeC t s).toArray] w (PrintY w lE) := by
  obtain ⟨i0, hi, hz0, hz1, hz2⟩ := info_parts Tryz.infoU8
  unfold fitT at hfit
  rw [Bool.and_eq_true, Bool.and_eq_true, decide_eq_true_eq] at hfit
  obtain ⟨⟨hok, hleg⟩, hall⟩ := hfit
  unfold bytesP at hbytes
  obtain ⟨l3, hds, hE⟩ := Option.map_eq_some_iff.1 hbytes
  obtain ⟨w1, hw1⟩ : ∃ w1, w1 = w.alloc (.cells (treeC t s).toArray 29) := ⟨_, rfl⟩
  have ho1 : Old w w1 := by rw [hw1]; exact (Kp.refl NoX w).alloc _
  have hsz1 : w1.heap.size = w.heap.size + 1 := by rw [hw1]; simp
  have OK1 := OK _ ho1
  have HP0 : Pr w1 t s 0 [] none 0 ((w.alloc (.cells (treeC t s).toArray 29)).alloc (.cells (treeC t s ++ [Value.int .i64 0, Value.slice none 0 0]).toArray 129)) := by rw [hw1]; exact pr_begin _ t s
  have TD2 : TrD ((w.alloc (.cells (treeC t s).toArray 29)).alloc (.cells (treeC t s ++ [Value.int .i64 0, Value.slice none 0 0]).toArray 129)) t s ns ps := TD.old (((Kp.refl NoX w).alloc _).alloc _)
  have LD := Lib.hid (laid_any _ t s ns ps TD2)
  have HB := Lib.hid ((Blk.new w 29 (treeC t s).toArray).alloc (.cells (treeC t s ++ [Value.int .i64 0, Value.slice none 0 0]).toArray 129))
  replace HP0 := Lib.hid HP0
  have hcnt := TD.nd.cnt
  have HG := Lib.hid (hg.old ho1)
  have H81 := Lib.hid (show 8 ≤ w1.heap.size by rw [hsz1]; omega)
  have KPW := Lib.hid ho1
  have HLn : Hid ((laidN t).l.length ≤ 4000000) := Lib.hid (by
    have h1 := count_le TD
    have e : (laidN t).l.length = t.count := by
      have ha : ∀ (fam : Int) (l : List Int) (i : Nat) (x : LayP), (layAll fam l i x).l.length = x.l.length := by
        intro fam l
        induction l with
        | nil => exact fun i x => rfl
        | cons o l ih => exact fun i x => by rw [layAll, ih, layN_len]
      unfold laidN
      rw [ha, ha, ha, ha]
      exact List.length_replicate
    rw [e]
    exact h1)
  have HRt := Lib.hid OK1.right
  have HDc := Lib.hid OK1.decl
  have LDP := Lib.hid (fun (w3 : World) (q : Nat) (hrow : Blk w3 q 134 ((laidN t).l.flatMap lpC).toArray) (hkp : Kp (fromB ((w.alloc (.cells (treeC t s).toArray 29)).alloc (.cells (treeC t s ++ [Value.int .i64 0, Value.slice none 0 0]).toArray 129)).heap.size) ((w.alloc (.cells (treeC t s).toArray 29)).alloc (.cells (treeC t s ++ [Value.int .i64 0, Value.slice none 0 0]).toArray 129)) w3) => (show PrS w w1 t s (laidN t).l q 0 [] none 0 w3 from ⟨HP0.out.far hkp, hrow, HB.out.kp hkp (fun e : _ ≤ w.heap.size => by have := HB.out.lt; omega)⟩))
  have HLg := Lib.hid (fun W next l B bc (hp : Pr w1 t s next l B bc W) => legal_any9 W (hp.sg HG.out H81.out) t.name)
  rw [show legalB (sb t.name) = true from hleg] at HLg
  clear HP0 TD TD2 ho1 hg h8 OK OK1 hleg hw1
  have HOk := Lib.hid hok
  have HAll := Lib.hid hall
  have HDs := Lib.hid hds
  have HE := Lib.hid hE
  clear hok hall hds hE hbytes
  unfold LaidR at LD
  generalize (laidN t).ok = lok at *
  generalize (laidN t).l = L at *
  unfold treeC iv at *
  simp only [List.cons_append, List.nil_append] at *
  go_enter Tryz.func14, Tryz.ntmps14
  go_wp2_with (first | (go_at_call 20; refine (HLg.out _ _ _ _ _ P3.out.pr).mono ?_; rintro e w4 ⟨rfl, rfl⟩) | (go_at_call 51; refine LD.out.mono ?_; rintro e w3 ⟨q, rfl, hrow, hq, hkp⟩; have P3 := Lib.hid (LDP.out w3 q hrow hkp); have p3 := P3.out.box.at_ 0 (v := .string t.name) rfl; rw [HOk.out]; clear hrow hq hkp LD LDP HB) | fail)
  go_loopw [6, 7] (fun b i wr => ∃ (j nx : Nat), j ≤ L.length ∧ b = .bool true ∧ i = .int .i64 (j : Int) ∧ rightAll t (L.drop j) nx = some t.nodes.length ∧ nx ≤ 1000000 ∧ PrS w w1 t s L q nx [] none 0 wr) (fun _ i _ => L.length - (intOf i).toNat)
  case atStart => exact ⟨0, 0, Nat.zero_le _, rfl, rfl, HAll.out, by decide, P3.out⟩
  case round =>
    clear P3 p3 HAll
    obtain ⟨j, nx, hj, rfl, rfl, hra, hnx, hS⟩ := hrel
    have HS := Lib.hid hS
    have Hnx := Lib.hid hnx
    have Hra := Lib.hid hra
    by_cases hlt : j < L.length
    · have hd : L.drop j = L[j] :: L.drop (j + 1) := List.drop_eq_getElem_cons hlt
      have hm : L[j] ∈ L := List.getElem_mem hlt
      have hx : L[j]? = some L[j] := List.getElem?_eq_getElem hlt
      rw [hd] at hra
      generalize L[j] = d at *
      obtain ⟨m, hr1, hr2⟩ := rightAll_cons hra
      have HR := Lib.hid (HRt.out d hm _ nx [] none 0 hnx (hS.pr.old ((Kp.refl NoX wr).drew)))
      rw [hr1, hsz1] at HR
      have Hr2 := Lib.hid hr2
      have Hle := Lib.hid (rightD_le hr1 hnx hcnt)
      have Hx := Lib.hid hx
      have b1 : (0 : Int) ≤ (j : Int) := by omega
      have b2 : (j : Int).toNat = j := by omega
      have b3 : (j : Int) < (L.length : Int) := by omega
      have b4 : IntKind.i64.wrap ((j : Int) + 1) = (j : Int) + 1 := IntWalk.i64_in _ (by have := HLn.out; omega)
      clear hS hd hm hx hra hr1 hr2 hnx
      go_wp2
      refine region_tkn (S := fun W => ∃ n', PrS w w1 t s L q n' [] none 0 W) 13 rfl (by kernel_rfl) ⟨nx, HS.out.old ((Kp.refl NoX wr).drew)⟩ (fun hHeld => ?_)
      iterate 11 (refine' tOn rfl rfl (by kernel_rfl) (fun _ _ _ h => h) rfl hHeld (fun w' hSw => ?_) ?_; rotate_left; (obtain ⟨n', hS'⟩ := hSw; have s0 := (lp_cells hS' Hx.out).1; have s1 := (lp_cells hS' Hx.out).2; clear hS'; go_simp <;> with_reducible rfl); simp only [Act.put, List.setIfInBounds_toArray, List.set_cons_zero, List.set_cons_succ])
      refine tCall rfl (by kernel_rfl) (by decide) (fun K hK => ?_)
      go_simp
      go_at_call 52
      refine HR.out.mono ?_
      rintro e w2 ⟨rfl, n2, hn2, hX, hg2⟩
      obtain rfl := hn2 m rfl
      have HX2 := Lib.hid ((HS.out.old ((Kp.refl NoX wr).drew)).step hX hg2)
      clear hX hg2 hn2
      go_simp
      refine hK.out _ _ ⟨n2, HX2.out⟩ (fun hHeld => ?_)
      clear hK K
      iterate 1 (refine' tOn rfl rfl (by kernel_rfl) (fun _ _ _ h => h) rfl hHeld (fun w' hSw => ?_) ?_; rotate_left; (clear hSw; go_simp <;> with_reducible rfl); simp only [Act.put, List.setIfInBounds_toArray, List.set_cons_zero, List.set_cons_succ])
      refine wpAnyH_done (by kernel_rfl) ?_ _
      clear hHeld
      go_wp2
      exact ⟨⟨j + 1, n2, by omega, rfl, by rw [show ((j + 1 : Nat) : Int) = (j : Int) + 1 by omega], Hr2.out, Hle.out, HX2.out⟩, by simp only [intOf]; omega⟩
    · obtain rfl : j = L.length := by omega
      rw [List.drop_length] at hra
      have hN : nx = t.nodes.length := by rw [rightAll] at hra; injection hra
      subst hN
      have k8 := hS.pr.c8
      rw [hsz1] at k8
      have k6 := hS.box.at_ 6 (v := .slice s.nA t.nodes.length s.nc) rfl
      have k0 := hS.box.at_ 0 (v := .string t.name) rfl
      have gE : l3.length + 2 = lE.length := by rw [← HE.out, List.length_append]; rfl
      have g3 : l3.length ≤ LIMP := by omega
      have g0 : (putsB [] [[116, 121, 112, 101], tb t.name, [123]] ++ [10]).length ≤ LIMP := Nat.le_trans (declsP_len _ HDs.out) g3
      have Hl0 := Lib.hid (lim_one g0)
      have P1 := Lib.hid (fun W Q (hp : Pr w1 t s t.nodes.length [] none 0 W) (hQ : Q = W.heap.size) => put_newk w1 W t s t.nodes.length [] none 0 hp Q hQ [⟨#[116, 121, 112, 101]⟩, t.name, ⟨#[123]⟩] (lim_one g0).1 (show 3 ≤ 1000 by decide))
      simp only [hsz1] at P1
      have HDs2 := Lib.hid HDs.out
      have HLm := Lib.hid (show (putsB [] [[116, 121, 112, 101], tb t.name, [123]]).map bv ++ [bv 10] = (putsB [] [[116, 121, 112, 101], tb t.name, [123]] ++ [10]).map bv by rw [List.map_append (l₂ := [10])]; rfl)
      have P1' := Lib.hid (show putsB [] [sb ⟨#[116, 121, 112, 101]⟩, sb t.name, sb ⟨#[123]⟩] = putsB [] [[116, 121, 112, 101], tb t.name, [123]] from rfl)
      simp only [List.map_cons, List.map_nil, P1'.out] at P1
      clear hS hra Hra HDs P1' g0
      generalize putsB [] [[116, 121, 112, 101], tb t.name, [123]] = l0 at *
      go_wp2_with (first | (at_builtin; refine wpList_append_any _ rfl (.tmp 66) (.tmp 67) 33 rfl w1.heap.size 5 i0 (.int .u8 0) 1 1 Tryz.underlying33 hi hz0 hz1 hz2 rfl (by decide) (.slice B5 l0.length c5) l0.length (l0.map bv) rfl (own_kp H5.out.pr.own ((Kp.refl NoX _).alloc _) (fun _ _ e => e)) _ 1 1 [bv 10] rfl (Rd.one_new _ _ _) (one_value _ rfl) Hl0.out.2.1 Hl0.out.2.2.1 (Nat.le_trans H5.out.pr.kp.size ((Kp.refl NoX _).alloc _).size) ?_; intro B6 c6 w6 hown hgrow hat; rw [ownBlock_slice] at hgrow; rw [HLm.out, Hl0.out.2.2.2] at hown; have HG6 := H5.out.pr.grow ((Kp.refl NoX _).alloc _) hgrow hown; have hc9 := HG6.1.at_ 9 rfl; have hz9 := HG6.1.frozen 9; rw [hsz1] at hc9 hz9; have HN := Lib.hid (H5.out.step HG6.2.1 HG6.2.2); rw [hsz1] at HN; clear hown hgrow hat HG6) | (go_at_call 53; refine (P1.out _ _ (HS.out.old ((Kp.refl NoX _).drewN _)).pr (by simp)).mono ?_; rintro e w5 ⟨rfl, B5, c5, hX, hf⟩; have H5 := Lib.hid ((HS.out.old ((Kp.refl NoX _).drewN _)).step hX hf); have k9 := hX.c9; rw [hsz1] at k9; clear hX hf) | go_quiet (fail) | fail)
      rw [← Hl0.out.2.2.2] at HN
      generalize hW0 : w6.setCell ⟨w.heap.size + 1, 9, none⟩ (.slice B6 (l0.length + 1) c6) = W0 at *
      clear hW0 hc9 hz9
      have Hg3 := Lib.hid g3
      have HgE := Lib.hid gE
      clear g3 gE k9 k0 k6 k8
      go_loopw [73] (fun i wr => ∃ (k : Nat) (l1 : List UInt8) (B1 : Option Addr) (c1 : Nat), k ≤ L.length ∧ i = .int .i64 (k : Int) ∧ declsP t (L.drop k) l1 = some l3 ∧ PrS w w1 t s L q t.nodes.length l1 B1 c1 wr) (fun i _ => L.length - (intOf i).toNat)
      case atStart => exact ⟨0, _, _, _, Nat.zero_le _, rfl, HDs2.out, HN.out⟩
      case round =>
        clear HN
        obtain ⟨k, l1, B1, c1, hk, rfl, hdc, hS⟩ := hrel
        have HS1 := Lib.hid hS
        by_cases hlt2 : k < L.length
        · have hd : L.drop k = L[k] :: L.drop (k + 1) := List.drop_eq_getElem_cons hlt2
          have hm : L[k] ∈ L := List.getElem_mem hlt2
          have hx : L[k]? = some L[k] := List.getElem?_eq_getElem hlt2
          rw [hd] at hdc
          generalize L[k] = d at *
          obtain ⟨m, hr1, hr2⟩ := declsP_cons hdc
          have q0 := (lp_cells hS hx).1
          have q1 := (lp_cells hS hx).2
          have hoA := (Kp.refl NoX wr).alloc (.cells #[.int .i64 d.1, .int .i64 d.2] 134)
          have gm : m.length ≤ LIMP := Nat.le_trans (declsP_len _ hr2) Hg3.out
          have HC := Lib.hid (HDc.out d hm (wr.alloc (.cells #[.int .i64 d.1, .int .i64 d.2] 134)) t.nodes.length l1 m B1 c1 (hS.pr.old hoA) hr1 gm)
          rw [hsz1] at HC
          have Hr2 := Lib.hid hr2
          have b1 : (0 : Int) ≤ (k : Int) := by omega
          have b2 : (k : Int).toNat = k := by omega
          have b3 : (k : Int) < (L.length : Int) := by omega
          have b4 : IntKind.i64.wrap ((k : Int) + 1) = (k : Int) + 1 := IntWalk.i64_in _ (by have := HLn.out; omega)
          have HS2 := Lib.hid (HS1.out.old hoA)
          clear hS hd hm hx hdc hr1 hr2 hoA gm
          go_wp2_with (first | (go_at_call 54; refine HC.out.mono ?_; rintro e w2 ⟨rfl, B2, c2, hX, hf⟩; have HX2 := Lib.hid (HS2.out.step hX hf); clear hX hf) | fail)
          exact ⟨⟨k + 1, m, B2, c2, by omega, by rw [show ((k + 1 : Nat) : Int) = (k : Int) + 1 by omega], Hr2.out, HX2.out⟩, by simp only [intOf]; omega⟩
        · obtain rfl : k = L.length := by omega
          rw [List.drop_length] at hdc
          have hN3 : l1 = l3 := by rw [declsP] at hdc; injection hdc
          subst hN3
          have k9 := hS.pr.c9
          rw [hsz1] at k9
          have HS3 := Lib.hid hS
          have HS1o := Lib.hid hS.pr.own
          have J63 := Lib.hid (show l1.length + (⟨#[125, 10]⟩ : ByteArray).size ≤ maxLen by have h1 := HgE.out; have h2 := hl; show l1.length + 2 ≤ _; unfold maxLen; unfold LIMP at h2; omega)
          have J47 := Lib.hid (show l1.length + (⟨#[125, 10]⟩ : ByteArray).size ≤ 140737488355328 by have h1 := HgE.out; have h2 := hl; show l1.length + 2 ≤ _; unfold LIMP at h2; omega)
          have hbase := hS.pr.kp.size
          have HEl := Lib.hid (show l1.length + (⟨#[125, 10]⟩ : ByteArray).size = lE.length from HgE.out)
          have HEm := Lib.hid (show l1.map bv ++ (sb ⟨#[125, 10]⟩).map bv = lE.map bv by rw [← HE.out, List.map_append]; rfl)
          clear hS hdc HS HS1
          go_wp2_with (first | (at_builtin; refine wpList_append_str _ rfl (.tmp 87) (.const (.string ⟨#[125, 10]⟩)) 33 9 rfl w1.heap.size 5 i0 Tryz.underlying33 Tryz.underlying9 hi hz0 hz1 hz2 (.slice B1 l1.length c1) l1.length (l1.map bv) rfl HS1o.out ⟨#[125, 10]⟩ rfl J63.out J47.out hbase ?_; intro B2 c2 w2 hown hgrow hat; rw [ownBlock_slice] at hgrow; rw [← List.map_append] at hown; have Hown := Lib.hid hown; have Hgr := Lib.hid hgrow; clear hown hgrow hat) | fail)
          go_ret2
          have hown : w2.ownsRow (w.heap.size + 1) 5 1 (.slice B2 lE.length c2) lE.length (lE.map bv) := by
            have h := Hown.out
            rw [HEl.out, hsz1, show l1 ++ sb ⟨#[125, 10]⟩ = lE from HE.out] at h
            exact h
          have hk2 : Kp (fun b => B1.map (·.block) = some b) wr w2 := Kp.grown ((Kp.refl NoX wr).mono (fun _ _ e => e.elim)) Hgr.out (fun _ e _ => e)
          refine ⟨B2, c2, by rw [← HEl.out]; rfl, hown, ((KPW.out.mono (fun _ _ e => e.elim)).trans HS3.out.pr.kp (fun b _ e => ?_)).trans hk2 (fun b _ e => ?_)⟩
          · have h2 : w1.heap.size ≤ b := e
            show w.heap.size ≤ b
            omega
          · have h2 := (own_ge HS3.out.pr.own e).1
            show w.heap.size ≤ b
            omega
end Go.Proofs.YtmmjcbbogokmfaaGreatDoor
