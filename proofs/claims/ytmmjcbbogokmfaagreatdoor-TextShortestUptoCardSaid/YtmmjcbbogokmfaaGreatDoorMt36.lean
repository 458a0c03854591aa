import Derived.Test.YtmmjcbbogokmfaaGreatDoorMt01
import Derived.Test.YtmmjcbbogokmfaaGreatDoorMt25
import Derived.Test.YtmmjcbbogokmfaaGreatDoorMt27
import Derived.Test.YtmmjcbbogokmfaaGreatDoorMt35
set_option maxRecDepth 100000
set_option maxHeartbeats 25600000
namespace Go.Proofs.YtmmjcbbogokmfaaGreatDoor
open Go.RowKit
theorem tree_all (w : World) (hg : Sg w) (h80 : 8 <= w.heap.size) (t : Tre) (s : Sl) (ns : List MNd) (TN : TrN w t s ns) (l : List UInt8) (B : Option Addr) (bc : Nat) (root : Int) (W : World) (next : Nat) (hn : next <= 1000000) (h : Pr w t s next l B bc W) :
    Calls Tryz.prog 117 #[.pointer (some ⟨w.heap.size, 0, none⟩), iv root] W (TrR w t s l B bc (yI t.nodes (t.nodes.length + 1) root next) W) := by
  rcases Int.lt_or_le root (t.nodes.length : Int) with r1 | r1
  · exact tree_any w hg h80 t s ns TN l B bc _ root W next (by omega) hn h
  · rw [yI, if_pos (.inr r1)]
    exact tree_far w t s l B bc root W next (by omega) r1 h
theorem perhapsN_le {ns : List Nd} {root : Int} {next nx : Nat} (h : vT ns root next = some nx) (hn : next <= 1000000) (hl : ns.length <= 1000000) : nx <= 1000000 := by
  unfold vT at h
  split at h
  · injection h with h
    omega
  · have := treeN_le h
    omega
theorem inOne_any (w : World) (hg : Sg w) (s : ByteArray) : Calls Tryz.prog 116 #[.string s] w fun e w' => e = .returned (.bool (inOneB s)) /\ w = w' := by
  have HL := jJ0 (kJ w hg s)
  have hem := jw s
  unfold inOneB
  clear hg
  by_cases h0 : s.size = 0
  · have h1 : s.toList.isEmpty = true := by rw [hem, decide_eq_true h0]
    rw [decide_eq_true h0]
    clear hem h0
    go_enter Tryz.func116, Tryz.ntmps116
    go_wp2
    go_ret
    exact ⟨rfl, rfl⟩
  · have h1 : s.toList.isEmpty = false := by rw [hem, decide_eq_false h0]
    rw [decide_eq_false h0]
    clear hem h0
    have HQ := jJ0 (show (false || vJ s) = jq (sb s) from Bool.false_or _)
    generalize jq (sb s) = q at *
    go_enter Tryz.func116, Tryz.ntmps116
    go_wp2_with (first | (go_at_call 20; refine HL.out.mono ?_; rintro e w1 ⟨rfl, rfl⟩) | fail)
    go_ret
    exact ⟨congrArg (fun b => Ending.returned (.bool b)) HQ.out.symm, rfl⟩
theorem right_M1 (w W : World) (hg : Sg w) (h80 : 8 <= w.heap.size) (t : Tre) (s : Sl) (ns : List MNd) (ps : List MSt) (TD : TrD w t s ns ps) (i : Nat) (a : Mil) (ha : t.miles[i]? = some a) (next : Nat) (l : List UInt8) (B : Option Addr) (bc : Nat) (h : Pr w t s next l B bc W) (h1 : vJ a.name = false) :
    Calls Tryz.prog 52 #[.pointer (some ⟨w.heap.size, 0, none⟩), .int .i64 3, iv (i : Int)] W (TrR w t s l B bc none W) := by
  obtain ⟨b, o, hA, hc⟩ := vf (C := miC) (fun x => rfl) TD.rM ha (List.getElem?_eq_some_iff.1 ha).1
  have hlt := (List.getElem?_eq_some_iff.1 ha).1
  have hlim := TD.nM
  have hca := h.c4
  rw [hA] at hca
  have hw := fun j u hu => h.cellw (hc j u hu)
  obtain ⟨name, at_, order, in_, inAt, when_⟩ := a
  simp only at h1
  have c0 : W.cell? ⟨b, o + i * 6, none⟩ = some (.string name) := hw 0 _ rfl
  have c1 : W.cell? ⟨b, o + i * 6 + 1, none⟩ = some (.int .i64 at_) := hw 1 _ rfl
  have c2 : W.cell? ⟨b, o + i * 6 + 2, none⟩ = some (.int .i64 order) := hw 2 _ rfl
  have c3 : W.cell? ⟨b, o + i * 6 + 3, none⟩ = some (.string in_) := hw 3 _ rfl
  have c4 : W.cell? ⟨b, o + i * 6 + 4, none⟩ = some (.int .i64 inAt) := hw 4 _ rfl
  have c5 : W.cell? ⟨b, o + i * 6 + 5, none⟩ = some (.int .i64 when_) := hw 5 _ rfl
  have f1 : (0 : Int) <= (i : Int) := by omega
  have f2 : (i : Int).toNat = i := by omega
  have f3 : (i : Int) < (t.miles.length : Int) := by omega
  have ho : Old W (W.alloc (.cells #[.string name, .int .i64 at_, .int .i64 order, .string in_, .int .i64 inAt, .int .i64 when_] 64)) := (Kp.refl NoX W).alloc _
  have HP := jJ0 (h.old ho)
  have HW := jJ0 (FrP.of_old ho)
  have HL := jJ0 (fun W1 (hp : Pr w t s next l B bc W1) => kJ W1 (hp.sg hg h80) name)
  rw [show jq (sb name) = false from h1] at HL
  clear h hA hc hw ha hlt TD hg ho h1
  unfold iv at *
  go_enter Tryz.func52, Tryz.ntmps52
  go_wp2_with (first | (go_at_call 20; refine (HL.out _ HP.out).mono ?_; rintro e w1 ⟨rfl, rfl⟩) | fail)
  go_ret
  exact ⟨rfl, next, fun n e => (by cases e), HP.out, HW.out⟩
theorem right_M2 (w W : World) (hg : Sg w) (h80 : 8 <= w.heap.size) (t : Tre) (s : Sl) (ns : List MNd) (ps : List MSt) (TD : TrD w t s ns ps) (i : Nat) (a : Mil) (ha : t.miles[i]? = some a) (next : Nat) (l : List UInt8) (B : Option Addr) (bc : Nat) (h : Pr w t s next l B bc W) (h1 : vJ a.name = true) (h2 : inOneB a.in_ = false) :
    Calls Tryz.prog 52 #[.pointer (some ⟨w.heap.size, 0, none⟩), .int .i64 3, iv (i : Int)] W (TrR w t s l B bc none W) := by
  obtain ⟨b, o, hA, hc⟩ := vf (C := miC) (fun x => rfl) TD.rM ha (List.getElem?_eq_some_iff.1 ha).1
  have hlt := (List.getElem?_eq_some_iff.1 ha).1
  have hlim := TD.nM
  have hca := h.c4
  rw [hA] at hca
  have hw := fun j u hu => h.cellw (hc j u hu)
  obtain ⟨name, at_, order, in_, inAt, when_⟩ := a
  simp only at h1 h2
  have c0 : W.cell? ⟨b, o + i * 6, none⟩ = some (.string name) := hw 0 _ rfl
  have c1 : W.cell? ⟨b, o + i * 6 + 1, none⟩ = some (.int .i64 at_) := hw 1 _ rfl
  have c2 : W.cell? ⟨b, o + i * 6 + 2, none⟩ = some (.int .i64 order) := hw 2 _ rfl
  have c3 : W.cell? ⟨b, o + i * 6 + 3, none⟩ = some (.string in_) := hw 3 _ rfl
  have c4 : W.cell? ⟨b, o + i * 6 + 4, none⟩ = some (.int .i64 inAt) := hw 4 _ rfl
  have c5 : W.cell? ⟨b, o + i * 6 + 5, none⟩ = some (.int .i64 when_) := hw 5 _ rfl
  have f1 : (0 : Int) <= (i : Int) := by omega
  have f2 : (i : Int).toNat = i := by omega
  have f3 : (i : Int) < (t.miles.length : Int) := by omega
  have ho : Old W (W.alloc (.cells #[.string name, .int .i64 at_, .int .i64 order, .string in_, .int .i64 inAt, .int .i64 when_] 64)) := (Kp.refl NoX W).alloc _
  have HP := jJ0 (h.old ho)
  have HW := jJ0 (FrP.of_old ho)
  have HL := jJ0 (fun W1 (hp : Pr w t s next l B bc W1) => kJ W1 (hp.sg hg h80) name)
  rw [show jq (sb name) = true from h1] at HL
  have HS := jJ0 (fun W1 (hp : Pr w t s next l B bc W1) => inOne_any W1 (hp.sg hg h80) in_)
  rw [h2] at HS
  clear h hA hc hw ha hlt TD hg ho h1 h2
  unfold iv at *
  go_enter Tryz.func52, Tryz.ntmps52
  go_wp2_with (first | (go_at_call 116; refine (HS.out _ HP.out).mono ?_; rintro e w1 ⟨rfl, rfl⟩) | (go_at_call 20; refine (HL.out _ HP.out).mono ?_; rintro e w1 ⟨rfl, rfl⟩) | fail)
  go_ret
  exact ⟨rfl, next, fun n e => (by cases e), HP.out, HW.out⟩
theorem right_M3 (w W : World) (hg : Sg w) (h80 : 8 <= w.heap.size) (t : Tre) (s : Sl) (ns : List MNd) (ps : List MSt) (TD : TrD w t s ns ps) (i : Nat) (a : Mil) (ha : t.miles[i]? = some a) (next : Nat) (l : List UInt8) (B : Option Addr) (bc : Nat) (h : Pr w t s next l B bc W) (hn : next <= 1000000) (h1 : vJ a.name = true) (h2 : inOneB a.in_ = true) :
    Calls Tryz.prog 52 #[.pointer (some ⟨w.heap.size, 0, none⟩), .int .i64 3, iv (i : Int)] W (TrR w t s l B bc (yI t.nodes (t.nodes.length + 1) a.when_ next) W) := by
  obtain ⟨b, o, hA, hc⟩ := vf (C := miC) (fun x => rfl) TD.rM ha (List.getElem?_eq_some_iff.1 ha).1
  have hlt := (List.getElem?_eq_some_iff.1 ha).1
  have hlim := TD.nM
  have hca := h.c4
  rw [hA] at hca
  have hw := fun j u hu => h.cellw (hc j u hu)
  obtain ⟨name, at_, order, in_, inAt, when_⟩ := a
  simp only at h1 h2 ⊢
  have c0 : W.cell? ⟨b, o + i * 6, none⟩ = some (.string name) := hw 0 _ rfl
  have c1 : W.cell? ⟨b, o + i * 6 + 1, none⟩ = some (.int .i64 at_) := hw 1 _ rfl
  have c2 : W.cell? ⟨b, o + i * 6 + 2, none⟩ = some (.int .i64 order) := hw 2 _ rfl
  have c3 : W.cell? ⟨b, o + i * 6 + 3, none⟩ = some (.string in_) := hw 3 _ rfl
  have c4 : W.cell? ⟨b, o + i * 6 + 4, none⟩ = some (.int .i64 inAt) := hw 4 _ rfl
  have c5 : W.cell? ⟨b, o + i * 6 + 5, none⟩ = some (.int .i64 when_) := hw 5 _ rfl
  have f1 : (0 : Int) <= (i : Int) := by omega
  have f2 : (i : Int).toNat = i := by omega
  have f3 : (i : Int) < (t.miles.length : Int) := by omega
  have ho : Old W (W.alloc (.cells #[.string name, .int .i64 at_, .int .i64 order, .string in_, .int .i64 inAt, .int .i64 when_] 64)) := (Kp.refl NoX W).alloc _
  have HP := jJ0 (h.old ho)
  have HW := jJ0 (FrP.of_old ho)
  have HL := jJ0 (fun W1 (hp : Pr w t s next l B bc W1) => kJ W1 (hp.sg hg h80) name)
  rw [show jq (sb name) = true from h1] at HL
  have HS := jJ0 (fun W1 (hp : Pr w t s next l B bc W1) => inOne_any W1 (hp.sg hg h80) in_)
  rw [h2] at HS
  have HT := jJ0 (fun W1 (hp : Pr w t s next l B bc W1) => tree_all w hg h80 t s ns TD.nd l B bc when_ W1 next hn hp)
  clear h hA hc hw ha hlt TD hg ho h1 h2 hn
  unfold iv at *
  generalize yI t.nodes (t.nodes.length + 1) when_ next = q at *
  go_enter Tryz.func52, Tryz.ntmps52
  go_wp2_with (first | (go_at_call 117; refine (HT.out _ HP.out).mono ?_; rintro e w2 ⟨rfl, n2, hn2, hX, hg2⟩; have HN2 := jJ0 hn2; have HX := jJ0 hX; have HF := jJ0 hg2; clear hX hg2 hn2) | (go_at_call 116; refine (HS.out _ HP.out).mono ?_; rintro e w1 ⟨rfl, rfl⟩) | (go_at_call 20; refine (HL.out _ HP.out).mono ?_; rintro e w1 ⟨rfl, rfl⟩) | fail)
  go_ret
  exact ⟨rfl, n2, HN2.out, HX.out, HW.out.trans HF.out⟩
theorem right_M (w W : World) (hg : Sg w) (h80 : 8 <= w.heap.size) (t : Tre) (s : Sl) (ns : List MNd) (ps : List MSt) (TD : TrD w t s ns ps) (i : Nat) (a : Mil) (ha : t.miles[i]? = some a) (next : Nat) (l : List UInt8) (B : Option Addr) (bc : Nat) (h : Pr w t s next l B bc W) (hn : next <= 1000000) :
    Calls Tryz.prog 52 #[.pointer (some ⟨w.heap.size, 0, none⟩), .int .i64 3, iv (i : Int)] W (TrR w t s l B bc (rightM t.nodes a next) W) := by
  unfold rightM
  cases h1 : vJ a.name with
  | false => rw [if_neg (fun e => absurd e.1 (by decide))]; exact right_M1 w W hg h80 t s ns ps TD i a ha next l B bc h h1
  | true =>
    cases h2 : inOneB a.in_ with
    | false => rw [if_neg (fun e => absurd e.2 (by decide))]; exact right_M2 w W hg h80 t s ns ps TD i a ha next l B bc h h1 h2
    | true => rw [if_pos ⟨rfl, rfl⟩]; exact right_M3 w W hg h80 t s ns ps TD i a ha next l B bc h hn h1 h2
theorem inP_len (s : ByteArray) (b : List UInt8) : b.length <= (inP s b).length := by
  unfold inP
  split
  · exact Nat.le_refl _
  · exact kq _ _
theorem vl (ns : List Nd) (root : Int) (ws : List (List UInt8)) (b b' : List UInt8) (h : ruledP ns root ws b = some b') : b.length <= b'.length := by
  unfold ruledP at h
  split at h
  · exact Nat.le_trans (kq _ _) (jr _ _ _ _ _ _ h)
  · injection h with h
    rw [h]
    exact Nat.le_refl _
theorem lim_one {l : List UInt8} (h : (l ++ [10]).length <= LIMP) : l.length <= LIMP /\ l.length + 1 <= maxLen /\ (l.length + 1) * 1 <= 140737488355328 /\ l.length + 1 = (l ++ [10]).length := by
  unfold LIMP at *
  have e : (l ++ [10]).length = l.length + 1 := by rw [List.length_append]; rfl
  rw [e] at h ⊢
  exact ⟨by omega, by unfold maxLen; omega, by omega, rfl⟩
theorem decl_M (w W : World) (t : Tre) (s : Sl) (ns : List MNd) (ps : List MSt) (TD : TrD w t s ns ps) (PX : PxAll w t s (t.nodes.length + 1)) (i : Nat) (a : Mil) (ha : t.miles[i]? = some a) (h0 : 0 <= a.when_) (next : Nat) (l l4 : List UInt8) (B : Option Addr) (bc : Nat) (h : Pr w t s next l B bc W) (hk : declM t.nodes a l = some l4) (hl : (l4 ++ [10]).length <= LIMP) :
    Calls Tryz.prog 54 #[.pointer (some ⟨w.heap.size, 0, none⟩), .int .i64 3, iv (i : Int)] W (PrR w t s next (l4 ++ [10]) W) := by
  obtain ⟨i0, hi, hz0, hz1, hz2⟩ := info_parts Tryz.infoU8
  obtain ⟨b, o, hA, hc⟩ := vf (C := miC) (fun x => rfl) TD.rM ha (List.getElem?_eq_some_iff.1 ha).1
  have hlt := (List.getElem?_eq_some_iff.1 ha).1
  have hlim := TD.nM
  have hca := h.c4
  rw [hA] at hca
  have hw := fun j u hu => h.cellw (hc j u hu)
  obtain ⟨name, at_, order, in_, inAt, when_⟩ := a
  simp only at h0
  unfold declM at hk
  obtain ⟨l3, h3, e4⟩ := Option.map_eq_some_iff.1 hk
  simp only at h3
  subst e4
  have c0 : W.cell? ⟨b, o + i * 6, none⟩ = some (.string name) := hw 0 _ rfl
  have c1 : W.cell? ⟨b, o + i * 6 + 1, none⟩ = some (.int .i64 at_) := hw 1 _ rfl
  have c2 : W.cell? ⟨b, o + i * 6 + 2, none⟩ = some (.int .i64 order) := hw 2 _ rfl
  have c3 : W.cell? ⟨b, o + i * 6 + 3, none⟩ = some (.string in_) := hw 3 _ rfl
  have c4 : W.cell? ⟨b, o + i * 6 + 4, none⟩ = some (.int .i64 inAt) := hw 4 _ rfl
  have c5 : W.cell? ⟨b, o + i * 6 + 5, none⟩ = some (.int .i64 when_) := hw 5 _ rfl
  have f1 : (0 : Int) <= (i : Int) := by omega
  have f2 : (i : Int).toNat = i := by omega
  have f3 : (i : Int) < (t.miles.length : Int) := by omega
  have ho : Old W (W.alloc (.cells #[.string name, .int .i64 at_, .int .i64 order, .string in_, .int .i64 inAt, .int .i64 when_] 64)) := (Kp.refl NoX W).alloc _
  have BN := jJ0 (Blk.new W 64 #[.string name, .int .i64 at_, .int .i64 order, .string in_, .int .i64 inAt, .int .i64 when_])
  have HW := jJ0 (FrP.of_old ho)
  have g4 := (lim_one hl).1
  have g3 : l3.length <= LIMP := Nat.le_trans (jT l3 [59]).1 g4
  have Hl4 := jJ0 (lim_one hl)
  unfold ruledP at h3
  rw [if_pos h0] at h3
  unfold exP at h3
  have g2' := jr _ _ _ _ _ _ h3
  have g2 : (inP in_ (jp l [[109, 105, 108, 101, 115, 116, 111, 110, 101], tb name])).length <= LIMP := Nat.le_trans (kq _ _) (Nat.le_trans g2' g3)
  have g1 : (jp l [[109, 105, 108, 101, 115, 116, 111, 110, 101], tb name]).length <= LIMP := Nat.le_trans (inP_len _ _) g2
  generalize hl2 : inP in_ (jp l [[109, 105, 108, 101, 115, 116, 111, 110, 101], tb name]) = l2 at *
  have P1 := jJ0 (kA w _ t s next l B bc (h.old ho) (W.heap.size + 1) (by simp) [⟨#[109, 105, 108, 101, 115, 116, 111, 110, 101]⟩, name] g1 (show 2 <= 1000 by decide))
  have IN := jJ0 (fun W1 B1 c1 (hp : Pr w t s next (jp l [[109, 105, 108, 101, 115, 116, 111, 110, 101], tb name]) B1 c1 W1) => in_print w W1 t s next _ B1 c1 hp in_ (hl2 ▸ g2))
  rw [hl2] at IN
  have RU := jJ0 (fun W1 B1 c1 Q (hp : Pr w t s next l2 B1 c1 W1) (hQ : Q = W1.heap.size) => vv w W1 t s _ PX next l2 l3 B1 c1 hp Q hQ [⟨#[114, 101, 97, 99, 104, 101, 100]⟩, ⟨#[119, 104, 101, 110]⟩] when_ h0 h3 (Nat.le_trans g2' g3) g3 (show 2 <= 1000 by decide))
  have P2 := jJ0 (fun W1 B1 c1 Q (hp : Pr w t s next l3 B1 c1 W1) (hQ : Q = W1.heap.size) => kA w W1 t s next l3 B1 c1 hp Q hQ [⟨#[59]⟩] g4 (show 1 <= 1000 by decide))
  clear h hA hc hw ha hlt TD ho hk h3 g1 g2 g2' g3 g4 hl hl2 PX h0
  have HLn := jJ0 (show (putB l3 [59]).map bv ++ [bv 10] = (putB l3 [59] ++ [10]).map bv by rw [List.map_append (l₂ := [10])]; rfl)
  unfold iv at *
  go_enter Tryz.func54, Tryz.ntmps54
  go_wp2_with (first | (at_builtin; refine jF _ rfl (.tmp 143) (.tmp 144) 33 rfl w.heap.size 5 i0 (.int .u8 0) 1 1 Tryz.underlying33 hi hz0 hz1 hz2 rfl (by decide) (.slice B5 (putB l3 [59]).length c5') (putB l3 [59]).length ((putB l3 [59]).map bv) rfl (jX H5.out.own ((Kp.refl NoX _).alloc _) (fun _ _ e => e)) _ 1 1 [bv 10] rfl (Rd.one_new _ _ _) (kL _ rfl) Hl4.out.2.1 Hl4.out.2.2.1 (Nat.le_trans H5.out.kp.size ((Kp.refl NoX _).alloc _).size) ?_; intro B6 c6' w6 hown hgrow hat; rw [jC] at hgrow; rw [HLn.out, Hl4.out.2.2.2] at hown; have HG := H5.out.grow ((Kp.refl NoX _).alloc _) hgrow hown; have hc9 := HG.1.at_ 9 rfl; have hz9 := HG.1.frozen 9; have HN := jJ0 HG.2; clear hown hgrow hat HG) | (go_at_call 53; refine (P2.out _ _ _ _ H4.out (by simp)).mono ?_; rintro e w5 ⟨rfl, B5, c5', hX, hf⟩; have H5 := jJ0 hX; have F5 := jJ0 hf; have k9 := hX.c9; clear hX hf) | (go_at_call 118; refine (RU.out _ _ _ _ H3.out (by simp)).mono ?_; rintro e w4 ⟨rfl, B4, c4', hX, hf⟩; have H4 := jJ0 hX; have F4 := jJ0 hf; clear hX hf) | (go_at_call 119; refine (IN.out _ _ _ H2.out).mono ?_; rintro e w3 ⟨rfl, B3, c3', hX, hf⟩; have H3 := jJ0 hX; have F3 := jJ0 hf; have BN3 := jJ0 (hf.blk _ _ _ (by decide) (by decide) BN2.out); have n5 := BN3.out.at_ 5 (v := .int .i64 when_) rfl; clear hX hf) | (go_at_call 53; refine P1.out.mono ?_; rintro e w2 ⟨rfl, B2, c2', hX, hf⟩; have H2 := jJ0 hX; have F2 := jJ0 hf; have BN2 := jJ0 (hf.blk _ _ _ (by decide) (by decide) BN.out); have n3 := BN2.out.at_ 3 (v := .string in_) rfl; clear hX hf) | fail)
  go_end0
  rw [<- Hl4.out.2.2.2] at HN
  exact ⟨rfl, B6, c6', HN.out.1, ((((HW.out.trans F2.out).trans F3.out).trans F4.out).trans F5.out).trans HN.out.2⟩
section
variable {ns : List Nd} {nx n2 : Nat}
theorem perhaps2_le {a b : Int} (h : (vT ns a nx).bind (vT ns b) = some n2) (hn : nx <= 1000000) (hl : ns.length <= 1000000) : n2 <= 1000000 := by
  obtain ⟨m, h1, h2⟩ := Option.bind_eq_some_iff.1 h
  exact perhapsN_le h2 (perhapsN_le h1 hn hl) hl
theorem rightE_le : ∀ (l : List Eff) {nx : Nat}, rightE ns l nx = some n2 -> nx <= 1000000 -> ns.length <= 1000000 -> n2 <= 1000000
  | [], nx, h, hn, _ => by
    rw [rightE] at h
    injection h with h
    omega
  | e :: l, nx, h, hn, hl => by
    rw [rightE] at h
    split at h
    · obtain ⟨m, h1, h2⟩ := Option.bind_eq_some_iff.1 h
      exact rightE_le l h2 (perhapsN_le h1 hn hl) hl
    · cases h
end
theorem rightD_le {t : Tre} {d : Int × Int} {nx n2 : Nat} (h : rightD t d nx = some n2) (hn : nx <= 1000000) (hl : t.nodes.length <= 1000000) : n2 <= 1000000 := by
  unfold rightD at h
  split at h
  · obtain ⟨a, _, h⟩ := Option.bind_eq_some_iff.1 h
    unfold rightA at h
    split at h
    · exact perhaps2_le h hn hl
    · cases h
  split at h
  · obtain ⟨a, _, h⟩ := Option.bind_eq_some_iff.1 h
    unfold rightG at h
    split at h
    · exact perhaps2_le h hn hl
    · cases h
  split at h
  · obtain ⟨a, _, h⟩ := Option.bind_eq_some_iff.1 h
    unfold rightM at h
    split at h
    · have := treeN_le h; omega
    · cases h
  · obtain ⟨a, _, h⟩ := Option.bind_eq_some_iff.1 h
    unfold rightS at h
    split at h
    · obtain ⟨m, h1, h2⟩ := Option.bind_eq_some_iff.1 h
      exact rightE_le _ h2 (perhapsN_le h1 hn hl) hl
    · cases h
theorem vZ (b x : List UInt8) : b.length <= (putB b x).length := (jT b x).1
theorem declA_len {ns : List Nd} {a : Atr} {b b' : List UInt8} (h : declA ns a b = some b') : b.length <= b'.length := by
  unfold declA at h
  obtain ⟨b3, h1, h⟩ := Option.bind_eq_some_iff.1 h
  obtain ⟨b4, h2, h⟩ := Option.map_eq_some_iff.1 h
  have e1 := vl _ _ _ _ _ h1
  have e2 := vl _ _ _ _ _ h2
  have e3 := vZ b4 [59]
  rw [h] at e3
  have e4 := kq [[97, 116, 116, 114, 105, 98, 117, 116, 101], tb a.name, [58]] b
  have e5 := vZ (if a.opt = true then putB (jp b [[97, 116, 116, 114, 105, 98, 117, 116, 101], tb a.name, [58]]) [111, 112, 116, 105, 111, 110, 97, 108] else jp b [[97, 116, 116, 114, 105, 98, 117, 116, 101], tb a.name, [58]]) (kindW a.kind)
  have e6 : (jp b [[97, 116, 116, 114, 105, 98, 117, 116, 101], tb a.name, [58]]).length <= (if a.opt = true then putB (jp b [[97, 116, 116, 114, 105, 98, 117, 116, 101], tb a.name, [58]]) [111, 112, 116, 105, 111, 110, 97, 108] else jp b [[97, 116, 116, 114, 105, 98, 117, 116, 101], tb a.name, [58]]).length := by
    split
    · exact vZ _ _
    · exact Nat.le_refl _
  omega
theorem ruleP_len {ns : List Nd} {r : Int} {w b b' : List UInt8} (h : ruleP ns r w b = some b') : b.length <= b'.length := by
  unfold ruleP at h
  split at h
  · obtain ⟨b1, h1, h⟩ := Option.map_eq_some_iff.1 h
    have e1 := vl _ _ _ _ _ h1
    have e2 := vZ b1 [59]
    rw [h] at e2
    omega
  · injection h with h
    rw [h]
    exact Nat.le_refl _
theorem declG_len {ns : List Nd} {a : Stg} {b b' : List UInt8} (h : declG ns a b = some b') : b.length <= b'.length := by
  unfold declG at h
  obtain ⟨b3, h1, h⟩ := Option.bind_eq_some_iff.1 h
  obtain ⟨b4, h2, h⟩ := Option.map_eq_some_iff.1 h
  have e1 := ruleP_len h1
  have e2 := ruleP_len h2
  have e3 := vZ b4 [125]
  rw [h] at e3
  have e4 := kq [[115, 116, 97, 103, 101], tb a.name] b
  have e5 := inP_len a.in_ (jp b [[115, 116, 97, 103, 101], tb a.name])
  have e6 := vZ (inP a.in_ (jp b [[115, 116, 97, 103, 101], tb a.name])) [123]
  omega
theorem declM_len {ns : List Nd} {a : Mil} {b b' : List UInt8} (h : declM ns a b = some b') : b.length <= b'.length := by
  unfold declM at h
  obtain ⟨b4, h2, h⟩ := Option.map_eq_some_iff.1 h
  have e2 := vl _ _ _ _ _ h2
  have e3 := vZ b4 [59]
  rw [h] at e3
  have e4 := kq [[109, 105, 108, 101, 115, 116, 111, 110, 101], tb a.name] b
  have e5 := inP_len a.in_ (jp b [[109, 105, 108, 101, 115, 116, 111, 110, 101], tb a.name])
  omega
theorem paramsP_len : ∀ (l : List Prm) (i : Nat) (b : List UInt8), b.length <= (paramsP l i b).length
  | [], _, b => Nat.le_refl _
  | p :: l, i, b => by
    rw [paramsP]
    refine Nat.le_trans ?_ (paramsP_len l (i + 1) _)
    refine Nat.le_trans ?_ (kq _ _)
    split
    · exact vZ _ _
    · exact Nat.le_refl _
theorem effectsP_len {ns : List Nd} : ∀ (l : List Eff) {b b' : List UInt8}, effectsP ns l b = some b' -> b.length <= b'.length
  | [], b, b', h => by
    rw [effectsP] at h
    injection h with h
    rw [h]
    exact Nat.le_refl _
  | e :: l, b, b', h => by
    rw [effectsP] at h
    obtain ⟨b1, h1, h2⟩ := Option.bind_eq_some_iff.1 h
    have e2 := effectsP_len l h2
    have e3 := vZ b1 [59]
    split at h1
    · injection h1 with h1
      have := kq [[114, 101, 111, 112, 101, 110], tb e.name] b
      rw [h1] at this
      omega
    · have := vl _ _ _ _ _ h1
      omega
theorem declS_len {ns : List Nd} {a : Stp} {b b' : List UInt8} (h : declS ns a b = some b') : b.length <= b'.length := by
  unfold declS at h
  obtain ⟨b3, h1, h⟩ := Option.bind_eq_some_iff.1 h
  obtain ⟨b4, h2, h⟩ := Option.map_eq_some_iff.1 h
  have e1 := vl _ _ _ _ _ h1
  have e2 := effectsP_len _ h2
  have e3 := vZ b4 [125]
  have e3' := vZ b3 [123]
  rw [h] at e3
  have e4 := kq [[115, 116, 101, 112], tb a.name, [40]] b
  have e5 := paramsP_len a.params 0 (jp b [[115, 116, 101, 112], tb a.name, [40]])
  have e6 := vZ (paramsP a.params 0 (jp b [[115, 116, 101, 112], tb a.name, [40]])) [41]
  have e7 := inP_len a.in_ (putB (paramsP a.params 0 (jp b [[115, 116, 101, 112], tb a.name, [40]])) [41])
  omega
theorem declP_len {t : Tre} {d : Int × Int} {b b' : List UInt8} (h : declP t d b = some b') : b.length + 1 <= b'.length := by
  unfold declP at h
  obtain ⟨b1, h, e⟩ := Option.map_eq_some_iff.1 h
  have hl : b1.length + 1 = b'.length := by rw [<- e, List.length_append]; rfl
  rw [<- hl]
  refine Nat.succ_le_succ ?_
  split at h
  · obtain ⟨a, _, h⟩ := Option.bind_eq_some_iff.1 h
    exact declA_len h
  split at h
  · obtain ⟨a, _, h⟩ := Option.bind_eq_some_iff.1 h
    exact declG_len h
  split at h
  · obtain ⟨a, _, h⟩ := Option.bind_eq_some_iff.1 h
    exact declM_len h
  · obtain ⟨a, _, h⟩ := Option.bind_eq_some_iff.1 h
    exact declS_len h
theorem declsP_len {t : Tre} : ∀ (l : List (Int × Int)) {b b' : List UInt8}, declsP t l b = some b' -> b.length <= b'.length
  | [], b, b', h => by
    rw [declsP] at h
    injection h with h
    rw [h]
    exact Nat.le_refl _
  | d :: l, b, b', h => by
    rw [declsP] at h
    obtain ⟨b1, h1, h2⟩ := Option.bind_eq_some_iff.1 h
    have := declP_len h1
    have := declsP_len l h2
    omega
end Go.Proofs.YtmmjcbbogokmfaaGreatDoor
