import Derived.Test.YtmmjcbbogokmfaaGreatDoorMg23
import Derived.Test.YtmmjcbbogokmfaaGreatDoorMg26
/- Contracts of the printer's tree. -/
namespace Go.Proofs.YtmmjcbbogokmfaaGreatDoor
open Go.RowKit

set_option maxRecDepth 100000 in
set_option maxHeartbeats 3200000 in
theorem tree_neg (w : World) (t : Tre) (s : Sl) (l : List UInt8) (B : Option Addr) (bc : Nat) (root : Int) (W : World) (next : Nat) (r0 : root < 0) (h : Pr w t s next l B bc W) :
    Calls Tryz.prog 117 #[.pointer (some ⟨w.heap.size, 0, none⟩), iv root] W (TrR w t s l B bc none W) := by
  have H := Lib.hid h
  clear h
  unfold iv
  go_enter Tryz.func117, Tryz.ntmps117
  go_wp2
  go_ret
  exact ⟨rfl, next, fun n e => (by cases e), H.out, FrP.refl _⟩
set_option maxRecDepth 100000 in
set_option maxHeartbeats 3200000 in
theorem tree_far (w : World) (t : Tre) (s : Sl) (l : List UInt8) (B : Option Addr) (bc : Nat) (root : Int) (W : World) (next : Nat) (r0 : ¬ root < 0) (r1 : (t.nodes.length : Int) ≤ root) (h : Pr w t s next l B bc W) :
    Calls Tryz.prog 117 #[.pointer (some ⟨w.heap.size, 0, none⟩), iv root] W (TrR w t s l B bc none W) := by
  have H := Lib.hid h
  have hc6 := h.c6
  clear h
  unfold iv
  go_enter Tryz.func117, Tryz.ntmps117
  go_wp2
  go_ret
  exact ⟨rfl, next, fun n e => (by cases e), H.out, FrP.refl _⟩
set_option maxRecDepth 100000 in
set_option maxHeartbeats 6400000 in
theorem tree_any (w : World) (hg : Sg w) (h80 : 8 ≤ w.heap.size) (t : Tre) (s : Sl) (ns : List MNd) (TN : TrN w t s ns) (l : List UInt8) (B : Option Addr) (bc : Nat) : ∀ (f : Nat) (root : Int) (W : World) (next : Nat), root < (f : Int) → next ≤ 1000000 → Pr w t s next l B bc W →
    Calls Tryz.prog 117 #[.pointer (some ⟨w.heap.size, 0, none⟩), iv root] W (TrR w t s l B bc (treeN t.nodes f root next) W) := by
  intro f
  induction f with
  | zero => exact fun root W next hf hn h => (by rw [treeN]; exact tree_neg w t s l B bc root W next (by omega) h)
  | succ f ih =>
    intro root W next hf hn h
    rcases Int.lt_or_le root 0 with r0 | r0
    · rw [treeN, if_pos (.inl r0)]
      exact tree_neg w t s l B bc root W next r0 h
    rcases Int.lt_or_le root (t.nodes.length : Int) with r1 | r1
    rotate_left
    · rw [treeN, if_pos (.inr r1)]
      exact tree_far w t s l B bc root W next (by omega) r1 h
    obtain ⟨r, rfl⟩ : ∃ r : Nat, root = (r : Int) := ⟨root.toNat, by omega⟩
    have hlt : r < t.nodes.length := by omega
    have hnr : t.nodes[r]? = some t.nodes[r] := List.getElem?_eq_getElem hlt
    obtain ⟨x, b, o, hx, e, hA, hc, hrd, hkn⟩ := TN.at_ hnr
    have hT : treeN t.nodes (f + 1) (r : Int) next = if rightN x.n = false then none else (kidsN t.nodes f (r : Int) x.n.kids (some next)).bind fun nx => if (r : Int) = (nx : Int) then some (nx + 1) else none := by
      rw [treeN, if_neg (by omega), show ((r : Int).toNat) = r by omega, hnr, ← e]
      rfl
    rw [hT]
    have HR := Lib.hid (fun W1 (hp : Pr w t s next l B bc W1) => right_any W1 (hp.sg hg h80) x)
    have H := Lib.hid h
    have hc6 := h.c6
    rw [hA] at hc6
    have hlim := TN.cnt
    clear hnr hT e hx
    obtain ⟨⟨op, name, vk, vn, vt, vs, kids⟩, A, c, vA, vc⟩ := x
    simp only at hrd hkn HR ⊢
    have hw := fun i u hu => h.cellw (hc i u hu)
    have c0 : W.cell? ⟨b, o + r * 7, none⟩ = some (.int .i64 op) := hw 0 _ rfl
    have c1 : W.cell? ⟨b, o + r * 7 + 1, none⟩ = some (.string name) := hw 1 _ rfl
    have c2 : W.cell? ⟨b, o + r * 7 + 2, none⟩ = some (.int .i64 vk) := hw 2 _ rfl
    have c3 : W.cell? ⟨b, o + r * 7 + 3, none⟩ = some (.int .i64 vn) := hw 3 _ rfl
    have c4 : W.cell? ⟨b, o + r * 7 + 4, none⟩ = some (.string vt) := hw 4 _ rfl
    have c5 : W.cell? ⟨b, o + r * 7 + 5, none⟩ = some (.slice vA vs.length vc) := hw 5 _ rfl
    have c6 : W.cell? ⟨b, o + r * 7 + 6, none⟩ = some (.slice A kids.length c) := hw 6 _ rfl
    have HK := Lib.hid (fun W1 (hp : Pr w t s next l B bc W1) => (show W1.cell? ⟨b, o + r * 7 + 6, none⟩ = some (.slice A kids.length c) from hp.cellw (hc 6 _ rfl)))
    have f2 : (r : Int).toNat = r := by omega
    have f4 : ¬ (r : Int) < 0 := by omega
    have f5 : ¬ (t.nodes.length : Int) ≤ (r : Int) := by omega
    have HX := Lib.hid ih
    have HD := Lib.hid hrd
    have Hna := Lib.hid hA
    have Hf0 := Lib.hid hf
    clear hc hA hrd TN hg ih hf h hw
    unfold ndC iv at *
    cases hr : rightN ⟨op, name, vk, vn, vt, vs, kids⟩ with
    | false =>
      rw [if_pos rfl]
      rw [hr] at HR
      clear hr HX HD
      go_enter Tryz.func117, Tryz.ntmps117
      go_wp2_with (first | (go_at_call 22; refine (HR.out _ H.out).mono ?_; rintro e w1 ⟨rfl, ho⟩; have HO := Lib.hid ho; clear ho) | fail)
      go_ret
      exact ⟨rfl, next, fun n e => (by cases e), H.out.old HO.out, FrP.of_old HO.out⟩
    | true =>
      rw [if_neg (by decide)]
      rw [hr] at HR
      clear hr
      obtain ⟨O, hO⟩ : ∃ O, kidsN t.nodes f (r : Int) kids (some next) = O := ⟨_, rfl⟩
      rw [hO]
      obtain ⟨OB, hOB⟩ : ∃ OB, (O.bind fun nx => if (r : Int) = (nx : Int) then some (nx + 1) else none) = OB := ⟨_, rfl⟩
      rw [hOB]
      have HO := Lib.hid hO
      have HOB := Lib.hid hOB
      clear hO hOB
      go_enter Tryz.func117, Tryz.ntmps117
      go_wp2_with (first | (go_at_call 22; refine (HR.out _ H.out).mono ?_; rintro e w1 ⟨rfl, ho⟩; have HP := Lib.hid (H.out.old ho); have HF := Lib.hid (FrP.of_old ho); clear ho; have k6 := HP.out.c6; rw [Hna.out] at k6; have kk := HK.out _ HP.out) | fail)
      go_loopw [41] (fun i wr => ∃ (j nx : Nat), j ≤ kids.length ∧ i = .int .i64 (j : Int) ∧ kidsN t.nodes f (r : Int) (kids.drop j) (some nx) = O ∧ nx ≤ 1000000 ∧ Pr w t s nx l B bc wr ∧ FrP W wr) (fun i _ => kids.length - (intOf i).toNat)
      case atStart => exact ⟨0, next, Nat.zero_le _, rfl, HO.out, hn, HP.out, HF.out⟩
      case round =>
        clear k6 kk c0 c1 c2 c3 c4 c5 c6 hc6
        obtain ⟨j, nx, hj, rfl, heq, hnx, hp, hf⟩ := hrel
        have Hp := Lib.hid hp
        have Hf := Lib.hid hf
        by_cases hlt2 : j < kids.length
        · have hd : kids.drop j = kids[j] :: kids.drop (j + 1) := List.drop_eq_getElem_cons hlt2
          obtain ⟨b3, o3, u, hA3, hu, hc3⟩ := HD.out.at_ hlt2
          have hu2 : iv kids[j] = u := by rw [List.getElem?_map, List.getElem?_eq_getElem hlt2] at hu; injection hu
          subst hu2
          subst hA3
          have hcw : wr.cell? ⟨b3, o3 + j, none⟩ = some (.int .i64 kids[j]) := hp.cellw hc3
          rw [hd, kidsN_cons] at heq
          generalize kids[j] = k at *
          have b1 : (0 : Int) ≤ (j : Int) := by omega
          have b2 : (j : Int).toNat = j := by omega
          have b3' : (j : Int) < (kids.length : Int) := by omega
          have b4 : IntKind.i64.wrap ((j : Int) + 1) = (j : Int) + 1 := IntWalk.i64_in _ (by omega)
          clear hd hu hc3 hf
          by_cases hk : (r : Int) ≤ k
          · rw [if_pos hk] at heq
            subst heq
            obtain rfl : none = OB := HOB.out
            clear hp
            go_wp2
            go_ret
            exact ⟨rfl, nx, fun n e => (by cases e), Hp.out, Hf.out⟩
          · rw [if_neg hk] at heq
            have HC := Lib.hid (HX.out k wr nx (by have := Hf0.out; omega) hnx hp)
            clear hp
            cases hT : treeN t.nodes f k nx with
            | none =>
              rw [hT, kidsN_none] at heq
              rw [hT] at HC
              subst heq
              obtain rfl : none = OB := HOB.out
              go_wp2_with (first | (go_at_call 117; refine HC.out.mono ?_; rintro e w2 ⟨rfl, n2, hn2, hX, hg2⟩; have HX2 := Lib.hid hX; have HF2 := Lib.hid hg2; clear hX hg2 hn2) | fail)
              go_ret
              exact ⟨rfl, n2, fun n e => (by cases e), HX2.out, Hf.out.trans HF2.out⟩
            | some m =>
              rw [hT] at heq HC
              have hm := treeN_le hT
              have HE := Lib.hid heq
              clear heq hT
              go_wp2_with (first | (go_at_call 117; refine HC.out.mono ?_; rintro e w2 ⟨rfl, n2, hn2, hX, hg2⟩; obtain rfl := hn2 m rfl; have HX2 := Lib.hid hX; have HF2 := Lib.hid hg2; clear hX hg2 hn2) | fail)
              exact ⟨⟨j + 1, n2, by omega, by rw [show ((j + 1 : Nat) : Int) = (j : Int) + 1 by omega], HE.out, by omega, HX2.out, Hf.out.trans HF2.out⟩, by simp only [intOf]; omega⟩
        · obtain rfl : j = kids.length := by omega
          rw [List.drop_length] at heq
          have HE := Lib.hid (show some nx = O from heq)
          have q8 := hp.c8
          have y8 := hp.z 8
          have HN := Lib.hid (hp.setNext (nx + 1))
          have b5 : (nx : Int) ≤ 1000000 := by omega
          have b6 : (0 : Int) ≤ (nx : Int) := by omega
          rw [show ((nx + 1 : Nat) : Int) = (nx : Int) + 1 by omega] at HN
          clear heq hp hf hnx
          have HB2 := Lib.hid (show (if (r : Int) = (nx : Int) then some (nx + 1) else none) = OB by rw [← HOB.out, ← HE.out]; rfl)
          by_cases he : (r : Int) = (nx : Int)
          · obtain rfl : some (nx + 1) = OB := (if_pos he).symm.trans HB2.out
            have he2 : ((r : Int) == (nx : Int)) = true := beq_iff_eq.2 he
            clear he
            go_wp2
            go_ret
            exact ⟨rfl, nx + 1, fun n e => (by injection e), HN.out.1, Hf.out.trans HN.out.2⟩
          · obtain rfl : none = OB := (if_neg he).symm.trans HB2.out
            have he2 : ((r : Int) == (nx : Int)) = false := beq_eq_false_iff_ne.2 he
            clear he
            go_wp2
            go_ret
            exact ⟨rfl, nx + 1, fun n e => (by cases e), HN.out.1, Hf.out.trans HN.out.2⟩
end Go.Proofs.YtmmjcbbogokmfaaGreatDoor

/- Contracts of the printer's perhaps, inOne, based, right. -/
namespace Go.Proofs.YtmmjcbbogokmfaaGreatDoor
open Go.RowKit

theorem tree_all (w : World) (hg : Sg w) (h80 : 8 ≤ w.heap.size) (t : Tre) (s : Sl) (ns : List MNd) (TN : TrN w t s ns) (l : List UInt8) (B : Option Addr) (bc : Nat) (root : Int) (W : World) (next : Nat) (hn : next ≤ 1000000) (h : Pr w t s next l B bc W) :
    Calls Tryz.prog 117 #[.pointer (some ⟨w.heap.size, 0, none⟩), iv root] W (TrR w t s l B bc (treeN t.nodes (t.nodes.length + 1) root next) W) := by
  rcases Int.lt_or_le root (t.nodes.length : Int) with r1 | r1
  · exact tree_any w hg h80 t s ns TN l B bc _ root W next (by omega) hn h
  · rw [treeN, if_pos (.inr r1)]
    exact tree_far w t s l B bc root W next (by omega) r1 h
theorem perhapsN_le {ns : List Nd} {root : Int} {next nx : Nat} (h : perhapsN ns root next = some nx) (hn : next ≤ 1000000) (hl : ns.length ≤ 1000000) : nx ≤ 1000000 := by
  unfold perhapsN at h
  split at h
  · injection h with h
    omega
  · have := treeN_le h
    omega
set_option maxRecDepth 100000 in
set_option maxHeartbeats 1600000 in
theorem perhaps_any (w : World) (hg : Sg w) (h80 : 8 ≤ w.heap.size) (t : Tre) (s : Sl) (ns : List MNd) (TN : TrN w t s ns) (l : List UInt8) (B : Option Addr) (bc : Nat) (root : Int) (W : World) (next : Nat) (hn : next ≤ 1000000) (h : Pr w t s next l B bc W) :
    Calls Tryz.prog 115 #[.pointer (some ⟨w.heap.size, 0, none⟩), iv root] W (TrR w t s l B bc (perhapsN t.nodes root next) W) := by
  have HT := Lib.hid (tree_all w hg h80 t s ns TN l B bc root W next hn h)
  have H := Lib.hid h
  unfold perhapsN
  clear h TN hg hn
  by_cases hr : root = -1
  · rw [if_pos hr]
    have hr2 : (root == -1) = true := beq_iff_eq.2 hr
    clear hr
    unfold iv at *
    go_enter Tryz.func115, Tryz.ntmps115
    go_wp2
    go_ret
    exact ⟨rfl, next, fun n e => (by injection e), H.out, FrP.refl _⟩
  · rw [if_neg hr]
    have hr2 : (root == -1) = false := beq_eq_false_iff_ne.2 hr
    clear hr
    unfold iv at *
    generalize treeN t.nodes (t.nodes.length + 1) root next = q at *
    go_enter Tryz.func115, Tryz.ntmps115
    go_wp2_with (first | (go_at_call 117; refine HT.out.mono ?_; rintro e w2 ⟨rfl, n2, hn2, hX, hg2⟩; have HX2 := Lib.hid hX; have HF2 := Lib.hid hg2; have HN2 := Lib.hid hn2; clear hX hg2 hn2) | fail)
    go_ret
    exact ⟨rfl, n2, HN2.out, HX2.out, HF2.out⟩
theorem inOne_any (w : World) (hg : Sg w) (s : ByteArray) : Calls Tryz.prog 116 #[.string s] w fun e w' => e = .returned (.bool (inOneB s)) ∧ w = w' := by
  have HL := Lib.hid (legal_any9 w hg s)
  have hem := tl_empty s
  unfold inOneB
  clear hg
  by_cases h0 : s.size = 0
  · have h1 : s.toList.isEmpty = true := by rw [hem, decide_eq_true h0]
    rw [decide_eq_true h0]
    clear hem h0
    go_enter Tryz.func116, Tryz.ntmps116
    go_wp2
    go_ret
    exact ⟨rfl, rfl⟩
  · have h1 : s.toList.isEmpty = false := by rw [hem, decide_eq_false h0]
    rw [decide_eq_false h0]
    clear hem h0
    have HQ := Lib.hid (show (false || legalT s) = legalB (sb s) from Bool.false_or _)
    generalize legalB (sb s) = q at *
    go_enter Tryz.func116, Tryz.ntmps116
    go_wp2_with (first | (go_at_call 20; refine HL.out.mono ?_; rintro e w1 ⟨rfl, rfl⟩) | fail)
    go_ret
    exact ⟨congrArg (fun b => Ending.returned (.bool b)) HQ.out.symm, rfl⟩
theorem based_any (w : World) (k : Int) : Calls Tryz.prog 114 #[.int .i64 k] w fun e w' => e = .returned (.bool (basedB k)) ∧ w = w' := by
  unfold basedB
  by_cases h1 : 1 ≤ k
  · by_cases h5 : k ≤ 5
    · rw [decide_eq_true ⟨h1, h5⟩]
      go_enter Tryz.func114, Tryz.ntmps114
      go_wp2
      go_ret
      exact ⟨rfl, rfl⟩
    · rw [decide_eq_false (fun e => h5 e.2)]
      go_enter Tryz.func114, Tryz.ntmps114
      go_wp2
      go_ret
      exact ⟨rfl, rfl⟩
  · rw [decide_eq_false (fun e => h1 e.1)]
    go_enter Tryz.func114, Tryz.ntmps114
    go_wp2
    go_ret
    exact ⟨rfl, rfl⟩
set_option maxRecDepth 100000 in
set_option maxHeartbeats 3200000 in
theorem right_M1 (w W : World) (hg : Sg w) (h80 : 8 ≤ w.heap.size) (t : Tre) (s : Sl) (ns : List MNd) (ps : List MSt) (TD : TrD w t s ns ps) (i : Nat) (a : Mil) (ha : t.miles[i]? = some a) (next : Nat) (l : List UInt8) (B : Option Addr) (bc : Nat) (h : Pr w t s next l B bc W) (h1 : legalT a.name = false) :
    Calls Tryz.prog 52 #[.pointer (some ⟨w.heap.size, 0, none⟩), .int .i64 3, iv (i : Int)] W (TrR w t s l B bc none W) := by
  obtain ⟨b, o, hA, hc⟩ := rec_cell (C := miC) (fun x => rfl) TD.rM ha (List.getElem?_eq_some_iff.1 ha).1
  have hlt := (List.getElem?_eq_some_iff.1 ha).1
  have hlim := TD.nM
  have hca := h.c4
  rw [hA] at hca
  have hw := fun j u hu => h.cellw (hc j u hu)
  obtain ⟨name, at_, order, in_, inAt, when_⟩ := a
  simp only at h1
  have c0 : W.cell? ⟨b, o + i * 6, none⟩ = some (.string name) := hw 0 _ rfl
  have c1 : W.cell? ⟨b, o + i * 6 + 1, none⟩ = some (.int .i64 at_) := hw 1 _ rfl
  have c2 : W.cell? ⟨b, o + i * 6 + 2, none⟩ = some (.int .i64 order) := hw 2 _ rfl
  have c3 : W.cell? ⟨b, o + i * 6 + 3, none⟩ = some (.string in_) := hw 3 _ rfl
  have c4 : W.cell? ⟨b, o + i * 6 + 4, none⟩ = some (.int .i64 inAt) := hw 4 _ rfl
  have c5 : W.cell? ⟨b, o + i * 6 + 5, none⟩ = some (.int .i64 when_) := hw 5 _ rfl
  have f1 : (0 : Int) ≤ (i : Int) := by omega
  have f2 : (i : Int).toNat = i := by omega
  have f3 : (i : Int) < (t.miles.length : Int) := by omega
  have ho : Old W (W.alloc (.cells #[.string name, .int .i64 at_, .int .i64 order, .string in_, .int .i64 inAt, .int .i64 when_] 64)) := (Kp.refl NoX W).alloc _
  have HP := Lib.hid (h.old ho)
  have HW := Lib.hid (FrP.of_old ho)
  have HL := Lib.hid (fun W1 (hp : Pr w t s next l B bc W1) => legal_any9 W1 (hp.sg hg h80) name)
  rw [show legalB (sb name) = false from h1] at HL
  clear h hA hc hw ha hlt TD hg ho h1
  unfold iv at *
  go_enter Tryz.func52, Tryz.ntmps52
  go_wp2_with (first | (go_at_call 20; refine (HL.out _ HP.out).mono ?_; rintro e w1 ⟨rfl, rfl⟩) | fail)
  go_ret
  exact ⟨rfl, next, fun n e => (by cases e), HP.out, HW.out⟩
set_option maxRecDepth 100000 in
set_option maxHeartbeats 3200000 in
theorem right_M2 (w W : World) (hg : Sg w) (h80 : 8 ≤ w.heap.size) (t : Tre) (s : Sl) (ns : List MNd) (ps : List MSt) (TD : TrD w t s ns ps) (i : Nat) (a : Mil) (ha : t.miles[i]? = some a) (next : Nat) (l : List UInt8) (B : Option Addr) (bc : Nat) (h : Pr w t s next l B bc W) (h1 : legalT a.name = true) (h2 : inOneB a.in_ = false) :
    Calls Tryz.prog 52 #[.pointer (some ⟨w.heap.size, 0, none⟩), .int .i64 3, iv (i : Int)] W (TrR w t s l B bc none W) := by
  obtain ⟨b, o, hA, hc⟩ := rec_cell (C := miC) (fun x => rfl) TD.rM ha (List.getElem?_eq_some_iff.1 ha).1
  have hlt := (List.getElem?_eq_some_iff.1 ha).1
  have hlim := TD.nM
  have hca := h.c4
  rw [hA] at hca
  have hw := fun j u hu => h.cellw (hc j u hu)
  obtain ⟨name, at_, order, in_, inAt, when_⟩ := a
  simp only at h1 h2
  have c0 : W.cell? ⟨b, o + i * 6, none⟩ = some (.string name) := hw 0 _ rfl
  have c1 : W.cell? ⟨b, o + i * 6 + 1, none⟩ = some (.int .i64 at_) := hw 1 _ rfl
  have c2 : W.cell? ⟨b, o + i * 6 + 2, none⟩ = some (.int .i64 order) := hw 2 _ rfl
  have c3 : W.cell? ⟨b, o + i * 6 + 3, none⟩ = some (.string in_) := hw 3 _ rfl
  have c4 : W.cell? ⟨b, o + i * 6 + 4, none⟩ = some (.int .i64 inAt) := hw 4 _ rfl
  have c5 : W.cell? ⟨b, o + i * 6 + 5, none⟩ = some (.int .i64 when_) := hw 5 _ rfl
  have f1 : (0 : Int) ≤ (i : Int) := by omega
  have f2 : (i : Int).toNat = i := by omega
  have f3 : (i : Int) < (t.miles.length : Int) := by omega
  have ho : Old W (W.alloc (.cells #[.string name, .int .i64 at_, .int .i64 order, .string in_, .int .i64 inAt, .int .i64 when_] 64)) := (Kp.refl NoX W).alloc _
  have HP := Lib.hid (h.old ho)
  have HW := Lib.hid (FrP.of_old ho)
  have HL := Lib.hid (fun W1 (hp : Pr w t s next l B bc W1) => legal_any9 W1 (hp.sg hg h80) name)
  rw [show legalB (sb name) = true from h1] at HL
  have HS := Lib.hid (fun W1 (hp : Pr w t s next l B bc W1) => inOne_any W1 (hp.sg hg h80) in_)
  rw [h2] at HS
  clear h hA hc hw ha hlt TD hg ho h1 h2
  unfold iv at *
  go_enter Tryz.func52, Tryz.ntmps52
  go_wp2_with (first | (go_at_call 116; refine (HS.out _ HP.out).mono ?_; rintro e w1 ⟨rfl, rfl⟩) | (go_at_call 20; refine (HL.out _ HP.out).mono ?_; rintro e w1 ⟨rfl, rfl⟩) | fail)
  go_ret
  exact ⟨rfl, next, fun n e => (by cases e), HP.out, HW.out⟩
set_option maxRecDepth 100000 in
set_option maxHeartbeats 3200000 in
theorem right_M3 (w W : World) (hg : Sg w) (h80 : 8 ≤ w.heap.size) (t : Tre) (s : Sl) (ns : List MNd) (ps : List MSt) (TD : TrD w t s ns ps) (i : Nat) (a : Mil) (ha : t.miles[i]? = some a) (next : Nat) (l : List UInt8) (B : Option Addr) (bc : Nat) (h : Pr w t s next l B bc W) (hn : next ≤ 1000000) (h1 : legalT a.name = true) (h2 : inOneB a.in_ = true) :
    Calls Tryz.prog 52 #[.pointer (some ⟨w.heap.size, 0, none⟩), .int .i64 3, iv (i : Int)] W (TrR w t s l B bc (treeN t.nodes (t.nodes.length + 1) a.when_ next) W) := by
  obtain ⟨b, o, hA, hc⟩ := rec_cell (C := miC) (fun x => rfl) TD.rM ha (List.getElem?_eq_some_iff.1 ha).1
  have hlt := (List.getElem?_eq_some_iff.1 ha).1
  have hlim := TD.nM
  have hca := h.c4
  rw [hA] at hca
  have hw := fun j u hu => h.cellw (hc j u hu)
  obtain ⟨name, at_, order, in_, inAt, when_⟩ := a
  simp only at h1 h2 ⊢
  have c0 : W.cell? ⟨b, o + i * 6, none⟩ = some (.string name) := hw 0 _ rfl
  have c1 : W.cell? ⟨b, o + i * 6 + 1, none⟩ = some (.int .i64 at_) := hw 1 _ rfl
  have c2 : W.cell? ⟨b, o + i * 6 + 2, none⟩ = some (.int .i64 order) := hw 2 _ rfl
  have c3 : W.cell? ⟨b, o + i * 6 + 3, none⟩ = some (.string in_) := hw 3 _ rfl
  have c4 : W.cell? ⟨b, o + i * 6 + 4, none⟩ = some (.int .i64 inAt) := hw 4 _ rfl
  have c5 : W.cell? ⟨b, o + i * 6 + 5, none⟩ = some (.int .i64 when_) := hw 5 _ rfl
  have f1 : (0 : Int) ≤ (i : Int) := by omega
  have f2 : (i : Int).toNat = i := by omega
  have f3 : (i : Int) < (t.miles.length : Int) := by omega
  have ho : Old W (W.alloc (.cells #[.string name, .int .i64 at_, .int .i64 order, .string in_, .int .i64 inAt, .int .i64 when_] 64)) := (Kp.refl NoX W).alloc _
  have HP := Lib.hid (h.old ho)
  have HW := Lib.hid (FrP.of_old ho)
  have HL := Lib.hid (fun W1 (hp : Pr w t s next l B bc W1) => legal_any9 W1 (hp.sg hg h80) name)
  rw [show legalB (sb name) = true from h1] at HL
  have HS := Lib.hid (fun W1 (hp : Pr w t s next l B bc W1) => inOne_any W1 (hp.sg hg h80) in_)
  rw [h2] at HS
  have HT := Lib.hid (fun W1 (hp : Pr w t s next l B bc W1) => tree_all w hg h80 t s ns TD.nd l B bc when_ W1 next hn hp)
  clear h hA hc hw ha hlt TD hg ho h1 h2 hn
  unfold iv at *
  generalize treeN t.nodes (t.nodes.length + 1) when_ next = q at *
  go_enter Tryz.func52, Tryz.ntmps52
  go_wp2_with (first | (go_at_call 117; refine (HT.out _ HP.out).mono ?_; rintro e w2 ⟨rfl, n2, hn2, hX, hg2⟩; have HN2 := Lib.hid hn2; have HX := Lib.hid hX; have HF := Lib.hid hg2; clear hX hg2 hn2) | (go_at_call 116; refine (HS.out _ HP.out).mono ?_; rintro e w1 ⟨rfl, rfl⟩) | (go_at_call 20; refine (HL.out _ HP.out).mono ?_; rintro e w1 ⟨rfl, rfl⟩) | fail)
  go_ret
  exact ⟨rfl, n2, HN2.out, HX.out, HW.out.trans HF.out⟩
theorem right_M (w W : World) (hg : Sg w) (h80 : 8 ≤ w.heap.size) (t : Tre) (s : Sl) (ns : List MNd) (ps : List MSt) (TD : TrD w t s ns ps) (i : Nat) (a : Mil) (ha : t.miles[i]? = some a) (next : Nat) (l : List UInt8) (B : Option Addr) (bc : Nat) (h : Pr w t s next l B bc W) (hn : next ≤ 1000000) :
    Calls Tryz.prog 52 #[.pointer (some ⟨w.heap.size, 0, none⟩), .int .i64 3, iv (i : Int)] W (TrR w t s l B bc (rightM t.nodes a next) W) := by
  unfold rightM
  cases h1 : legalT a.name with
  | false => rw [if_neg (fun e => absurd e.1 (by decide))]; exact right_M1 w W hg h80 t s ns ps TD i a ha next l B bc h h1
  | true =>
    cases h2 : inOneB a.in_ with
    | false => rw [if_neg (fun e => absurd e.2 (by decide))]; exact right_M2 w W hg h80 t s ns ps TD i a ha next l B bc h h1 h2
    | true => rw [if_pos ⟨rfl, rfl⟩]; exact right_M3 w W hg h80 t s ns ps TD i a ha next l B bc h hn h1 h2
end Go.Proofs.YtmmjcbbogokmfaaGreatDoor

/- Contract of the printer's declaration: a milestone. -/
namespace Go.Proofs.YtmmjcbbogokmfaaGreatDoor
open Go.RowKit

theorem inP_len (s : ByteArray) (b : List UInt8) : b.length ≤ (inP s b).length := by
  unfold inP
  split
  · exact Nat.le_refl _
  · exact putsB_len _ _
theorem ruledP_len (ns : List Nd) (root : Int) (ws : List (List UInt8)) (b b' : List UInt8) (h : ruledP ns root ws b = some b') : b.length ≤ b'.length := by
  unfold ruledP at h
  split at h
  · exact Nat.le_trans (putsB_len _ _) (exprP_len _ _ _ _ _ _ h)
  · injection h with h
    rw [h]
    exact Nat.le_refl _
/-- a row of bytes has a byte more -/
theorem lim_one {l : List UInt8} (h : (l ++ [10]).length ≤ LIMP) : l.length ≤ LIMP ∧ l.length + 1 ≤ maxLen ∧ (l.length + 1) * 1 ≤ 140737488355328 ∧ l.length + 1 = (l ++ [10]).length := by
  unfold LIMP at *
  have e : (l ++ [10]).length = l.length + 1 := by rw [List.length_append]; rfl
  rw [e] at h ⊢
  exact ⟨by omega, by unfold maxLen; omega, by omega, rfl⟩
set_option maxRecDepth 100000 in
set_option maxHeartbeats 3200000 in
theorem decl_M (w W : World) (t : Tre) (s : Sl) (ns : List MNd) (ps : List MSt) (TD : TrD w t s ns ps) (PX : PxAll w t s (t.nodes.length + 1)) (i : Nat) (a : Mil) (ha : t.miles[i]? = some a) (h0 : 0 ≤ a.when_) (next : Nat) (l l4 : List UInt8) (B : Option Addr) (bc : Nat) (h : Pr w t s next l B bc W) (hk : declM t.nodes a l = some l4) (hl : (l4 ++ [10]).length ≤ LIMP) :
    Calls Tryz.prog 54 #[.pointer (some ⟨w.heap.size, 0, none⟩), .int .i64 3, iv (i : Int)] W (PrR w t s next (l4 ++ [10]) W) := by
  obtain ⟨i0, hi, hz0, hz1, hz2⟩ := info_parts Tryz.infoU8
  obtain ⟨b, o, hA, hc⟩ := rec_cell (C := miC) (fun x => rfl) TD.rM ha (List.getElem?_eq_some_iff.1 ha).1
  have hlt := (List.getElem?_eq_some_iff.1 ha).1
  have hlim := TD.nM
  have hca := h.c4
  rw [hA] at hca
  have hw := fun j u hu => h.cellw (hc j u hu)
  obtain ⟨name, at_, order, in_, inAt, when_⟩ := a
  simp only at h0
  unfold declM at hk
  obtain ⟨l3, h3, e4⟩ := Option.map_eq_some_iff.1 hk
  simp only at h3
  subst e4
  have c0 : W.cell? ⟨b, o + i * 6, none⟩ = some (.string name) := hw 0 _ rfl
  have c1 : W.cell? ⟨b, o + i * 6 + 1, none⟩ = some (.int .i64 at_) := hw 1 _ rfl
  have c2 : W.cell? ⟨b, o + i * 6 + 2, none⟩ = some (.int .i64 order) := hw 2 _ rfl
  have c3 : W.cell? ⟨b, o + i * 6 + 3, none⟩ = some (.string in_) := hw 3 _ rfl
  have c4 : W.cell? ⟨b, o + i * 6 + 4, none⟩ = some (.int .i64 inAt) := hw 4 _ rfl
  have c5 : W.cell? ⟨b, o + i * 6 + 5, none⟩ = some (.int .i64 when_) := hw 5 _ rfl
  have f1 : (0 : Int) ≤ (i : Int) := by omega
  have f2 : (i : Int).toNat = i := by omega
  have f3 : (i : Int) < (t.miles.length : Int) := by omega
  have ho : Old W (W.alloc (.cells #[.string name, .int .i64 at_, .int .i64 order, .string in_, .int .i64 inAt, .int .i64 when_] 64)) := (Kp.refl NoX W).alloc _
  have BN := Lib.hid (Blk.new W 64 #[.string name, .int .i64 at_, .int .i64 order, .string in_, .int .i64 inAt, .int .i64 when_])
  have HW := Lib.hid (FrP.of_old ho)
  have g4 := (lim_one hl).1
  have g3 : l3.length ≤ LIMP := Nat.le_trans (putB_len l3 [59]).1 g4
  have Hl4 := Lib.hid (lim_one hl)
  unfold ruledP at h3
  rw [if_pos h0] at h3
  unfold exP at h3
  have g2' := exprP_len _ _ _ _ _ _ h3
  have g2 : (inP in_ (putsB l [[109, 105, 108, 101, 115, 116, 111, 110, 101], tb name])).length ≤ LIMP := Nat.le_trans (putsB_len _ _) (Nat.le_trans g2' g3)
  have g1 : (putsB l [[109, 105, 108, 101, 115, 116, 111, 110, 101], tb name]).length ≤ LIMP := Nat.le_trans (inP_len _ _) g2
  generalize hl2 : inP in_ (putsB l [[109, 105, 108, 101, 115, 116, 111, 110, 101], tb name]) = l2 at *
  have P1 := Lib.hid (put_newk w _ t s next l B bc (h.old ho) (W.heap.size + 1) (by simp) [⟨#[109, 105, 108, 101, 115, 116, 111, 110, 101]⟩, name] g1 (show 2 ≤ 1000 by decide))
  have IN := Lib.hid (fun W1 B1 c1 (hp : Pr w t s next (putsB l [[109, 105, 108, 101, 115, 116, 111, 110, 101], tb name]) B1 c1 W1) => in_print w W1 t s next _ B1 c1 hp in_ (hl2 ▸ g2))
  rw [hl2] at IN
  have RU := Lib.hid (fun W1 B1 c1 Q (hp : Pr w t s next l2 B1 c1 W1) (hQ : Q = W1.heap.size) => ruled_new w W1 t s _ PX next l2 l3 B1 c1 hp Q hQ [⟨#[114, 101, 97, 99, 104, 101, 100]⟩, ⟨#[119, 104, 101, 110]⟩] when_ h0 h3 (Nat.le_trans g2' g3) g3 (show 2 ≤ 1000 by decide))
  have P2 := Lib.hid (fun W1 B1 c1 Q (hp : Pr w t s next l3 B1 c1 W1) (hQ : Q = W1.heap.size) => put_newk w W1 t s next l3 B1 c1 hp Q hQ [⟨#[59]⟩] g4 (show 1 ≤ 1000 by decide))
  clear h hA hc hw ha hlt TD ho hk h3 g1 g2 g2' g3 g4 hl hl2 PX h0
  have HLn := Lib.hid (show (putB l3 [59]).map bv ++ [bv 10] = (putB l3 [59] ++ [10]).map bv by rw [List.map_append (l₂ := [10])]; rfl)
  unfold iv at *
  go_enter Tryz.func54, Tryz.ntmps54
  go_wp2_with (first | (at_builtin; refine wpList_append_any _ rfl (.tmp 143) (.tmp 144) 33 rfl w.heap.size 5 i0 (.int .u8 0) 1 1 Tryz.underlying33 hi hz0 hz1 hz2 rfl (by decide) (.slice B5 (putB l3 [59]).length c5') (putB l3 [59]).length ((putB l3 [59]).map bv) rfl (own_kp H5.out.own ((Kp.refl NoX _).alloc _) (fun _ _ e => e)) _ 1 1 [bv 10] rfl (Rd.one_new _ _ _) (one_value _ rfl) Hl4.out.2.1 Hl4.out.2.2.1 (Nat.le_trans H5.out.kp.size ((Kp.refl NoX _).alloc _).size) ?_; intro B6 c6' w6 hown hgrow hat; rw [ownBlock_slice] at hgrow; rw [HLn.out, Hl4.out.2.2.2] at hown; have HG := H5.out.grow ((Kp.refl NoX _).alloc _) hgrow hown; have hc9 := HG.1.at_ 9 rfl; have hz9 := HG.1.frozen 9; have HN := Lib.hid HG.2; clear hown hgrow hat HG) | (go_at_call 53; refine (P2.out _ _ _ _ H4.out (by simp)).mono ?_; rintro e w5 ⟨rfl, B5, c5', hX, hf⟩; have H5 := Lib.hid hX; have F5 := Lib.hid hf; have k9 := hX.c9; clear hX hf) | (go_at_call 118; refine (RU.out _ _ _ _ H3.out (by simp)).mono ?_; rintro e w4 ⟨rfl, B4, c4', hX, hf⟩; have H4 := Lib.hid hX; have F4 := Lib.hid hf; clear hX hf) | (go_at_call 119; refine (IN.out _ _ _ H2.out).mono ?_; rintro e w3 ⟨rfl, B3, c3', hX, hf⟩; have H3 := Lib.hid hX; have F3 := Lib.hid hf; have BN3 := Lib.hid (hf.blk _ _ _ (by decide) (by decide) BN2.out); have n5 := BN3.out.at_ 5 (v := .int .i64 when_) rfl; clear hX hf) | (go_at_call 53; refine P1.out.mono ?_; rintro e w2 ⟨rfl, B2, c2', hX, hf⟩; have H2 := Lib.hid hX; have F2 := Lib.hid hf; have BN2 := Lib.hid (hf.blk _ _ _ (by decide) (by decide) BN.out); have n3 := BN2.out.at_ 3 (v := .string in_) rfl; clear hX hf) | fail)
  go_end0
  rw [← Hl4.out.2.2.2] at HN
  exact ⟨rfl, B6, c6', HN.out.1, ((((HW.out.trans F2.out).trans F3.out).trans F4.out).trans F5.out).trans HN.out.2⟩
end Go.Proofs.YtmmjcbbogokmfaaGreatDoor
