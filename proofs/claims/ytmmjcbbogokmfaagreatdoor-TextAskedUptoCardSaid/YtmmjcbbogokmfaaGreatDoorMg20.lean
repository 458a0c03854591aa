import Derived.Test.YtmmjcbbogokmfaaGreatDoorMg19
/- Contract of the printer's atom: calls; any node right by itself. -/
namespace Go.Proofs.YtmmjcbbogokmfaaGreatDoor
open Go.RowKit

set_option maxRecDepth 100000 in
set_option maxHeartbeats 1600000 in
theorem atom_call (w W : World) (hg : Sg w) (h8 : 8 ≤ w.heap.size) (t : Tre) (s : Sl) (f : Nat) (PX : PxAll w t s f) (next : Nat) (l l' : List UInt8) (B : Option Addr) (bc : Nat) (h : Pr w t s next l B bc W) (x : MNd) (hop : 24 ≤ x.n.op ∧ x.n.op ≤ 33) (hr : Rd w 1 x.A x.n.kids.length (x.n.kids.map iv)) (hn : x.n.kids.length ≤ 1000000000) (hk : atomP t.nodes f x.n l = some l') (hl : l'.length ≤ LIMP) :
    Calls Tryz.prog 193 #[.pointer (some ⟨w.heap.size, 0, none⟩), .agg (ndC x).toArray] W (PrR w t s next l' W) := by
  unfold atomP at hk
  obtain ⟨⟨op, name, vk, vn, vt, vs, kids⟩, A, c, vA, vc⟩ := x
  simp only at hop hk hr hn
  rw [if_neg (by omega), if_neg (by omega), if_neg (by omega), if_neg (by omega), if_neg (by omega), if_neg (by omega)] at hk
  obtain ⟨l1, h1, e⟩ := Option.map_eq_some_iff.1 hk
  subst e
  have g1 := listP_len _ (fun k m b b' h => exprP_len _ f k m b b' h) _ _ _ _ h1
  have g2 := (putB_len l1 [41]).1
  have ho := (Kp.refl NoX W).alloc (.cells (ndC ⟨⟨op, name, vk, vn, vt, vs, kids⟩, A, c, vA, vc⟩).toArray 46)
  have hgW := (h.sg hg h8).old ho
  have SP := Lib.hid (spelled_any _ hgW op (by omega))
  have BN := Lib.hid (Blk.new W 46 (ndC ⟨⟨op, name, vk, vn, vt, vs, kids⟩, A, c, vA, vc⟩).toArray)
  have q1 : (op == 1) = false := beq_eq_false_iff_ne.2 (by omega)
  have q2 : (op == 2) = false := beq_eq_false_iff_ne.2 (by omega)
  have q3 : (op == 3) = false := beq_eq_false_iff_ne.2 (by omega)
  have q4 : (op == 4) = false := beq_eq_false_iff_ne.2 (by omega)
  have q5 : (op == 5) = false := beq_eq_false_iff_ne.2 (by omega)
  have q6 : (op == 6) = false := beq_eq_false_iff_ne.2 (by omega)
  have P2 := Lib.hid (fun W1 B1 c1 (hp : Pr w t s next l1 B1 c1 W1) => put_new w W1 t s next l1 B1 c1 hp [⟨#[41]⟩] hl (show 1 ≤ 1000 by decide))
  have HF := Lib.hid (FrP.of_old ho)
  by_cases hz : name.size = 0
  · simp only [if_pos hz] at h1 g1
    have hx2 : (!name.toList.isEmpty) = false := by rw [tl_empty, decide_eq_true hz]; rfl
    have P1 := Lib.hid (put_newk w _ t s next l B bc (h.old ho) (W.heap.size + 1) (by simp) [⟨(spelledOp op).toArray⟩, ⟨#[40]⟩] (Nat.le_trans g1 (Nat.le_trans g2 hl)) (show 2 ≤ 1000 by decide))
    have LS := Lib.hid (fun W1 B1 c1 (hp : Pr w t s next (putB (putB l (spelledOp op)) [40]) B1 c1 W1) => list_print w W1 t s f PX next _ l1 B1 c1 hp A c kids hr hn h1 (Nat.le_trans g2 hl))
    clear h hk hl ho h1 g1 g2 hr hn PX hz hgW hg hop
    unfold ndC iv at *
    go_enter Tryz.func193, Tryz.ntmps193
    go_wp2_with (first | (go_at_call 192; refine SP.out.mono ?_; rintro e w0 ⟨rfl, rfl⟩) | (go_at_call 53; first | (refine (P2.out _ _ _ H2.out).mono ?_; rintro e w3 ⟨rfl, B3, c3, hX, hf⟩; have H3 := Lib.hid hX; have F3 := Lib.hid hf; clear hX hf) | (refine P1.out.mono ?_; rintro e w1 ⟨rfl, B1, c1, hX, hf⟩; have H1 := Lib.hid hX; have F1 := Lib.hid hf; have n1 := (hf.blk _ _ _ (by decide) (by decide) BN.out).at_ 1 (v := .string name) rfl; have n6 := (hf.blk _ _ _ (by decide) (by decide) BN.out).at_ 6 (v := .slice A kids.length c) rfl; clear hX hf)) | (go_at_call 223; refine (LS.out _ _ _ H1.out).mono ?_; rintro e w2 ⟨rfl, B2, c2, hX, hf⟩; have H2 := Lib.hid hX; have F2 := Lib.hid hf; clear hX hf) | fail)
    go_end0
    exact ⟨rfl, B3, c3, H3.out, ((HF.out.trans F1.out).trans F2.out).trans F3.out⟩
  · simp only [if_neg hz] at h1 g1
    have hx2 : (!name.toList.isEmpty) = true := by rw [tl_empty, decide_eq_false hz]; rfl
    have g3 := (putB_len (putB (putB l (spelledOp op)) [40]) (tb name)).1
    have P1 := Lib.hid (put_newk w _ t s next l B bc (h.old ho) (W.heap.size + 1) (by simp) [⟨(spelledOp op).toArray⟩, ⟨#[40]⟩] (Nat.le_trans g3 (Nat.le_trans g1 (Nat.le_trans g2 hl))) (show 2 ≤ 1000 by decide))
    have PN := Lib.hid (fun W1 B1 c1 (hp : Pr w t s next (putB (putB l (spelledOp op)) [40]) B1 c1 W1) => put_new w W1 t s next _ B1 c1 hp [name] (Nat.le_trans g1 (Nat.le_trans g2 hl)) (show 1 ≤ 1000 by decide))
    have LS := Lib.hid (fun W1 B1 c1 (hp : Pr w t s next (putB (putB (putB l (spelledOp op)) [40]) (tb name)) B1 c1 W1) => list_print w W1 t s f PX next _ l1 B1 c1 hp A c kids hr hn h1 (Nat.le_trans g2 hl))
    clear h hk hl ho h1 g1 g2 g3 hr hn PX hz hgW hg hop
    unfold ndC iv at *
    go_enter Tryz.func193, Tryz.ntmps193
    go_wp2_with (first | (go_at_call 192; refine SP.out.mono ?_; rintro e w0 ⟨rfl, rfl⟩) | (go_at_call 53; first | (refine (P2.out _ _ _ H2.out).mono ?_; rintro e w3 ⟨rfl, B3, c3, hX, hf⟩; have H3 := Lib.hid hX; have F3 := Lib.hid hf; clear hX hf) | (refine (PN.out _ _ _ H1.out).mono ?_; rintro e w4 ⟨rfl, B4, c4, hX, hf⟩; have H4 := Lib.hid hX; have F4 := Lib.hid hf; have n6 := (hf.blk _ _ _ (by decide) (by decide) (F1.out.blk _ _ _ (by decide) (by decide) BN.out)).at_ 6 (v := .slice A kids.length c) rfl; clear hX hf) | (refine P1.out.mono ?_; rintro e w1 ⟨rfl, B1, c1, hX, hf⟩; have H1 := Lib.hid hX; have F1 := Lib.hid hf; have n1 := (hf.blk _ _ _ (by decide) (by decide) BN.out).at_ 1 (v := .string name) rfl; clear hX hf)) | (go_at_call 223; refine (LS.out _ _ _ H4.out).mono ?_; rintro e w2 ⟨rfl, B2, c2, hX, hf⟩; have H2 := Lib.hid hX; have F2 := Lib.hid hf; clear hX hf) | fail)
    go_end0
    exact ⟨rfl, B3, c3, H3.out, (((HF.out.trans F1.out).trans F4.out).trans F2.out).trans F3.out⟩
end Go.Proofs.YtmmjcbbogokmfaaGreatDoor

/- The tree as Print reads it; a node's cells. -/
namespace Go.Proofs.YtmmjcbbogokmfaaGreatDoor
open Go.RowKit

theorem flat_at : ∀ (ns : List MNd) (k : Nat) (x : MNd), ns[k]? = some x → ∀ i, i < 7 → (ns.flatMap ndC)[k * 7 + i]? = (ndC x)[i]?
  | [], _, _, h => by cases h
  | y :: l, 0, x, h => by
    intro i hi
    injection h with h
    subst h
    rw [List.flatMap_cons, Nat.zero_mul, Nat.zero_add, List.getElem?_append_left (by simp only [ndC, List.length_cons, List.length_nil]; omega)]
  | y :: l, k + 1, x, h => by
    intro i hi
    rw [List.flatMap_cons, List.getElem?_append_right (by simp only [ndC, List.length_cons, List.length_nil]; omega)]
    have := flat_at l k x h i hi
    rw [← this]
    congr 1
    simp only [ndC, List.length_cons, List.length_nil]
    omega
theorem node_cell {w : World} {A : Option Addr} {n : Nat} {ns : List MNd} (hr : Rd w 7 A n (ns.flatMap ndC)) {k : Nat} {x : MNd} (hk : ns[k]? = some x) (hn : k < n) : ∃ b o, A = some ⟨b, o, none⟩ ∧ ∀ i u, (ndC x)[i]? = some u → w.cell? ⟨b, o + (k * 7 + i), none⟩ = some u := by
  obtain ⟨b, o, hA, hc⟩ := hr.2 (by omega)
  refine ⟨b, o, hA, fun i u hu => hc _ u ?_⟩
  have hi : i < 7 := by
    have := (List.getElem?_eq_some_iff.1 hu).1
    simpa [ndC] using this
  rw [flat_at ns k x hk i hi]
  exact hu
/-- the nodes of the tree that Print was handed -/
structure TrN (w : World) (t : Tre) (s : Sl) (ns : List MNd) : Prop where
  rows : Rd w 7 s.nA t.nodes.length (ns.flatMap ndC)
  eq : ns.map (·.n) = t.nodes
  cnt : t.nodes.length ≤ 1000000
  ok : ∀ x ∈ ns, Rd w 1 x.A x.n.kids.length (x.n.kids.map iv) ∧ x.n.kids.length ≤ 1000000000
theorem TrN.at_ {w : World} {t : Tre} {s : Sl} {ns : List MNd} (h : TrN w t s ns) {k : Nat} {n : Nd} (hk : t.nodes[k]? = some n) : ∃ x b o, ns[k]? = some x ∧ x.n = n ∧ s.nA = some ⟨b, o, none⟩ ∧ (∀ i u, (ndC x)[i]? = some u → w.cell? ⟨b, o + (k * 7 + i), none⟩ = some u) ∧ Rd w 1 x.A x.n.kids.length (x.n.kids.map iv) ∧ x.n.kids.length ≤ 1000000000 := by
  have hlt := (List.getElem?_eq_some_iff.1 hk).1
  rw [← h.eq, List.getElem?_map] at hk
  obtain ⟨x, hx, e⟩ := Option.map_eq_some_iff.1 hk
  obtain ⟨b, o, hA, hc⟩ := node_cell h.rows hx hlt
  have hm := List.mem_of_getElem? hx
  exact ⟨x, b, o, hx, e, hA, hc, h.ok x hm⟩
theorem exprP_atom (ns : List Nd) (f : Nat) (root : Int) (least : Nat) (b : List UInt8) (n : Nd) (h0 : ¬ root < 0) (hn : ns[root.toNat]? = some n) (h8 : levelN n.op = 8) : exprP ns (f + 1) root least b = (atomP ns f n (opens 8 least b)).map (shuts 8 least) := by
  rw [exprP, if_neg h0, hn]
  simp only [h8]
  rfl
end Go.Proofs.YtmmjcbbogokmfaaGreatDoor

/- Contract of the printer's expression: atoms. -/
namespace Go.Proofs.YtmmjcbbogokmfaaGreatDoor
open Go.RowKit

set_option maxRecDepth 100000 in
set_option maxHeartbeats 1600000 in
theorem ex_atom (w W : World) (t : Tre) (s : Sl) (ns : List MNd) (TN : TrN w t s ns) (next : Nat) (l : List UInt8) (B : Option Addr) (bc : Nat) (h : Pr w t s next l B bc W) (root least : Nat) (hle : least ≤ 8) (n : Nd) (hn : t.nodes[root]? = some n) (h8 : levelN n.op = 8) (l' : List UInt8)
    (HA : ∀ (W1 : World) (x : MNd), x.n = n → Rd w 1 x.A x.n.kids.length (x.n.kids.map iv) → x.n.kids.length ≤ 1000000000 → Pr w t s next l B bc W1 → Calls Tryz.prog 193 #[.pointer (some ⟨w.heap.size, 0, none⟩), .agg (ndC x).toArray] W1 (PrR w t s next l' W1)) :
    Calls Tryz.prog 156 #[.pointer (some ⟨w.heap.size, 0, none⟩), iv (root : Int), iv (least : Int)] W (PrR w t s next l' W) := by
  obtain ⟨x, b, o, hx, e, hA, hc, hrd, hkn⟩ := TN.at_ hn
  have hlt := (List.getElem?_eq_some_iff.1 hn).1
  have hlim := TN.cnt
  have hc6 := h.c6
  rw [hA] at hc6
  obtain ⟨⟨op, name, vk, vn, vt, vs, kids⟩, A, c, vA, vc⟩ := x
  have hw : ∀ i u, (ndC ⟨⟨op, name, vk, vn, vt, vs, kids⟩, A, c, vA, vc⟩)[i]? = some u → W.cell? ⟨b, o + (root * 7 + i), none⟩ = some u := fun i u hu => by
    have h1 := hc i u hu
    have hb := cell_lt h1
    rw [World.cell?_of_block (h.kp.block b hb (fun e : w.heap.size ≤ b => by have : b < w.heap.size := hb; omega))]
    exact h1
  have c0 : W.cell? ⟨b, o + root * 7, none⟩ = some (.int .i64 op) := hw 0 _ rfl
  have c1 : W.cell? ⟨b, o + root * 7 + 1, none⟩ = some (.string name) := hw 1 _ rfl
  have c2 : W.cell? ⟨b, o + root * 7 + 2, none⟩ = some (.int .i64 vk) := hw 2 _ rfl
  have c3 : W.cell? ⟨b, o + root * 7 + 3, none⟩ = some (.int .i64 vn) := hw 3 _ rfl
  have c4 : W.cell? ⟨b, o + root * 7 + 4, none⟩ = some (.string vt) := hw 4 _ rfl
  have c5 : W.cell? ⟨b, o + root * 7 + 5, none⟩ = some (.slice vA vs.length vc) := hw 5 _ rfl
  have c6 : W.cell? ⟨b, o + root * 7 + 6, none⟩ = some (.slice A kids.length c) := hw 6 _ rfl
  have HAt := Lib.hid (fun W1 (hp : Pr w t s next l B bc W1) => HA W1 _ e hrd hkn hp)
  have ho := (Kp.refl NoX W).alloc (.cells (ndC ⟨⟨op, name, vk, vn, vt, vs, kids⟩, A, c, vA, vc⟩).toArray 46)
  have H1 := Lib.hid (h.old ho)
  have HF := Lib.hid (FrP.of_old ho)
  have hop : levelN op = 8 := by rw [← e] at h8; exact h8
  have HLv := Lib.hid (fun W1 => level_any W1 op)
  rw [hop] at HLv
  have f1 : (0 : Int) ≤ (root : Int) := by omega
  have f2 : (root : Int).toNat = root := by omega
  have f3 : (root : Int) < (t.nodes.length : Int) := by omega
  have f4 : ¬ (8 : Int) < (least : Int) := by omega
  clear h hx hc hw hrd hkn TN HA ho hop h8 hn hlim e
  unfold ndC iv at *
  go_enter_defers Tryz.func156, Tryz.ntmps156
  go_wp2_with (first | (go_at_call 191; refine (HLv.out _).mono ?_; rintro e w1 ⟨rfl, rfl⟩) | (go_at_call 193; refine (HAt.out _ H1.out).mono ?_; rintro e w2 ⟨rfl, B2, c2, hX, hf⟩) | fail)
  have HFin := Lib.hid (show PrR w t s next l' W (.returned (.tuple #[])) w2 from ⟨rfl, B2, c2, hX, HF.out.trans hf⟩)
  clear hX hf
  simp [bodyPostD, Leaves, results, Tryz.results156, go_sem]
  exact HFin.out
end Go.Proofs.YtmmjcbbogokmfaaGreatDoor

/- Contract of the printer's expression: one part behind an operator, no brackets. -/
namespace Go.Proofs.YtmmjcbbogokmfaaGreatDoor
open Go.RowKit

set_option maxRecDepth 100000 in
set_option maxHeartbeats 1600000 in
theorem ex_one (w W : World) (hg : Sg w) (h80 : 8 ≤ w.heap.size) (t : Tre) (s : Sl) (ns : List MNd) (TN : TrN w t s ns) (f : Nat) (PX : PxAll w t s f) (next : Nat) (l : List UInt8) (B : Option Addr) (bc : Nat) (h : Pr w t s next l B bc W) (root least own : Nat) (n : Nd) (hn : t.nodes[root]? = some n) (hown : levelN n.op = own) (h37 : own = 3 ∨ own = 7) (hle : least ≤ own) (hop : n.op = 8 ∨ n.op = 7)
    (k : Int) (tl : List Int) (hkids : n.kids = k :: tl) (l' : List UInt8) (hk : exprP t.nodes f k own (putB l (spelledOp n.op)) = some l') (hl : l'.length ≤ LIMP) :
    Calls Tryz.prog 156 #[.pointer (some ⟨w.heap.size, 0, none⟩), iv (root : Int), iv (least : Int)] W (PrR w t s next l' W) := by
  obtain ⟨x, b, o, hx, e, hA, hc, hrd, hkn⟩ := TN.at_ hn
  have hlt := (List.getElem?_eq_some_iff.1 hn).1
  have hlim := TN.cnt
  have hc6 := h.c6
  rw [hA] at hc6
  obtain ⟨⟨op, name, vk, vn, vt, vs, kids⟩, A, c, vA, vc⟩ := x
  subst e
  simp only at hkids hown hop hrd hk
  subst hkids
  have hw : ∀ i u, (ndC ⟨⟨op, name, vk, vn, vt, vs, k :: tl⟩, A, c, vA, vc⟩)[i]? = some u → W.cell? ⟨b, o + (root * 7 + i), none⟩ = some u := fun i u hu => by
    have h1 := hc i u hu
    have hb := cell_lt h1
    rw [World.cell?_of_block (h.kp.block b hb (fun e : w.heap.size ≤ b => by have : b < w.heap.size := hb; omega))]
    exact h1
  have c0 : W.cell? ⟨b, o + root * 7, none⟩ = some (.int .i64 op) := hw 0 _ rfl
  have c1 : W.cell? ⟨b, o + root * 7 + 1, none⟩ = some (.string name) := hw 1 _ rfl
  have c2 : W.cell? ⟨b, o + root * 7 + 2, none⟩ = some (.int .i64 vk) := hw 2 _ rfl
  have c3 : W.cell? ⟨b, o + root * 7 + 3, none⟩ = some (.int .i64 vn) := hw 3 _ rfl
  have c4 : W.cell? ⟨b, o + root * 7 + 4, none⟩ = some (.string vt) := hw 4 _ rfl
  have c5 : W.cell? ⟨b, o + root * 7 + 5, none⟩ = some (.slice vA vs.length vc) := hw 5 _ rfl
  have c6 : W.cell? ⟨b, o + root * 7 + 6, none⟩ = some (.slice A (tl.length + 1) c) := hw 6 _ rfl
  have ho := (Kp.refl NoX W).alloc (.cells (ndC ⟨⟨op, name, vk, vn, vt, vs, k :: tl⟩, A, c, vA, vc⟩).toArray 46)
  have BN := Lib.hid (Blk.new W 46 (ndC ⟨⟨op, name, vk, vn, vt, vs, k :: tl⟩, A, c, vA, vc⟩).toArray)
  have HF := Lib.hid (FrP.of_old ho)
  have SP := Lib.hid (spelled_any _ ((h.sg hg h80).old ho) op (by omega))
  have g1 := exprP_len _ f _ _ _ _ hk
  have P1 := Lib.hid (put_newk w _ t s next l B bc (h.old ho) (W.heap.size + 1) (by simp) [⟨(spelledOp op).toArray⟩] (Nat.le_trans g1 hl) (show 1 ≤ 1000 by decide))
  have EX := Lib.hid (fun W1 B1 c1 (hp : Pr w t s next (putB l (spelledOp op)) B1 c1 W1) => PX.ex W1 next _ l' B1 c1 k own hp (by omega) hk hl)
  have HLv := Lib.hid (fun W1 => level_any W1 op)
  rw [hown] at HLv
  obtain ⟨kb, ko, u, hKA, hu, hkc⟩ := hrd.at_ (k := 0) (Nat.succ_pos _)
  have hu2 : iv k = u := by injection hu
  subst hu2
  subst hKA
  have KC := Lib.hid (fun W1 B1 c1 l1 (hp : Pr w t s next l1 B1 c1 W1) => (show W1.cell? ⟨kb, ko, none⟩ = some (.int .i64 k) from by
    have hb := cell_lt hkc
    rw [World.cell?_of_block (hp.kp.block kb hb (fun e : w.heap.size ≤ kb => by have : kb < w.heap.size := hb; omega))]
    exact hkc))
  have f1 : (0 : Int) ≤ (root : Int) := by omega
  have f2 : (root : Int).toNat = root := by omega
  have f3 : (root : Int) < (t.nodes.length : Int) := by omega
  have f4 : ¬ (own : Int) < (least : Int) := by omega
  clear h hx hc hw hrd hkn TN PX ho hn hlim hl hk g1 hu hkc hg h80 hown hop hle
  unfold ndC iv at *
  rcases h37 with rfl | rfl
  all_goals
    go_enter_defers Tryz.func156, Tryz.ntmps156
    go_wp2_with (first | (go_at_call 191; refine (HLv.out _).mono ?_; rintro e w1 ⟨rfl, rfl⟩) | (go_at_call 192; refine SP.out.mono ?_; rintro e w1 ⟨rfl, rfl⟩) | (go_at_call 53; refine P1.out.mono ?_; rintro e w2 ⟨rfl, B2, c2, hX, hf⟩; have H2 := Lib.hid hX; have F2 := Lib.hid hf; have n6 := (hf.blk _ _ _ (by decide) (by decide) BN.out).at_ 6 (v := .slice (some ⟨kb, ko, none⟩) (tl.length + 1) c) rfl; have k0 := KC.out _ _ _ _ hX; clear hX hf) | (go_at_call 156; refine (EX.out _ _ _ H2.out).mono ?_; rintro e w3 ⟨rfl, B3, c3, hX, hf⟩) | fail)
    have HFin := Lib.hid (show PrR w t s next l' W (.returned (.tuple #[])) w3 from ⟨rfl, B3, c3, hX, (HF.out.trans F2.out).trans hf⟩)
    clear hX hf
    simp [bodyPostD, Leaves, results, Tryz.results156, go_sem]
    exact HFin.out
end Go.Proofs.YtmmjcbbogokmfaaGreatDoor

/- Contract of the printer's expression: two parts about an operator, no brackets. -/
namespace Go.Proofs.YtmmjcbbogokmfaaGreatDoor
open Go.RowKit

/-- an expression behind words in a row just laid out -/
theorem ruled_new (w W : World) (t : Tre) (s : Sl) (f : Nat) (PX : PxAll w t s f) (next : Nat) (l l' : List UInt8) (B : Option Addr) (bc : Nat) (h : Pr w t s next l B bc W) (k : Nat) (hk : k = W.heap.size) (ws : List ByteArray) (root : Int) (h0 : 0 ≤ root)
    (he : exprP t.nodes f root 0 (putsB l (ws.map sb)) = some l') (hp : (putsB l (ws.map sb)).length ≤ LIMP) (hl : l'.length ≤ LIMP) (hws : ws.length ≤ 1000) :
    Calls Tryz.prog 118 #[.pointer (some ⟨w.heap.size, 0, none⟩), iv root, .slice (some ⟨k, 0, none⟩) ws.length ws.length] (W.alloc (.cells (ws.map sv).toArray 9)) (PrR w t s next l' W) := by
  subst hk
  have ho := (Kp.refl NoX W).alloc (.cells (ws.map sv).toArray 9)
  exact (ruled_print w _ t s f PX next l l' B bc (h.old ho) W.heap.size ws (Blk.new _ _ _) root h0 he hp hl hws).mono (fun _ _ hX => PrR.of (FrP.of_old ho) hX)
set_option maxRecDepth 100000 in
set_option maxHeartbeats 3200000 in
theorem ex_twoa (w W : World) (hg : Sg w) (h80 : 8 ≤ w.heap.size) (t : Tre) (s : Sl) (ns : List MNd) (TN : TrN w t s ns) (f : Nat) (PX : PxAll w t s f) (next : Nat) (l : List UInt8) (B : Option Addr) (bc : Nat) (h : Pr w t s next l B bc W) (root least : Nat) (own own1 : Nat) (n : Nd) (hn : t.nodes[root]? = some n) (hown : levelN n.op = own) (hw : own = 1 ∧ own1 = 2 ∨ own = 2 ∧ own1 = 3 ∨ own = 5 ∧ own1 = 6 ∨ own = 6 ∧ own1 = 7) (hle : least ≤ own)  (hop : 7 ≤ n.op ∧ n.op ≤ 33 ∧ n.op ≠ 23)
    (k q : Int) (tl : List Int) (hkids : n.kids = k :: q :: tl) (lm l' : List UInt8) (hk : exprP t.nodes f k own l = some lm) (hq : exprP t.nodes f q own1 (putB lm (spelledOp n.op)) = some l') (hl : l'.length ≤ LIMP) :
    Calls Tryz.prog 156 #[.pointer (some ⟨w.heap.size, 0, none⟩), iv (root : Int), iv (least : Int)] W (PrR w t s next l' W) := by
  obtain ⟨x, b, o, hx, e, hA, hc, hrd, hkn⟩ := TN.at_ hn
  have hlt := (List.getElem?_eq_some_iff.1 hn).1
  have hlim := TN.cnt
  have hc6 := h.c6
  rw [hA] at hc6
  obtain ⟨⟨op, name, vk, vn, vt, vs, kids⟩, A, c, vA, vc⟩ := x
  subst e
  simp only at hkids hown hop hrd hk hq
  subst hkids
  have hw' : ∀ i u, (ndC ⟨⟨op, name, vk, vn, vt, vs, k :: q :: tl⟩, A, c, vA, vc⟩)[i]? = some u → W.cell? ⟨b, o + (root * 7 + i), none⟩ = some u := fun i u hu => by
    have h1 := hc i u hu
    have hb := cell_lt h1
    rw [World.cell?_of_block (h.kp.block b hb (fun e : w.heap.size ≤ b => by have : b < w.heap.size := hb; omega))]
    exact h1
  have c0 : W.cell? ⟨b, o + root * 7, none⟩ = some (.int .i64 op) := hw' 0 _ rfl
  have c1 : W.cell? ⟨b, o + root * 7 + 1, none⟩ = some (.string name) := hw' 1 _ rfl
  have c2 : W.cell? ⟨b, o + root * 7 + 2, none⟩ = some (.int .i64 vk) := hw' 2 _ rfl
  have c3 : W.cell? ⟨b, o + root * 7 + 3, none⟩ = some (.int .i64 vn) := hw' 3 _ rfl
  have c4 : W.cell? ⟨b, o + root * 7 + 4, none⟩ = some (.string vt) := hw' 4 _ rfl
  have c5 : W.cell? ⟨b, o + root * 7 + 5, none⟩ = some (.slice vA vs.length vc) := hw' 5 _ rfl
  have c6 : W.cell? ⟨b, o + root * 7 + 6, none⟩ = some (.slice A (tl.length + 1 + 1) c) := hw' 6 _ rfl
  have ho := (Kp.refl NoX W).alloc (.cells (ndC ⟨⟨op, name, vk, vn, vt, vs, k :: q :: tl⟩, A, c, vA, vc⟩).toArray 46)
  have BN := Lib.hid (Blk.new W 46 (ndC ⟨⟨op, name, vk, vn, vt, vs, k :: q :: tl⟩, A, c, vA, vc⟩).toArray)
  have HF := Lib.hid (FrP.of_old ho)
  have H0 := Lib.hid (h.old ho)
  have HLv := Lib.hid (fun W1 => level_any W1 op)
  rw [hown] at HLv
  have gf : l'.length ≤ LIMP := hl
  have g2 : (putB lm (spelledOp op)).length ≤ LIMP := Nat.le_trans (exprP_len _ f _ _ _ _ hq) gf
  have gm : lm.length ≤ LIMP := Nat.le_trans (putB_len lm (spelledOp op)).1 g2
  have SP := Lib.hid (fun W1 l1 B1 c1 (hp : Pr w t s next l1 B1 c1 W1) => spelled_any W1 (hp.sg hg h80) op (by omega))
  have P1 := Lib.hid (fun W1 B1 c1 Q (hp : Pr w t s next lm B1 c1 W1) (hQ : Q = W1.heap.size) => put_newk w W1 t s next lm B1 c1 hp Q hQ [⟨(spelledOp op).toArray⟩] g2 (show 1 ≤ 1000 by decide))
  have EX1 := Lib.hid (fun W1 B1 c1 (hp : Pr w t s next l B1 c1 W1) => PX.ex W1 next _ lm B1 c1 k own hp (by omega) hk gm)
  have EX2 := Lib.hid (fun W1 B1 c1 (hp : Pr w t s next (putB lm (spelledOp op)) B1 c1 W1) => PX.ex W1 next _ l' B1 c1 q own1 hp (by omega) hq gf)
  obtain ⟨kb, ko, u0, hKA, hu0, hkc0⟩ := hrd.at_ (k := 0) (Nat.succ_pos _)
  have e0 : iv k = u0 := by injection hu0
  subst e0
  subst hKA
  have KC0 := Lib.hid (fun W1 l1 B1 c1 (hp : Pr w t s next l1 B1 c1 W1) => (show W1.cell? ⟨kb, ko, none⟩ = some (.int .i64 k) from by
    have hb := cell_lt hkc0
    rw [World.cell?_of_block (hp.kp.block kb hb (fun e : w.heap.size ≤ kb => by have : kb < w.heap.size := hb; omega))]
    exact hkc0))
  have hkc1 : w.cell? ⟨kb, ko + 1, none⟩ = some (iv q) := by
    obtain ⟨b2, o2, hb2, hc2⟩ := hrd.2 (Nat.succ_pos _)
    have eb := Option.some.inj hb2
    have e1 : kb = b2 := congrArg Addr.block eb
    have e2 : ko = o2 := congrArg Addr.off eb
    rw [e1, e2]
    exact hc2 1 _ rfl
  have KC1 := Lib.hid (fun W1 l1 B1 c1 (hp : Pr w t s next l1 B1 c1 W1) => (show W1.cell? ⟨kb, ko + 1, none⟩ = some (.int .i64 q) from by
    have hb := cell_lt hkc1
    rw [World.cell?_of_block (hp.kp.block kb hb (fun e : w.heap.size ≤ kb => by have : kb < w.heap.size := hb; omega))]
    exact hkc1))
  have f1 : (0 : Int) ≤ (root : Int) := by omega
  have f2 : (root : Int).toNat = root := by omega
  have f3 : (root : Int) < (t.nodes.length : Int) := by omega
  have f4 : ¬ ((own : Int) : Int) < (least : Int) := by omega
  clear h hx hc hw' hrd hkn TN PX ho hn hlim hl hk hu0 hown gf hg h80 hop hq g2 gm hkc0 hkc1 hle
  unfold ndC iv at *
  rcases hw with ⟨rfl, rfl⟩ | ⟨rfl, rfl⟩ | ⟨rfl, rfl⟩ | ⟨rfl, rfl⟩
  all_goals
    have k0 := KC0.out _ _ _ _ H0.out
    simp only [List.length_cons] at k0
    go_enter_defers Tryz.func156, Tryz.ntmps156
    go_wp2_with (first | (go_at_call 156; refine (EX2.out _ _ _ H2.out).mono ?_; rintro e w4 ⟨rfl, B3, c3', hX, hf⟩; have H3 := Lib.hid hX; have F3 := Lib.hid (F2.out.trans hf); clear hX hf) | (go_at_call 53; refine (P1.out _ _ _ _ H1.out (by simp)).mono ?_; rintro e w3 ⟨rfl, B2, c2', hX, hf⟩; have H2 := Lib.hid hX; have F2 := Lib.hid (F1.out.trans hf); have n6 := (F2.out.blk _ _ _ (by decide) (by decide) BN.out).at_ 6 (v := (.slice (some ⟨kb, ko, none⟩) (tl.length + 1 + 1) c)) rfl; have k1 := KC1.out _ _ _ _ hX; clear hX hf) | (go_at_call 156; refine (EX1.out _ _ _ H0.out).mono ?_; rintro e w2 ⟨rfl, B1, c1', hX, hf⟩; have H1 := Lib.hid hX; have F1 := Lib.hid (hf); have n0 := (F1.out.blk _ _ _ (by decide) (by decide) BN.out).at_ 0 (v := (.int .i64 op)) rfl; clear hX hf) | (go_at_call 191; refine (HLv.out _).mono ?_; rintro e w1 ⟨rfl, rfl⟩) | (go_at_call 192; refine (SP.out _ _ _ _ H1.out).mono ?_; rintro e ws ⟨rfl, rfl⟩) | fail)
    have HFin := Lib.hid (show PrR w t s next l' W (.returned (.tuple #[])) w4 from ⟨rfl, B3, c3', H3.out, HF.out.trans F3.out⟩)
    simp [bodyPostD, Leaves, results, Tryz.results156, go_sem]
    exact HFin.out
end Go.Proofs.YtmmjcbbogokmfaaGreatDoor
