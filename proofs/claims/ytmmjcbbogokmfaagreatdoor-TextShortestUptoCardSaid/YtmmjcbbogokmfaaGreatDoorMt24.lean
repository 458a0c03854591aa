import Derived.Test.YtmmjcbbogokmfaaGreatDoorMt01
import Derived.Test.YtmmjcbbogokmfaaGreatDoorMt23
set_option maxRecDepth 100000
set_option maxHeartbeats 25600000
namespace Go.Proofs.YtmmjcbbogokmfaaGreatDoor
open Go.RowKit
theorem ex_fourb (w W : World) (hg : Sg w) (h80 : 8 <= w.heap.size) (t : Tre) (s : Sl) (ns : List MNd) (TN : TrN w t s ns) (f : Nat) (PX : PxAll w t s f) (next : Nat) (l : List UInt8) (B : Option Addr) (bc : Nat) (h : Pr w t s next l B bc W) (root least : Nat)  (n : Nd) (hn : t.nodes[root]? = some n) (hown : jV n.op = 4)  (hle : 4 < least) (hl8 : least <= 8) (hop : 7 <= n.op /\ n.op <= 33 /\ n.op ≠ 23)
    (k q : Int) (tl : List Int) (hkids : n.kids = k :: q :: tl) (lm l' : List UInt8) (hk : exprP t.nodes f k 5 (putB l [40]) = some lm) (hq : exprP t.nodes f q 5 (putB lm (jE n.op)) = some l') (hl : (putB l' [41]).length <= LIMP) :
    Calls Tryz.prog 156 #[.pointer (some ⟨w.heap.size, 0, none⟩), iv (root : Int), iv (least : Int)] W (PrR w t s next (putB l' [41]) W) := by
  obtain ⟨x, b, o, hx, e, hA, hc, hrd, hkn⟩ := TN.at_ hn
  have hlt := (List.getElem?_eq_some_iff.1 hn).1
  have hlim := TN.cnt
  have hc6 := h.c6
  rw [hA] at hc6
  obtain ⟨⟨op, name, vk, vn, vt, vs, kids⟩, A, c, vA, vc⟩ := x
  subst e
  simp only at hkids hown hop hrd hk hq
  subst hkids
  have hw' : ∀ i u, (ndC ⟨⟨op, name, vk, vn, vt, vs, k :: q :: tl⟩, A, c, vA, vc⟩)[i]? = some u -> W.cell? ⟨b, o + (root * 7 + i), none⟩ = some u := fun i u hu => by
    have h1 := hc i u hu
    have hb := jk h1
    rw [World.cell?_of_block (h.kp.block b hb (fun e : w.heap.size <= b => by have : b < w.heap.size := hb; omega))]
    exact h1
  have c0 : W.cell? ⟨b, o + root * 7, none⟩ = some (.int .i64 op) := hw' 0 _ rfl
  have c1 : W.cell? ⟨b, o + root * 7 + 1, none⟩ = some (.string name) := hw' 1 _ rfl
  have c2 : W.cell? ⟨b, o + root * 7 + 2, none⟩ = some (.int .i64 vk) := hw' 2 _ rfl
  have c3 : W.cell? ⟨b, o + root * 7 + 3, none⟩ = some (.int .i64 vn) := hw' 3 _ rfl
  have c4 : W.cell? ⟨b, o + root * 7 + 4, none⟩ = some (.string vt) := hw' 4 _ rfl
  have c5 : W.cell? ⟨b, o + root * 7 + 5, none⟩ = some (.slice vA vs.length vc) := hw' 5 _ rfl
  have c6 : W.cell? ⟨b, o + root * 7 + 6, none⟩ = some (.slice A (tl.length + 1 + 1) c) := hw' 6 _ rfl
  have ho := (Kp.refl NoX W).alloc (.cells (ndC ⟨⟨op, name, vk, vn, vt, vs, k :: q :: tl⟩, A, c, vA, vc⟩).toArray 46)
  have BN := jJ0 (Blk.new W 46 (ndC ⟨⟨op, name, vk, vn, vt, vs, k :: q :: tl⟩, A, c, vA, vc⟩).toArray)
  have HF := jJ0 (FrP.of_old ho)
  have H0 := jJ0 (h.old ho)
  have HLv := jJ0 (fun W1 => vD W1 op)
  rw [hown] at HLv
  have gf : l'.length <= LIMP := Nat.le_trans (jT l' [41]).1 hl
  have g2 : (putB lm (jE op)).length <= LIMP := Nat.le_trans (jr _ f _ _ _ _ hq) gf
  have gm : lm.length <= LIMP := Nat.le_trans (jT lm (jE op)).1 g2
  have g0 : (putB l [40]).length <= LIMP := Nat.le_trans (jr _ f _ _ _ _ hk) gm
  have P0 := jJ0 (kA w _ t s next l B bc (h.old ho) (W.heap.size + 1) (by simp) [⟨#[40]⟩] g0 (show 1 <= 1000 by decide))
  have PZ := jJ0 (fun W1 B1 c1 Q (hp : Pr w t s next l' B1 c1 W1) (hb : Blk W1 Q 9 #[.string ⟨#[41]⟩]) => put_d w W1 t s next l' B1 c1 hp Q [⟨#[41]⟩] hb hl (show 1 <= 1000 by decide) .returning)
  have SP := jJ0 (fun W1 l1 B1 c1 (hp : Pr w t s next l1 B1 c1 W1) => kx W1 (hp.sg hg h80) op (by omega))
  have P1 := jJ0 (fun W1 B1 c1 Q (hp : Pr w t s next lm B1 c1 W1) (hQ : Q = W1.heap.size) => kA w W1 t s next lm B1 c1 hp Q hQ [⟨(jE op).toArray⟩] g2 (show 1 <= 1000 by decide))
  have EX1 := jJ0 (fun W1 B1 c1 (hp : Pr w t s next (putB l [40]) B1 c1 W1) => PX.ex W1 next _ lm B1 c1 k 5 hp (by omega) hk gm)
  have EX2 := jJ0 (fun W1 B1 c1 (hp : Pr w t s next (putB lm (jE op)) B1 c1 W1) => PX.ex W1 next _ l' B1 c1 q 5 hp (by omega) hq gf)
  obtain ⟨kb, ko, u0, hKA, hu0, hkc0⟩ := hrd.at_ (k := 0) (Nat.succ_pos _)
  have e0 : iv k = u0 := by injection hu0
  subst e0
  subst hKA
  have KC0 := jJ0 (fun W1 l1 B1 c1 (hp : Pr w t s next l1 B1 c1 W1) => (show W1.cell? ⟨kb, ko, none⟩ = some (.int .i64 k) from by
    have hb := jk hkc0
    rw [World.cell?_of_block (hp.kp.block kb hb (fun e : w.heap.size <= kb => by have : kb < w.heap.size := hb; omega))]
    exact hkc0))
  have hkc1 : w.cell? ⟨kb, ko + 1, none⟩ = some (iv q) := by
    obtain ⟨b2, o2, hb2, hc2⟩ := hrd.2 (Nat.succ_pos _)
    have eb := Option.some.inj hb2
    have e1 : kb = b2 := congrArg Addr.block eb
    have e2 : ko = o2 := congrArg Addr.off eb
    rw [e1, e2]
    exact hc2 1 _ rfl
  have KC1 := jJ0 (fun W1 l1 B1 c1 (hp : Pr w t s next l1 B1 c1 W1) => (show W1.cell? ⟨kb, ko + 1, none⟩ = some (.int .i64 q) from by
    have hb := jk hkc1
    rw [World.cell?_of_block (hp.kp.block kb hb (fun e : w.heap.size <= kb => by have : kb < w.heap.size := hb; omega))]
    exact hkc1))
  have f1 : (0 : Int) <= (root : Int) := by omega
  have f2 : (root : Int).toNat = root := by omega
  have f3 : (root : Int) < (t.nodes.length : Int) := by omega
  have f4 : (4 : Int) < (least : Int) := by omega
  clear h hx hc hw' hrd hkn TN PX ho hn hlim hl hk hu0 hown gf hg h80 hop hq g2 gm hkc0 hkc1 hle hl8 g0
  unfold ndC iv at *
  go_enter_defers Tryz.func156, Tryz.ntmps156
  go_wp2_with (first | (go_at_call 156; refine (EX2.out _ _ _ H3.out).mono ?_; rintro e w5 ⟨rfl, B4, c4', hX, hf⟩; have H4 := jJ0 hX; have F4 := jJ0 (F3.out.trans hf); have G4 := jJ0 (G3.out.trans hf); clear hX hf) | (go_at_call 53; refine (P1.out _ _ _ _ H2.out (by simp)).mono ?_; rintro e w4 ⟨rfl, B3, c3', hX, hf⟩; have H3 := jJ0 hX; have F3 := jJ0 (F2.out.trans hf); have n6 := (F3.out.blk _ _ _ (by decide) (by decide) BN.out).at_ 6 (v := (.slice (some ⟨kb, ko, none⟩) (tl.length + 1 + 1) c)) rfl; have k1 := KC1.out _ _ _ _ hX; have G3 := jJ0 (G2.out.trans hf); clear hX hf) | (go_at_call 156; refine (EX1.out _ _ _ H1'.out).mono ?_; rintro e w3 ⟨rfl, B2, c2', hX, hf⟩; have H2 := jJ0 hX; have F2 := jJ0 (F1'.out.trans hf); have n0 := (F2.out.blk _ _ _ (by decide) (by decide) BN.out).at_ 0 (v := (.int .i64 op)) rfl; have G2 := jJ0 (hf); clear hX hf) | (go_at_call 53; refine P0.out.mono ?_; rintro e w2 ⟨rfl, B1, c1', hX, hf⟩; have H1 := jJ0 hX; have F1 := jJ0 (hf); have n6 := (F1.out.blk _ _ _ (by decide) (by decide) BN.out).at_ 6 (v := (.slice (some ⟨kb, ko, none⟩) (tl.length + 1 + 1) c)) rfl; have k0 := KC0.out _ _ _ _ hX; have BZ := jJ0 (Blk.new w2 9 #[.string ⟨#[41]⟩]); have HO1 := (Kp.refl NoX w2).alloc (.cells #[.string ⟨#[41]⟩] 9); have H1' := jJ0 (H1.out.old HO1); have F1' := jJ0 (F1.out.trans (FrP.of_old HO1)); clear HO1; have n6 := (F1'.out.blk _ _ _ (by decide) (by decide) BN.out).at_ 6 (v := (.slice (some ⟨kb, ko, none⟩) (tl.length + 1 + 1) c)) rfl; have k0 := KC0.out _ _ _ _ H1'.out; clear hX hf) | (go_at_call 191; refine (HLv.out _).mono ?_; rintro e w1 ⟨rfl, rfl⟩) | (go_at_call 192; refine (SP.out _ _ _ _ H2.out).mono ?_; rintro e ws ⟨rfl, rfl⟩) | fail)
  have BZ2 := jJ0 (G4.out.blk _ _ _ (by decide) (by decide) BZ.out)
  have HFin := jJ0 (HF.out.trans F4.out)
  refine leaves_cons (f := 53) (args := #[.pointer (some ⟨w.heap.size, 0, none⟩), .slice (some ⟨w2.heap.size, 0, none⟩) 1 1]) (by simp) (by simp [go_sem]) ?_
  refine (PZ.out _ _ _ _ H4.out BZ2.out).mono ?_
  rintro e u' w'' ⟨rfl, rfl, B9, c9, hX, hf⟩
  have HFn := jJ0 (show PrR w t s next (putB l' [41]) W (.returned (.tuple #[])) w'' from ⟨rfl, B9, c9, hX, HFin.out.trans hf⟩)
  clear hX hf
  simp [Leaves, settle, results, Tryz.results156, go_sem]
  exact HFn.out
theorem ex_oneb (w W : World) (hg : Sg w) (h80 : 8 <= w.heap.size) (t : Tre) (s : Sl) (ns : List MNd) (TN : TrN w t s ns) (f : Nat) (PX : PxAll w t s f) (next : Nat) (l : List UInt8) (B : Option Addr) (bc : Nat) (h : Pr w t s next l B bc W) (root least : Nat) (own : Nat) (n : Nd) (hn : t.nodes[root]? = some n) (hown : jV n.op = own) (hw : own = 3 \/ own = 7) (hle : own < least) (hl8 : least <= 8) (hop : n.op = 8 \/ n.op = 7)
    (k : Int) (tl : List Int) (hkids : n.kids = k :: tl) (l' : List UInt8) (hk : exprP t.nodes f k own (putB (putB l [40]) (jE n.op)) = some l') (hl : (putB l' [41]).length <= LIMP) :
    Calls Tryz.prog 156 #[.pointer (some ⟨w.heap.size, 0, none⟩), iv (root : Int), iv (least : Int)] W (PrR w t s next (putB l' [41]) W) := by
  obtain ⟨x, b, o, hx, e, hA, hc, hrd, hkn⟩ := TN.at_ hn
  have hlt := (List.getElem?_eq_some_iff.1 hn).1
  have hlim := TN.cnt
  have hc6 := h.c6
  rw [hA] at hc6
  obtain ⟨⟨op, name, vk, vn, vt, vs, kids⟩, A, c, vA, vc⟩ := x
  subst e
  simp only at hkids hown hop hrd hk 
  subst hkids
  have hw' : ∀ i u, (ndC ⟨⟨op, name, vk, vn, vt, vs, k :: tl⟩, A, c, vA, vc⟩)[i]? = some u -> W.cell? ⟨b, o + (root * 7 + i), none⟩ = some u := fun i u hu => by
    have h1 := hc i u hu
    have hb := jk h1
    rw [World.cell?_of_block (h.kp.block b hb (fun e : w.heap.size <= b => by have : b < w.heap.size := hb; omega))]
    exact h1
  have c0 : W.cell? ⟨b, o + root * 7, none⟩ = some (.int .i64 op) := hw' 0 _ rfl
  have c1 : W.cell? ⟨b, o + root * 7 + 1, none⟩ = some (.string name) := hw' 1 _ rfl
  have c2 : W.cell? ⟨b, o + root * 7 + 2, none⟩ = some (.int .i64 vk) := hw' 2 _ rfl
  have c3 : W.cell? ⟨b, o + root * 7 + 3, none⟩ = some (.int .i64 vn) := hw' 3 _ rfl
  have c4 : W.cell? ⟨b, o + root * 7 + 4, none⟩ = some (.string vt) := hw' 4 _ rfl
  have c5 : W.cell? ⟨b, o + root * 7 + 5, none⟩ = some (.slice vA vs.length vc) := hw' 5 _ rfl
  have c6 : W.cell? ⟨b, o + root * 7 + 6, none⟩ = some (.slice A (tl.length + 1) c) := hw' 6 _ rfl
  have ho := (Kp.refl NoX W).alloc (.cells (ndC ⟨⟨op, name, vk, vn, vt, vs, k :: tl⟩, A, c, vA, vc⟩).toArray 46)
  have BN := jJ0 (Blk.new W 46 (ndC ⟨⟨op, name, vk, vn, vt, vs, k :: tl⟩, A, c, vA, vc⟩).toArray)
  have HF := jJ0 (FrP.of_old ho)
  have H0 := jJ0 (h.old ho)
  have HLv := jJ0 (fun W1 => vD W1 op)
  rw [hown] at HLv
  have gf : l'.length <= LIMP := Nat.le_trans (jT l' [41]).1 hl
  have g1 : (putB (putB l [40]) (jE op)).length <= LIMP := Nat.le_trans (jr _ f _ _ _ _ hk) gf
  have g0 : (putB l [40]).length <= LIMP := Nat.le_trans (jT _ _).1 g1
  have P0 := jJ0 (kA w _ t s next l B bc (h.old ho) (W.heap.size + 1) (by simp) [⟨#[40]⟩] g0 (show 1 <= 1000 by decide))
  have PZ := jJ0 (fun W1 B1 c1 Q (hp : Pr w t s next l' B1 c1 W1) (hb : Blk W1 Q 9 #[.string ⟨#[41]⟩]) => put_d w W1 t s next l' B1 c1 hp Q [⟨#[41]⟩] hb hl (show 1 <= 1000 by decide) .returning)
  have SP := jJ0 (fun W1 l1 B1 c1 (hp : Pr w t s next l1 B1 c1 W1) => kx W1 (hp.sg hg h80) op (by omega))
  have P1 := jJ0 (fun W1 B1 c1 Q (hp : Pr w t s next (putB l [40]) B1 c1 W1) (hQ : Q = W1.heap.size) => kA w W1 t s next (putB l [40]) B1 c1 hp Q hQ [⟨(jE op).toArray⟩] g1 (show 1 <= 1000 by decide))
  have EX1 := jJ0 (fun W1 B1 c1 (hp : Pr w t s next (putB (putB l [40]) (jE op)) B1 c1 W1) => PX.ex W1 next _ l' B1 c1 k own hp (by omega) hk gf)
  obtain ⟨kb, ko, u0, hKA, hu0, hkc0⟩ := hrd.at_ (k := 0) (Nat.succ_pos _)
  have e0 : iv k = u0 := by injection hu0
  subst e0
  subst hKA
  have KC0 := jJ0 (fun W1 l1 B1 c1 (hp : Pr w t s next l1 B1 c1 W1) => (show W1.cell? ⟨kb, ko, none⟩ = some (.int .i64 k) from by
    have hb := jk hkc0
    rw [World.cell?_of_block (hp.kp.block kb hb (fun e : w.heap.size <= kb => by have : kb < w.heap.size := hb; omega))]
    exact hkc0))
  have f1 : (0 : Int) <= (root : Int) := by omega
  have f2 : (root : Int).toNat = root := by omega
  have f3 : (root : Int) < (t.nodes.length : Int) := by omega
  have f4 : ((own : Int) : Int) < (least : Int) := by omega
  clear h hx hc hw' hrd hkn TN PX ho hn hlim hl hk hu0 hown gf hg h80 hop g1 hkc0 hle hl8 g0
  unfold ndC iv at *
  rcases hw with rfl | rfl
  all_goals
    go_enter_defers Tryz.func156, Tryz.ntmps156
    go_wp2_with (first | (go_at_call 156; refine (EX1.out _ _ _ H2.out).mono ?_; rintro e w4 ⟨rfl, B3, c3', hX, hf⟩; have H3 := jJ0 hX; have F3 := jJ0 (F2.out.trans hf); have G3 := jJ0 (G2.out.trans hf); clear hX hf) | (go_at_call 53; refine (P1.out _ _ _ _ H1'.out (by simp)).mono ?_; rintro e w3 ⟨rfl, B2, c2', hX, hf⟩; have H2 := jJ0 hX; have F2 := jJ0 (F1'.out.trans hf); have n6 := (F2.out.blk _ _ _ (by decide) (by decide) BN.out).at_ 6 (v := (.slice (some ⟨kb, ko, none⟩) (tl.length + 1) c)) rfl; have k0 := KC0.out _ _ _ _ hX; have G2 := jJ0 (hf); clear hX hf) | (go_at_call 53; refine P0.out.mono ?_; rintro e w2 ⟨rfl, B1, c1', hX, hf⟩; have H1 := jJ0 hX; have F1 := jJ0 (hf); have n0 := (F1.out.blk _ _ _ (by decide) (by decide) BN.out).at_ 0 (v := (.int .i64 op)) rfl; have BZ := jJ0 (Blk.new w2 9 #[.string ⟨#[41]⟩]); have HO1 := (Kp.refl NoX w2).alloc (.cells #[.string ⟨#[41]⟩] 9); have H1' := jJ0 (H1.out.old HO1); have F1' := jJ0 (F1.out.trans (FrP.of_old HO1)); clear HO1; have n0 := (F1'.out.blk _ _ _ (by decide) (by decide) BN.out).at_ 0 (v := (.int .i64 op)) rfl; clear hX hf) | (go_at_call 191; refine (HLv.out _).mono ?_; rintro e w1 ⟨rfl, rfl⟩) | (go_at_call 192; refine (SP.out _ _ _ _ H1'.out).mono ?_; rintro e ws ⟨rfl, rfl⟩) | fail)
    have BZ2 := jJ0 (G3.out.blk _ _ _ (by decide) (by decide) BZ.out)
    have HFin := jJ0 (HF.out.trans F3.out)
    refine leaves_cons (f := 53) (args := #[.pointer (some ⟨w.heap.size, 0, none⟩), .slice (some ⟨w2.heap.size, 0, none⟩) 1 1]) (by simp) (by simp [go_sem]) ?_
    refine (PZ.out _ _ _ _ H3.out BZ2.out).mono ?_
    rintro e u' w'' ⟨rfl, rfl, B9, c9, hX, hf⟩
    have HFn := jJ0 (show PrR w t s next (putB l' [41]) W (.returned (.tuple #[])) w'' from ⟨rfl, B9, c9, hX, HFin.out.trans hf⟩)
    clear hX hf
    simp [Leaves, settle, results, Tryz.results156, go_sem]
    exact HFn.out
theorem ex_ifb (w W : World) (t : Tre) (s : Sl) (ns : List MNd) (TN : TrN w t s ns) (f : Nat) (PX : PxAll w t s f) (next : Nat) (l : List UInt8) (B : Option Addr) (bc : Nat) (h : Pr w t s next l B bc W) (root least : Nat)  (n : Nd) (hn : t.nodes[root]? = some n) (hown : jV n.op = 0)  (hle : 0 < least) (hl8 : least <= 8) 
    (k q z : Int) (tl : List Int) (hkids : n.kids = k :: q :: z :: tl) (k0 : 0 <= k) (q0 : 0 <= q) (z0 : 0 <= z) (la lb l' : List UInt8) (hk : exprP t.nodes f k 0 (putB (putB l [40]) [105, 102]) = some la) (hq : exprP t.nodes f q 0 (putB la [116, 104, 101, 110]) = some lb) (hz : exprP t.nodes f z 0 (putB lb [101, 108, 115, 101]) = some l') (hl : (putB l' [41]).length <= LIMP) :
    Calls Tryz.prog 156 #[.pointer (some ⟨w.heap.size, 0, none⟩), iv (root : Int), iv (least : Int)] W (PrR w t s next (putB l' [41]) W) := by
  obtain ⟨x, b, o, hx, e, hA, hc, hrd, hkn⟩ := TN.at_ hn
  have hlt := (List.getElem?_eq_some_iff.1 hn).1
  have hlim := TN.cnt
  have hc6 := h.c6
  rw [hA] at hc6
  obtain ⟨⟨op, name, vk, vn, vt, vs, kids⟩, A, c, vA, vc⟩ := x
  subst e
  simp only at hkids hown hrd hk 
  subst hkids
  have hw' : ∀ i u, (ndC ⟨⟨op, name, vk, vn, vt, vs, k :: q :: z :: tl⟩, A, c, vA, vc⟩)[i]? = some u -> W.cell? ⟨b, o + (root * 7 + i), none⟩ = some u := fun i u hu => by
    have h1 := hc i u hu
    have hb := jk h1
    rw [World.cell?_of_block (h.kp.block b hb (fun e : w.heap.size <= b => by have : b < w.heap.size := hb; omega))]
    exact h1
  have c0 : W.cell? ⟨b, o + root * 7, none⟩ = some (.int .i64 op) := hw' 0 _ rfl
  have c1 : W.cell? ⟨b, o + root * 7 + 1, none⟩ = some (.string name) := hw' 1 _ rfl
  have c2 : W.cell? ⟨b, o + root * 7 + 2, none⟩ = some (.int .i64 vk) := hw' 2 _ rfl
  have c3 : W.cell? ⟨b, o + root * 7 + 3, none⟩ = some (.int .i64 vn) := hw' 3 _ rfl
  have c4 : W.cell? ⟨b, o + root * 7 + 4, none⟩ = some (.string vt) := hw' 4 _ rfl
  have c5 : W.cell? ⟨b, o + root * 7 + 5, none⟩ = some (.slice vA vs.length vc) := hw' 5 _ rfl
  have c6 : W.cell? ⟨b, o + root * 7 + 6, none⟩ = some (.slice A (tl.length + 1 + 1 + 1) c) := hw' 6 _ rfl
  have ho := (Kp.refl NoX W).alloc (.cells (ndC ⟨⟨op, name, vk, vn, vt, vs, k :: q :: z :: tl⟩, A, c, vA, vc⟩).toArray 46)
  have BN := jJ0 (Blk.new W 46 (ndC ⟨⟨op, name, vk, vn, vt, vs, k :: q :: z :: tl⟩, A, c, vA, vc⟩).toArray)
  have HF := jJ0 (FrP.of_old ho)
  have H0 := jJ0 (h.old ho)
  have HLv := jJ0 (fun W1 => vD W1 op)
  rw [hown] at HLv
  have gf : l'.length <= LIMP := Nat.le_trans (jT l' [41]).1 hl
  have g3 : (putB lb [101, 108, 115, 101]).length <= LIMP := Nat.le_trans (jr _ f _ _ _ _ hz) gf
  have gb : lb.length <= LIMP := Nat.le_trans (jT lb [101, 108, 115, 101]).1 g3
  have g2 : (putB la [116, 104, 101, 110]).length <= LIMP := Nat.le_trans (jr _ f _ _ _ _ hq) gb
  have ga : la.length <= LIMP := Nat.le_trans (jT la [116, 104, 101, 110]).1 g2
  have g1 : (putB (putB l [40]) [105, 102]).length <= LIMP := Nat.le_trans (jr _ f _ _ _ _ hk) ga
  have g0 : (putB l [40]).length <= LIMP := Nat.le_trans (jT _ _).1 g1
  have P0 := jJ0 (kA w _ t s next l B bc (h.old ho) (W.heap.size + 1) (by simp) [⟨#[40]⟩] g0 (show 1 <= 1000 by decide))
  have PZ := jJ0 (fun W1 B1 c1 Q (hp : Pr w t s next l' B1 c1 W1) (hb : Blk W1 Q 9 #[.string ⟨#[41]⟩]) => put_d w W1 t s next l' B1 c1 hp Q [⟨#[41]⟩] hb hl (show 1 <= 1000 by decide) .returning)
  have R1 := jJ0 (fun W1 B1 c1 Q (hp : Pr w t s next (putB l [40]) B1 c1 W1) (hQ : Q = W1.heap.size) => vv w W1 t s f PX next (putB l [40]) la B1 c1 hp Q hQ [⟨#[105, 102]⟩] k k0 hk g1 ga (show 1 <= 1000 by decide))
  have R2 := jJ0 (fun W1 B1 c1 Q (hp : Pr w t s next la B1 c1 W1) (hQ : Q = W1.heap.size) => vv w W1 t s f PX next la lb B1 c1 hp Q hQ [⟨#[116, 104, 101, 110]⟩] q q0 hq g2 gb (show 1 <= 1000 by decide))
  have R3 := jJ0 (fun W1 B1 c1 Q (hp : Pr w t s next lb B1 c1 W1) (hQ : Q = W1.heap.size) => vv w W1 t s f PX next lb l' B1 c1 hp Q hQ [⟨#[101, 108, 115, 101]⟩] z z0 hz g3 gf (show 1 <= 1000 by decide))
  obtain ⟨kb, ko, u0, hKA, hu0, hkc0⟩ := hrd.at_ (k := 0) (Nat.succ_pos _)
  have e0 : iv k = u0 := by injection hu0
  subst e0
  subst hKA
  have KC0 := jJ0 (fun W1 l1 B1 c1 (hp : Pr w t s next l1 B1 c1 W1) => (show W1.cell? ⟨kb, ko, none⟩ = some (.int .i64 k) from by
    have hb := jk hkc0
    rw [World.cell?_of_block (hp.kp.block kb hb (fun e : w.heap.size <= kb => by have : kb < w.heap.size := hb; omega))]
    exact hkc0))
  have hkc1 : w.cell? ⟨kb, ko + 1, none⟩ = some (iv q) := by
    obtain ⟨b2, o2, hb2, hc2⟩ := hrd.2 (Nat.succ_pos _)
    have eb := Option.some.inj hb2
    have e1 : kb = b2 := congrArg Addr.block eb
    have e2 : ko = o2 := congrArg Addr.off eb
    rw [e1, e2]
    exact hc2 1 _ rfl
  have KC1 := jJ0 (fun W1 l1 B1 c1 (hp : Pr w t s next l1 B1 c1 W1) => (show W1.cell? ⟨kb, ko + 1, none⟩ = some (.int .i64 q) from by
    have hb := jk hkc1
    rw [World.cell?_of_block (hp.kp.block kb hb (fun e : w.heap.size <= kb => by have : kb < w.heap.size := hb; omega))]
    exact hkc1))
  have hkc2 : w.cell? ⟨kb, ko + 2, none⟩ = some (iv z) := by
    obtain ⟨b2, o2, hb2, hc2⟩ := hrd.2 (Nat.succ_pos _)
    have eb := Option.some.inj hb2
    have e1 : kb = b2 := congrArg Addr.block eb
    have e2 : ko = o2 := congrArg Addr.off eb
    rw [e1, e2]
    exact hc2 2 _ rfl
  have KC2 := jJ0 (fun W1 l1 B1 c1 (hp : Pr w t s next l1 B1 c1 W1) => (show W1.cell? ⟨kb, ko + 2, none⟩ = some (.int .i64 z) from by
    have hb := jk hkc2
    rw [World.cell?_of_block (hp.kp.block kb hb (fun e : w.heap.size <= kb => by have : kb < w.heap.size := hb; omega))]
    exact hkc2))
  have f1 : (0 : Int) <= (root : Int) := by omega
  have f2 : (root : Int).toNat = root := by omega
  have f3 : (root : Int) < (t.nodes.length : Int) := by omega
  have f4 : (0 : Int) < (least : Int) := by omega
  clear h hx hc hw' hrd hkn TN PX ho hn hlim hl hk hu0 hown gf hq hz g1 g2 g3 ga gb k0 q0 z0 hkc0 hkc1 hkc2 hle hl8 g0
  unfold ndC iv at *
  go_enter_defers Tryz.func156, Tryz.ntmps156
  go_wp2_with (first | (go_at_call 118; refine (R3.out _ _ _ _ H3.out (by simp)).mono ?_; rintro e w5 ⟨rfl, B4, c4', hX, hf⟩; have H4 := jJ0 hX; have F4 := jJ0 (F3.out.trans hf); have G4 := jJ0 (G3.out.trans hf); clear hX hf) | (go_at_call 118; refine (R2.out _ _ _ _ H2.out (by simp)).mono ?_; rintro e w4 ⟨rfl, B3, c3', hX, hf⟩; have H3 := jJ0 hX; have F3 := jJ0 (F2.out.trans hf); have n6 := (F3.out.blk _ _ _ (by decide) (by decide) BN.out).at_ 6 (v := (.slice (some ⟨kb, ko, none⟩) (tl.length + 1 + 1 + 1) c)) rfl; have k2 := KC2.out _ _ _ _ hX; have G3 := jJ0 (G2.out.trans hf); clear hX hf) | (go_at_call 118; refine (R1.out _ _ _ _ H1'.out (by simp)).mono ?_; rintro e w3 ⟨rfl, B2, c2', hX, hf⟩; have H2 := jJ0 hX; have F2 := jJ0 (F1'.out.trans hf); have n6 := (F2.out.blk _ _ _ (by decide) (by decide) BN.out).at_ 6 (v := (.slice (some ⟨kb, ko, none⟩) (tl.length + 1 + 1 + 1) c)) rfl; have k1 := KC1.out _ _ _ _ hX; have G2 := jJ0 (hf); clear hX hf) | (go_at_call 53; refine P0.out.mono ?_; rintro e w2 ⟨rfl, B1, c1', hX, hf⟩; have H1 := jJ0 hX; have F1 := jJ0 (hf); have n6 := (F1.out.blk _ _ _ (by decide) (by decide) BN.out).at_ 6 (v := (.slice (some ⟨kb, ko, none⟩) (tl.length + 1 + 1 + 1) c)) rfl; have k0 := KC0.out _ _ _ _ hX; have BZ := jJ0 (Blk.new w2 9 #[.string ⟨#[41]⟩]); have HO1 := (Kp.refl NoX w2).alloc (.cells #[.string ⟨#[41]⟩] 9); have H1' := jJ0 (H1.out.old HO1); have F1' := jJ0 (F1.out.trans (FrP.of_old HO1)); clear HO1; have n6 := (F1'.out.blk _ _ _ (by decide) (by decide) BN.out).at_ 6 (v := (.slice (some ⟨kb, ko, none⟩) (tl.length + 1 + 1 + 1) c)) rfl; have k0 := KC0.out _ _ _ _ H1'.out; clear hX hf) | (go_at_call 191; refine (HLv.out _).mono ?_; rintro e w1 ⟨rfl, rfl⟩) | fail)
  have BZ2 := jJ0 (G4.out.blk _ _ _ (by decide) (by decide) BZ.out)
  have HFin := jJ0 (HF.out.trans F4.out)
  refine leaves_cons (f := 53) (args := #[.pointer (some ⟨w.heap.size, 0, none⟩), .slice (some ⟨w2.heap.size, 0, none⟩) 1 1]) (by simp) (by simp [go_sem]) ?_
  refine (PZ.out _ _ _ _ H4.out BZ2.out).mono ?_
  rintro e u' w'' ⟨rfl, rfl, B9, c9, hX, hf⟩
  have HFn := jJ0 (show PrR w t s next (putB l' [41]) W (.returned (.tuple #[])) w'' from ⟨rfl, B9, c9, hX, HFin.out.trans hf⟩)
  clear hX hf
  simp [Leaves, settle, results, Tryz.results156, go_sem]
  exact HFn.out
theorem ex_twob (w W : World) (hg : Sg w) (h80 : 8 <= w.heap.size) (t : Tre) (s : Sl) (ns : List MNd) (TN : TrN w t s ns) (f : Nat) (PX : PxAll w t s f) (next : Nat) (l : List UInt8) (B : Option Addr) (bc : Nat) (h : Pr w t s next l B bc W) (root least : Nat) (own own1 : Nat) (n : Nd) (hn : t.nodes[root]? = some n) (hown : jV n.op = own) (hw : own = 1 /\ own1 = 2 \/ own = 2 /\ own1 = 3 \/ own = 5 /\ own1 = 6 \/ own = 6 /\ own1 = 7) (hle : own < least) (hl8 : least <= 8) (hop : 7 <= n.op /\ n.op <= 33 /\ n.op ≠ 23)
    (k q : Int) (tl : List Int) (hkids : n.kids = k :: q :: tl) (lm l' : List UInt8) (hk : exprP t.nodes f k own (putB l [40]) = some lm) (hq : exprP t.nodes f q own1 (putB lm (jE n.op)) = some l') (hl : (putB l' [41]).length <= LIMP) :
    Calls Tryz.prog 156 #[.pointer (some ⟨w.heap.size, 0, none⟩), iv (root : Int), iv (least : Int)] W (PrR w t s next (putB l' [41]) W) := by
  obtain ⟨x, b, o, hx, e, hA, hc, hrd, hkn⟩ := TN.at_ hn
  have hlt := (List.getElem?_eq_some_iff.1 hn).1
  have hlim := TN.cnt
  have hc6 := h.c6
  rw [hA] at hc6
  obtain ⟨⟨op, name, vk, vn, vt, vs, kids⟩, A, c, vA, vc⟩ := x
  subst e
  simp only at hkids hown hop hrd hk hq
  subst hkids
  have hw' : ∀ i u, (ndC ⟨⟨op, name, vk, vn, vt, vs, k :: q :: tl⟩, A, c, vA, vc⟩)[i]? = some u -> W.cell? ⟨b, o + (root * 7 + i), none⟩ = some u := fun i u hu => by
    have h1 := hc i u hu
    have hb := jk h1
    rw [World.cell?_of_block (h.kp.block b hb (fun e : w.heap.size <= b => by have : b < w.heap.size := hb; omega))]
    exact h1
  have c0 : W.cell? ⟨b, o + root * 7, none⟩ = some (.int .i64 op) := hw' 0 _ rfl
  have c1 : W.cell? ⟨b, o + root * 7 + 1, none⟩ = some (.string name) := hw' 1 _ rfl
  have c2 : W.cell? ⟨b, o + root * 7 + 2, none⟩ = some (.int .i64 vk) := hw' 2 _ rfl
  have c3 : W.cell? ⟨b, o + root * 7 + 3, none⟩ = some (.int .i64 vn) := hw' 3 _ rfl
  have c4 : W.cell? ⟨b, o + root * 7 + 4, none⟩ = some (.string vt) := hw' 4 _ rfl
  have c5 : W.cell? ⟨b, o + root * 7 + 5, none⟩ = some (.slice vA vs.length vc) := hw' 5 _ rfl
  have c6 : W.cell? ⟨b, o + root * 7 + 6, none⟩ = some (.slice A (tl.length + 1 + 1) c) := hw' 6 _ rfl
  have ho := (Kp.refl NoX W).alloc (.cells (ndC ⟨⟨op, name, vk, vn, vt, vs, k :: q :: tl⟩, A, c, vA, vc⟩).toArray 46)
  have BN := jJ0 (Blk.new W 46 (ndC ⟨⟨op, name, vk, vn, vt, vs, k :: q :: tl⟩, A, c, vA, vc⟩).toArray)
  have HF := jJ0 (FrP.of_old ho)
  have H0 := jJ0 (h.old ho)
  have HLv := jJ0 (fun W1 => vD W1 op)
  rw [hown] at HLv
  have gf : l'.length <= LIMP := Nat.le_trans (jT l' [41]).1 hl
  have g2 : (putB lm (jE op)).length <= LIMP := Nat.le_trans (jr _ f _ _ _ _ hq) gf
  have gm : lm.length <= LIMP := Nat.le_trans (jT lm (jE op)).1 g2
  have g0 : (putB l [40]).length <= LIMP := Nat.le_trans (jr _ f _ _ _ _ hk) gm
  have P0 := jJ0 (kA w _ t s next l B bc (h.old ho) (W.heap.size + 1) (by simp) [⟨#[40]⟩] g0 (show 1 <= 1000 by decide))
  have PZ := jJ0 (fun W1 B1 c1 Q (hp : Pr w t s next l' B1 c1 W1) (hb : Blk W1 Q 9 #[.string ⟨#[41]⟩]) => put_d w W1 t s next l' B1 c1 hp Q [⟨#[41]⟩] hb hl (show 1 <= 1000 by decide) .returning)
  have SP := jJ0 (fun W1 l1 B1 c1 (hp : Pr w t s next l1 B1 c1 W1) => kx W1 (hp.sg hg h80) op (by omega))
  have P1 := jJ0 (fun W1 B1 c1 Q (hp : Pr w t s next lm B1 c1 W1) (hQ : Q = W1.heap.size) => kA w W1 t s next lm B1 c1 hp Q hQ [⟨(jE op).toArray⟩] g2 (show 1 <= 1000 by decide))
  have EX1 := jJ0 (fun W1 B1 c1 (hp : Pr w t s next (putB l [40]) B1 c1 W1) => PX.ex W1 next _ lm B1 c1 k own hp (by omega) hk gm)
  have EX2 := jJ0 (fun W1 B1 c1 (hp : Pr w t s next (putB lm (jE op)) B1 c1 W1) => PX.ex W1 next _ l' B1 c1 q own1 hp (by omega) hq gf)
  obtain ⟨kb, ko, u0, hKA, hu0, hkc0⟩ := hrd.at_ (k := 0) (Nat.succ_pos _)
  have e0 : iv k = u0 := by injection hu0
  subst e0
  subst hKA
  have KC0 := jJ0 (fun W1 l1 B1 c1 (hp : Pr w t s next l1 B1 c1 W1) => (show W1.cell? ⟨kb, ko, none⟩ = some (.int .i64 k) from by
    have hb := jk hkc0
    rw [World.cell?_of_block (hp.kp.block kb hb (fun e : w.heap.size <= kb => by have : kb < w.heap.size := hb; omega))]
    exact hkc0))
  have hkc1 : w.cell? ⟨kb, ko + 1, none⟩ = some (iv q) := by
    obtain ⟨b2, o2, hb2, hc2⟩ := hrd.2 (Nat.succ_pos _)
    have eb := Option.some.inj hb2
    have e1 : kb = b2 := congrArg Addr.block eb
    have e2 : ko = o2 := congrArg Addr.off eb
    rw [e1, e2]
    exact hc2 1 _ rfl
  have KC1 := jJ0 (fun W1 l1 B1 c1 (hp : Pr w t s next l1 B1 c1 W1) => (show W1.cell? ⟨kb, ko + 1, none⟩ = some (.int .i64 q) from by
    have hb := jk hkc1
    rw [World.cell?_of_block (hp.kp.block kb hb (fun e : w.heap.size <= kb => by have : kb < w.heap.size := hb; omega))]
    exact hkc1))
  have f1 : (0 : Int) <= (root : Int) := by omega
  have f2 : (root : Int).toNat = root := by omega
  have f3 : (root : Int) < (t.nodes.length : Int) := by omega
  have f4 : ((own : Int) : Int) < (least : Int) := by omega
  clear h hx hc hw' hrd hkn TN PX ho hn hlim hl hk hu0 hown gf hg h80 hop hq g2 gm hkc0 hkc1 hle hl8 g0
  unfold ndC iv at *
  rcases hw with ⟨rfl, rfl⟩ | ⟨rfl, rfl⟩ | ⟨rfl, rfl⟩ | ⟨rfl, rfl⟩
  all_goals
    go_enter_defers Tryz.func156, Tryz.ntmps156
    go_wp2_with (first | (go_at_call 156; refine (EX2.out _ _ _ H3.out).mono ?_; rintro e w5 ⟨rfl, B4, c4', hX, hf⟩; have H4 := jJ0 hX; have F4 := jJ0 (F3.out.trans hf); have G4 := jJ0 (G3.out.trans hf); clear hX hf) | (go_at_call 53; refine (P1.out _ _ _ _ H2.out (by simp)).mono ?_; rintro e w4 ⟨rfl, B3, c3', hX, hf⟩; have H3 := jJ0 hX; have F3 := jJ0 (F2.out.trans hf); have n6 := (F3.out.blk _ _ _ (by decide) (by decide) BN.out).at_ 6 (v := (.slice (some ⟨kb, ko, none⟩) (tl.length + 1 + 1) c)) rfl; have k1 := KC1.out _ _ _ _ hX; have G3 := jJ0 (G2.out.trans hf); clear hX hf) | (go_at_call 156; refine (EX1.out _ _ _ H1'.out).mono ?_; rintro e w3 ⟨rfl, B2, c2', hX, hf⟩; have H2 := jJ0 hX; have F2 := jJ0 (F1'.out.trans hf); have n0 := (F2.out.blk _ _ _ (by decide) (by decide) BN.out).at_ 0 (v := (.int .i64 op)) rfl; have G2 := jJ0 (hf); clear hX hf) | (go_at_call 53; refine P0.out.mono ?_; rintro e w2 ⟨rfl, B1, c1', hX, hf⟩; have H1 := jJ0 hX; have F1 := jJ0 (hf); have n6 := (F1.out.blk _ _ _ (by decide) (by decide) BN.out).at_ 6 (v := (.slice (some ⟨kb, ko, none⟩) (tl.length + 1 + 1) c)) rfl; have k0 := KC0.out _ _ _ _ hX; have BZ := jJ0 (Blk.new w2 9 #[.string ⟨#[41]⟩]); have HO1 := (Kp.refl NoX w2).alloc (.cells #[.string ⟨#[41]⟩] 9); have H1' := jJ0 (H1.out.old HO1); have F1' := jJ0 (F1.out.trans (FrP.of_old HO1)); clear HO1; have n6 := (F1'.out.blk _ _ _ (by decide) (by decide) BN.out).at_ 6 (v := (.slice (some ⟨kb, ko, none⟩) (tl.length + 1 + 1) c)) rfl; have k0 := KC0.out _ _ _ _ H1'.out; clear hX hf) | (go_at_call 191; refine (HLv.out _).mono ?_; rintro e w1 ⟨rfl, rfl⟩) | (go_at_call 192; refine (SP.out _ _ _ _ H2.out).mono ?_; rintro e ws ⟨rfl, rfl⟩) | fail)
    have BZ2 := jJ0 (G4.out.blk _ _ _ (by decide) (by decide) BZ.out)
    have HFin := jJ0 (HF.out.trans F4.out)
    refine leaves_cons (f := 53) (args := #[.pointer (some ⟨w.heap.size, 0, none⟩), .slice (some ⟨w2.heap.size, 0, none⟩) 1 1]) (by simp) (by simp [go_sem]) ?_
    refine (PZ.out _ _ _ _ H4.out BZ2.out).mono ?_
    rintro e u' w'' ⟨rfl, rfl, B9, c9, hX, hf⟩
    have HFn := jJ0 (show PrR w t s next (putB l' [41]) W (.returned (.tuple #[])) w'' from ⟨rfl, B9, c9, hX, HFin.out.trans hf⟩)
    clear hX hf
    simp [Leaves, settle, results, Tryz.results156, go_sem]
    exact HFn.out
end Go.Proofs.YtmmjcbbogokmfaaGreatDoor
