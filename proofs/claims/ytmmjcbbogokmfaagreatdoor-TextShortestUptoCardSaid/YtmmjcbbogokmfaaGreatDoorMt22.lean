import Derived.Test.YtmmjcbbogokmfaaGreatDoorMt01
import Derived.Test.YtmmjcbbogokmfaaGreatDoorMt21
set_option maxRecDepth 100000
set_option maxHeartbeats 25600000
namespace Go.Proofs.YtmmjcbbogokmfaaGreatDoor
open Go.RowKit
theorem list_print (w W : World) (t : Tre) (s : Sl) (f : Nat) (PX : PxAll w t s f) (next : Nat) (l l' : List UInt8) (B : Option Addr) (bc : Nat) (h : Pr w t s next l B bc W) (A : Option Addr) (c : Nat) (kids : List Int) (hr : Rd w 1 A kids.length (kids.map iv)) (hn : kids.length <= 1000000000)
    (hk : exprP.listP (exprP t.nodes f) kids 0 l = some l') (hl : l'.length <= LIMP) :
    Calls Tryz.prog 223 #[.pointer (some ⟨w.heap.size, 0, none⟩), .slice A kids.length c] W (PrR w t s next l' W) := by
  have H0 := jJ0 h
  have HR := jJ0 hr
  have HK := jJ0 hk
  have HL := jJ0 hl
  have HX := jJ0 PX
  clear h hr hk hl PX
  go_enter Tryz.func223, Tryz.ntmps223
  go_wp2
  go_loopw [8] (fun i wr => ∃ (j : Nat) (l1 : List UInt8) (B1 : Option Addr) (c1 : Nat), j <= kids.length /\ i = .int .i64 (j : Int) /\ exprP.listP (exprP t.nodes f) (kids.drop j) j l1 = some l' /\ Pr w t s next l1 B1 c1 wr /\ FrP W wr) (fun i _ => kids.length - (intOf i).toNat)
  case atStart => exact ⟨0, l, B, bc, Nat.zero_le _, rfl, HK.out, H0.out, FrP.refl _⟩
  case round =>
    clear H0
    obtain ⟨j, l1, B1, c1, hj, rfl, heq, hp, hf⟩ := hrel
    have Hp := jJ0 hp
    have Hf := jJ0 hf
    by_cases hlt : j < kids.length
    · have hd : kids.drop j = kids[j] :: kids.drop (j + 1) := List.drop_eq_getElem_cons hlt
      obtain ⟨b, o, u, hA, hu, hc⟩ := HR.out.at_ hlt
      have hu2 : iv kids[j] = u := by rw [List.getElem?_map, List.getElem?_eq_getElem hlt] at hu; injection hu
      subst hu2
      subst hA
      have hcw : wr.cell? ⟨b, o + j, none⟩ = some (.int .i64 kids[j]) := by
        have hlt2 := jk hc
        rw [World.cell?_of_block (hp.kp.block b hlt2 (fun e : w.heap.size <= b => by have : b < w.heap.size := hlt2; omega))]
        exact hc
      rw [hd, exprP.listP] at heq
      obtain ⟨l2, h2, h3⟩ := Option.bind_eq_some_iff.1 heq
      have E3 := jJ0 h3
      have hl2 : l2.length <= LIMP := Nat.le_trans (listP_len _ (fun k m b b' h => jr _ f k m b b' h) _ _ _ _ h3) HL.out
      have hl1 := jr _ f _ _ _ _ h2
      generalize kids[j] = k at *
      have b1 : (0 : Int) <= (j : Int) := by omega
      have b2 : (j : Int).toNat = j := by omega
      have b3 : (j : Int) < (kids.length : Int) := by omega
      have b4 : IntKind.i64.wrap ((j : Int) + 1) = (j : Int) + 1 := IntWalk.i64_in _ (by omega)
      have HC := jJ0 (fun W1 B2 c2 l0 (h1 : Pr w t s next l0 B2 c2 W1) (h2 : exprP t.nodes f k 0 l0 = some l2) => HX.out.ex W1 next l0 l2 B2 c2 k 0 h1 (by decide) h2 hl2)
      unfold iv at HC
      clear heq h3 hd hu hc hf
      by_cases h0 : 0 < j
      · rw [if_pos h0] at h2 hl1
        have HPt := jJ0 (put_new w wr t s next l1 B1 c1 hp [⟨#[44]⟩] (Nat.le_trans hl1 hl2) (show 1 <= 1000 by decide))
        have E2 := jJ0 h2
        have b5 : (0 : Int) < (j : Int) := by omega
        clear hp h2 hl1 hl2 h0
        go_wp2_with (first | (go_at_call 53; refine HPt.out.mono ?_; rintro e w1 ⟨rfl, B2, c2, hX, hg⟩; have H1 := jJ0 hX; have F1 := jJ0 hg; clear hX hg) | (go_at_call 156; refine (HC.out _ _ _ _ H1.out E2.out).mono ?_; rintro e w2 ⟨rfl, B3, c3, hX, hg⟩; have H2 := jJ0 hX; have F2 := jJ0 hg; clear hX hg) | fail)
        exact ⟨⟨j + 1, l2, B3, c3, by omega, by rw [show ((j + 1 : Nat) : Int) = (j : Int) + 1 by omega], E3.out, H2.out, (Hf.out.trans F1.out).trans F2.out⟩, by simp only [intOf]; omega⟩
      · rw [if_neg h0] at h2
        have E2 := jJ0 h2
        have b5 : ¬ (0 : Int) < (j : Int) := by omega
        clear hp h2 hl1 hl2 h0
        go_wp2_with (first | (go_at_call 156; refine (HC.out _ _ _ _ Hp.out E2.out).mono ?_; rintro e w2 ⟨rfl, B3, c3, hX, hg⟩; have H2 := jJ0 hX; have F2 := jJ0 hg; clear hX hg) | fail)
        exact ⟨⟨j + 1, l2, B3, c3, by omega, by rw [show ((j + 1 : Nat) : Int) = (j : Int) + 1 by omega], E3.out, H2.out, Hf.out.trans F2.out⟩, by simp only [intOf]; omega⟩
    · obtain rfl : j = kids.length := by omega
      rw [List.drop_length, exprP.listP] at heq
      injection heq with heq
      subst heq
      clear hp hf
      go_wp2
      go_end0
      exact ⟨rfl, B1, c1, Hp.out, Hf.out⟩
theorem small12 (w : World) : Calls Tryz.prog 247 #[.int .i64 12] w fun e w' => e = .returned (.string ⟨#[49, 50]⟩) /\ w = w' := by
  go_enter Tryz.func247, Tryz.ntmps247
  go_wp2
  go_ret
  exact ⟨by kernel_rfl, rfl⟩
theorem format12 (w : World) : Calls Tryz.prog 242 #[.int .i64 12, .int .i64 10] w fun e w' => e = .returned (.string ⟨#[49, 50]⟩) /\ w = w' := by
  go_enter Tryz.func242, Tryz.ntmps242
  go_wp2_with (first | (go_at_call 247; refine (small12 _).mono ?_; rintro e w1 ⟨rfl, rfl⟩) | fail)
  go_ret
  exact ⟨rfl, rfl⟩
theorem itoaI12 (w : World) : Calls Tryz.prog 235 #[.int .i64 12] w fun e w' => e = .returned (.string ⟨#[49, 50]⟩) /\ w = w' := by
  go_enter Tryz.func235, Tryz.ntmps235
  go_wp2_with (first | (go_at_call 242; refine (format12 _).mono ?_; rintro e w1 ⟨rfl, rfl⟩) | fail)
  go_ret
  exact ⟨rfl, rfl⟩
theorem itoa12 (w : World) : Calls Tryz.prog 221 #[.int .i64 12] w fun e w' => e = .returned (.string ⟨#[49, 50]⟩) /\ w = w' := by
  go_enter Tryz.func221, Tryz.ntmps221
  go_wp2_with (first | (go_at_call 235; refine (itoaI12 _).mono ?_; rintro e w1 ⟨rfl, rfl⟩) | fail)
  go_ret
  exact ⟨rfl, rfl⟩
def atomP (ns : List Nd) (f : Nat) (n : Nd) (b0 : List UInt8) : Option (List UInt8) :=
  if n.op = 1 then some (putB b0 (numB n.vn))
  else if n.op = 2 then some (putB b0 (if n.vn = 1 then [116, 114, 117, 101] else [102, 97, 108, 115, 101]))
  else if n.op = 3 then some (putB b0 (quotedB (tb n.vt)))
  else if n.op = 5 then some (putB b0 (tb n.name))
  else if n.op = 4 then some (putB b0 [110, 111, 116, 104, 105, 110, 103])
  else if n.op = 6 then (exprP.listP (exprP ns f) n.kids 0 (putB b0 [123])).map fun b1 => putB b1 [125]
  else (exprP.listP (exprP ns f) n.kids 0 (let b1 := putB (putB b0 (jE n.op)) [40]; if n.name.size = 0 then b1 else putB b1 (tb n.name))).map fun b1 => putB b1 [41]
theorem kA (w W : World) (t : Tre) (s : Sl) (next : Nat) (l : List UInt8) (B : Option Addr) (bc : Nat) (h : Pr w t s next l B bc W) (k : Nat) (hk : k = W.heap.size) (ws : List ByteArray) (hl : (jp l (ws.map sb)).length <= LIMP) (hws : ws.length <= 1000) :
    Calls Tryz.prog 53 #[.pointer (some ⟨w.heap.size, 0, none⟩), .slice (some ⟨k, 0, none⟩) ws.length ws.length] (W.alloc (.cells (ws.map sv).toArray 9)) (PrR w t s next (jp l (ws.map sb)) W) := hk ▸ put_new w W t s next l B bc h ws hl hws
theorem num12 : numB 12 = [49, 50] := by decide +kernel
theorem atomw1 (w W : World) (t : Tre) (s : Sl) (f : Nat) (next : Nat) (l l' : List UInt8) (B : Option Addr) (bc : Nat) (h : Pr w t s next l B bc W) (x : MNd) (hop : x.n.op = 1) (hv : x.n.vn = 12) (hk : atomP t.nodes f x.n l = some l') (hl : l'.length <= LIMP) :
    Calls Tryz.prog 193 #[.pointer (some ⟨w.heap.size, 0, none⟩), .agg (ndC x).toArray] W (PrR w t s next l' W) := by
  unfold atomP at hk
  obtain ⟨⟨op, name, vk, vn, vt, vs, kids⟩, A, c, vA, vc⟩ := x
  simp only at hop hv hk
  subst hop
  subst hv
  rw [if_pos rfl] at hk
  injection hk with hk
  rw [num12] at hk
  have ho := (Kp.refl NoX W).alloc (.cells (ndC ⟨⟨1, name, vk, 12, vt, vs, kids⟩, A, c, vA, vc⟩).toArray 46)
  have HP := jJ0 (kA w _ t s next l B bc (h.old ho) (W.heap.size + 1) (by simp) [⟨#[49, 50]⟩] (show (jp l (([⟨#[49, 50]⟩] : List ByteArray).map sb)).length <= LIMP from by show (putB l _).length <= LIMP; exact (congrArg List.length hk).symm ▸ hl) (show 1 <= 1000 by decide))
  have HF := jJ0 (FrP.of_old ho)
  have Hk := jJ0 (show jp l (([⟨#[49, 50]⟩] : List ByteArray).map sb) = l' from hk)
  rw [Hk.out] at HP
  clear h hk hl ho
  unfold ndC iv at *
  go_enter Tryz.func193, Tryz.ntmps193
  go_wp2_with (first | (go_at_call 221; refine (itoa12 _).mono ?_; rintro e w1 ⟨rfl, rfl⟩) | (go_at_call 53; refine HP.out.mono ?_; rintro e w2 ⟨rfl, B2, c2, hX, hf⟩) | fail)
  go_end0
  exact ⟨rfl, B2, c2, hX, HF.out.trans hf⟩
theorem atomw2a (w W : World) (hg : Sg W) (t : Tre) (s : Sl) (f : Nat) (next : Nat) (l l' : List UInt8) (B : Option Addr) (bc : Nat) (h : Pr w t s next l B bc W) (x : MNd) (hop : x.n.op = 2) (hv : x.n.vn = 1) (hk : atomP t.nodes f x.n l = some l') (hl : l'.length <= LIMP) :
    Calls Tryz.prog 193 #[.pointer (some ⟨w.heap.size, 0, none⟩), .agg (ndC x).toArray] W (PrR w t s next l' W) := by
  unfold atomP at hk
  obtain ⟨⟨op, name, vk, vn, vt, vs, kids⟩, A, c, vA, vc⟩ := x
  simp only at hop hv hk
  subst hop
  subst hv
  rw [if_neg (by decide), if_pos rfl] at hk
  injection hk with hk
  rw [if_pos rfl] at hk
  have ho := (Kp.refl NoX W).alloc (.cells (ndC ⟨⟨2, name, vk, 1, vt, vs, kids⟩, A, c, vA, vc⟩).toArray 46)
  have HP := jJ0 (kA w _ t s next l B bc (h.old ho) (W.heap.size + 1) (by simp) [⟨#[116, 114, 117, 101]⟩] (show (jp l (([⟨#[116, 114, 117, 101]⟩] : List ByteArray).map sb)).length <= LIMP from by show (putB l _).length <= LIMP; exact (congrArg List.length hk).symm ▸ hl) (show 1 <= 1000 by decide))
  have HF := jJ0 (FrP.of_old ho)
  have Hk := jJ0 (show jp l (([⟨#[116, 114, 117, 101]⟩] : List ByteArray).map sb) = l' from hk)
  rw [Hk.out] at HP
  have hr0 : W.cell? ⟨0, 23, none⟩ = some (.string ⟨#[116, 114, 117, 101]⟩) := hg.res 23 _ rfl
  have hr1 : W.cell? ⟨0, 24, none⟩ = some (.string ⟨#[102, 97, 108, 115, 101]⟩) := hg.res 24 _ rfl
  have h00 : 0 < W.heap.size := jk hr0
  clear h hk hl ho hg
  unfold ndC iv at *
  go_enter Tryz.func193, Tryz.ntmps193
  go_wp2_with (first | (go_at_call 53; refine HP.out.mono ?_; rintro e w2 ⟨rfl, B2, c2, hX, hf⟩) | fail)
  go_end0
  exact ⟨rfl, B2, c2, hX, HF.out.trans hf⟩
theorem atomw2b (w W : World) (hg : Sg W) (t : Tre) (s : Sl) (f : Nat) (next : Nat) (l l' : List UInt8) (B : Option Addr) (bc : Nat) (h : Pr w t s next l B bc W) (x : MNd) (hop : x.n.op = 2) (hv : x.n.vn = 0) (hk : atomP t.nodes f x.n l = some l') (hl : l'.length <= LIMP) :
    Calls Tryz.prog 193 #[.pointer (some ⟨w.heap.size, 0, none⟩), .agg (ndC x).toArray] W (PrR w t s next l' W) := by
  unfold atomP at hk
  obtain ⟨⟨op, name, vk, vn, vt, vs, kids⟩, A, c, vA, vc⟩ := x
  simp only at hop hv hk
  subst hop
  subst hv
  rw [if_neg (by decide), if_pos rfl] at hk
  injection hk with hk
  rw [if_neg (by decide)] at hk
  have ho := (Kp.refl NoX W).alloc (.cells (ndC ⟨⟨2, name, vk, 0, vt, vs, kids⟩, A, c, vA, vc⟩).toArray 46)
  have HP := jJ0 (kA w _ t s next l B bc (h.old ho) (W.heap.size + 1) (by simp) [⟨#[102, 97, 108, 115, 101]⟩] (show (jp l (([⟨#[102, 97, 108, 115, 101]⟩] : List ByteArray).map sb)).length <= LIMP from by show (putB l _).length <= LIMP; exact (congrArg List.length hk).symm ▸ hl) (show 1 <= 1000 by decide))
  have HF := jJ0 (FrP.of_old ho)
  have Hk := jJ0 (show jp l (([⟨#[102, 97, 108, 115, 101]⟩] : List ByteArray).map sb) = l' from hk)
  rw [Hk.out] at HP
  have hr0 : W.cell? ⟨0, 23, none⟩ = some (.string ⟨#[116, 114, 117, 101]⟩) := hg.res 23 _ rfl
  have hr1 : W.cell? ⟨0, 24, none⟩ = some (.string ⟨#[102, 97, 108, 115, 101]⟩) := hg.res 24 _ rfl
  have h00 : 0 < W.heap.size := jk hr0
  clear h hk hl ho hg
  unfold ndC iv at *
  go_enter Tryz.func193, Tryz.ntmps193
  go_wp2_with (first | (go_at_call 53; refine HP.out.mono ?_; rintro e w2 ⟨rfl, B2, c2, hX, hf⟩) | fail)
  go_end0
  exact ⟨rfl, B2, c2, hX, HF.out.trans hf⟩
theorem atomw4 (w W : World) (t : Tre) (s : Sl) (f : Nat) (next : Nat) (l l' : List UInt8) (B : Option Addr) (bc : Nat) (h : Pr w t s next l B bc W) (x : MNd) (hop : x.n.op = 4) (hk : atomP t.nodes f x.n l = some l') (hl : l'.length <= LIMP) :
    Calls Tryz.prog 193 #[.pointer (some ⟨w.heap.size, 0, none⟩), .agg (ndC x).toArray] W (PrR w t s next l' W) := by
  unfold atomP at hk
  obtain ⟨⟨op, name, vk, vn, vt, vs, kids⟩, A, c, vA, vc⟩ := x
  simp only at hop hk
  subst hop
  rw [if_neg (by decide), if_neg (by decide), if_neg (by decide), if_neg (by decide), if_pos rfl] at hk
  injection hk with hk
  have ho := (Kp.refl NoX W).alloc (.cells (ndC ⟨⟨4, name, vk, vn, vt, vs, kids⟩, A, c, vA, vc⟩).toArray 46)
  have HP := jJ0 (kA w _ t s next l B bc (h.old ho) (W.heap.size + 1) (by simp) [⟨#[110, 111, 116, 104, 105, 110, 103]⟩] (show (jp l (([⟨#[110, 111, 116, 104, 105, 110, 103]⟩] : List ByteArray).map sb)).length <= LIMP from by show (putB l _).length <= LIMP; exact (congrArg List.length hk).symm ▸ hl) (show 1 <= 1000 by decide))
  have HF := jJ0 (FrP.of_old ho)
  have Hk := jJ0 (show jp l (([⟨#[110, 111, 116, 104, 105, 110, 103]⟩] : List ByteArray).map sb) = l' from hk)
  rw [Hk.out] at HP
  clear h hk hl ho
  unfold ndC iv at *
  go_enter Tryz.func193, Tryz.ntmps193
  go_wp2_with (first | (go_at_call 53; refine HP.out.mono ?_; rintro e w2 ⟨rfl, B2, c2, hX, hf⟩) | fail)
  go_end0
  exact ⟨rfl, B2, c2, hX, HF.out.trans hf⟩
theorem atomw5 (w W : World) (t : Tre) (s : Sl) (f : Nat) (next : Nat) (l l' : List UInt8) (B : Option Addr) (bc : Nat) (h : Pr w t s next l B bc W) (x : MNd) (hop : x.n.op = 5) (hk : atomP t.nodes f x.n l = some l') (hl : l'.length <= LIMP) :
    Calls Tryz.prog 193 #[.pointer (some ⟨w.heap.size, 0, none⟩), .agg (ndC x).toArray] W (PrR w t s next l' W) := by
  unfold atomP at hk
  obtain ⟨⟨op, name, vk, vn, vt, vs, kids⟩, A, c, vA, vc⟩ := x
  simp only at hop hk
  subst hop
  rw [if_neg (by decide), if_neg (by decide), if_neg (by decide), if_pos rfl] at hk
  injection hk with hk
  have ho := (Kp.refl NoX W).alloc (.cells (ndC ⟨⟨5, name, vk, vn, vt, vs, kids⟩, A, c, vA, vc⟩).toArray 46)
  have HP := jJ0 (kA w _ t s next l B bc (h.old ho) (W.heap.size + 1) (by simp) [name] (show (jp l (([name] : List ByteArray).map sb)).length <= LIMP from by show (putB l _).length <= LIMP; exact (congrArg List.length hk).symm ▸ hl) (show 1 <= 1000 by decide))
  have HF := jJ0 (FrP.of_old ho)
  have Hk := jJ0 (show jp l (([name] : List ByteArray).map sb) = l' from hk)
  rw [Hk.out] at HP
  clear h hk hl ho
  unfold ndC iv at *
  go_enter Tryz.func193, Tryz.ntmps193
  go_wp2_with (first | (go_at_call 53; refine HP.out.mono ?_; rintro e w2 ⟨rfl, B2, c2, hX, hf⟩) | fail)
  go_end0
  exact ⟨rfl, B2, c2, hX, HF.out.trans hf⟩
theorem atom_set (w W : World) (t : Tre) (s : Sl) (f : Nat) (PX : PxAll w t s f) (next : Nat) (l l' : List UInt8) (B : Option Addr) (bc : Nat) (h : Pr w t s next l B bc W) (x : MNd) (hop : x.n.op = 6) (hr : Rd w 1 x.A x.n.kids.length (x.n.kids.map iv)) (hn : x.n.kids.length <= 1000000000) (hk : atomP t.nodes f x.n l = some l') (hl : l'.length <= LIMP) :
    Calls Tryz.prog 193 #[.pointer (some ⟨w.heap.size, 0, none⟩), .agg (ndC x).toArray] W (PrR w t s next l' W) := by
  unfold atomP at hk
  obtain ⟨⟨op, name, vk, vn, vt, vs, kids⟩, A, c, vA, vc⟩ := x
  simp only at hop hk hr hn
  subst hop
  rw [if_neg (by decide), if_neg (by decide), if_neg (by decide), if_neg (by decide), if_neg (by decide), if_pos rfl] at hk
  obtain ⟨l1, h1, e⟩ := Option.map_eq_some_iff.1 hk
  subst e
  have g1 := listP_len _ (fun k m b b' h => jr _ f k m b b' h) _ _ _ _ h1
  have g2 := (jT l1 [125]).1
  have ho := (Kp.refl NoX W).alloc (.cells (ndC ⟨⟨6, name, vk, vn, vt, vs, kids⟩, A, c, vA, vc⟩).toArray 46)
  have P1 := jJ0 (kA w _ t s next l B bc (h.old ho) (W.heap.size + 1) (by simp) [⟨#[123]⟩] (Nat.le_trans g1 (Nat.le_trans g2 hl)) (show 1 <= 1000 by decide))
  have BN := jJ0 (Blk.new W 46 (ndC ⟨⟨6, name, vk, vn, vt, vs, kids⟩, A, c, vA, vc⟩).toArray)
  have LS := jJ0 (fun W1 B1 c1 (hp : Pr w t s next (putB l [123]) B1 c1 W1) => list_print w W1 t s f PX next _ l1 B1 c1 hp A c kids hr hn h1 (Nat.le_trans g2 hl))
  have P2 := jJ0 (fun W1 B1 c1 (hp : Pr w t s next l1 B1 c1 W1) => put_new w W1 t s next l1 B1 c1 hp [⟨#[125]⟩] hl (show 1 <= 1000 by decide))
  have HF := jJ0 (FrP.of_old ho)
  clear h hk hl ho h1 g1 g2 hr hn PX
  unfold ndC iv at *
  go_enter Tryz.func193, Tryz.ntmps193
  go_wp2_with (first | (go_at_call 53; first | (refine (P2.out _ _ _ H2.out).mono ?_; rintro e w3 ⟨rfl, B3, c3, hX, hf⟩; have H3 := jJ0 hX; have F3 := jJ0 hf; clear hX hf) | (refine P1.out.mono ?_; rintro e w1 ⟨rfl, B1, c1, hX, hf⟩; have H1 := jJ0 hX; have F1 := jJ0 hf; have n6 := (hf.blk _ _ _ (by decide) (by decide) BN.out).at_ 6 (v := .slice A kids.length c) rfl; clear hX hf)) | (go_at_call 223; refine (LS.out _ _ _ H1.out).mono ?_; rintro e w2 ⟨rfl, B2, c2, hX, hf⟩; have H2 := jJ0 hX; have F2 := jJ0 hf; clear hX hf) | fail)
  go_end0
  exact ⟨rfl, B3, c3, H3.out, ((HF.out.trans F1.out).trans F2.out).trans F3.out⟩
theorem atom_call (w W : World) (hg : Sg w) (h8 : 8 <= w.heap.size) (t : Tre) (s : Sl) (f : Nat) (PX : PxAll w t s f) (next : Nat) (l l' : List UInt8) (B : Option Addr) (bc : Nat) (h : Pr w t s next l B bc W) (x : MNd) (hop : 24 <= x.n.op /\ x.n.op <= 33) (hr : Rd w 1 x.A x.n.kids.length (x.n.kids.map iv)) (hn : x.n.kids.length <= 1000000000) (hk : atomP t.nodes f x.n l = some l') (hl : l'.length <= LIMP) :
    Calls Tryz.prog 193 #[.pointer (some ⟨w.heap.size, 0, none⟩), .agg (ndC x).toArray] W (PrR w t s next l' W) := by
  unfold atomP at hk
  obtain ⟨⟨op, name, vk, vn, vt, vs, kids⟩, A, c, vA, vc⟩ := x
  simp only at hop hk hr hn
  rw [if_neg (by omega), if_neg (by omega), if_neg (by omega), if_neg (by omega), if_neg (by omega), if_neg (by omega)] at hk
  obtain ⟨l1, h1, e⟩ := Option.map_eq_some_iff.1 hk
  subst e
  have g1 := listP_len _ (fun k m b b' h => jr _ f k m b b' h) _ _ _ _ h1
  have g2 := (jT l1 [41]).1
  have ho := (Kp.refl NoX W).alloc (.cells (ndC ⟨⟨op, name, vk, vn, vt, vs, kids⟩, A, c, vA, vc⟩).toArray 46)
  have hgW := (h.sg hg h8).old ho
  have SP := jJ0 (kx _ hgW op (by omega))
  have BN := jJ0 (Blk.new W 46 (ndC ⟨⟨op, name, vk, vn, vt, vs, kids⟩, A, c, vA, vc⟩).toArray)
  have q1 : (op == 1) = false := beq_eq_false_iff_ne.2 (by omega)
  have q2 : (op == 2) = false := beq_eq_false_iff_ne.2 (by omega)
  have q3 : (op == 3) = false := beq_eq_false_iff_ne.2 (by omega)
  have q4 : (op == 4) = false := beq_eq_false_iff_ne.2 (by omega)
  have q5 : (op == 5) = false := beq_eq_false_iff_ne.2 (by omega)
  have q6 : (op == 6) = false := beq_eq_false_iff_ne.2 (by omega)
  have P2 := jJ0 (fun W1 B1 c1 (hp : Pr w t s next l1 B1 c1 W1) => put_new w W1 t s next l1 B1 c1 hp [⟨#[41]⟩] hl (show 1 <= 1000 by decide))
  have HF := jJ0 (FrP.of_old ho)
  by_cases hz : name.size = 0
  · simp only [if_pos hz] at h1 g1
    have hx2 : (!name.toList.isEmpty) = false := by rw [jw, decide_eq_true hz]; rfl
    have P1 := jJ0 (kA w _ t s next l B bc (h.old ho) (W.heap.size + 1) (by simp) [⟨(jE op).toArray⟩, ⟨#[40]⟩] (Nat.le_trans g1 (Nat.le_trans g2 hl)) (show 2 <= 1000 by decide))
    have LS := jJ0 (fun W1 B1 c1 (hp : Pr w t s next (putB (putB l (jE op)) [40]) B1 c1 W1) => list_print w W1 t s f PX next _ l1 B1 c1 hp A c kids hr hn h1 (Nat.le_trans g2 hl))
    clear h hk hl ho h1 g1 g2 hr hn PX hz hgW hg hop
    unfold ndC iv at *
    go_enter Tryz.func193, Tryz.ntmps193
    go_wp2_with (first | (go_at_call 192; refine SP.out.mono ?_; rintro e w0 ⟨rfl, rfl⟩) | (go_at_call 53; first | (refine (P2.out _ _ _ H2.out).mono ?_; rintro e w3 ⟨rfl, B3, c3, hX, hf⟩; have H3 := jJ0 hX; have F3 := jJ0 hf; clear hX hf) | (refine P1.out.mono ?_; rintro e w1 ⟨rfl, B1, c1, hX, hf⟩; have H1 := jJ0 hX; have F1 := jJ0 hf; have n1 := (hf.blk _ _ _ (by decide) (by decide) BN.out).at_ 1 (v := .string name) rfl; have n6 := (hf.blk _ _ _ (by decide) (by decide) BN.out).at_ 6 (v := .slice A kids.length c) rfl; clear hX hf)) | (go_at_call 223; refine (LS.out _ _ _ H1.out).mono ?_; rintro e w2 ⟨rfl, B2, c2, hX, hf⟩; have H2 := jJ0 hX; have F2 := jJ0 hf; clear hX hf) | fail)
    go_end0
    exact ⟨rfl, B3, c3, H3.out, ((HF.out.trans F1.out).trans F2.out).trans F3.out⟩
  · simp only [if_neg hz] at h1 g1
    have hx2 : (!name.toList.isEmpty) = true := by rw [jw, decide_eq_false hz]; rfl
    have g3 := (jT (putB (putB l (jE op)) [40]) (tb name)).1
    have P1 := jJ0 (kA w _ t s next l B bc (h.old ho) (W.heap.size + 1) (by simp) [⟨(jE op).toArray⟩, ⟨#[40]⟩] (Nat.le_trans g3 (Nat.le_trans g1 (Nat.le_trans g2 hl))) (show 2 <= 1000 by decide))
    have PN := jJ0 (fun W1 B1 c1 (hp : Pr w t s next (putB (putB l (jE op)) [40]) B1 c1 W1) => put_new w W1 t s next _ B1 c1 hp [name] (Nat.le_trans g1 (Nat.le_trans g2 hl)) (show 1 <= 1000 by decide))
    have LS := jJ0 (fun W1 B1 c1 (hp : Pr w t s next (putB (putB (putB l (jE op)) [40]) (tb name)) B1 c1 W1) => list_print w W1 t s f PX next _ l1 B1 c1 hp A c kids hr hn h1 (Nat.le_trans g2 hl))
    clear h hk hl ho h1 g1 g2 g3 hr hn PX hz hgW hg hop
    unfold ndC iv at *
    go_enter Tryz.func193, Tryz.ntmps193
    go_wp2_with (first | (go_at_call 192; refine SP.out.mono ?_; rintro e w0 ⟨rfl, rfl⟩) | (go_at_call 53; first | (refine (P2.out _ _ _ H2.out).mono ?_; rintro e w3 ⟨rfl, B3, c3, hX, hf⟩; have H3 := jJ0 hX; have F3 := jJ0 hf; clear hX hf) | (refine (PN.out _ _ _ H1.out).mono ?_; rintro e w4 ⟨rfl, B4, c4, hX, hf⟩; have H4 := jJ0 hX; have F4 := jJ0 hf; have n6 := (hf.blk _ _ _ (by decide) (by decide) (F1.out.blk _ _ _ (by decide) (by decide) BN.out)).at_ 6 (v := .slice A kids.length c) rfl; clear hX hf) | (refine P1.out.mono ?_; rintro e w1 ⟨rfl, B1, c1, hX, hf⟩; have H1 := jJ0 hX; have F1 := jJ0 hf; have n1 := (hf.blk _ _ _ (by decide) (by decide) BN.out).at_ 1 (v := .string name) rfl; clear hX hf)) | (go_at_call 223; refine (LS.out _ _ _ H4.out).mono ?_; rintro e w2 ⟨rfl, B2, c2, hX, hf⟩; have H2 := jJ0 hX; have F2 := jJ0 hf; clear hX hf) | fail)
    go_end0
    exact ⟨rfl, B3, c3, H3.out, (((HF.out.trans F1.out).trans F4.out).trans F2.out).trans F3.out⟩
theorem flat_at : ∀ (ns : List MNd) (k : Nat) (x : MNd), ns[k]? = some x -> ∀ i, i < 7 -> (ns.flatMap ndC)[k * 7 + i]? = (ndC x)[i]?
  | [], _, _, h => by cases h
  | y :: l, 0, x, h => by
    intro i hi
    injection h with h
    subst h
    rw [List.flatMap_cons, Nat.zero_mul, Nat.zero_add, List.getElem?_append_left (by simp only [ndC, List.length_cons, List.length_nil]; omega)]
  | y :: l, k + 1, x, h => by
    intro i hi
    rw [List.flatMap_cons, List.getElem?_append_right (by simp only [ndC, List.length_cons, List.length_nil]; omega)]
    have := flat_at l k x h i hi
    rw [<- this]
    congr 1
    simp only [ndC, List.length_cons, List.length_nil]
    omega
theorem node_cell {w : World} {A : Option Addr} {n : Nat} {ns : List MNd} (hr : Rd w 7 A n (ns.flatMap ndC)) {k : Nat} {x : MNd} (hk : ns[k]? = some x) (hn : k < n) : ∃ b o, A = some ⟨b, o, none⟩ /\ ∀ i u, (ndC x)[i]? = some u -> w.cell? ⟨b, o + (k * 7 + i), none⟩ = some u := by
  obtain ⟨b, o, hA, hc⟩ := hr.2 (by omega)
  refine ⟨b, o, hA, fun i u hu => hc _ u ?_⟩
  have hi : i < 7 := by
    have := (List.getElem?_eq_some_iff.1 hu).1
    simpa [ndC] using this
  rw [flat_at ns k x hk i hi]
  exact hu
structure TrN (w : World) (t : Tre) (s : Sl) (ns : List MNd) : Prop where
  rows : Rd w 7 s.nA t.nodes.length (ns.flatMap ndC)
  eq : ns.map (·.n) = t.nodes
  cnt : t.nodes.length <= 1000000
  ok : ∀ x ∈ ns, Rd w 1 x.A x.n.kids.length (x.n.kids.map iv) /\ x.n.kids.length <= 1000000000
theorem TrN.at_ {w : World} {t : Tre} {s : Sl} {ns : List MNd} (h : TrN w t s ns) {k : Nat} {n : Nd} (hk : t.nodes[k]? = some n) : ∃ x b o, ns[k]? = some x /\ x.n = n /\ s.nA = some ⟨b, o, none⟩ /\ (∀ i u, (ndC x)[i]? = some u -> w.cell? ⟨b, o + (k * 7 + i), none⟩ = some u) /\ Rd w 1 x.A x.n.kids.length (x.n.kids.map iv) /\ x.n.kids.length <= 1000000000 := by
  have hlt := (List.getElem?_eq_some_iff.1 hk).1
  rw [<- h.eq, List.getElem?_map] at hk
  obtain ⟨x, hx, e⟩ := Option.map_eq_some_iff.1 hk
  obtain ⟨b, o, hA, hc⟩ := node_cell h.rows hx hlt
  have hm := List.mem_of_getElem? hx
  exact ⟨x, b, o, hx, e, hA, hc, h.ok x hm⟩
theorem ex_atom (w W : World) (t : Tre) (s : Sl) (ns : List MNd) (TN : TrN w t s ns) (next : Nat) (l : List UInt8) (B : Option Addr) (bc : Nat) (h : Pr w t s next l B bc W) (root least : Nat) (hle : least <= 8) (n : Nd) (hn : t.nodes[root]? = some n) (h8 : jV n.op = 8) (l' : List UInt8)
    (HA : ∀ (W1 : World) (x : MNd), x.n = n -> Rd w 1 x.A x.n.kids.length (x.n.kids.map iv) -> x.n.kids.length <= 1000000000 -> Pr w t s next l B bc W1 -> Calls Tryz.prog 193 #[.pointer (some ⟨w.heap.size, 0, none⟩), .agg (ndC x).toArray] W1 (PrR w t s next l' W1)) :
    Calls Tryz.prog 156 #[.pointer (some ⟨w.heap.size, 0, none⟩), iv (root : Int), iv (least : Int)] W (PrR w t s next l' W) := by
  obtain ⟨x, b, o, hx, e, hA, hc, hrd, hkn⟩ := TN.at_ hn
  have hlt := (List.getElem?_eq_some_iff.1 hn).1
  have hlim := TN.cnt
  have hc6 := h.c6
  rw [hA] at hc6
  obtain ⟨⟨op, name, vk, vn, vt, vs, kids⟩, A, c, vA, vc⟩ := x
  have hw : ∀ i u, (ndC ⟨⟨op, name, vk, vn, vt, vs, kids⟩, A, c, vA, vc⟩)[i]? = some u -> W.cell? ⟨b, o + (root * 7 + i), none⟩ = some u := fun i u hu => by
    have h1 := hc i u hu
    have hb := jk h1
    rw [World.cell?_of_block (h.kp.block b hb (fun e : w.heap.size <= b => by have : b < w.heap.size := hb; omega))]
    exact h1
  have c0 : W.cell? ⟨b, o + root * 7, none⟩ = some (.int .i64 op) := hw 0 _ rfl
  have c1 : W.cell? ⟨b, o + root * 7 + 1, none⟩ = some (.string name) := hw 1 _ rfl
  have c2 : W.cell? ⟨b, o + root * 7 + 2, none⟩ = some (.int .i64 vk) := hw 2 _ rfl
  have c3 : W.cell? ⟨b, o + root * 7 + 3, none⟩ = some (.int .i64 vn) := hw 3 _ rfl
  have c4 : W.cell? ⟨b, o + root * 7 + 4, none⟩ = some (.string vt) := hw 4 _ rfl
  have c5 : W.cell? ⟨b, o + root * 7 + 5, none⟩ = some (.slice vA vs.length vc) := hw 5 _ rfl
  have c6 : W.cell? ⟨b, o + root * 7 + 6, none⟩ = some (.slice A kids.length c) := hw 6 _ rfl
  have HAt := jJ0 (fun W1 (hp : Pr w t s next l B bc W1) => HA W1 _ e hrd hkn hp)
  have ho := (Kp.refl NoX W).alloc (.cells (ndC ⟨⟨op, name, vk, vn, vt, vs, kids⟩, A, c, vA, vc⟩).toArray 46)
  have H1 := jJ0 (h.old ho)
  have HF := jJ0 (FrP.of_old ho)
  have hop : jV op = 8 := by rw [<- e] at h8; exact h8
  have HLv := jJ0 (fun W1 => vD W1 op)
  rw [hop] at HLv
  have f1 : (0 : Int) <= (root : Int) := by omega
  have f2 : (root : Int).toNat = root := by omega
  have f3 : (root : Int) < (t.nodes.length : Int) := by omega
  have f4 : ¬ (8 : Int) < (least : Int) := by omega
  clear h hx hc hw hrd hkn TN HA ho hop h8 hn hlim e
  unfold ndC iv at *
  go_enter_defers Tryz.func156, Tryz.ntmps156
  go_wp2_with (first | (go_at_call 191; refine (HLv.out _).mono ?_; rintro e w1 ⟨rfl, rfl⟩) | (go_at_call 193; refine (HAt.out _ H1.out).mono ?_; rintro e w2 ⟨rfl, B2, c2, hX, hf⟩) | fail)
  have HFin := jJ0 (show PrR w t s next l' W (.returned (.tuple #[])) w2 from ⟨rfl, B2, c2, hX, HF.out.trans hf⟩)
  clear hX hf
  simp [bodyPostD, Leaves, results, Tryz.results156, go_sem]
  exact HFin.out
theorem ex_one (w W : World) (hg : Sg w) (h80 : 8 <= w.heap.size) (t : Tre) (s : Sl) (ns : List MNd) (TN : TrN w t s ns) (f : Nat) (PX : PxAll w t s f) (next : Nat) (l : List UInt8) (B : Option Addr) (bc : Nat) (h : Pr w t s next l B bc W) (root least own : Nat) (n : Nd) (hn : t.nodes[root]? = some n) (hown : jV n.op = own) (h37 : own = 3 \/ own = 7) (hle : least <= own) (hop : n.op = 8 \/ n.op = 7)
    (k : Int) (tl : List Int) (hkids : n.kids = k :: tl) (l' : List UInt8) (hk : exprP t.nodes f k own (putB l (jE n.op)) = some l') (hl : l'.length <= LIMP) :
    Calls Tryz.prog 156 #[.pointer (some ⟨w.heap.size, 0, none⟩), iv (root : Int), iv (least : Int)] W (PrR w t s next l' W) := by
  obtain ⟨x, b, o, hx, e, hA, hc, hrd, hkn⟩ := TN.at_ hn
  have hlt := (List.getElem?_eq_some_iff.1 hn).1
  have hlim := TN.cnt
  have hc6 := h.c6
  rw [hA] at hc6
  obtain ⟨⟨op, name, vk, vn, vt, vs, kids⟩, A, c, vA, vc⟩ := x
  subst e
  simp only at hkids hown hop hrd hk
  subst hkids
  have hw : ∀ i u, (ndC ⟨⟨op, name, vk, vn, vt, vs, k :: tl⟩, A, c, vA, vc⟩)[i]? = some u -> W.cell? ⟨b, o + (root * 7 + i), none⟩ = some u := fun i u hu => by
    have h1 := hc i u hu
    have hb := jk h1
    rw [World.cell?_of_block (h.kp.block b hb (fun e : w.heap.size <= b => by have : b < w.heap.size := hb; omega))]
    exact h1
  have c0 : W.cell? ⟨b, o + root * 7, none⟩ = some (.int .i64 op) := hw 0 _ rfl
  have c1 : W.cell? ⟨b, o + root * 7 + 1, none⟩ = some (.string name) := hw 1 _ rfl
  have c2 : W.cell? ⟨b, o + root * 7 + 2, none⟩ = some (.int .i64 vk) := hw 2 _ rfl
  have c3 : W.cell? ⟨b, o + root * 7 + 3, none⟩ = some (.int .i64 vn) := hw 3 _ rfl
  have c4 : W.cell? ⟨b, o + root * 7 + 4, none⟩ = some (.string vt) := hw 4 _ rfl
  have c5 : W.cell? ⟨b, o + root * 7 + 5, none⟩ = some (.slice vA vs.length vc) := hw 5 _ rfl
  have c6 : W.cell? ⟨b, o + root * 7 + 6, none⟩ = some (.slice A (tl.length + 1) c) := hw 6 _ rfl
  have ho := (Kp.refl NoX W).alloc (.cells (ndC ⟨⟨op, name, vk, vn, vt, vs, k :: tl⟩, A, c, vA, vc⟩).toArray 46)
  have BN := jJ0 (Blk.new W 46 (ndC ⟨⟨op, name, vk, vn, vt, vs, k :: tl⟩, A, c, vA, vc⟩).toArray)
  have HF := jJ0 (FrP.of_old ho)
  have SP := jJ0 (kx _ ((h.sg hg h80).old ho) op (by omega))
  have g1 := jr _ f _ _ _ _ hk
  have P1 := jJ0 (kA w _ t s next l B bc (h.old ho) (W.heap.size + 1) (by simp) [⟨(jE op).toArray⟩] (Nat.le_trans g1 hl) (show 1 <= 1000 by decide))
  have EX := jJ0 (fun W1 B1 c1 (hp : Pr w t s next (putB l (jE op)) B1 c1 W1) => PX.ex W1 next _ l' B1 c1 k own hp (by omega) hk hl)
  have HLv := jJ0 (fun W1 => vD W1 op)
  rw [hown] at HLv
  obtain ⟨kb, ko, u, hKA, hu, hkc⟩ := hrd.at_ (k := 0) (Nat.succ_pos _)
  have hu2 : iv k = u := by injection hu
  subst hu2
  subst hKA
  have KC := jJ0 (fun W1 B1 c1 l1 (hp : Pr w t s next l1 B1 c1 W1) => (show W1.cell? ⟨kb, ko, none⟩ = some (.int .i64 k) from by
    have hb := jk hkc
    rw [World.cell?_of_block (hp.kp.block kb hb (fun e : w.heap.size <= kb => by have : kb < w.heap.size := hb; omega))]
    exact hkc))
  have f1 : (0 : Int) <= (root : Int) := by omega
  have f2 : (root : Int).toNat = root := by omega
  have f3 : (root : Int) < (t.nodes.length : Int) := by omega
  have f4 : ¬ (own : Int) < (least : Int) := by omega
  clear h hx hc hw hrd hkn TN PX ho hn hlim hl hk g1 hu hkc hg h80 hown hop hle
  unfold ndC iv at *
  rcases h37 with rfl | rfl
  all_goals
    go_enter_defers Tryz.func156, Tryz.ntmps156
    go_wp2_with (first | (go_at_call 191; refine (HLv.out _).mono ?_; rintro e w1 ⟨rfl, rfl⟩) | (go_at_call 192; refine SP.out.mono ?_; rintro e w1 ⟨rfl, rfl⟩) | (go_at_call 53; refine P1.out.mono ?_; rintro e w2 ⟨rfl, B2, c2, hX, hf⟩; have H2 := jJ0 hX; have F2 := jJ0 hf; have n6 := (hf.blk _ _ _ (by decide) (by decide) BN.out).at_ 6 (v := .slice (some ⟨kb, ko, none⟩) (tl.length + 1) c) rfl; have k0 := KC.out _ _ _ _ hX; clear hX hf) | (go_at_call 156; refine (EX.out _ _ _ H2.out).mono ?_; rintro e w3 ⟨rfl, B3, c3, hX, hf⟩) | fail)
    have HFin := jJ0 (show PrR w t s next l' W (.returned (.tuple #[])) w3 from ⟨rfl, B3, c3, hX, (HF.out.trans F2.out).trans hf⟩)
    clear hX hf
    simp [bodyPostD, Leaves, results, Tryz.results156, go_sem]
    exact HFin.out
end Go.Proofs.YtmmjcbbogokmfaaGreatDoor
