import Derived.Test.YtmmjcbbogokmfaaGreatDoorMg22
import Derived.Test.YtmmjcbbogokmfaaGreatDoorMg43
/- Contract of docketlaw9.TextLegal. -/
namespace Go.Proofs.YtmmjcbbogokmfaaGreatDoor
open Go.RowKit

/-- what the law holds: the node handed in, the one beside it -/
structure LgS (w : World) (x y : MNd) (W : World) : Prop where
  nb : Blk W w.heap.size 46 (ndC x).toArray
  mb : Blk W (w.heap.size + 1) 46 (ndC y).toArray
  ho : Kp (fromB w.heap.size) w W
section
variable {w W W1 : World} {x y : MNd}
theorem LgS.old (h : LgS w x y W) (ho : Old W W1) : LgS w x y W1 := ⟨h.nb.old ho, h.mb.old ho, h.ho.old ho⟩
theorem LgS.sg (h : LgS w x y W) (hg : Sg w) (h8 : 8 ≤ w.heap.size) : Sg W ∧ 8 ≤ W.heap.size := ⟨hg.kp h.ho (fun e : w.heap.size ≤ 0 => by omega) (fun e : w.heap.size ≤ 2 => by omega), Nat.le_trans h8 h.ho.size⟩
theorem LgS.sgR (h : LgS w x y W) (hg : SgR w) (h8 : 8 ≤ w.heap.size) : SgR W := hg.kp h.ho (fun e : w.heap.size ≤ 1 => by omega)
theorem LgS.rd (h : LgS w x y W) {A : Option Addr} {n : Nat} {xs : List Value} (hr : Rd w 1 A n xs) : Rd W 1 A n xs := hr.kp h.ho (fun hn ad ea hx => by have h1 := hr.lt (by decide) hn ea; have hx : w.heap.size ≤ ad.block := hx; omega)
theorem LgS.set_ (h : LgS w x y W) (i : Nat) (u : Value) {z : MNd} (hz : (ndC y).set i u = ndC z) : LgS w x z (W.setCell ⟨w.heap.size + 1, i, none⟩ u) ∧ (∀ g T cs, T ≠ 46 → Blk W g T cs → Blk (W.setCell ⟨w.heap.size + 1, i, none⟩ u) g T cs) := by
  refine ⟨⟨h.nb.far (show w.heap.size ≠ w.heap.size + 1 by omega) u, by rw [← hz]; exact Blk.setL h.mb i u, h.ho.setCell (p := ⟨w.heap.size + 1, i, none⟩) (fun _ => by show w.heap.size ≤ w.heap.size + 1; omega) u⟩, fun g T cs hT hb => hb.far (hb.ne_ h.mb hT) u⟩
end
theorem lg_begin (w : World) (x : MNd) : LgS w x x ((w.alloc (.cells (ndC x).toArray 46)).alloc (.cells (ndC x).toArray 46)) := by
  have e1 : (w.alloc (.cells (ndC x).toArray 46)).heap.size = w.heap.size + 1 := by simp
  have h := Blk.new (w.alloc (.cells (ndC x).toArray 46)) 46 (ndC x).toArray
  rw [e1] at h
  exact ⟨(Blk.new w _ _).alloc _, h, (((Kp.refl NoX w).alloc _).alloc _).mono (fun _ _ e => e.elim)⟩
set_option maxRecDepth 100000 in
set_option maxHeartbeats 12800000 in
theorem legal9_any (w : World) (hg : Sg w) (hgR : SgR w) (h8 : 8 ≤ w.heap.size) (word : ByteArray) (x : MNd) (hk : Rd w 1 x.A x.n.kids.length (x.n.kids.map iv)) (hv : Rd w 1 x.vA x.n.vs.length (x.n.vs.map sv)) (hkl : x.n.kids.length ≤ 100000000) (hvl : x.n.vs.length ≤ 100000000) :
    Calls Tryz.prog 4 #[.string word, .agg (ndC x).toArray] w fun e w' => e = .returned (.bool true) ∧ Old w w' := by
  have L0 := Lib.hid (lg_begin w x)
  have HSg := Lib.hid (fun y W (h : LgS w x y W) => h.sg hg h8)
  have HSr := Lib.hid (fun y W (h : LgS w x y W) => h.sgR hgR h8)
  have HRk := Lib.hid (fun y W (h : LgS w x y W) => h.rd hk)
  have HRv := Lib.hid (fun y W (h : LgS w x y W) => h.rd hv)
  have HLg := Lib.hid (fun y W (h : LgS w x y W) => legal_any9 W (h.sg hg h8).1 word)
  have HLr := Lib.hid (fun y W (h : LgS w x y W) => rlegal_any W (h.sgR hgR h8) word)
  have HRt := Lib.hid (fun y W (h : LgS w x y W) => right_any W (h.sg hg h8).1 y)
  have HRr := Lib.hid (fun y W (h : LgS w x y W) => rright_any W (h.sgR hgR h8) x)
  clear hg hgR h8 hk hv
  obtain ⟨⟨op, name, vk, vn, vt, vs, kids⟩, A, c, vA, vc⟩ := x
  simp only at hkl hvl HRk HRv HRt HRr
  have Hkl := Lib.hid hkl
  have Hvl := Lib.hid hvl
  have e80 : IntKind.i64.wrap ((kids.length : Int) + 80) = (kids.length : Int) + 80 := IntWalk.i64_in _ (by omega)
  have e81 : IntKind.i64.wrap ((vs.length : Int) + 80) = (vs.length : Int) + 80 := IntWalk.i64_in _ (by omega)
  have hsl := fun g W => cut_h (P := Tryz.prog) Tryz.elemI Tryz.sizeEI (some ⟨g, 0, none⟩) (kids.length + 80) (kids.length + 80) kids.length .i64 (kids.length : Int) rfl (by omega) W
  have hsv := fun g W => cut_h (P := Tryz.prog) Tryz.elemS Tryz.sizeES (some ⟨g, 0, none⟩) (vs.length + 80) (vs.length + 80) vs.length .i64 (vs.length : Int) rfl (by omega) W
  have hsl2 := fun g W => cut_h (P := Tryz.prog) Tryz.elemI Tryz.sizeEI (some ⟨g, 0, none⟩) kids.length (kids.length + 80) (kids.length + 80) .i64 ((kids.length : Int) + 80) (by simp) (Nat.le_refl _) W
  have hsv2 := fun g W => cut_h (P := Tryz.prog) Tryz.elemS Tryz.sizeES (some ⟨g, 0, none⟩) vs.length (vs.length + 80) (vs.length + 80) .i64 ((vs.length : Int) + 80) (by simp) (Nat.le_refl _) W
  obtain ⟨R, hR⟩ : ∃ R, rightN ⟨op, name, vk, vn, vt, vs, kids⟩ = R := ⟨_, rfl⟩
  rw [hR] at HRr
  have HRt2 := Lib.hid (fun A' c' vA' vc' W (h : LgS w ⟨⟨op, name, vk, vn, vt, vs, kids⟩, A, c, vA, vc⟩ ⟨⟨op, name, vk, vn, vt, vs, kids⟩, A', c', vA', vc'⟩ W) => HRt.out _ W h)
  simp only [hR] at HRt2
  clear hkl hvl hR HRt
  generalize legalB (sb word) = q at *
  unfold ndC iv at L0 HRt2 HRr ⊢
  simp only at L0 HRt2 HRr ⊢
  go_enter Tryz.func4, Tryz.ntmps4
  go_wp2_with fail
  have H0 := Lib.hid (L0.out.old ((Kp.refl NoX _).drew))
  refine region_tkn (S := (fun W => ∃ A' c' vA' vc', LgS w ⟨⟨op, name, vk, vn, vt, vs, kids⟩, A, c, vA, vc⟩ ⟨⟨op, name, vk, vn, vt, vs, kids⟩, A', c', vA', vc'⟩ W)) 9 rfl (by kernel_rfl) ⟨_, _, _, _, H0.out⟩ (fun hHeld => ?_)
  refine tkn_as (ls' := ([false, false, false, false, false, false, false, false, false] : List Bool).toArray) rfl ?_
  refine' take_on 0 rfl rfl (by kernel_rfl) (fun _ _ _ h => h) rfl hHeld (fun w' hSw => ?_) ?_; rotate_left; (obtain ⟨A', c', vA', vc', hS'⟩ := hSw; have s5 := hS'.nb.at_ 5 (v := .slice vA vs.length vc) rfl; have s6 := hS'.nb.at_ 6 (v := .slice A kids.length c) rfl; clear hS'; go_simp <;> with_reducible rfl); simp only [Act.put, List.setIfInBounds_toArray, List.set_cons_zero, List.set_cons_succ]
  refine' take_on 1 rfl rfl (by kernel_rfl) (fun _ _ _ h => h) rfl hHeld (fun w' hSw => ?_) ?_; rotate_left; (obtain ⟨A', c', vA', vc', hS'⟩ := hSw; have s5 := hS'.nb.at_ 5 (v := .slice vA vs.length vc) rfl; have s6 := hS'.nb.at_ 6 (v := .slice A kids.length c) rfl; clear hS'; go_simp <;> with_reducible rfl); simp only [Act.put, List.setIfInBounds_toArray, List.set_cons_zero, List.set_cons_succ]
  refine' take_on 3 rfl rfl (by kernel_rfl) (fun _ _ _ h => h) rfl hHeld (fun w' hSw => ?_) ?_; rotate_left; (obtain ⟨A', c', vA', vc', hS'⟩ := hSw; have s5 := hS'.nb.at_ 5 (v := .slice vA vs.length vc) rfl; have s6 := hS'.nb.at_ 6 (v := .slice A kids.length c) rfl; clear hS'; go_simp <;> with_reducible rfl); simp only [Act.put, List.setIfInBounds_toArray, List.set_cons_zero, List.set_cons_succ]
  refine' take_on 4 rfl rfl (by kernel_rfl) (fun _ _ _ h => h) rfl hHeld (fun w' hSw => ?_) ?_; rotate_left; (obtain ⟨A', c', vA', vc', hS'⟩ := hSw; have s5 := hS'.nb.at_ 5 (v := .slice vA vs.length vc) rfl; have s6 := hS'.nb.at_ 6 (v := .slice A kids.length c) rfl; clear hS'; go_simp <;> with_reducible rfl); simp only [Act.put, List.setIfInBounds_toArray, List.set_cons_zero, List.set_cons_succ]
  refine' take_on 5 rfl rfl (by kernel_rfl) (fun _ _ _ h => h) rfl hHeld (fun w' hSw => ?_) ?_; rotate_left; (obtain ⟨A', c', vA', vc', hS'⟩ := hSw; have s5 := hS'.nb.at_ 5 (v := .slice vA vs.length vc) rfl; have s6 := hS'.nb.at_ 6 (v := .slice A kids.length c) rfl; clear hS'; go_simp <;> with_reducible rfl); simp only [Act.put, List.setIfInBounds_toArray, List.set_cons_zero, List.set_cons_succ]
  refine take_one 2 rfl (by kernel_rfl) (fun K hK => ?_)
  go_simp
  go_at_call 18
  refine (roomI _ A c kids (HRk.out _ _ H0.out) (by have := Hkl.out; omega)).mono ?_
  rintro e w1 ⟨gk, rfl, _, hbk, ho⟩
  have H1 := Lib.hid (H0.out.old ho)
  have HBk := Lib.hid hbk
  clear hbk ho
  go_simp
  refine hK.out _ _ ⟨_, _, _, _, H1.out⟩ (fun hHeld => ?_)
  clear hK K
  simp only [List.setIfInBounds_toArray, List.set_cons_zero, List.set_cons_succ]
  refine' take_on 6 rfl rfl (by kernel_rfl) (fun _ _ _ h => h) rfl hHeld (fun w' hSw => ?_) ?_; rotate_left; (clear hSw; have s1 := hsl gk; go_simp <;> with_reducible rfl); simp only [Act.put, List.setIfInBounds_toArray, List.set_cons_zero, List.set_cons_succ]
  refine' take_on 7 rfl rfl (by kernel_rfl) (fun _ _ _ h => h) rfl hHeld (fun w' hSw => ?_) ?_; rotate_left; (clear hSw; have s1 := hsl gk; go_simp <;> with_reducible rfl); simp only [Act.put, List.setIfInBounds_toArray, List.set_cons_zero, List.set_cons_succ]
  have c6 := H1.out.mb.at_ 6 (v := .slice A kids.length c) rfl
  have z6 := H1.out.mb.frozen 6
  have H2 := Lib.hid (H1.out.set_ 6 (.slice (some ⟨gk, 0, none⟩) kids.length (kids.length + 80)) (z := ⟨⟨op, name, vk, vn, vt, vs, kids⟩, some ⟨gk, 0, none⟩, kids.length + 80, vA, vc⟩) rfl)
  refine take_one 8 rfl (by kernel_rfl) (fun K hK => ?_)
  go_simp
  refine hK.out _ _ ⟨_, _, _, _, H2.out.1⟩ (fun hHeld => ?_)
  have HBk2 := Lib.hid (H2.out.2 _ _ _ (by decide) HBk.out)
  have H3 := Lib.hid H2.out.1
  clear hK K c6 z6 H2 HBk hHeld
  refine wpAnyH_done (by kernel_rfl) ?_ _
  generalize w1.setCell ⟨w.heap.size + 1, 6, none⟩ (.slice (some ⟨gk, 0, none⟩) kids.length (kids.length + 80)) = w2 at *
  go_wp2_with fail
  have H4 := Lib.hid (H3.out.old ((Kp.refl NoX w2).drew))
  have HBk4 := Lib.hid (HBk2.out.old ((Kp.refl NoX w2).drew))
  refine region_tkn (S := (fun W => ∃ A' c' vA' vc', LgS w ⟨⟨op, name, vk, vn, vt, vs, kids⟩, A, c, vA, vc⟩ ⟨⟨op, name, vk, vn, vt, vs, kids⟩, A', c', vA', vc'⟩ W)) 12 rfl (by kernel_rfl) ⟨_, _, _, _, H4.out⟩ (fun hHeld => ?_)
  refine tkn_as (ls' := ([false, false, false, false, false, false, false, false, false, false, false, false] : List Bool).toArray) rfl ?_
  refine' take_on 0 rfl rfl (by kernel_rfl) (fun _ _ _ h => h) rfl hHeld (fun w' hSw => ?_) ?_; rotate_left; (obtain ⟨A', c', vA', vc', hS'⟩ := hSw; have s5 := hS'.nb.at_ 5 (v := .slice vA vs.length vc) rfl; have s6 := hS'.nb.at_ 6 (v := .slice A kids.length c) rfl; clear hS'; go_simp <;> with_reducible rfl); simp only [Act.put, List.setIfInBounds_toArray, List.set_cons_zero, List.set_cons_succ]
  refine' take_on 1 rfl rfl (by kernel_rfl) (fun _ _ _ h => h) rfl hHeld (fun w' hSw => ?_) ?_; rotate_left; (obtain ⟨A', c', vA', vc', hS'⟩ := hSw; have s5 := hS'.nb.at_ 5 (v := .slice vA vs.length vc) rfl; have s6 := hS'.nb.at_ 6 (v := .slice A kids.length c) rfl; clear hS'; go_simp <;> with_reducible rfl); simp only [Act.put, List.setIfInBounds_toArray, List.set_cons_zero, List.set_cons_succ]
  refine' take_on 2 rfl rfl (by kernel_rfl) (fun _ _ _ h => h) rfl hHeld (fun w' hSw => ?_) ?_; rotate_left; (obtain ⟨A', c', vA', vc', hS'⟩ := hSw; have s5 := hS'.nb.at_ 5 (v := .slice vA vs.length vc) rfl; have s6 := hS'.nb.at_ 6 (v := .slice A kids.length c) rfl; clear hS'; go_simp <;> with_reducible rfl); simp only [Act.put, List.setIfInBounds_toArray, List.set_cons_zero, List.set_cons_succ]
  refine' take_on 4 rfl rfl (by kernel_rfl) (fun _ _ _ h => h) rfl hHeld (fun w' hSw => ?_) ?_; rotate_left; (obtain ⟨A', c', vA', vc', hS'⟩ := hSw; have s5 := hS'.nb.at_ 5 (v := .slice vA vs.length vc) rfl; have s6 := hS'.nb.at_ 6 (v := .slice A kids.length c) rfl; clear hS'; go_simp <;> with_reducible rfl); simp only [Act.put, List.setIfInBounds_toArray, List.set_cons_zero, List.set_cons_succ]
  refine' take_on 5 rfl rfl (by kernel_rfl) (fun _ _ _ h => h) rfl hHeld (fun w' hSw => ?_) ?_; rotate_left; (obtain ⟨A', c', vA', vc', hS'⟩ := hSw; have s5 := hS'.nb.at_ 5 (v := .slice vA vs.length vc) rfl; have s6 := hS'.nb.at_ 6 (v := .slice A kids.length c) rfl; clear hS'; go_simp <;> with_reducible rfl); simp only [Act.put, List.setIfInBounds_toArray, List.set_cons_zero, List.set_cons_succ]
  refine' take_on 6 rfl rfl (by kernel_rfl) (fun _ _ _ h => h) rfl hHeld (fun w' hSw => ?_) ?_; rotate_left; (obtain ⟨A', c', vA', vc', hS'⟩ := hSw; have s5 := hS'.nb.at_ 5 (v := .slice vA vs.length vc) rfl; have s6 := hS'.nb.at_ 6 (v := .slice A kids.length c) rfl; clear hS'; go_simp <;> with_reducible rfl); simp only [Act.put, List.setIfInBounds_toArray, List.set_cons_zero, List.set_cons_succ]
  refine' take_on 7 rfl rfl (by kernel_rfl) (fun _ _ _ h => h) rfl hHeld (fun w' hSw => ?_) ?_; rotate_left; (obtain ⟨A', c', vA', vc', hS'⟩ := hSw; have s5 := hS'.nb.at_ 5 (v := .slice vA vs.length vc) rfl; have s6 := hS'.nb.at_ 6 (v := .slice A kids.length c) rfl; clear hS'; go_simp <;> with_reducible rfl); simp only [Act.put, List.setIfInBounds_toArray, List.set_cons_zero, List.set_cons_succ]
  refine take_one 3 rfl (by kernel_rfl) (fun K hK => ?_)
  go_simp
  go_at_call 19
  refine (roomS _ vA vc vs (HRv.out _ _ H4.out) (by have := Hvl.out; omega)).mono ?_
  rintro e w3 ⟨gs, rfl, _, hbs, ho⟩
  have H5 := Lib.hid (H4.out.old ho)
  have HBs := Lib.hid hbs
  have HBk5 := Lib.hid (HBk4.out.old ho)
  clear hbs ho
  go_simp
  refine hK.out _ _ ⟨_, _, _, _, H5.out⟩ (fun hHeld => ?_)
  clear hK K
  simp only [List.setIfInBounds_toArray, List.set_cons_zero, List.set_cons_succ]
  refine' take_on 8 rfl rfl (by kernel_rfl) (fun _ _ _ h => h) rfl hHeld (fun w' hSw => ?_) ?_; rotate_left; (clear hSw; have s1 := hsv gs; go_simp <;> with_reducible rfl); simp only [Act.put, List.setIfInBounds_toArray, List.set_cons_zero, List.set_cons_succ]
  refine' take_on 9 rfl rfl (by kernel_rfl) (fun _ _ _ h => h) rfl hHeld (fun w' hSw => ?_) ?_; rotate_left; (clear hSw; have s1 := hsv gs; go_simp <;> with_reducible rfl); simp only [Act.put, List.setIfInBounds_toArray, List.set_cons_zero, List.set_cons_succ]
  refine' take_on 10 rfl rfl (by kernel_rfl) (fun _ _ _ h => h) rfl hHeld (fun w' hSw => ?_) ?_; rotate_left; (clear hSw; have s1 := hsv gs; go_simp <;> with_reducible rfl); simp only [Act.put, List.setIfInBounds_toArray, List.set_cons_zero, List.set_cons_succ]
  have c5 := H5.out.mb.at_ 5 (v := .slice vA vs.length vc) rfl
  have z5 := H5.out.mb.frozen 5
  have H6 := Lib.hid (H5.out.set_ 5 (.slice (some ⟨gs, 0, none⟩) vs.length (vs.length + 80)) (z := ⟨⟨op, name, vk, vn, vt, vs, kids⟩, some ⟨gk, 0, none⟩, kids.length + 80, some ⟨gs, 0, none⟩, vs.length + 80⟩) rfl)
  refine take_one 11 rfl (by kernel_rfl) (fun K hK => ?_)
  go_simp
  refine hK.out _ _ ⟨_, _, _, _, H6.out.1⟩ (fun hHeld => ?_)
  have HBk7 := Lib.hid (H6.out.2 _ _ _ (by decide) HBk5.out)
  have HBs7 := Lib.hid (H6.out.2 _ _ _ (by decide) HBs.out)
  have H7 := Lib.hid H6.out.1
  clear hK K c5 z5 H6 HBs HBk5 hHeld
  refine wpAnyH_done (by kernel_rfl) ?_ _
  generalize w3.setCell ⟨w.heap.size + 1, 5, none⟩ (.slice (some ⟨gs, 0, none⟩) vs.length (vs.length + 80)) = w4 at *
  go_wp2_with fail
  have H8 := Lib.hid (H7.out.old ((Kp.refl NoX w4).drew))
  have HBk8 := Lib.hid (HBk7.out.old ((Kp.refl NoX w4).drew))
  have HBs8 := Lib.hid (HBs7.out.old ((Kp.refl NoX w4).drew))
  refine region_tkn (S := (fun W => LgS w ⟨⟨op, name, vk, vn, vt, vs, kids⟩, A, c, vA, vc⟩ ⟨⟨op, name, vk, vn, vt, vs, kids⟩, some ⟨gk, 0, none⟩, kids.length + 80, some ⟨gs, 0, none⟩, vs.length + 80⟩ W)) 12 rfl (by kernel_rfl) H8.out (fun hHeld => ?_)
  refine tkn_as (ls' := ([false, false, false, false, false, false, false, false, false, false, false, false] : List Bool).toArray) rfl ?_
  refine' take_on 0 rfl rfl (by kernel_rfl) (fun _ _ _ h => h) rfl hHeld (fun w' hSw => ?_) ?_; rotate_left; (clear hSw; go_simp <;> with_reducible rfl); simp only [Act.put, List.setIfInBounds_toArray, List.set_cons_zero, List.set_cons_succ]
  refine' take_on 2 rfl rfl (by kernel_rfl) (fun _ _ _ h => h) rfl hHeld (fun w' hSw => ?_) ?_; rotate_left; (clear hSw; go_simp <;> with_reducible rfl); simp only [Act.put, List.setIfInBounds_toArray, List.set_cons_zero, List.set_cons_succ]
  refine take_one 1 rfl (by kernel_rfl) (fun K hK => ?_)
  go_simp
  go_at_call 20
  refine (HLg.out _ _ H8.out).mono ?_
  rintro e wa ⟨rfl, rfl⟩
  go_simp
  refine hK.out _ _ H8.out (fun hHeld => ?_)
  clear hK K
  simp only [List.setIfInBounds_toArray, List.set_cons_zero, List.set_cons_succ]
  refine take_one 3 rfl (by kernel_rfl) (fun K hK => ?_)
  go_simp
  go_at_call 21
  refine (HLr.out _ _ H8.out).mono ?_
  rintro e wb ⟨rfl, rfl⟩
  go_simp
  refine hK.out _ _ H8.out (fun hHeld => ?_)
  clear hK K
  simp only [List.setIfInBounds_toArray, List.set_cons_zero, List.set_cons_succ]
  refine' take_on 4 rfl rfl (by kernel_rfl) (fun _ _ _ h => h) rfl hHeld (fun w' hSw => ?_) ?_; rotate_left; (clear hSw; go_simp <;> with_reducible rfl); simp only [Act.put, List.setIfInBounds_toArray, List.set_cons_zero, List.set_cons_succ]
  refine' take_on 5 rfl rfl (by kernel_rfl) (fun _ _ _ h => h) rfl hHeld (fun w' hSw => ?_) ?_; rotate_left; (clear hSw; go_simp <;> with_reducible rfl); simp only [Act.put, List.setIfInBounds_toArray, List.set_cons_zero, List.set_cons_succ]
  refine' take_on 6 rfl rfl (by kernel_rfl) (fun _ _ _ h => h) rfl hHeld (fun w' hSw => ?_) ?_; rotate_left; (have m0 := hSw.mb.at_ 0 (v := (.int .i64 op)) rfl; have m1 := hSw.mb.at_ 1 (v := (.string name)) rfl; have m2 := hSw.mb.at_ 2 (v := (.int .i64 vk)) rfl; have m3 := hSw.mb.at_ 3 (v := (.int .i64 vn)) rfl; have m4 := hSw.mb.at_ 4 (v := (.string vt)) rfl; have m5 := hSw.mb.at_ 5 (v := (.slice (some ⟨gs, 0, none⟩) vs.length (vs.length + 80))) rfl; have m6 := hSw.mb.at_ 6 (v := (.slice (some ⟨gk, 0, none⟩) kids.length (kids.length + 80))) rfl; have n0 := hSw.nb.at_ 0 (v := (.int .i64 op)) rfl; have n1 := hSw.nb.at_ 1 (v := (.string name)) rfl; have n2 := hSw.nb.at_ 2 (v := (.int .i64 vk)) rfl; have n3 := hSw.nb.at_ 3 (v := (.int .i64 vn)) rfl; have n4 := hSw.nb.at_ 4 (v := (.string vt)) rfl; have n5 := hSw.nb.at_ 5 (v := (.slice vA vs.length vc)) rfl; have n6 := hSw.nb.at_ 6 (v := (.slice A kids.length c)) rfl; clear hSw; go_simp <;> with_reducible rfl); simp only [Act.put, List.setIfInBounds_toArray, List.set_cons_zero, List.set_cons_succ]
  refine' take_on 8 rfl rfl (by kernel_rfl) (fun _ _ _ h => h) rfl hHeld (fun w' hSw => ?_) ?_; rotate_left; (have m0 := hSw.mb.at_ 0 (v := (.int .i64 op)) rfl; have m1 := hSw.mb.at_ 1 (v := (.string name)) rfl; have m2 := hSw.mb.at_ 2 (v := (.int .i64 vk)) rfl; have m3 := hSw.mb.at_ 3 (v := (.int .i64 vn)) rfl; have m4 := hSw.mb.at_ 4 (v := (.string vt)) rfl; have m5 := hSw.mb.at_ 5 (v := (.slice (some ⟨gs, 0, none⟩) vs.length (vs.length + 80))) rfl; have m6 := hSw.mb.at_ 6 (v := (.slice (some ⟨gk, 0, none⟩) kids.length (kids.length + 80))) rfl; have n0 := hSw.nb.at_ 0 (v := (.int .i64 op)) rfl; have n1 := hSw.nb.at_ 1 (v := (.string name)) rfl; have n2 := hSw.nb.at_ 2 (v := (.int .i64 vk)) rfl; have n3 := hSw.nb.at_ 3 (v := (.int .i64 vn)) rfl; have n4 := hSw.nb.at_ 4 (v := (.string vt)) rfl; have n5 := hSw.nb.at_ 5 (v := (.slice vA vs.length vc)) rfl; have n6 := hSw.nb.at_ 6 (v := (.slice A kids.length c)) rfl; clear hSw; go_simp <;> with_reducible rfl); simp only [Act.put, List.setIfInBounds_toArray, List.set_cons_zero, List.set_cons_succ]
  refine take_one 7 rfl (by kernel_rfl) (fun K hK => ?_)
  go_simp
  go_at_call 22
  refine (HRt2.out _ _ _ _ _ H8.out).mono ?_
  rintro e w5 ⟨rfl, ho⟩
  have H9 := Lib.hid (H8.out.old ho)
  have HBk9 := Lib.hid (HBk8.out.old ho)
  have HBs9 := Lib.hid (HBs8.out.old ho)
  clear ho
  go_simp
  refine hK.out _ _ H9.out (fun hHeld => ?_)
  clear hK K
  simp only [List.setIfInBounds_toArray, List.set_cons_zero, List.set_cons_succ]
  refine take_one 9 rfl (by kernel_rfl) (fun K hK => ?_)
  go_simp
  go_at_call 23
  refine (HRr.out _ _ H9.out).mono ?_
  rintro e w6 ⟨rfl, ho⟩
  have H10 := Lib.hid (H9.out.old ho)
  have HBk10 := Lib.hid (HBk9.out.old ho)
  have HBs10 := Lib.hid (HBs9.out.old ho)
  clear ho
  go_simp
  refine hK.out _ _ H10.out (fun hHeld => ?_)
  clear hK K
  simp only [List.setIfInBounds_toArray, List.set_cons_zero, List.set_cons_succ]
  refine' take_on 10 rfl rfl (by kernel_rfl) (fun _ _ _ h => h) rfl hHeld (fun w' hSw => ?_) ?_; rotate_left; (clear hSw; go_simp <;> with_reducible rfl); simp only [Act.put, List.setIfInBounds_toArray, List.set_cons_zero, List.set_cons_succ]
  refine' take_on 11 rfl rfl (by kernel_rfl) (fun _ _ _ h => h) rfl hHeld (fun w' hSw => ?_) ?_; rotate_left; (clear hSw; go_simp <;> with_reducible rfl); simp only [Act.put, List.setIfInBounds_toArray, List.set_cons_zero, List.set_cons_succ]
  refine wpAnyH_done (by kernel_rfl) ?_ _
  clear hHeld H8 HBk8 HBs8 H9 HBk9 HBs9
  go_wp2_with fail
  have H11 := Lib.hid (H10.out.old ((Kp.refl NoX w6).drew))
  have HBk11 := Lib.hid (HBk10.out.old ((Kp.refl NoX w6).drew))
  have HBs11 := Lib.hid (HBs10.out.old ((Kp.refl NoX w6).drew))
  refine region_tkn (S := (fun W => LgS w ⟨⟨op, name, vk, vn, vt, vs, kids⟩, A, c, vA, vc⟩ ⟨⟨op, name, vk, vn, vt, vs, kids⟩, some ⟨gk, 0, none⟩, kids.length + 80, some ⟨gs, 0, none⟩, vs.length + 80⟩ W)) 29 rfl (by kernel_rfl) H11.out (fun hHeld => ?_)
  refine tkn_as (ls' := ([false, false, false, false, false, false, false, false, false, false, false, false, false, false, false, false, false, false, false, false, false, false, false, false, false, false, false, false, false] : List Bool).toArray) rfl ?_
  refine take_one 0 rfl (by kernel_rfl) (fun K hK => ?_)
  go_simp
  go_at_call 12
  refine (known_any _ (HSg.out _ _ H11.out).1 (HSg.out _ _ H11.out).2).mono ?_
  rintro e w7 ⟨rfl, ho⟩
  have H12 := Lib.hid (H11.out.old ho)
  have HBk12 := Lib.hid (HBk11.out.old ho)
  have HBs12 := Lib.hid (HBs11.out.old ho)
  clear ho
  go_simp
  refine hK.out _ _ H12.out (fun hHeld => ?_)
  clear hK K
  simp only [List.setIfInBounds_toArray, List.set_cons_zero]
  refine' take_on 1 rfl rfl (by kernel_rfl) (fun _ _ _ h => h) rfl hHeld (fun w' hSw => ?_) ?_; rotate_left; (clear hSw; go_simp <;> with_reducible rfl); simp only [Act.put, List.setIfInBounds_toArray, List.set_cons_zero, List.set_cons_succ]
  refine' take_on 2 rfl rfl (by kernel_rfl) (fun _ _ _ h => h) rfl hHeld (fun w' hSw => ?_) ?_; rotate_left; (have m6 := hSw.mb.at_ 6 (v := (.slice (some ⟨gk, 0, none⟩) kids.length (kids.length + 80))) rfl; have n6 := hSw.nb.at_ 6 (v := (.slice A kids.length c)) rfl; have sl := hsl2 gk; clear hSw; go_simp <;> with_reducible rfl); simp only [Act.put, List.setIfInBounds_toArray, List.set_cons_zero, List.set_cons_succ]
  refine' take_on 3 rfl rfl (by kernel_rfl) (fun _ _ _ h => h) rfl hHeld (fun w' hSw => ?_) ?_; rotate_left; (have m6 := hSw.mb.at_ 6 (v := (.slice (some ⟨gk, 0, none⟩) kids.length (kids.length + 80))) rfl; have n6 := hSw.nb.at_ 6 (v := (.slice A kids.length c)) rfl; have sl := hsl2 gk; clear hSw; go_simp <;> with_reducible rfl); simp only [Act.put, List.setIfInBounds_toArray, List.set_cons_zero, List.set_cons_succ]
  refine' take_on 4 rfl rfl (by kernel_rfl) (fun _ _ _ h => h) rfl hHeld (fun w' hSw => ?_) ?_; rotate_left; (have m6 := hSw.mb.at_ 6 (v := (.slice (some ⟨gk, 0, none⟩) kids.length (kids.length + 80))) rfl; have n6 := hSw.nb.at_ 6 (v := (.slice A kids.length c)) rfl; have sl := hsl2 gk; clear hSw; go_simp <;> with_reducible rfl); simp only [Act.put, List.setIfInBounds_toArray, List.set_cons_zero, List.set_cons_succ]
  refine' take_on 5 rfl rfl (by kernel_rfl) (fun _ _ _ h => h) rfl hHeld (fun w' hSw => ?_) ?_; rotate_left; (have m6 := hSw.mb.at_ 6 (v := (.slice (some ⟨gk, 0, none⟩) kids.length (kids.length + 80))) rfl; have n6 := hSw.nb.at_ 6 (v := (.slice A kids.length c)) rfl; have sl := hsl2 gk; clear hSw; go_simp <;> with_reducible rfl); simp only [Act.put, List.setIfInBounds_toArray, List.set_cons_zero, List.set_cons_succ]
  refine' take_on 6 rfl rfl (by kernel_rfl) (fun _ _ _ h => h) rfl hHeld (fun w' hSw => ?_) ?_; rotate_left; (have m6 := hSw.mb.at_ 6 (v := (.slice (some ⟨gk, 0, none⟩) kids.length (kids.length + 80))) rfl; have n6 := hSw.nb.at_ 6 (v := (.slice A kids.length c)) rfl; have sl := hsl2 gk; clear hSw; go_simp <;> with_reducible rfl); simp only [Act.put, List.setIfInBounds_toArray, List.set_cons_zero, List.set_cons_succ]
  refine' take_on 7 rfl rfl (by kernel_rfl) (fun _ _ _ h => h) rfl hHeld (fun w' hSw => ?_) ?_; rotate_left; (have m6 := hSw.mb.at_ 6 (v := (.slice (some ⟨gk, 0, none⟩) kids.length (kids.length + 80))) rfl; have n6 := hSw.nb.at_ 6 (v := (.slice A kids.length c)) rfl; have sl := hsl2 gk; clear hSw; go_simp <;> with_reducible rfl); simp only [Act.put, List.setIfInBounds_toArray, List.set_cons_zero, List.set_cons_succ]
  refine' take_on 8 rfl rfl (by kernel_rfl) (fun _ _ _ h => h) rfl hHeld (fun w' hSw => ?_) ?_; rotate_left; (have m6 := hSw.mb.at_ 6 (v := (.slice (some ⟨gk, 0, none⟩) kids.length (kids.length + 80))) rfl; have n6 := hSw.nb.at_ 6 (v := (.slice A kids.length c)) rfl; have sl := hsl2 gk; clear hSw; go_simp <;> with_reducible rfl); simp only [Act.put, List.setIfInBounds_toArray, List.set_cons_zero, List.set_cons_succ]
  refine' take_on 9 rfl rfl (by kernel_rfl) (fun _ _ _ h => h) rfl hHeld (fun w' hSw => ?_) ?_; rotate_left; (have m6 := hSw.mb.at_ 6 (v := (.slice (some ⟨gk, 0, none⟩) kids.length (kids.length + 80))) rfl; have n6 := hSw.nb.at_ 6 (v := (.slice A kids.length c)) rfl; have sl := hsl2 gk; clear hSw; go_simp <;> with_reducible rfl); simp only [Act.put, List.setIfInBounds_toArray, List.set_cons_zero, List.set_cons_succ]
  refine' take_on 10 rfl rfl (by kernel_rfl) (fun _ _ _ h => h) rfl hHeld (fun w' hSw => ?_) ?_; rotate_left; (have m6 := hSw.mb.at_ 6 (v := (.slice (some ⟨gk, 0, none⟩) kids.length (kids.length + 80))) rfl; have n6 := hSw.nb.at_ 6 (v := (.slice A kids.length c)) rfl; have sl := hsl2 gk; clear hSw; go_simp <;> with_reducible rfl); simp only [Act.put, List.setIfInBounds_toArray, List.set_cons_zero, List.set_cons_succ]
  refine take_one 11 rfl (by kernel_rfl) (fun K hK => ?_)
  go_simp
  go_at_call 24
  refine (intactI _ gk A c kids HBk12.out (HRk.out _ _ H12.out) (by have := Hkl.out; omega)).mono ?_
  rintro e w8 ⟨rfl, ho⟩
  have H13 := Lib.hid (H12.out.old ho)
  have HBs13 := Lib.hid (HBs12.out.old ho)
  clear ho
  go_simp
  refine hK.out _ _ H13.out (fun hHeld => ?_)
  clear hK K
  simp only [List.setIfInBounds_toArray, List.set_cons_zero, List.set_cons_succ]
  refine' take_on 12 rfl rfl (by kernel_rfl) (fun _ _ _ h => h) rfl hHeld (fun w' hSw => ?_) ?_; rotate_left; (clear hSw; go_simp <;> with_reducible rfl); simp only [Act.put, List.setIfInBounds_toArray, List.set_cons_zero, List.set_cons_succ]
  refine' take_on 13 rfl rfl (by kernel_rfl) (fun _ _ _ h => h) rfl hHeld (fun w' hSw => ?_) ?_; rotate_left; (clear hSw; go_simp <;> with_reducible rfl); simp only [Act.put, List.setIfInBounds_toArray, List.set_cons_zero, List.set_cons_succ]
  refine' take_on 14 rfl rfl (by kernel_rfl) (fun _ _ _ h => h) rfl hHeld (fun w' hSw => ?_) ?_; rotate_left; (have m5 := hSw.mb.at_ 5 (v := (.slice (some ⟨gs, 0, none⟩) vs.length (vs.length + 80))) rfl; have n5 := hSw.nb.at_ 5 (v := (.slice vA vs.length vc)) rfl; have sl := hsv2 gs; clear hSw; go_simp <;> with_reducible rfl); simp only [Act.put, List.setIfInBounds_toArray, List.set_cons_zero, List.set_cons_succ]
  refine' take_on 15 rfl rfl (by kernel_rfl) (fun _ _ _ h => h) rfl hHeld (fun w' hSw => ?_) ?_; rotate_left; (have m5 := hSw.mb.at_ 5 (v := (.slice (some ⟨gs, 0, none⟩) vs.length (vs.length + 80))) rfl; have n5 := hSw.nb.at_ 5 (v := (.slice vA vs.length vc)) rfl; have sl := hsv2 gs; clear hSw; go_simp <;> with_reducible rfl); simp only [Act.put, List.setIfInBounds_toArray, List.set_cons_zero, List.set_cons_succ]
  refine' take_on 16 rfl rfl (by kernel_rfl) (fun _ _ _ h => h) rfl hHeld (fun w' hSw => ?_) ?_; rotate_left; (have m5 := hSw.mb.at_ 5 (v := (.slice (some ⟨gs, 0, none⟩) vs.length (vs.length + 80))) rfl; have n5 := hSw.nb.at_ 5 (v := (.slice vA vs.length vc)) rfl; have sl := hsv2 gs; clear hSw; go_simp <;> with_reducible rfl); simp only [Act.put, List.setIfInBounds_toArray, List.set_cons_zero, List.set_cons_succ]
  refine' take_on 17 rfl rfl (by kernel_rfl) (fun _ _ _ h => h) rfl hHeld (fun w' hSw => ?_) ?_; rotate_left; (have m5 := hSw.mb.at_ 5 (v := (.slice (some ⟨gs, 0, none⟩) vs.length (vs.length + 80))) rfl; have n5 := hSw.nb.at_ 5 (v := (.slice vA vs.length vc)) rfl; have sl := hsv2 gs; clear hSw; go_simp <;> with_reducible rfl); simp only [Act.put, List.setIfInBounds_toArray, List.set_cons_zero, List.set_cons_succ]
  refine' take_on 18 rfl rfl (by kernel_rfl) (fun _ _ _ h => h) rfl hHeld (fun w' hSw => ?_) ?_; rotate_left; (have m5 := hSw.mb.at_ 5 (v := (.slice (some ⟨gs, 0, none⟩) vs.length (vs.length + 80))) rfl; have n5 := hSw.nb.at_ 5 (v := (.slice vA vs.length vc)) rfl; have sl := hsv2 gs; clear hSw; go_simp <;> with_reducible rfl); simp only [Act.put, List.setIfInBounds_toArray, List.set_cons_zero, List.set_cons_succ]
  refine' take_on 19 rfl rfl (by kernel_rfl) (fun _ _ _ h => h) rfl hHeld (fun w' hSw => ?_) ?_; rotate_left; (have m5 := hSw.mb.at_ 5 (v := (.slice (some ⟨gs, 0, none⟩) vs.length (vs.length + 80))) rfl; have n5 := hSw.nb.at_ 5 (v := (.slice vA vs.length vc)) rfl; have sl := hsv2 gs; clear hSw; go_simp <;> with_reducible rfl); simp only [Act.put, List.setIfInBounds_toArray, List.set_cons_zero, List.set_cons_succ]
  refine' take_on 20 rfl rfl (by kernel_rfl) (fun _ _ _ h => h) rfl hHeld (fun w' hSw => ?_) ?_; rotate_left; (have m5 := hSw.mb.at_ 5 (v := (.slice (some ⟨gs, 0, none⟩) vs.length (vs.length + 80))) rfl; have n5 := hSw.nb.at_ 5 (v := (.slice vA vs.length vc)) rfl; have sl := hsv2 gs; clear hSw; go_simp <;> with_reducible rfl); simp only [Act.put, List.setIfInBounds_toArray, List.set_cons_zero, List.set_cons_succ]
  refine' take_on 21 rfl rfl (by kernel_rfl) (fun _ _ _ h => h) rfl hHeld (fun w' hSw => ?_) ?_; rotate_left; (have m5 := hSw.mb.at_ 5 (v := (.slice (some ⟨gs, 0, none⟩) vs.length (vs.length + 80))) rfl; have n5 := hSw.nb.at_ 5 (v := (.slice vA vs.length vc)) rfl; have sl := hsv2 gs; clear hSw; go_simp <;> with_reducible rfl); simp only [Act.put, List.setIfInBounds_toArray, List.set_cons_zero, List.set_cons_succ]
  refine' take_on 22 rfl rfl (by kernel_rfl) (fun _ _ _ h => h) rfl hHeld (fun w' hSw => ?_) ?_; rotate_left; (have m5 := hSw.mb.at_ 5 (v := (.slice (some ⟨gs, 0, none⟩) vs.length (vs.length + 80))) rfl; have n5 := hSw.nb.at_ 5 (v := (.slice vA vs.length vc)) rfl; have sl := hsv2 gs; clear hSw; go_simp <;> with_reducible rfl); simp only [Act.put, List.setIfInBounds_toArray, List.set_cons_zero, List.set_cons_succ]
  refine' take_on 23 rfl rfl (by kernel_rfl) (fun _ _ _ h => h) rfl hHeld (fun w' hSw => ?_) ?_; rotate_left; (have m5 := hSw.mb.at_ 5 (v := (.slice (some ⟨gs, 0, none⟩) vs.length (vs.length + 80))) rfl; have n5 := hSw.nb.at_ 5 (v := (.slice vA vs.length vc)) rfl; have sl := hsv2 gs; clear hSw; go_simp <;> with_reducible rfl); simp only [Act.put, List.setIfInBounds_toArray, List.set_cons_zero, List.set_cons_succ]
  refine' take_on 24 rfl rfl (by kernel_rfl) (fun _ _ _ h => h) rfl hHeld (fun w' hSw => ?_) ?_; rotate_left; (have m5 := hSw.mb.at_ 5 (v := (.slice (some ⟨gs, 0, none⟩) vs.length (vs.length + 80))) rfl; have n5 := hSw.nb.at_ 5 (v := (.slice vA vs.length vc)) rfl; have sl := hsv2 gs; clear hSw; go_simp <;> with_reducible rfl); simp only [Act.put, List.setIfInBounds_toArray, List.set_cons_zero, List.set_cons_succ]
  refine' take_on 25 rfl rfl (by kernel_rfl) (fun _ _ _ h => h) rfl hHeld (fun w' hSw => ?_) ?_; rotate_left; (have m5 := hSw.mb.at_ 5 (v := (.slice (some ⟨gs, 0, none⟩) vs.length (vs.length + 80))) rfl; have n5 := hSw.nb.at_ 5 (v := (.slice vA vs.length vc)) rfl; have sl := hsv2 gs; clear hSw; go_simp <;> with_reducible rfl); simp only [Act.put, List.setIfInBounds_toArray, List.set_cons_zero, List.set_cons_succ]
  refine take_one 26 rfl (by kernel_rfl) (fun K hK => ?_)
  go_simp
  go_at_call 25
  refine (intactS _ gs vA vc vs HBs13.out (HRv.out _ _ H13.out) (by have := Hvl.out; omega)).mono ?_
  rintro e w9 ⟨rfl, ho⟩
  have H14 := Lib.hid (H13.out.old ho)
  clear ho
  go_simp
  refine hK.out _ _ H14.out (fun hHeld => ?_)
  clear hK K
  simp only [List.setIfInBounds_toArray, List.set_cons_zero, List.set_cons_succ]
  refine' take_on 27 rfl rfl (by kernel_rfl) (fun _ _ _ h => h) rfl hHeld (fun w' hSw => ?_) ?_; rotate_left; (clear hSw; go_simp <;> with_reducible rfl); simp only [Act.put, List.setIfInBounds_toArray, List.set_cons_zero, List.set_cons_succ]
  refine' take_on 28 rfl rfl (by kernel_rfl) (fun _ _ _ h => h) rfl hHeld (fun w' hSw => ?_) ?_; rotate_left; (clear hSw; go_simp <;> with_reducible rfl); simp only [Act.put, List.setIfInBounds_toArray, List.set_cons_zero, List.set_cons_succ]
  refine wpAnyH_done (by kernel_rfl) ?_ _
  go_wp2_with fail
  go_ret
  exact ⟨rfl, H14.out.ho.mono (fun b hb e => by have h2 : w.heap.size ≤ b := e; omega)⟩
end Go.Proofs.YtmmjcbbogokmfaaGreatDoor
