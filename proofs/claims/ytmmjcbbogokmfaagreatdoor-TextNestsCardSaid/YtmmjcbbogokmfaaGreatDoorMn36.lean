import Derived.Test.YtmmjcbbogokmfaaGreatDoorMn35
/- Contract of before: a word's symbol ahead. -/
namespace Go.Proofs.YtmmjcbbogokmfaaGreatDoor
open Go.RowKit

set_option maxRecDepth 100000 in
set_option maxHeartbeats 3200000 in
theorem before_word (w : World) (hg : Sg w) (a b : Option Addr) (x : List UInt8) (hx : Rp w a x) (hl : x.length ≤ 100000000000) (n k : Nat) (h1 : 1 ≤ k) (h2 : k < 58) (hw : wordedB k = true) (hn : n = k ∨ n = 60 ∧ k = 34) :
    Calls Tryz.prog 173 #[EndsV a b, yv n] w (EndsT w (9 :: (spelledN k ++ x), spelledN k ++ x)) := by
  have he : emptyN n = false := decide_eq_false (by omega)
  have HE := Lib.hid (fun W => empty_any W n)
  rw [he] at HE
  have HW := Lib.hid (fun W => worded_any W k)
  have hw2 : decide (k ≤ 2 ∨ 23 ≤ k) = true := hw
  rw [hw2] at HW
  have HS := Lib.hid (fun W (hO : Old w W) => rspelled_any W (hg.old hO) k h1 h2)
  have Hlen : (spelledN k).length ≤ 20 := by
    have : ∀ n : Fin 58, (spelledN n.val).length ≤ 20 := by decide +kernel
    exact this ⟨k, h2⟩
  generalize hsp : spelledN k = sp at *
  obtain ⟨st, hst⟩ : ∃ st : ByteArray, st = ⟨sp.toArray⟩ := ⟨_, rfl⟩
  have hsb : sb st = sp := by rw [hst]; rfl
  rw [← hst] at HS
  have hsz : st.size ≤ 20 := by rw [← sb_length, hsb]; exact Hlen
  have hadd := fun w => run_string_add_sum (P := Tryz.prog) w ⟨#[9]⟩ st (by show 1 + st.size ≤ _; omega)
  have Hcat := Lib.hid (show sb (⟨#[9]⟩ ++ st) = 9 :: sp by rw [sb_append, hsb]; rfl)
  generalize hcat : (⟨#[9]⟩ ++ st : ByteArray) = ct at *
  have Hsb := Lib.hid hsb
  have Hct := Lib.hid (show ct.size ≤ 21 by rw [← sb_length, Hcat.out, List.length_cons]; omega)
  clear he hw hw2 hg hsp hst hsb
  unfold EndsV
  rcases hn with rfl | ⟨rfl, rfl⟩
  · have b1 : ((n : Int) == 60) = false := beq_eq_false_iff_ne.2 (by omega)
    have b2 : ¬ (58 : Int) ≤ (n : Int) := by omega
    unfold yv at *
    go_enter Tryz.func173, Tryz.ntmps173
    go_wp2_with (first | (go_at_call 202; refine (HE.out _).mono ?_; rintro e w1 ⟨rfl, rfl⟩) | (go_at_call 203; refine (HS.out _ (((Kp.refl NoX w).alloc _).alloc _)).mono ?_; rintro e w1 ⟨rfl, rfl⟩) | (go_at_call 205; refine (HW.out _).mono ?_; rintro e w1 ⟨rfl, rfl⟩))
    have hV : Old w ((w.alloc (.cells #[.pointer a, .pointer b] 220)).alloc (.cells #[.pointer none, .pointer none] 220)) := ((Kp.refl NoX w).alloc _).alloc _
    have hb0 : Blk ((w.alloc (.cells #[.pointer a, .pointer b] 220)).alloc (.cells #[.pointer none, .pointer none] 220)) w.heap.size 220 #[.pointer a, .pointer b] := (Blk.new _ _ _).alloc _
    have hb1 : Blk ((w.alloc (.cells #[.pointer a, .pointer b] 220)).alloc (.cells #[.pointer none, .pointer none] 220)) (w.heap.size + 1) 220 #[.pointer none, .pointer none] := by
      have := Blk.new (w.alloc (.cells #[.pointer a, .pointer b] 220)) 220 #[.pointer none, .pointer none]
      rwa [show (w.alloc (.cells #[.pointer a, .pointer b] 220)).heap.size = w.heap.size + 1 by simp] at this
    generalize ((w.alloc (.cells #[.pointer a, .pointer b] 220)).alloc (.cells #[.pointer none, .pointer none] 220)) = V at *
    generalize hS : w.heap.size = S at *
    have Hb0 := Lib.hid hb0
    have Hb1 := Lib.hid hb1
    have HV := Lib.hid hV
    have HX := Lib.hid (fun W (hk : Kp (fun k => k = S + 1) V.drew W) => hx.kp (n := S) (by omega) ((hV.mono (Y := fun k => k = S + 1) (fun _ _ f => f.elim)).drew.trans hk (fun _ _ h => h)) (fun b hb e => by omega))
    clear hb0 hb1 hV HE HW HS
    refine region_tkn (S := fun W => BxS V.drew (S + 1) W) 11 rfl (by kernel_rfl) ⟨Kp.refl _ _, _, _, Hb1.out.drew⟩ (fun hHeld => ?_)
    (refine' take_on 0 rfl rfl (by kernel_rfl) (fun _ _ _ h => h) rfl hHeld (fun w' hSw => ?_) ?_; rotate_left; (have s0 : w'.cell? ⟨S, 0, none⟩ = some (.pointer a) := (Hb0.out.drew.kp hSw.1 (by omega)).at_ 0 rfl; have s1 : w'.cell? ⟨S, 1, none⟩ = some (.pointer b) := (Hb0.out.drew.kp hSw.1 (by omega)).at_ 1 rfl; clear hSw; go_simp <;> with_reducible rfl); simp only [Act.put, List.setIfInBounds_toArray, List.set_cons_zero, List.set_cons_succ])
    (refine' take_on 1 rfl rfl (by kernel_rfl) (fun _ _ _ h => h) rfl hHeld (fun w' hSw => ?_) ?_; rotate_left; (have s0 : w'.cell? ⟨S, 0, none⟩ = some (.pointer a) := (Hb0.out.drew.kp hSw.1 (by omega)).at_ 0 rfl; have s1 : w'.cell? ⟨S, 1, none⟩ = some (.pointer b) := (Hb0.out.drew.kp hSw.1 (by omega)).at_ 1 rfl; clear hSw; go_simp <;> with_reducible rfl); simp only [Act.put, List.setIfInBounds_toArray, List.set_cons_zero, List.set_cons_succ])
    (refine' take_on 2 rfl rfl (by kernel_rfl) (fun _ _ _ h => h) rfl hHeld (fun w' hSw => ?_) ?_; rotate_left; (have s0 : w'.cell? ⟨S, 0, none⟩ = some (.pointer a) := (Hb0.out.drew.kp hSw.1 (by omega)).at_ 0 rfl; have s1 : w'.cell? ⟨S, 1, none⟩ = some (.pointer b) := (Hb0.out.drew.kp hSw.1 (by omega)).at_ 1 rfl; clear hSw; go_simp <;> with_reducible rfl); simp only [Act.put, List.setIfInBounds_toArray, List.set_cons_zero, List.set_cons_succ])
    (refine' take_on 3 rfl rfl (by kernel_rfl) (fun _ _ _ h => h) rfl hHeld (fun w' hSw => ?_) ?_; rotate_left; (have s0 : w'.cell? ⟨S, 0, none⟩ = some (.pointer a) := (Hb0.out.drew.kp hSw.1 (by omega)).at_ 0 rfl; have s1 : w'.cell? ⟨S, 1, none⟩ = some (.pointer b) := (Hb0.out.drew.kp hSw.1 (by omega)).at_ 1 rfl; clear hSw; go_simp <;> with_reducible rfl); simp only [Act.put, List.setIfInBounds_toArray, List.set_cons_zero, List.set_cons_succ])
    (refine' take_on 5 rfl rfl (by kernel_rfl) (fun _ _ _ h => h) rfl hHeld (fun w' hSw => ?_) ?_; rotate_left; (have s0 : w'.cell? ⟨S, 0, none⟩ = some (.pointer a) := (Hb0.out.drew.kp hSw.1 (by omega)).at_ 0 rfl; have s1 : w'.cell? ⟨S, 1, none⟩ = some (.pointer b) := (Hb0.out.drew.kp hSw.1 (by omega)).at_ 1 rfl; clear hSw; go_simp <;> with_reducible rfl); simp only [Act.put, List.setIfInBounds_toArray, List.set_cons_zero, List.set_cons_succ])
    (refine' take_on 6 rfl rfl (by kernel_rfl) (fun _ _ _ h => h) rfl hHeld (fun w' hSw => ?_) ?_; rotate_left; (have s0 : w'.cell? ⟨S, 0, none⟩ = some (.pointer a) := (Hb0.out.drew.kp hSw.1 (by omega)).at_ 0 rfl; have s1 : w'.cell? ⟨S, 1, none⟩ = some (.pointer b) := (Hb0.out.drew.kp hSw.1 (by omega)).at_ 1 rfl; clear hSw; go_simp <;> with_reducible rfl); simp only [Act.put, List.setIfInBounds_toArray, List.set_cons_zero, List.set_cons_succ])
    (refine' take_on 7 rfl rfl (by kernel_rfl) (fun _ _ _ h => h) rfl hHeld (fun w' hSw => ?_) ?_; rotate_left; (have s0 : w'.cell? ⟨S, 0, none⟩ = some (.pointer a) := (Hb0.out.drew.kp hSw.1 (by omega)).at_ 0 rfl; have s1 : w'.cell? ⟨S, 1, none⟩ = some (.pointer b) := (Hb0.out.drew.kp hSw.1 (by omega)).at_ 1 rfl; clear hSw; go_simp <;> with_reducible rfl); simp only [Act.put, List.setIfInBounds_toArray, List.set_cons_zero, List.set_cons_succ])
    refine take_one 4 rfl (by kernel_rfl) (fun K hK => ?_)
    go_simp
    go_at_call 142
    refine (rbehind_any _ a x (HX.out _ hHeld.1) ct (by have := Hct.out; omega)).mono ?_
    rintro e w1 ⟨p, rfl, pr, po⟩
    go_simp
    refine hK.out _ _ (hHeld.old po) (fun hHeld => ?_)
    clear hK K
    refine take_one 8 rfl (by kernel_rfl) (fun K hK => ?_)
    go_simp
    go_at_call 142
    refine (rbehind_any _ a x (HX.out _ hHeld.1) st (by omega)).mono ?_
    rintro e w2 ⟨q, rfl, qr, qo⟩
    go_simp
    refine hK.out _ _ (hHeld.old qo) (fun hHeld => ?_)
    clear hK K
    (refine' take_on 9 rfl rfl (by kernel_rfl) (fun _ _ _ h => h) rfl hHeld (fun w' hSw => ?_) ?_; rotate_left; (have s0 : w'.cell? ⟨S, 0, none⟩ = some (.pointer a) := (Hb0.out.drew.kp hSw.1 (by omega)).at_ 0 rfl; have s1 : w'.cell? ⟨S, 1, none⟩ = some (.pointer b) := (Hb0.out.drew.kp hSw.1 (by omega)).at_ 1 rfl; clear hSw; go_simp <;> with_reducible rfl); simp only [Act.put, List.setIfInBounds_toArray, List.set_cons_zero, List.set_cons_succ])
    have HP : Rp w2 p (9 :: (sp ++ x)) := by have := pr.old qo; rw [Hcat.out] at this; exact this
    have HQ : Rp w2 q (sp ++ x) := by have := qr; rw [Hsb.out] at this; exact this
    clear pr po qr qo
    have HR := Lib.hid (show Rp w2 p (9 :: (sp ++ x)) ∧ Rp w2 q (sp ++ x) from ⟨HP, HQ⟩)
    clear HP HQ
    obtain ⟨u0, v0, hbz⟩ := hHeld.2
    have c0 : w2.cell? ⟨S + 1, 0, none⟩ = some u0 := hbz.at_ 0 rfl
    have c1 : w2.cell? ⟨S + 1, 1, none⟩ = some v0 := hbz.at_ 1 rfl
    have z0 := hbz.frozen 0
    have z1 := hbz.frozen 1
    have hput := hHeld.put (.pointer p) (.pointer q)
    refine take_one 10 rfl (by kernel_rfl) (fun K hK => ?_)
    go_simp
    refine hK.out _ _ hput.1 (fun hHeld2 => ?_)
    refine wpAnyH_done (by kernel_rfl) ?_ _
    clear hK K c0 c1 z0 z1
    have HF := Lib.hid hput.2
    have HRp := Lib.hid (fun (r : Option Addr) (l : List UInt8) (h : Rp w2 r l) => h.box (X := fun k => k = S + 1) (((Kp.refl (fun k => k = S + 1) w2).setCell (p := ⟨S + 1, 0, none⟩) (fun _ => rfl) (.pointer p)).setCell (p := ⟨S + 1, 1, none⟩) (fun _ => rfl) (.pointer q)) (fun b e => by subst e; obtain ⟨u, v, hb⟩ := hHeld.2; exact ⟨_, hb⟩))
    have HK := Lib.hid hput.1.1
    clear hput hHeld2 hHeld
    generalize (w2.setCell ⟨S + 1, 0, none⟩ (.pointer p)).setCell ⟨S + 1, 1, none⟩ (.pointer q) = W3 at *
    go_wp2
    refine ret_cell (g := S + 1) (cs := #[.pointer p, .pointer q]) rfl rfl HF.out Tryz.underlying220 rfl (by kernel_rfl) rfl ?_
    exact ⟨p, q, rfl, HRp.out _ _ HR.out.1, HRp.out _ _ HR.out.2, (HV.out.drew).trans HK.out (fun b hb e => by have e' : b = S + 1 := e; omega)⟩
  · unfold yv at *
    go_enter Tryz.func173, Tryz.ntmps173
    go_wp2_with (first | (go_at_call 202; refine (HE.out _).mono ?_; rintro e w1 ⟨rfl, rfl⟩) | (go_at_call 203; refine (HS.out _ (((Kp.refl NoX w).alloc _).alloc _)).mono ?_; rintro e w1 ⟨rfl, rfl⟩) | (go_at_call 205; refine (HW.out _).mono ?_; rintro e w1 ⟨rfl, rfl⟩))
    have hV : Old w ((w.alloc (.cells #[.pointer a, .pointer b] 220)).alloc (.cells #[.pointer none, .pointer none] 220)) := ((Kp.refl NoX w).alloc _).alloc _
    have hb0 : Blk ((w.alloc (.cells #[.pointer a, .pointer b] 220)).alloc (.cells #[.pointer none, .pointer none] 220)) w.heap.size 220 #[.pointer a, .pointer b] := (Blk.new _ _ _).alloc _
    have hb1 : Blk ((w.alloc (.cells #[.pointer a, .pointer b] 220)).alloc (.cells #[.pointer none, .pointer none] 220)) (w.heap.size + 1) 220 #[.pointer none, .pointer none] := by
      have := Blk.new (w.alloc (.cells #[.pointer a, .pointer b] 220)) 220 #[.pointer none, .pointer none]
      rwa [show (w.alloc (.cells #[.pointer a, .pointer b] 220)).heap.size = w.heap.size + 1 by simp] at this
    generalize ((w.alloc (.cells #[.pointer a, .pointer b] 220)).alloc (.cells #[.pointer none, .pointer none] 220)) = V at *
    generalize hS : w.heap.size = S at *
    have Hb0 := Lib.hid hb0
    have Hb1 := Lib.hid hb1
    have HV := Lib.hid hV
    have HX := Lib.hid (fun W (hk : Kp (fun k => k = S + 1) V.drew W) => hx.kp (n := S) (by omega) ((hV.mono (Y := fun k => k = S + 1) (fun _ _ f => f.elim)).drew.trans hk (fun _ _ h => h)) (fun b hb e => by omega))
    clear hb0 hb1 hV HE HW HS
    refine region_tkn (S := fun W => BxS V.drew (S + 1) W) 11 rfl (by kernel_rfl) ⟨Kp.refl _ _, _, _, Hb1.out.drew⟩ (fun hHeld => ?_)
    (refine' take_on 0 rfl rfl (by kernel_rfl) (fun _ _ _ h => h) rfl hHeld (fun w' hSw => ?_) ?_; rotate_left; (have s0 : w'.cell? ⟨S, 0, none⟩ = some (.pointer a) := (Hb0.out.drew.kp hSw.1 (by omega)).at_ 0 rfl; have s1 : w'.cell? ⟨S, 1, none⟩ = some (.pointer b) := (Hb0.out.drew.kp hSw.1 (by omega)).at_ 1 rfl; clear hSw; go_simp <;> with_reducible rfl); simp only [Act.put, List.setIfInBounds_toArray, List.set_cons_zero, List.set_cons_succ])
    (refine' take_on 1 rfl rfl (by kernel_rfl) (fun _ _ _ h => h) rfl hHeld (fun w' hSw => ?_) ?_; rotate_left; (have s0 : w'.cell? ⟨S, 0, none⟩ = some (.pointer a) := (Hb0.out.drew.kp hSw.1 (by omega)).at_ 0 rfl; have s1 : w'.cell? ⟨S, 1, none⟩ = some (.pointer b) := (Hb0.out.drew.kp hSw.1 (by omega)).at_ 1 rfl; clear hSw; go_simp <;> with_reducible rfl); simp only [Act.put, List.setIfInBounds_toArray, List.set_cons_zero, List.set_cons_succ])
    (refine' take_on 2 rfl rfl (by kernel_rfl) (fun _ _ _ h => h) rfl hHeld (fun w' hSw => ?_) ?_; rotate_left; (have s0 : w'.cell? ⟨S, 0, none⟩ = some (.pointer a) := (Hb0.out.drew.kp hSw.1 (by omega)).at_ 0 rfl; have s1 : w'.cell? ⟨S, 1, none⟩ = some (.pointer b) := (Hb0.out.drew.kp hSw.1 (by omega)).at_ 1 rfl; clear hSw; go_simp <;> with_reducible rfl); simp only [Act.put, List.setIfInBounds_toArray, List.set_cons_zero, List.set_cons_succ])
    (refine' take_on 3 rfl rfl (by kernel_rfl) (fun _ _ _ h => h) rfl hHeld (fun w' hSw => ?_) ?_; rotate_left; (have s0 : w'.cell? ⟨S, 0, none⟩ = some (.pointer a) := (Hb0.out.drew.kp hSw.1 (by omega)).at_ 0 rfl; have s1 : w'.cell? ⟨S, 1, none⟩ = some (.pointer b) := (Hb0.out.drew.kp hSw.1 (by omega)).at_ 1 rfl; clear hSw; go_simp <;> with_reducible rfl); simp only [Act.put, List.setIfInBounds_toArray, List.set_cons_zero, List.set_cons_succ])
    (refine' take_on 5 rfl rfl (by kernel_rfl) (fun _ _ _ h => h) rfl hHeld (fun w' hSw => ?_) ?_; rotate_left; (have s0 : w'.cell? ⟨S, 0, none⟩ = some (.pointer a) := (Hb0.out.drew.kp hSw.1 (by omega)).at_ 0 rfl; have s1 : w'.cell? ⟨S, 1, none⟩ = some (.pointer b) := (Hb0.out.drew.kp hSw.1 (by omega)).at_ 1 rfl; clear hSw; go_simp <;> with_reducible rfl); simp only [Act.put, List.setIfInBounds_toArray, List.set_cons_zero, List.set_cons_succ])
    (refine' take_on 6 rfl rfl (by kernel_rfl) (fun _ _ _ h => h) rfl hHeld (fun w' hSw => ?_) ?_; rotate_left; (have s0 : w'.cell? ⟨S, 0, none⟩ = some (.pointer a) := (Hb0.out.drew.kp hSw.1 (by omega)).at_ 0 rfl; have s1 : w'.cell? ⟨S, 1, none⟩ = some (.pointer b) := (Hb0.out.drew.kp hSw.1 (by omega)).at_ 1 rfl; clear hSw; go_simp <;> with_reducible rfl); simp only [Act.put, List.setIfInBounds_toArray, List.set_cons_zero, List.set_cons_succ])
    (refine' take_on 7 rfl rfl (by kernel_rfl) (fun _ _ _ h => h) rfl hHeld (fun w' hSw => ?_) ?_; rotate_left; (have s0 : w'.cell? ⟨S, 0, none⟩ = some (.pointer a) := (Hb0.out.drew.kp hSw.1 (by omega)).at_ 0 rfl; have s1 : w'.cell? ⟨S, 1, none⟩ = some (.pointer b) := (Hb0.out.drew.kp hSw.1 (by omega)).at_ 1 rfl; clear hSw; go_simp <;> with_reducible rfl); simp only [Act.put, List.setIfInBounds_toArray, List.set_cons_zero, List.set_cons_succ])
    refine take_one 4 rfl (by kernel_rfl) (fun K hK => ?_)
    go_simp
    go_at_call 142
    refine (rbehind_any _ a x (HX.out _ hHeld.1) ct (by have := Hct.out; omega)).mono ?_
    rintro e w1 ⟨p, rfl, pr, po⟩
    go_simp
    refine hK.out _ _ (hHeld.old po) (fun hHeld => ?_)
    clear hK K
    refine take_one 8 rfl (by kernel_rfl) (fun K hK => ?_)
    go_simp
    go_at_call 142
    refine (rbehind_any _ a x (HX.out _ hHeld.1) st (by omega)).mono ?_
    rintro e w2 ⟨q, rfl, qr, qo⟩
    go_simp
    refine hK.out _ _ (hHeld.old qo) (fun hHeld => ?_)
    clear hK K
    (refine' take_on 9 rfl rfl (by kernel_rfl) (fun _ _ _ h => h) rfl hHeld (fun w' hSw => ?_) ?_; rotate_left; (have s0 : w'.cell? ⟨S, 0, none⟩ = some (.pointer a) := (Hb0.out.drew.kp hSw.1 (by omega)).at_ 0 rfl; have s1 : w'.cell? ⟨S, 1, none⟩ = some (.pointer b) := (Hb0.out.drew.kp hSw.1 (by omega)).at_ 1 rfl; clear hSw; go_simp <;> with_reducible rfl); simp only [Act.put, List.setIfInBounds_toArray, List.set_cons_zero, List.set_cons_succ])
    have HP : Rp w2 p (9 :: (sp ++ x)) := by have := pr.old qo; rw [Hcat.out] at this; exact this
    have HQ : Rp w2 q (sp ++ x) := by have := qr; rw [Hsb.out] at this; exact this
    clear pr po qr qo
    have HR := Lib.hid (show Rp w2 p (9 :: (sp ++ x)) ∧ Rp w2 q (sp ++ x) from ⟨HP, HQ⟩)
    clear HP HQ
    obtain ⟨u0, v0, hbz⟩ := hHeld.2
    have c0 : w2.cell? ⟨S + 1, 0, none⟩ = some u0 := hbz.at_ 0 rfl
    have c1 : w2.cell? ⟨S + 1, 1, none⟩ = some v0 := hbz.at_ 1 rfl
    have z0 := hbz.frozen 0
    have z1 := hbz.frozen 1
    have hput := hHeld.put (.pointer p) (.pointer q)
    refine take_one 10 rfl (by kernel_rfl) (fun K hK => ?_)
    go_simp
    refine hK.out _ _ hput.1 (fun hHeld2 => ?_)
    refine wpAnyH_done (by kernel_rfl) ?_ _
    clear hK K c0 c1 z0 z1
    have HF := Lib.hid hput.2
    have HRp := Lib.hid (fun (r : Option Addr) (l : List UInt8) (h : Rp w2 r l) => h.box (X := fun k => k = S + 1) (((Kp.refl (fun k => k = S + 1) w2).setCell (p := ⟨S + 1, 0, none⟩) (fun _ => rfl) (.pointer p)).setCell (p := ⟨S + 1, 1, none⟩) (fun _ => rfl) (.pointer q)) (fun b e => by subst e; obtain ⟨u, v, hb⟩ := hHeld.2; exact ⟨_, hb⟩))
    have HK := Lib.hid hput.1.1
    clear hput hHeld2 hHeld
    generalize (w2.setCell ⟨S + 1, 0, none⟩ (.pointer p)).setCell ⟨S + 1, 1, none⟩ (.pointer q) = W3 at *
    go_wp2
    refine ret_cell (g := S + 1) (cs := #[.pointer p, .pointer q]) rfl rfl HF.out Tryz.underlying220 rfl (by kernel_rfl) rfl ?_
    exact ⟨p, q, rfl, HRp.out _ _ HR.out.1, HRp.out _ _ HR.out.2, (HV.out.drew).trans HK.out (fun b hb e => by have e' : b = S + 1 := e; omega)⟩
end Go.Proofs.YtmmjcbbogokmfaaGreatDoor

/- Contract of before: an expression ahead; any symbol ahead. -/
namespace Go.Proofs.YtmmjcbbogokmfaaGreatDoor
open Go.RowKit

set_option maxRecDepth 100000 in
set_option maxHeartbeats 3200000 in
theorem before_expr (w : World) (hg : Sg w) (a b : Option Addr) (x y : List UInt8) (hx : Rp w a x) (hy : Rp w b y) (hl : x.length ≤ 100000000000) (hl2 : y.length ≤ 100000000000) (n : Nat) (h58 : 58 ≤ n) (h60 : n ≠ 60) (he : emptyN n = false) :
    Calls Tryz.prog 173 #[EndsV a b, yv n] w (EndsT w (lessB (9 :: 48 :: x) (34 :: 34 :: y), lessB (48 :: x) (34 :: 34 :: y))) := by
  have HE := Lib.hid (fun W => empty_any W n)
  rw [he] at HE
  have HS := Lib.hid (fun W (hO : Old w W) => rspelled_any W (hg.old hO) 3 (by decide) (by decide))
  have b1 : ((n : Int) == 60) = false := beq_eq_false_iff_ne.2 (by omega)
  have b2 : (58 : Int) ≤ (n : Int) := by omega
  unfold EndsV yv at *
  clear he hg h58 h60
  go_enter Tryz.func173, Tryz.ntmps173
  go_wp2_with (go_at_call 202; refine (HE.out _).mono ?_; rintro e w1 ⟨rfl, rfl⟩)
  have hV : Old w ((w.alloc (.cells #[.pointer a, .pointer b] 220)).alloc (.cells #[.pointer none, .pointer none] 220)) := ((Kp.refl NoX w).alloc _).alloc _
  have hb0 : Blk ((w.alloc (.cells #[.pointer a, .pointer b] 220)).alloc (.cells #[.pointer none, .pointer none] 220)) w.heap.size 220 #[.pointer a, .pointer b] := (Blk.new _ _ _).alloc _
  have hb1 : Blk ((w.alloc (.cells #[.pointer a, .pointer b] 220)).alloc (.cells #[.pointer none, .pointer none] 220)) (w.heap.size + 1) 220 #[.pointer none, .pointer none] := by
    have := Blk.new (w.alloc (.cells #[.pointer a, .pointer b] 220)) 220 #[.pointer none, .pointer none]
    rwa [show (w.alloc (.cells #[.pointer a, .pointer b] 220)).heap.size = w.heap.size + 1 by simp] at this
  generalize ((w.alloc (.cells #[.pointer a, .pointer b] 220)).alloc (.cells #[.pointer none, .pointer none] 220)) = V at *
  generalize hS : w.heap.size = S at *
  have Hb0 := Lib.hid (Blk.drew hb0)
  have HV := Lib.hid hV
  have HY := Lib.hid (fun W (hk : Old V.drew W) => hy.old (hV.drew.old hk))
  have HS := Lib.hid (fun W (hk : Old V.drew W) => HS.out W (hV.drew.old hk))
  have Hb1 := Lib.hid (Blk.drew hb1)
  clear hb0 hb1 HE
  refine region_tkn (S := fun W => BxS V.drew (S + 1) W ∧ Old V.drew W) 5 rfl (by kernel_rfl) ⟨⟨Kp.refl _ _, _, _, Hb1.out⟩, Kp.refl _ _⟩ (fun hHeld => ?_)
  (refine' take_on 0 rfl rfl (by kernel_rfl) (fun _ _ _ h => h) rfl hHeld (fun w' hSw => ?_) ?_; rotate_left; (have s0 : w'.cell? ⟨S, 0, none⟩ = some (.pointer a) := (Hb0.out.kp hSw.1.1 (by omega)).at_ 0 rfl; have s1 : w'.cell? ⟨S, 1, none⟩ = some (.pointer b) := (Hb0.out.kp hSw.1.1 (by omega)).at_ 1 rfl; clear hSw; go_simp <;> with_reducible rfl); simp only [Act.put, List.setIfInBounds_toArray, List.set_cons_zero, List.set_cons_succ])
  (refine' take_on 1 rfl rfl (by kernel_rfl) (fun _ _ _ h => h) rfl hHeld (fun w' hSw => ?_) ?_; rotate_left; (have s0 : w'.cell? ⟨S, 0, none⟩ = some (.pointer a) := (Hb0.out.kp hSw.1.1 (by omega)).at_ 0 rfl; have s1 : w'.cell? ⟨S, 1, none⟩ = some (.pointer b) := (Hb0.out.kp hSw.1.1 (by omega)).at_ 1 rfl; clear hSw; go_simp <;> with_reducible rfl); simp only [Act.put, List.setIfInBounds_toArray, List.set_cons_zero, List.set_cons_succ])
  refine take_one 2 rfl (by kernel_rfl) (fun K hK => ?_)
  go_simp
  go_at_call 203
  refine (HS.out _ hHeld.2).mono ?_
  rintro e w1 ⟨rfl, rfl⟩
  go_simp
  refine hK.out _ _ hHeld (fun hHeld => ?_)
  clear hK K
  refine take_one 3 rfl (by kernel_rfl) (fun K hK => ?_)
  go_simp
  go_at_call 142
  refine (rbehind_any _ b y (HY.out _ hHeld.2) ⟨(spelledN 3).toArray⟩ (by rw [← sb_length, sb_mk]; show 2 + y.length ≤ _; omega)).mono ?_
  rintro e w2 ⟨t, rfl, tr, tho⟩
  go_simp
  refine hK.out _ _ ⟨hHeld.1.old tho, hHeld.2.old tho⟩ (fun hHeld => ?_)
  clear hK K
  (refine' take_on 4 rfl rfl (by kernel_rfl) (fun _ _ _ h => h) rfl hHeld (fun w' hSw => ?_) ?_; rotate_left; (have s0 : w'.cell? ⟨S, 0, none⟩ = some (.pointer a) := (Hb0.out.kp hSw.1.1 (by omega)).at_ 0 rfl; have s1 : w'.cell? ⟨S, 1, none⟩ = some (.pointer b) := (Hb0.out.kp hSw.1.1 (by omega)).at_ 1 rfl; clear hSw; go_simp <;> with_reducible rfl); simp only [Act.put, List.setIfInBounds_toArray, List.set_cons_zero, List.set_cons_succ])
  refine wpAnyH_done (by kernel_rfl) ?_ _
  have hT : Rp w2 t (34 :: 34 :: y) := tr
  have HO2 := Lib.hid (hV.drew.old hHeld.2)
  have hx2 := hx.old HO2.out
  obtain ⟨u0, v0, hbz⟩ := hHeld.1.2
  have hb0' := Hb0.out.old hHeld.2
  clear Hb0 Hb1 HS HY HV hV hHeld tr tho hx hy
  have Hb0 := Lib.hid (Blk.drew hb0')
  have HX := Lib.hid (fun W (hk : Kp (fun k => k = S + 1) w2.drew W) => hx2.box ((Kp.refl (fun k => k = S + 1) w2).drew.trans hk (fun _ _ h => h)) (fun b e => ⟨#[u0, v0], by have e1 : b = S + 1 := e; rw [e1]; exact hbz⟩))
  have HT := Lib.hid (fun W (hk : Kp (fun k => k = S + 1) w2.drew W) => hT.box ((Kp.refl (fun k => k = S + 1) w2).drew.trans hk (fun _ _ h => h)) (fun b e => ⟨#[u0, v0], by have e1 : b = S + 1 := e; rw [e1]; exact hbz⟩))
  have HO3 := Lib.hid (HO2.out.drew)
  have hbz' := Blk.drew hbz
  clear hb0' hx2 hT hbz
  go_wp2
  refine region_tkn (S := fun W => BxS w2.drew (S + 1) W) 12 rfl (by kernel_rfl) ⟨Kp.refl _ _, _, _, hbz'⟩ (fun hHeld => ?_)
  (refine' take_on 0 rfl rfl (by kernel_rfl) (fun _ _ _ h => h) rfl hHeld (fun w' hSw => ?_) ?_; rotate_left; (have s0 : w'.cell? ⟨S, 0, none⟩ = some (.pointer a) := (Hb0.out.kp hSw.1 (by omega)).at_ 0 rfl; have s1 : w'.cell? ⟨S, 1, none⟩ = some (.pointer b) := (Hb0.out.kp hSw.1 (by omega)).at_ 1 rfl; clear hSw; go_simp <;> with_reducible rfl); simp only [Act.put, List.setIfInBounds_toArray, List.set_cons_zero, List.set_cons_succ])
  (refine' take_on 1 rfl rfl (by kernel_rfl) (fun _ _ _ h => h) rfl hHeld (fun w' hSw => ?_) ?_; rotate_left; (have s0 : w'.cell? ⟨S, 0, none⟩ = some (.pointer a) := (Hb0.out.kp hSw.1 (by omega)).at_ 0 rfl; have s1 : w'.cell? ⟨S, 1, none⟩ = some (.pointer b) := (Hb0.out.kp hSw.1 (by omega)).at_ 1 rfl; clear hSw; go_simp <;> with_reducible rfl); simp only [Act.put, List.setIfInBounds_toArray, List.set_cons_zero, List.set_cons_succ])
  (refine' take_on 3 rfl rfl (by kernel_rfl) (fun _ _ _ h => h) rfl hHeld (fun w' hSw => ?_) ?_; rotate_left; (have s0 : w'.cell? ⟨S, 0, none⟩ = some (.pointer a) := (Hb0.out.kp hSw.1 (by omega)).at_ 0 rfl; have s1 : w'.cell? ⟨S, 1, none⟩ = some (.pointer b) := (Hb0.out.kp hSw.1 (by omega)).at_ 1 rfl; clear hSw; go_simp <;> with_reducible rfl); simp only [Act.put, List.setIfInBounds_toArray, List.set_cons_zero, List.set_cons_succ])
  (refine' take_on 5 rfl rfl (by kernel_rfl) (fun _ _ _ h => h) rfl hHeld (fun w' hSw => ?_) ?_; rotate_left; (have s0 : w'.cell? ⟨S, 0, none⟩ = some (.pointer a) := (Hb0.out.kp hSw.1 (by omega)).at_ 0 rfl; have s1 : w'.cell? ⟨S, 1, none⟩ = some (.pointer b) := (Hb0.out.kp hSw.1 (by omega)).at_ 1 rfl; clear hSw; go_simp <;> with_reducible rfl); simp only [Act.put, List.setIfInBounds_toArray, List.set_cons_zero, List.set_cons_succ])
  (refine' take_on 6 rfl rfl (by kernel_rfl) (fun _ _ _ h => h) rfl hHeld (fun w' hSw => ?_) ?_; rotate_left; (have s0 : w'.cell? ⟨S, 0, none⟩ = some (.pointer a) := (Hb0.out.kp hSw.1 (by omega)).at_ 0 rfl; have s1 : w'.cell? ⟨S, 1, none⟩ = some (.pointer b) := (Hb0.out.kp hSw.1 (by omega)).at_ 1 rfl; clear hSw; go_simp <;> with_reducible rfl); simp only [Act.put, List.setIfInBounds_toArray, List.set_cons_zero, List.set_cons_succ])
  (refine' take_on 8 rfl rfl (by kernel_rfl) (fun _ _ _ h => h) rfl hHeld (fun w' hSw => ?_) ?_; rotate_left; (have s0 : w'.cell? ⟨S, 0, none⟩ = some (.pointer a) := (Hb0.out.kp hSw.1 (by omega)).at_ 0 rfl; have s1 : w'.cell? ⟨S, 1, none⟩ = some (.pointer b) := (Hb0.out.kp hSw.1 (by omega)).at_ 1 rfl; clear hSw; go_simp <;> with_reducible rfl); simp only [Act.put, List.setIfInBounds_toArray, List.set_cons_zero, List.set_cons_succ])
  refine take_one 2 rfl (by kernel_rfl) (fun K hK => ?_)
  go_simp
  go_at_call 142
  refine (rbehind_any _ a x (HX.out _ hHeld.1) ⟨#[9, 48]⟩ (by show 2 + x.length ≤ _; omega)).mono ?_
  rintro e w3 ⟨p, rfl, pr, po⟩
  go_simp
  refine hK.out _ _ (hHeld.old po) (fun hHeld => ?_)
  clear hK K
  have hP : Rp w3 p (9 :: 48 :: x) := pr
  refine take_one 4 rfl (by kernel_rfl) (fun K hK => ?_)
  go_simp
  go_at_call 204
  refine (less_any _ p t (9 :: 48 :: x) (34 :: 34 :: y) hP (HT.out _ hHeld.1) (by simp; omega) (by simp; omega)).mono ?_
  rintro e w4 ⟨p4, rfl, p4r, p4o⟩
  go_simp
  refine hK.out _ _ (hHeld.old p4o) (fun hHeld => ?_)
  clear hK K
  refine take_one 7 rfl (by kernel_rfl) (fun K hK => ?_)
  go_simp
  go_at_call 142
  refine (rbehind_any _ a x (HX.out _ hHeld.1) ⟨#[48]⟩ (by show 1 + x.length ≤ _; omega)).mono ?_
  rintro e w5 ⟨q, rfl, qr, qo⟩
  go_simp
  refine hK.out _ _ (hHeld.old qo) (fun hHeld => ?_)
  clear hK K
  have hQ : Rp w5 q (48 :: x) := qr
  refine take_one 9 rfl (by kernel_rfl) (fun K hK => ?_)
  go_simp
  go_at_call 204
  refine (less_any _ q t (48 :: x) (34 :: 34 :: y) hQ (HT.out _ hHeld.1) (by simp; omega) (by simp; omega)).mono ?_
  rintro e w6 ⟨q4, rfl, q4r, q4o⟩
  go_simp
  refine hK.out _ _ (hHeld.old q4o) (fun hHeld => ?_)
  clear hK K
  (refine' take_on 10 rfl rfl (by kernel_rfl) (fun _ _ _ h => h) rfl hHeld (fun w' hSw => ?_) ?_; rotate_left; (have s0 : w'.cell? ⟨S, 0, none⟩ = some (.pointer a) := (Hb0.out.kp hSw.1 (by omega)).at_ 0 rfl; have s1 : w'.cell? ⟨S, 1, none⟩ = some (.pointer b) := (Hb0.out.kp hSw.1 (by omega)).at_ 1 rfl; clear hSw; go_simp <;> with_reducible rfl); simp only [Act.put, List.setIfInBounds_toArray, List.set_cons_zero, List.set_cons_succ])
  have HP := (p4r.old qo).old q4o
  have HQ := q4r
  clear pr po p4r p4o qr qo q4r q4o hP hQ
  have HR := Lib.hid (show Rp w6 p4 (lessB (9 :: 48 :: x) (34 :: 34 :: y)) ∧ Rp w6 q4 (lessB (48 :: x) (34 :: 34 :: y)) from ⟨HP, HQ⟩)
  clear HP HQ
  obtain ⟨u0, v0, hbz⟩ := hHeld.2
  have c0 : w6.cell? ⟨S + 1, 0, none⟩ = some u0 := hbz.at_ 0 rfl
  have c1 : w6.cell? ⟨S + 1, 1, none⟩ = some v0 := hbz.at_ 1 rfl
  have z0 := hbz.frozen 0
  have z1 := hbz.frozen 1
  have hput := hHeld.put (.pointer p4) (.pointer q4)
  refine take_one 11 rfl (by kernel_rfl) (fun K hK => ?_)
  go_simp
  refine hK.out _ _ hput.1 (fun hHeld2 => ?_)
  refine wpAnyH_done (by kernel_rfl) ?_ _
  clear hK K c0 c1 z0 z1
  have HF := Lib.hid hput.2
  have HRp := Lib.hid (fun (r : Option Addr) (l : List UInt8) (h : Rp w6 r l) => h.box (X := fun k => k = S + 1) (((Kp.refl (fun k => k = S + 1) w6).setCell (p := ⟨S + 1, 0, none⟩) (fun _ => rfl) (.pointer p4)).setCell (p := ⟨S + 1, 1, none⟩) (fun _ => rfl) (.pointer q4)) (fun b e => by subst e; obtain ⟨u, v, hb⟩ := hHeld.2; exact ⟨_, hb⟩))
  have HK := Lib.hid hput.1.1
  clear hput hHeld2 hHeld
  generalize (w6.setCell ⟨S + 1, 0, none⟩ (.pointer p4)).setCell ⟨S + 1, 1, none⟩ (.pointer q4) = W3 at *
  go_wp2
  refine ret_cell (g := S + 1) (cs := #[.pointer p4, .pointer q4]) rfl rfl HF.out Tryz.underlying220 rfl (by kernel_rfl) rfl ?_
  exact ⟨p4, q4, rfl, HRp.out _ _ HR.out.1, HRp.out _ _ HR.out.2, HO3.out.trans HK.out (fun b hb e => by have e' : b = S + 1 := e; omega)⟩
end Go.Proofs.YtmmjcbbogokmfaaGreatDoor

/- Contracts of before and of the machine's rest. -/
namespace Go.Proofs.YtmmjcbbogokmfaaGreatDoor
open Go.RowKit

set_option maxRecDepth 100000 in
set_option maxHeartbeats 1600000 in
theorem before_empty (w : World) (a b : Option Addr) (x y : List UInt8) (hx : Rp w a x) (hy : Rp w b y) (n : Nat) (he : emptyN n = true) :
    Calls Tryz.prog 173 #[EndsV a b, yv n] w (EndsT w (x, y)) := by
  have HE := Lib.hid (fun W => empty_any W n)
  rw [he] at HE
  have HX := Lib.hid hx
  have HY := Lib.hid hy
  unfold EndsV yv at *
  clear he hx hy
  go_enter Tryz.func173, Tryz.ntmps173
  go_wp2_with (go_at_call 202; refine (HE.out _).mono ?_; rintro e w1 ⟨rfl, rfl⟩)
  have hb1 : Blk ((w.alloc (.cells #[.pointer a, .pointer b] 220)).alloc (.cells #[.pointer a, .pointer b] 220)) (w.heap.size + 1) 220 #[.pointer a, .pointer b] := by
    have := Blk.new (w.alloc (.cells #[.pointer a, .pointer b] 220)) 220 #[.pointer a, .pointer b]
    rwa [show (w.alloc (.cells #[.pointer a, .pointer b] 220)).heap.size = w.heap.size + 1 by simp] at this
  refine ret_cell (g := w.heap.size + 1) (cs := #[.pointer a, .pointer b]) rfl rfl hb1 Tryz.underlying220 rfl (by kernel_rfl) rfl ?_
  have hO : Old w ((w.alloc (.cells #[.pointer a, .pointer b] 220)).alloc (.cells #[.pointer a, .pointer b] 220)) := ((Kp.refl NoX w).alloc _).alloc _
  exact ⟨a, b, rfl, HX.out.old hO, HY.out.old hO, hO⟩
theorem before_any (w : World) (hg : Sg w) (a b : Option Addr) (x y : List UInt8) (hx : Rp w a x) (hy : Rp w b y) (hl : x.length ≤ 100000000000) (hl2 : y.length ≤ 100000000000) (n : Nat) (h1 : 1 ≤ n) :
    Calls Tryz.prog 173 #[EndsV a b, yv n] w (EndsT w (beforeN n (x, y))) := by
  unfold beforeN
  by_cases he : emptyN n = true
  · rw [if_pos he]
    exact before_empty w a b x y hx hy n he
  · rw [if_neg he]
    have he' : emptyN n = false := by simpa using he
    by_cases h60 : n = 60
    · rw [if_pos h60]
      exact before_word w hg a b x hx hl n 34 (by decide) (by decide) rfl (.inr ⟨h60, rfl⟩)
    · rw [if_neg h60]
      by_cases h58 : 58 ≤ n
      · rw [if_pos h58]
        exact before_expr w hg a b x y hx hy hl hl2 n h58 h60 he'
      · rw [if_neg h58]
        by_cases hw : wordedB n = true
        · rw [if_pos hw]
          exact before_word w hg a b x hx hl n n h1 (by omega) hw (.inl rfl)
        · rw [if_neg hw]
          exact before_sign w hg a b y hy hl2 n h1 (by omega) (by simpa using hw)
theorem spelled_len (n : Nat) (h : n < 58) : (spelledN n).length ≤ 10 := by
  have : ∀ n : Fin 58, (spelledN n.val).length ≤ 10 := by decide +kernel
  exact this ⟨n, h⟩
theorem lessB_len (x y : List UInt8) : (lessB x y).length ≤ max x.length y.length := by
  unfold lessB
  split <;> omega
theorem before_len (n : Nat) (e : List UInt8 × List UInt8) (k : Nat) (h1 : e.1.length ≤ k) (h2 : e.2.length ≤ k) : (beforeN n e).1.length ≤ k + 12 ∧ (beforeN n e).2.length ≤ k + 12 := by
  unfold beforeN
  split
  · omega
  · split
    · have := spelled_len 34 (by decide)
      simp only [List.length_cons, List.length_append]
      omega
    · split
      · have a1 := lessB_len (9 :: 48 :: e.1) (34 :: 34 :: e.2)
        have a2 := lessB_len (48 :: e.1) (34 :: 34 :: e.2)
        simp only [List.length_cons] at a1 a2 ⊢
        omega
      · rename_i h58
        have := spelled_len n (by omega)
        split
        · simp only [List.length_cons, List.length_append]
          omega
        · simp only [List.length_append]
          omega
theorem rest_len : ∀ st : List Nat, (restN st).1.length ≤ 12 * st.length ∧ (restN st).2.length ≤ 12 * st.length
  | [] => ⟨Nat.le_refl _, Nat.le_refl _⟩
  | n :: st => by
    have ih := rest_len st
    have := before_len n (restN st) (12 * st.length) ih.1 ih.2
    have e : restN (n :: st) = beforeN n (restN st) := rfl
    rw [e, List.length_cons]
    omega
end Go.Proofs.YtmmjcbbogokmfaaGreatDoor
