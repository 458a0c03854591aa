import Derived.Test.YtmmjcbbogokmfaaGreatDoorMt01
import Derived.Test.YtmmjcbbogokmfaaGreatDoorMt19
import Derived.Test.YtmmjcbbogokmfaaGreatDoorMt39
set_option maxRecDepth 100000
set_option maxHeartbeats 25600000
namespace Go.Proofs.YtmmjcbbogokmfaaGreatDoor
open Go.RowKit
def EndsV (a b : Option Addr) : Value := .agg #[.pointer a, .pointer b]
def EndsT (w : World) (xy : List UInt8 × List UInt8) (e : Ending) (w' : World) : Prop := ∃ a b, e = .returned (EndsV a b) /\ Rp w' a xy.1 /\ Rp w' b xy.2 /\ Old w w'
theorem Rp.box {X : Nat -> Prop} {w w1 : World} {a : Option Addr} {l : List UInt8} (h : Rp w a l) (ho : Kp X w w1) (hx : ∀ b, X b -> ∃ cs, Blk w b 220 cs) : Rp w1 a l := by
  induction h with
  | nil => exact .nil
  | cons g p nx l hp hb _ ih =>
    refine .cons g p nx l hp (hb.kp ho (fun he => ?_)) ih
    obtain ⟨cs, hc⟩ := hx g he
    exact (hb.ne_ hc (by decide)) rfl
def BxS (V : World) (g : Nat) (W : World) : Prop := Kp (fun k => k = g) V W /\ ∃ u v, Blk W g 220 #[u, v]
theorem BxS.old {V W W' : World} {g : Nat} (h : BxS V g W) (ho : Old W W') : BxS V g W' := ⟨h.1.old ho, by obtain ⟨u, v, hb⟩ := h.2; exact ⟨u, v, hb.old ho⟩⟩
theorem BxS.put {V W : World} {g : Nat} (h : BxS V g W) (x y : Value) : BxS V g ((W.setCell ⟨g, 0, none⟩ x).setCell ⟨g, 1, none⟩ y) /\ Blk ((W.setCell ⟨g, 0, none⟩ x).setCell ⟨g, 1, none⟩ y) g 220 #[x, y] := by
  obtain ⟨u, v, hb⟩ := h.2
  have hb2 : Blk ((W.setCell ⟨g, 0, none⟩ x).setCell ⟨g, 1, none⟩ y) g 220 #[x, y] := by simpa using (hb.set_ 0 x).set_ 1 y
  exact ⟨⟨(h.1.setCell (p := ⟨g, 0, none⟩) (fun _ => rfl) x).setCell (p := ⟨g, 1, none⟩) (fun _ => rfl) y, x, y, hb2⟩, hb2⟩
theorem before_sign (w : World) (hg : Sg w) (a b : Option Addr) (y : List UInt8) (hy : Rp w b y) (hl2 : y.length <= 100000000000) (n : Nat) (h1 : 1 <= n) (h2 : n < 58) (hw : kM n = false) :
    Calls Tryz.prog 173 #[EndsV a b, yv n] w (EndsT w (jH n ++ y, jH n ++ y)) := by
  have he : jY n = false := decide_eq_false (by omega)
  have HE := jJ0 (fun W => empty_any W n)
  rw [he] at HE
  have HW := jJ0 (fun W => worded_any W n)
  have hw2 : decide (n <= 2 \/ 23 <= n) = false := hw
  rw [hw2] at HW
  have HS := jJ0 (fun W (hO : Old w W) => rspelled_any W (hg.old hO) n h1 h2)
  have Hlen : (jH n).length <= 20 := by
    have : ∀ n : Fin 58, (jH n.val).length <= 20 := by decide +kernel
    exact this ⟨n, h2⟩
  generalize hsp : jH n = sp at *
  have b1 : ((n : Int) == 60) = false := beq_eq_false_iff_ne.2 (by omega)
  have b2 : ¬ (58 : Int) <= (n : Int) := by omega
  unfold yv EndsV at *
  clear he hw hw2 hg hsp
  go_enter Tryz.func173, Tryz.ntmps173
  go_wp2_with (first | (go_at_call 202; refine (HE.out _).mono ?_; rintro e w1 ⟨rfl, rfl⟩) | (go_at_call 203; refine (HS.out _ (((Kp.refl NoX w).alloc _).alloc _)).mono ?_; rintro e w1 ⟨rfl, rfl⟩) | (go_at_call 205; refine (HW.out _).mono ?_; rintro e w1 ⟨rfl, rfl⟩))
  have hV : Old w ((w.alloc (.cells #[.pointer a, .pointer b] 220)).alloc (.cells #[.pointer none, .pointer none] 220)) := ((Kp.refl NoX w).alloc _).alloc _
  have hb0 : Blk ((w.alloc (.cells #[.pointer a, .pointer b] 220)).alloc (.cells #[.pointer none, .pointer none] 220)) w.heap.size 220 #[.pointer a, .pointer b] := (Blk.new _ _ _).alloc _
  have hb1 : Blk ((w.alloc (.cells #[.pointer a, .pointer b] 220)).alloc (.cells #[.pointer none, .pointer none] 220)) (w.heap.size + 1) 220 #[.pointer none, .pointer none] := by
    have := Blk.new (w.alloc (.cells #[.pointer a, .pointer b] 220)) 220 #[.pointer none, .pointer none]
    rwa [show (w.alloc (.cells #[.pointer a, .pointer b] 220)).heap.size = w.heap.size + 1 by simp] at this
  generalize ((w.alloc (.cells #[.pointer a, .pointer b] 220)).alloc (.cells #[.pointer none, .pointer none] 220)) = V at *
  generalize hS : w.heap.size = S at *
  have Hb0 := jJ0 hb0
  have Hb1 := jJ0 hb1
  have HV := jJ0 hV
  have HY := jJ0 (fun W (hk : Kp (fun k => k = S + 1) V.drew W) => hy.kp (n := S) (by omega) ((hV.mono (Y := fun k => k = S + 1) (fun _ _ f => f.elim)).drew.trans hk (fun _ _ h => h)) (fun b hb e => by omega))
  clear hb0 hb1 hV HE HW HS
  refine kn (S := fun W => BxS V.drew (S + 1) W) 10 rfl (by kernel_rfl) ⟨Kp.refl _ _, _, _, Hb1.out.drew⟩ (fun hHeld => ?_)
  (refine' jL 0 rfl rfl (by kernel_rfl) (fun _ _ _ h => h) rfl hHeld (fun w' hSw => ?_) ?_; rotate_left; (have s0 : w'.cell? ⟨S, 0, none⟩ = some (.pointer a) := (Hb0.out.drew.kp hSw.1 (by omega)).at_ 0 rfl; have s1 : w'.cell? ⟨S, 1, none⟩ = some (.pointer b) := (Hb0.out.drew.kp hSw.1 (by omega)).at_ 1 rfl; clear hSw; go_simp <;> with_reducible rfl); simp only [Act.put, List.setIfInBounds_toArray, List.set_cons_zero, List.set_cons_succ])
  (refine' jL 1 rfl rfl (by kernel_rfl) (fun _ _ _ h => h) rfl hHeld (fun w' hSw => ?_) ?_; rotate_left; (have s0 : w'.cell? ⟨S, 0, none⟩ = some (.pointer a) := (Hb0.out.drew.kp hSw.1 (by omega)).at_ 0 rfl; have s1 : w'.cell? ⟨S, 1, none⟩ = some (.pointer b) := (Hb0.out.drew.kp hSw.1 (by omega)).at_ 1 rfl; clear hSw; go_simp <;> with_reducible rfl); simp only [Act.put, List.setIfInBounds_toArray, List.set_cons_zero, List.set_cons_succ])
  (refine' jL 2 rfl rfl (by kernel_rfl) (fun _ _ _ h => h) rfl hHeld (fun w' hSw => ?_) ?_; rotate_left; (have s0 : w'.cell? ⟨S, 0, none⟩ = some (.pointer a) := (Hb0.out.drew.kp hSw.1 (by omega)).at_ 0 rfl; have s1 : w'.cell? ⟨S, 1, none⟩ = some (.pointer b) := (Hb0.out.drew.kp hSw.1 (by omega)).at_ 1 rfl; clear hSw; go_simp <;> with_reducible rfl); simp only [Act.put, List.setIfInBounds_toArray, List.set_cons_zero, List.set_cons_succ])
  (refine' jL 4 rfl rfl (by kernel_rfl) (fun _ _ _ h => h) rfl hHeld (fun w' hSw => ?_) ?_; rotate_left; (have s0 : w'.cell? ⟨S, 0, none⟩ = some (.pointer a) := (Hb0.out.drew.kp hSw.1 (by omega)).at_ 0 rfl; have s1 : w'.cell? ⟨S, 1, none⟩ = some (.pointer b) := (Hb0.out.drew.kp hSw.1 (by omega)).at_ 1 rfl; clear hSw; go_simp <;> with_reducible rfl); simp only [Act.put, List.setIfInBounds_toArray, List.set_cons_zero, List.set_cons_succ])
  (refine' jL 5 rfl rfl (by kernel_rfl) (fun _ _ _ h => h) rfl hHeld (fun w' hSw => ?_) ?_; rotate_left; (have s0 : w'.cell? ⟨S, 0, none⟩ = some (.pointer a) := (Hb0.out.drew.kp hSw.1 (by omega)).at_ 0 rfl; have s1 : w'.cell? ⟨S, 1, none⟩ = some (.pointer b) := (Hb0.out.drew.kp hSw.1 (by omega)).at_ 1 rfl; clear hSw; go_simp <;> with_reducible rfl); simp only [Act.put, List.setIfInBounds_toArray, List.set_cons_zero, List.set_cons_succ])
  (refine' jL 6 rfl rfl (by kernel_rfl) (fun _ _ _ h => h) rfl hHeld (fun w' hSw => ?_) ?_; rotate_left; (have s0 : w'.cell? ⟨S, 0, none⟩ = some (.pointer a) := (Hb0.out.drew.kp hSw.1 (by omega)).at_ 0 rfl; have s1 : w'.cell? ⟨S, 1, none⟩ = some (.pointer b) := (Hb0.out.drew.kp hSw.1 (by omega)).at_ 1 rfl; clear hSw; go_simp <;> with_reducible rfl); simp only [Act.put, List.setIfInBounds_toArray, List.set_cons_zero, List.set_cons_succ])
  refine js 3 rfl (by kernel_rfl) (fun K hK => ?_)
  go_simp
  go_at_call 142
  refine (jg _ b y (HY.out _ hHeld.1) ⟨sp.toArray⟩ (by rw [<- jA, vr]; omega)).mono ?_
  rintro e w1 ⟨p, rfl, pr, po⟩
  go_simp
  refine hK.out _ _ (hHeld.old po) (fun hHeld => ?_)
  clear hK K
  refine js 7 rfl (by kernel_rfl) (fun K hK => ?_)
  go_simp
  go_at_call 142
  refine (jg _ b y (HY.out _ hHeld.1) ⟨sp.toArray⟩ (by rw [<- jA, vr]; omega)).mono ?_
  rintro e w2 ⟨q, rfl, qr, qo⟩
  go_simp
  refine hK.out _ _ (hHeld.old qo) (fun hHeld => ?_)
  clear hK K
  (refine' jL 8 rfl rfl (by kernel_rfl) (fun _ _ _ h => h) rfl hHeld (fun w' hSw => ?_) ?_; rotate_left; (have s0 : w'.cell? ⟨S, 0, none⟩ = some (.pointer a) := (Hb0.out.drew.kp hSw.1 (by omega)).at_ 0 rfl; have s1 : w'.cell? ⟨S, 1, none⟩ = some (.pointer b) := (Hb0.out.drew.kp hSw.1 (by omega)).at_ 1 rfl; clear hSw; go_simp <;> with_reducible rfl); simp only [Act.put, List.setIfInBounds_toArray, List.set_cons_zero, List.set_cons_succ])
  have HR := jJ0 (show Rp w2 p (sp ++ y) /\ Rp w2 q (sp ++ y) from ⟨pr.old qo, qr⟩)
  clear pr po qr qo
  obtain ⟨u0, v0, hbz⟩ := hHeld.2
  have c0 : w2.cell? ⟨S + 1, 0, none⟩ = some u0 := hbz.at_ 0 rfl
  have c1 : w2.cell? ⟨S + 1, 1, none⟩ = some v0 := hbz.at_ 1 rfl
  have z0 := hbz.frozen 0
  have z1 := hbz.frozen 1
  have hput := hHeld.put (.pointer p) (.pointer q)
  refine js 9 rfl (by kernel_rfl) (fun K hK => ?_)
  go_simp
  refine hK.out _ _ hput.1 (fun hHeld2 => ?_)
  refine wpAnyH_done (by kernel_rfl) ?_ _
  clear hK K c0 c1 z0 z1
  have HF := jJ0 hput.2
  have HRp := jJ0 (fun (r : Option Addr) (h : Rp w2 r (sp ++ y)) => h.box (X := fun k => k = S + 1) (((Kp.refl (fun k => k = S + 1) w2).setCell (p := ⟨S + 1, 0, none⟩) (fun _ => rfl) (.pointer p)).setCell (p := ⟨S + 1, 1, none⟩) (fun _ => rfl) (.pointer q)) (fun b e => by subst e; obtain ⟨u, v, hb⟩ := hHeld.2; exact ⟨_, hb⟩))
  have HK := jJ0 hput.1.1
  have HK2 := jJ0 hHeld
  clear hput hHeld2 hHeld
  generalize (w2.setCell ⟨S + 1, 0, none⟩ (.pointer p)).setCell ⟨S + 1, 1, none⟩ (.pointer q) = W3 at *
  go_wp2
  refine ret_cell (g := S + 1) (cs := #[.pointer p, .pointer q]) rfl rfl HF.out Tryz.underlying220 rfl (by kernel_rfl) rfl ?_
  exact ⟨p, q, rfl, HRp.out _ HR.out.1, HRp.out _ HR.out.2, (HV.out.drew).trans HK.out (fun b hb e => by have e' : b = S + 1 := e; omega)⟩
theorem before_word (w : World) (hg : Sg w) (a b : Option Addr) (x : List UInt8) (hx : Rp w a x) (hl : x.length <= 100000000000) (n k : Nat) (h1 : 1 <= k) (h2 : k < 58) (hw : kM k = true) (hn : n = k \/ n = 60 /\ k = 34) :
    Calls Tryz.prog 173 #[EndsV a b, yv n] w (EndsT w (9 :: (jH k ++ x), jH k ++ x)) := by
  have he : jY n = false := decide_eq_false (by omega)
  have HE := jJ0 (fun W => empty_any W n)
  rw [he] at HE
  have HW := jJ0 (fun W => worded_any W k)
  have hw2 : decide (k <= 2 \/ 23 <= k) = true := hw
  rw [hw2] at HW
  have HS := jJ0 (fun W (hO : Old w W) => rspelled_any W (hg.old hO) k h1 h2)
  have Hlen : (jH k).length <= 20 := by
    have : ∀ n : Fin 58, (jH n.val).length <= 20 := by decide +kernel
    exact this ⟨k, h2⟩
  generalize hsp : jH k = sp at *
  obtain ⟨st, hst⟩ : ∃ st : ByteArray, st = ⟨sp.toArray⟩ := ⟨_, rfl⟩
  have hsb : sb st = sp := by rw [hst]; rfl
  rw [<- hst] at HS
  have hsz : st.size <= 20 := by rw [<- jA, hsb]; exact Hlen
  have hadd := fun w => run_string_add_sum (P := Tryz.prog) w ⟨#[9]⟩ st (by show 1 + st.size <= _; omega)
  have Hcat := jJ0 (show sb (⟨#[9]⟩ ++ st) = 9 :: sp by rw [sb_append, hsb]; rfl)
  generalize hcat : (⟨#[9]⟩ ++ st : ByteArray) = ct at *
  have Hsb := jJ0 hsb
  have Hct := jJ0 (show ct.size <= 21 by rw [<- jA, Hcat.out, List.length_cons]; omega)
  clear he hw hw2 hg hsp hst hsb
  unfold EndsV
  rcases hn with rfl | ⟨rfl, rfl⟩
  · have b1 : ((n : Int) == 60) = false := beq_eq_false_iff_ne.2 (by omega)
    have b2 : ¬ (58 : Int) <= (n : Int) := by omega
    unfold yv at *
    go_enter Tryz.func173, Tryz.ntmps173
    go_wp2_with (first | (go_at_call 202; refine (HE.out _).mono ?_; rintro e w1 ⟨rfl, rfl⟩) | (go_at_call 203; refine (HS.out _ (((Kp.refl NoX w).alloc _).alloc _)).mono ?_; rintro e w1 ⟨rfl, rfl⟩) | (go_at_call 205; refine (HW.out _).mono ?_; rintro e w1 ⟨rfl, rfl⟩))
    have hV : Old w ((w.alloc (.cells #[.pointer a, .pointer b] 220)).alloc (.cells #[.pointer none, .pointer none] 220)) := ((Kp.refl NoX w).alloc _).alloc _
    have hb0 : Blk ((w.alloc (.cells #[.pointer a, .pointer b] 220)).alloc (.cells #[.pointer none, .pointer none] 220)) w.heap.size 220 #[.pointer a, .pointer b] := (Blk.new _ _ _).alloc _
    have hb1 : Blk ((w.alloc (.cells #[.pointer a, .pointer b] 220)).alloc (.cells #[.pointer none, .pointer none] 220)) (w.heap.size + 1) 220 #[.pointer none, .pointer none] := by
      have := Blk.new (w.alloc (.cells #[.pointer a, .pointer b] 220)) 220 #[.pointer none, .pointer none]
      rwa [show (w.alloc (.cells #[.pointer a, .pointer b] 220)).heap.size = w.heap.size + 1 by simp] at this
    generalize ((w.alloc (.cells #[.pointer a, .pointer b] 220)).alloc (.cells #[.pointer none, .pointer none] 220)) = V at *
    generalize hS : w.heap.size = S at *
    have Hb0 := jJ0 hb0
    have Hb1 := jJ0 hb1
    have HV := jJ0 hV
    have HX := jJ0 (fun W (hk : Kp (fun k => k = S + 1) V.drew W) => hx.kp (n := S) (by omega) ((hV.mono (Y := fun k => k = S + 1) (fun _ _ f => f.elim)).drew.trans hk (fun _ _ h => h)) (fun b hb e => by omega))
    clear hb0 hb1 hV HE HW HS
    refine kn (S := fun W => BxS V.drew (S + 1) W) 11 rfl (by kernel_rfl) ⟨Kp.refl _ _, _, _, Hb1.out.drew⟩ (fun hHeld => ?_)
    (refine' jL 0 rfl rfl (by kernel_rfl) (fun _ _ _ h => h) rfl hHeld (fun w' hSw => ?_) ?_; rotate_left; (have s0 : w'.cell? ⟨S, 0, none⟩ = some (.pointer a) := (Hb0.out.drew.kp hSw.1 (by omega)).at_ 0 rfl; have s1 : w'.cell? ⟨S, 1, none⟩ = some (.pointer b) := (Hb0.out.drew.kp hSw.1 (by omega)).at_ 1 rfl; clear hSw; go_simp <;> with_reducible rfl); simp only [Act.put, List.setIfInBounds_toArray, List.set_cons_zero, List.set_cons_succ])
    (refine' jL 1 rfl rfl (by kernel_rfl) (fun _ _ _ h => h) rfl hHeld (fun w' hSw => ?_) ?_; rotate_left; (have s0 : w'.cell? ⟨S, 0, none⟩ = some (.pointer a) := (Hb0.out.drew.kp hSw.1 (by omega)).at_ 0 rfl; have s1 : w'.cell? ⟨S, 1, none⟩ = some (.pointer b) := (Hb0.out.drew.kp hSw.1 (by omega)).at_ 1 rfl; clear hSw; go_simp <;> with_reducible rfl); simp only [Act.put, List.setIfInBounds_toArray, List.set_cons_zero, List.set_cons_succ])
    (refine' jL 2 rfl rfl (by kernel_rfl) (fun _ _ _ h => h) rfl hHeld (fun w' hSw => ?_) ?_; rotate_left; (have s0 : w'.cell? ⟨S, 0, none⟩ = some (.pointer a) := (Hb0.out.drew.kp hSw.1 (by omega)).at_ 0 rfl; have s1 : w'.cell? ⟨S, 1, none⟩ = some (.pointer b) := (Hb0.out.drew.kp hSw.1 (by omega)).at_ 1 rfl; clear hSw; go_simp <;> with_reducible rfl); simp only [Act.put, List.setIfInBounds_toArray, List.set_cons_zero, List.set_cons_succ])
    (refine' jL 3 rfl rfl (by kernel_rfl) (fun _ _ _ h => h) rfl hHeld (fun w' hSw => ?_) ?_; rotate_left; (have s0 : w'.cell? ⟨S, 0, none⟩ = some (.pointer a) := (Hb0.out.drew.kp hSw.1 (by omega)).at_ 0 rfl; have s1 : w'.cell? ⟨S, 1, none⟩ = some (.pointer b) := (Hb0.out.drew.kp hSw.1 (by omega)).at_ 1 rfl; clear hSw; go_simp <;> with_reducible rfl); simp only [Act.put, List.setIfInBounds_toArray, List.set_cons_zero, List.set_cons_succ])
    (refine' jL 5 rfl rfl (by kernel_rfl) (fun _ _ _ h => h) rfl hHeld (fun w' hSw => ?_) ?_; rotate_left; (have s0 : w'.cell? ⟨S, 0, none⟩ = some (.pointer a) := (Hb0.out.drew.kp hSw.1 (by omega)).at_ 0 rfl; have s1 : w'.cell? ⟨S, 1, none⟩ = some (.pointer b) := (Hb0.out.drew.kp hSw.1 (by omega)).at_ 1 rfl; clear hSw; go_simp <;> with_reducible rfl); simp only [Act.put, List.setIfInBounds_toArray, List.set_cons_zero, List.set_cons_succ])
    (refine' jL 6 rfl rfl (by kernel_rfl) (fun _ _ _ h => h) rfl hHeld (fun w' hSw => ?_) ?_; rotate_left; (have s0 : w'.cell? ⟨S, 0, none⟩ = some (.pointer a) := (Hb0.out.drew.kp hSw.1 (by omega)).at_ 0 rfl; have s1 : w'.cell? ⟨S, 1, none⟩ = some (.pointer b) := (Hb0.out.drew.kp hSw.1 (by omega)).at_ 1 rfl; clear hSw; go_simp <;> with_reducible rfl); simp only [Act.put, List.setIfInBounds_toArray, List.set_cons_zero, List.set_cons_succ])
    (refine' jL 7 rfl rfl (by kernel_rfl) (fun _ _ _ h => h) rfl hHeld (fun w' hSw => ?_) ?_; rotate_left; (have s0 : w'.cell? ⟨S, 0, none⟩ = some (.pointer a) := (Hb0.out.drew.kp hSw.1 (by omega)).at_ 0 rfl; have s1 : w'.cell? ⟨S, 1, none⟩ = some (.pointer b) := (Hb0.out.drew.kp hSw.1 (by omega)).at_ 1 rfl; clear hSw; go_simp <;> with_reducible rfl); simp only [Act.put, List.setIfInBounds_toArray, List.set_cons_zero, List.set_cons_succ])
    refine js 4 rfl (by kernel_rfl) (fun K hK => ?_)
    go_simp
    go_at_call 142
    refine (jg _ a x (HX.out _ hHeld.1) ct (by have := Hct.out; omega)).mono ?_
    rintro e w1 ⟨p, rfl, pr, po⟩
    go_simp
    refine hK.out _ _ (hHeld.old po) (fun hHeld => ?_)
    clear hK K
    refine js 8 rfl (by kernel_rfl) (fun K hK => ?_)
    go_simp
    go_at_call 142
    refine (jg _ a x (HX.out _ hHeld.1) st (by omega)).mono ?_
    rintro e w2 ⟨q, rfl, qr, qo⟩
    go_simp
    refine hK.out _ _ (hHeld.old qo) (fun hHeld => ?_)
    clear hK K
    (refine' jL 9 rfl rfl (by kernel_rfl) (fun _ _ _ h => h) rfl hHeld (fun w' hSw => ?_) ?_; rotate_left; (have s0 : w'.cell? ⟨S, 0, none⟩ = some (.pointer a) := (Hb0.out.drew.kp hSw.1 (by omega)).at_ 0 rfl; have s1 : w'.cell? ⟨S, 1, none⟩ = some (.pointer b) := (Hb0.out.drew.kp hSw.1 (by omega)).at_ 1 rfl; clear hSw; go_simp <;> with_reducible rfl); simp only [Act.put, List.setIfInBounds_toArray, List.set_cons_zero, List.set_cons_succ])
    have HP : Rp w2 p (9 :: (sp ++ x)) := by have := pr.old qo; rw [Hcat.out] at this; exact this
    have HQ : Rp w2 q (sp ++ x) := by have := qr; rw [Hsb.out] at this; exact this
    clear pr po qr qo
    have HR := jJ0 (show Rp w2 p (9 :: (sp ++ x)) /\ Rp w2 q (sp ++ x) from ⟨HP, HQ⟩)
    clear HP HQ
    obtain ⟨u0, v0, hbz⟩ := hHeld.2
    have c0 : w2.cell? ⟨S + 1, 0, none⟩ = some u0 := hbz.at_ 0 rfl
    have c1 : w2.cell? ⟨S + 1, 1, none⟩ = some v0 := hbz.at_ 1 rfl
    have z0 := hbz.frozen 0
    have z1 := hbz.frozen 1
    have hput := hHeld.put (.pointer p) (.pointer q)
    refine js 10 rfl (by kernel_rfl) (fun K hK => ?_)
    go_simp
    refine hK.out _ _ hput.1 (fun hHeld2 => ?_)
    refine wpAnyH_done (by kernel_rfl) ?_ _
    clear hK K c0 c1 z0 z1
    have HF := jJ0 hput.2
    have HRp := jJ0 (fun (r : Option Addr) (l : List UInt8) (h : Rp w2 r l) => h.box (X := fun k => k = S + 1) (((Kp.refl (fun k => k = S + 1) w2).setCell (p := ⟨S + 1, 0, none⟩) (fun _ => rfl) (.pointer p)).setCell (p := ⟨S + 1, 1, none⟩) (fun _ => rfl) (.pointer q)) (fun b e => by subst e; obtain ⟨u, v, hb⟩ := hHeld.2; exact ⟨_, hb⟩))
    have HK := jJ0 hput.1.1
    clear hput hHeld2 hHeld
    generalize (w2.setCell ⟨S + 1, 0, none⟩ (.pointer p)).setCell ⟨S + 1, 1, none⟩ (.pointer q) = W3 at *
    go_wp2
    refine ret_cell (g := S + 1) (cs := #[.pointer p, .pointer q]) rfl rfl HF.out Tryz.underlying220 rfl (by kernel_rfl) rfl ?_
    exact ⟨p, q, rfl, HRp.out _ _ HR.out.1, HRp.out _ _ HR.out.2, (HV.out.drew).trans HK.out (fun b hb e => by have e' : b = S + 1 := e; omega)⟩
  · unfold yv at *
    go_enter Tryz.func173, Tryz.ntmps173
    go_wp2_with (first | (go_at_call 202; refine (HE.out _).mono ?_; rintro e w1 ⟨rfl, rfl⟩) | (go_at_call 203; refine (HS.out _ (((Kp.refl NoX w).alloc _).alloc _)).mono ?_; rintro e w1 ⟨rfl, rfl⟩) | (go_at_call 205; refine (HW.out _).mono ?_; rintro e w1 ⟨rfl, rfl⟩))
    have hV : Old w ((w.alloc (.cells #[.pointer a, .pointer b] 220)).alloc (.cells #[.pointer none, .pointer none] 220)) := ((Kp.refl NoX w).alloc _).alloc _
    have hb0 : Blk ((w.alloc (.cells #[.pointer a, .pointer b] 220)).alloc (.cells #[.pointer none, .pointer none] 220)) w.heap.size 220 #[.pointer a, .pointer b] := (Blk.new _ _ _).alloc _
    have hb1 : Blk ((w.alloc (.cells #[.pointer a, .pointer b] 220)).alloc (.cells #[.pointer none, .pointer none] 220)) (w.heap.size + 1) 220 #[.pointer none, .pointer none] := by
      have := Blk.new (w.alloc (.cells #[.pointer a, .pointer b] 220)) 220 #[.pointer none, .pointer none]
      rwa [show (w.alloc (.cells #[.pointer a, .pointer b] 220)).heap.size = w.heap.size + 1 by simp] at this
    generalize ((w.alloc (.cells #[.pointer a, .pointer b] 220)).alloc (.cells #[.pointer none, .pointer none] 220)) = V at *
    generalize hS : w.heap.size = S at *
    have Hb0 := jJ0 hb0
    have Hb1 := jJ0 hb1
    have HV := jJ0 hV
    have HX := jJ0 (fun W (hk : Kp (fun k => k = S + 1) V.drew W) => hx.kp (n := S) (by omega) ((hV.mono (Y := fun k => k = S + 1) (fun _ _ f => f.elim)).drew.trans hk (fun _ _ h => h)) (fun b hb e => by omega))
    clear hb0 hb1 hV HE HW HS
    refine kn (S := fun W => BxS V.drew (S + 1) W) 11 rfl (by kernel_rfl) ⟨Kp.refl _ _, _, _, Hb1.out.drew⟩ (fun hHeld => ?_)
    (refine' jL 0 rfl rfl (by kernel_rfl) (fun _ _ _ h => h) rfl hHeld (fun w' hSw => ?_) ?_; rotate_left; (have s0 : w'.cell? ⟨S, 0, none⟩ = some (.pointer a) := (Hb0.out.drew.kp hSw.1 (by omega)).at_ 0 rfl; have s1 : w'.cell? ⟨S, 1, none⟩ = some (.pointer b) := (Hb0.out.drew.kp hSw.1 (by omega)).at_ 1 rfl; clear hSw; go_simp <;> with_reducible rfl); simp only [Act.put, List.setIfInBounds_toArray, List.set_cons_zero, List.set_cons_succ])
    (refine' jL 1 rfl rfl (by kernel_rfl) (fun _ _ _ h => h) rfl hHeld (fun w' hSw => ?_) ?_; rotate_left; (have s0 : w'.cell? ⟨S, 0, none⟩ = some (.pointer a) := (Hb0.out.drew.kp hSw.1 (by omega)).at_ 0 rfl; have s1 : w'.cell? ⟨S, 1, none⟩ = some (.pointer b) := (Hb0.out.drew.kp hSw.1 (by omega)).at_ 1 rfl; clear hSw; go_simp <;> with_reducible rfl); simp only [Act.put, List.setIfInBounds_toArray, List.set_cons_zero, List.set_cons_succ])
    (refine' jL 2 rfl rfl (by kernel_rfl) (fun _ _ _ h => h) rfl hHeld (fun w' hSw => ?_) ?_; rotate_left; (have s0 : w'.cell? ⟨S, 0, none⟩ = some (.pointer a) := (Hb0.out.drew.kp hSw.1 (by omega)).at_ 0 rfl; have s1 : w'.cell? ⟨S, 1, none⟩ = some (.pointer b) := (Hb0.out.drew.kp hSw.1 (by omega)).at_ 1 rfl; clear hSw; go_simp <;> with_reducible rfl); simp only [Act.put, List.setIfInBounds_toArray, List.set_cons_zero, List.set_cons_succ])
    (refine' jL 3 rfl rfl (by kernel_rfl) (fun _ _ _ h => h) rfl hHeld (fun w' hSw => ?_) ?_; rotate_left; (have s0 : w'.cell? ⟨S, 0, none⟩ = some (.pointer a) := (Hb0.out.drew.kp hSw.1 (by omega)).at_ 0 rfl; have s1 : w'.cell? ⟨S, 1, none⟩ = some (.pointer b) := (Hb0.out.drew.kp hSw.1 (by omega)).at_ 1 rfl; clear hSw; go_simp <;> with_reducible rfl); simp only [Act.put, List.setIfInBounds_toArray, List.set_cons_zero, List.set_cons_succ])
    (refine' jL 5 rfl rfl (by kernel_rfl) (fun _ _ _ h => h) rfl hHeld (fun w' hSw => ?_) ?_; rotate_left; (have s0 : w'.cell? ⟨S, 0, none⟩ = some (.pointer a) := (Hb0.out.drew.kp hSw.1 (by omega)).at_ 0 rfl; have s1 : w'.cell? ⟨S, 1, none⟩ = some (.pointer b) := (Hb0.out.drew.kp hSw.1 (by omega)).at_ 1 rfl; clear hSw; go_simp <;> with_reducible rfl); simp only [Act.put, List.setIfInBounds_toArray, List.set_cons_zero, List.set_cons_succ])
    (refine' jL 6 rfl rfl (by kernel_rfl) (fun _ _ _ h => h) rfl hHeld (fun w' hSw => ?_) ?_; rotate_left; (have s0 : w'.cell? ⟨S, 0, none⟩ = some (.pointer a) := (Hb0.out.drew.kp hSw.1 (by omega)).at_ 0 rfl; have s1 : w'.cell? ⟨S, 1, none⟩ = some (.pointer b) := (Hb0.out.drew.kp hSw.1 (by omega)).at_ 1 rfl; clear hSw; go_simp <;> with_reducible rfl); simp only [Act.put, List.setIfInBounds_toArray, List.set_cons_zero, List.set_cons_succ])
    (refine' jL 7 rfl rfl (by kernel_rfl) (fun _ _ _ h => h) rfl hHeld (fun w' hSw => ?_) ?_; rotate_left; (have s0 : w'.cell? ⟨S, 0, none⟩ = some (.pointer a) := (Hb0.out.drew.kp hSw.1 (by omega)).at_ 0 rfl; have s1 : w'.cell? ⟨S, 1, none⟩ = some (.pointer b) := (Hb0.out.drew.kp hSw.1 (by omega)).at_ 1 rfl; clear hSw; go_simp <;> with_reducible rfl); simp only [Act.put, List.setIfInBounds_toArray, List.set_cons_zero, List.set_cons_succ])
    refine js 4 rfl (by kernel_rfl) (fun K hK => ?_)
    go_simp
    go_at_call 142
    refine (jg _ a x (HX.out _ hHeld.1) ct (by have := Hct.out; omega)).mono ?_
    rintro e w1 ⟨p, rfl, pr, po⟩
    go_simp
    refine hK.out _ _ (hHeld.old po) (fun hHeld => ?_)
    clear hK K
    refine js 8 rfl (by kernel_rfl) (fun K hK => ?_)
    go_simp
    go_at_call 142
    refine (jg _ a x (HX.out _ hHeld.1) st (by omega)).mono ?_
    rintro e w2 ⟨q, rfl, qr, qo⟩
    go_simp
    refine hK.out _ _ (hHeld.old qo) (fun hHeld => ?_)
    clear hK K
    (refine' jL 9 rfl rfl (by kernel_rfl) (fun _ _ _ h => h) rfl hHeld (fun w' hSw => ?_) ?_; rotate_left; (have s0 : w'.cell? ⟨S, 0, none⟩ = some (.pointer a) := (Hb0.out.drew.kp hSw.1 (by omega)).at_ 0 rfl; have s1 : w'.cell? ⟨S, 1, none⟩ = some (.pointer b) := (Hb0.out.drew.kp hSw.1 (by omega)).at_ 1 rfl; clear hSw; go_simp <;> with_reducible rfl); simp only [Act.put, List.setIfInBounds_toArray, List.set_cons_zero, List.set_cons_succ])
    have HP : Rp w2 p (9 :: (sp ++ x)) := by have := pr.old qo; rw [Hcat.out] at this; exact this
    have HQ : Rp w2 q (sp ++ x) := by have := qr; rw [Hsb.out] at this; exact this
    clear pr po qr qo
    have HR := jJ0 (show Rp w2 p (9 :: (sp ++ x)) /\ Rp w2 q (sp ++ x) from ⟨HP, HQ⟩)
    clear HP HQ
    obtain ⟨u0, v0, hbz⟩ := hHeld.2
    have c0 : w2.cell? ⟨S + 1, 0, none⟩ = some u0 := hbz.at_ 0 rfl
    have c1 : w2.cell? ⟨S + 1, 1, none⟩ = some v0 := hbz.at_ 1 rfl
    have z0 := hbz.frozen 0
    have z1 := hbz.frozen 1
    have hput := hHeld.put (.pointer p) (.pointer q)
    refine js 10 rfl (by kernel_rfl) (fun K hK => ?_)
    go_simp
    refine hK.out _ _ hput.1 (fun hHeld2 => ?_)
    refine wpAnyH_done (by kernel_rfl) ?_ _
    clear hK K c0 c1 z0 z1
    have HF := jJ0 hput.2
    have HRp := jJ0 (fun (r : Option Addr) (l : List UInt8) (h : Rp w2 r l) => h.box (X := fun k => k = S + 1) (((Kp.refl (fun k => k = S + 1) w2).setCell (p := ⟨S + 1, 0, none⟩) (fun _ => rfl) (.pointer p)).setCell (p := ⟨S + 1, 1, none⟩) (fun _ => rfl) (.pointer q)) (fun b e => by subst e; obtain ⟨u, v, hb⟩ := hHeld.2; exact ⟨_, hb⟩))
    have HK := jJ0 hput.1.1
    clear hput hHeld2 hHeld
    generalize (w2.setCell ⟨S + 1, 0, none⟩ (.pointer p)).setCell ⟨S + 1, 1, none⟩ (.pointer q) = W3 at *
    go_wp2
    refine ret_cell (g := S + 1) (cs := #[.pointer p, .pointer q]) rfl rfl HF.out Tryz.underlying220 rfl (by kernel_rfl) rfl ?_
    exact ⟨p, q, rfl, HRp.out _ _ HR.out.1, HRp.out _ _ HR.out.2, (HV.out.drew).trans HK.out (fun b hb e => by have e' : b = S + 1 := e; omega)⟩
end Go.Proofs.YtmmjcbbogokmfaaGreatDoor
