import Derived.Test.YtmmjcbbogokmfaaGreatDoorMt01
import Derived.Test.YtmmjcbbogokmfaaGreatDoorMt13
import Derived.Test.YtmmjcbbogokmfaaGreatDoorMt40
set_option maxRecDepth 100000
set_option maxHeartbeats 25600000
namespace Go.Proofs.YtmmjcbbogokmfaaGreatDoor
open Go.RowKit
theorem before_expr (w : World) (hg : Sg w) (a b : Option Addr) (x y : List UInt8) (hx : Rp w a x) (hy : Rp w b y) (hl : x.length <= 100000000000) (hl2 : y.length <= 100000000000) (n : Nat) (h58 : 58 <= n) (h60 : n ≠ 60) (he : jY n = false) :
    Calls Tryz.prog 173 #[EndsV a b, yv n] w (EndsT w (vN (9 :: 48 :: x) (34 :: 34 :: y), vN (48 :: x) (34 :: 34 :: y))) := by
  have HE := jJ0 (fun W => empty_any W n)
  rw [he] at HE
  have HS := jJ0 (fun W (hO : Old w W) => rspelled_any W (hg.old hO) 3 (by decide) (by decide))
  have b1 : ((n : Int) == 60) = false := beq_eq_false_iff_ne.2 (by omega)
  have b2 : (58 : Int) <= (n : Int) := by omega
  unfold EndsV yv at *
  clear he hg h58 h60
  go_enter Tryz.func173, Tryz.ntmps173
  go_wp2_with (go_at_call 202; refine (HE.out _).mono ?_; rintro e w1 ⟨rfl, rfl⟩)
  have hV : Old w ((w.alloc (.cells #[.pointer a, .pointer b] 220)).alloc (.cells #[.pointer none, .pointer none] 220)) := ((Kp.refl NoX w).alloc _).alloc _
  have hb0 : Blk ((w.alloc (.cells #[.pointer a, .pointer b] 220)).alloc (.cells #[.pointer none, .pointer none] 220)) w.heap.size 220 #[.pointer a, .pointer b] := (Blk.new _ _ _).alloc _
  have hb1 : Blk ((w.alloc (.cells #[.pointer a, .pointer b] 220)).alloc (.cells #[.pointer none, .pointer none] 220)) (w.heap.size + 1) 220 #[.pointer none, .pointer none] := by
    have := Blk.new (w.alloc (.cells #[.pointer a, .pointer b] 220)) 220 #[.pointer none, .pointer none]
    rwa [show (w.alloc (.cells #[.pointer a, .pointer b] 220)).heap.size = w.heap.size + 1 by simp] at this
  generalize ((w.alloc (.cells #[.pointer a, .pointer b] 220)).alloc (.cells #[.pointer none, .pointer none] 220)) = V at *
  generalize hS : w.heap.size = S at *
  have Hb0 := jJ0 (Blk.drew hb0)
  have HV := jJ0 hV
  have HY := jJ0 (fun W (hk : Old V.drew W) => hy.old (hV.drew.old hk))
  have HS := jJ0 (fun W (hk : Old V.drew W) => HS.out W (hV.drew.old hk))
  have Hb1 := jJ0 (Blk.drew hb1)
  clear hb0 hb1 HE
  refine kn (S := fun W => BxS V.drew (S + 1) W /\ Old V.drew W) 5 rfl (by kernel_rfl) ⟨⟨Kp.refl _ _, _, _, Hb1.out⟩, Kp.refl _ _⟩ (fun hHeld => ?_)
  (refine' jL 0 rfl rfl (by kernel_rfl) (fun _ _ _ h => h) rfl hHeld (fun w' hSw => ?_) ?_; rotate_left; (have s0 : w'.cell? ⟨S, 0, none⟩ = some (.pointer a) := (Hb0.out.kp hSw.1.1 (by omega)).at_ 0 rfl; have s1 : w'.cell? ⟨S, 1, none⟩ = some (.pointer b) := (Hb0.out.kp hSw.1.1 (by omega)).at_ 1 rfl; clear hSw; go_simp <;> with_reducible rfl); simp only [Act.put, List.setIfInBounds_toArray, List.set_cons_zero, List.set_cons_succ])
  (refine' jL 1 rfl rfl (by kernel_rfl) (fun _ _ _ h => h) rfl hHeld (fun w' hSw => ?_) ?_; rotate_left; (have s0 : w'.cell? ⟨S, 0, none⟩ = some (.pointer a) := (Hb0.out.kp hSw.1.1 (by omega)).at_ 0 rfl; have s1 : w'.cell? ⟨S, 1, none⟩ = some (.pointer b) := (Hb0.out.kp hSw.1.1 (by omega)).at_ 1 rfl; clear hSw; go_simp <;> with_reducible rfl); simp only [Act.put, List.setIfInBounds_toArray, List.set_cons_zero, List.set_cons_succ])
  refine js 2 rfl (by kernel_rfl) (fun K hK => ?_)
  go_simp
  go_at_call 203
  refine (HS.out _ hHeld.2).mono ?_
  rintro e w1 ⟨rfl, rfl⟩
  go_simp
  refine hK.out _ _ hHeld (fun hHeld => ?_)
  clear hK K
  refine js 3 rfl (by kernel_rfl) (fun K hK => ?_)
  go_simp
  go_at_call 142
  refine (jg _ b y (HY.out _ hHeld.2) ⟨(jH 3).toArray⟩ (by rw [<- jA, vr]; show 2 + y.length <= _; omega)).mono ?_
  rintro e w2 ⟨t, rfl, tr, tho⟩
  go_simp
  refine hK.out _ _ ⟨hHeld.1.old tho, hHeld.2.old tho⟩ (fun hHeld => ?_)
  clear hK K
  (refine' jL 4 rfl rfl (by kernel_rfl) (fun _ _ _ h => h) rfl hHeld (fun w' hSw => ?_) ?_; rotate_left; (have s0 : w'.cell? ⟨S, 0, none⟩ = some (.pointer a) := (Hb0.out.kp hSw.1.1 (by omega)).at_ 0 rfl; have s1 : w'.cell? ⟨S, 1, none⟩ = some (.pointer b) := (Hb0.out.kp hSw.1.1 (by omega)).at_ 1 rfl; clear hSw; go_simp <;> with_reducible rfl); simp only [Act.put, List.setIfInBounds_toArray, List.set_cons_zero, List.set_cons_succ])
  refine wpAnyH_done (by kernel_rfl) ?_ _
  have hT : Rp w2 t (34 :: 34 :: y) := tr
  have HO2 := jJ0 (hV.drew.old hHeld.2)
  have hx2 := hx.old HO2.out
  obtain ⟨u0, v0, hbz⟩ := hHeld.1.2
  have hb0' := Hb0.out.old hHeld.2
  clear Hb0 Hb1 HS HY HV hV hHeld tr tho hx hy
  have Hb0 := jJ0 (Blk.drew hb0')
  have HX := jJ0 (fun W (hk : Kp (fun k => k = S + 1) w2.drew W) => hx2.box ((Kp.refl (fun k => k = S + 1) w2).drew.trans hk (fun _ _ h => h)) (fun b e => ⟨#[u0, v0], by have e1 : b = S + 1 := e; rw [e1]; exact hbz⟩))
  have HT := jJ0 (fun W (hk : Kp (fun k => k = S + 1) w2.drew W) => hT.box ((Kp.refl (fun k => k = S + 1) w2).drew.trans hk (fun _ _ h => h)) (fun b e => ⟨#[u0, v0], by have e1 : b = S + 1 := e; rw [e1]; exact hbz⟩))
  have HO3 := jJ0 (HO2.out.drew)
  have hbz' := Blk.drew hbz
  clear hb0' hx2 hT hbz
  go_wp2
  refine kn (S := fun W => BxS w2.drew (S + 1) W) 12 rfl (by kernel_rfl) ⟨Kp.refl _ _, _, _, hbz'⟩ (fun hHeld => ?_)
  (refine' jL 0 rfl rfl (by kernel_rfl) (fun _ _ _ h => h) rfl hHeld (fun w' hSw => ?_) ?_; rotate_left; (have s0 : w'.cell? ⟨S, 0, none⟩ = some (.pointer a) := (Hb0.out.kp hSw.1 (by omega)).at_ 0 rfl; have s1 : w'.cell? ⟨S, 1, none⟩ = some (.pointer b) := (Hb0.out.kp hSw.1 (by omega)).at_ 1 rfl; clear hSw; go_simp <;> with_reducible rfl); simp only [Act.put, List.setIfInBounds_toArray, List.set_cons_zero, List.set_cons_succ])
  (refine' jL 1 rfl rfl (by kernel_rfl) (fun _ _ _ h => h) rfl hHeld (fun w' hSw => ?_) ?_; rotate_left; (have s0 : w'.cell? ⟨S, 0, none⟩ = some (.pointer a) := (Hb0.out.kp hSw.1 (by omega)).at_ 0 rfl; have s1 : w'.cell? ⟨S, 1, none⟩ = some (.pointer b) := (Hb0.out.kp hSw.1 (by omega)).at_ 1 rfl; clear hSw; go_simp <;> with_reducible rfl); simp only [Act.put, List.setIfInBounds_toArray, List.set_cons_zero, List.set_cons_succ])
  (refine' jL 3 rfl rfl (by kernel_rfl) (fun _ _ _ h => h) rfl hHeld (fun w' hSw => ?_) ?_; rotate_left; (have s0 : w'.cell? ⟨S, 0, none⟩ = some (.pointer a) := (Hb0.out.kp hSw.1 (by omega)).at_ 0 rfl; have s1 : w'.cell? ⟨S, 1, none⟩ = some (.pointer b) := (Hb0.out.kp hSw.1 (by omega)).at_ 1 rfl; clear hSw; go_simp <;> with_reducible rfl); simp only [Act.put, List.setIfInBounds_toArray, List.set_cons_zero, List.set_cons_succ])
  (refine' jL 5 rfl rfl (by kernel_rfl) (fun _ _ _ h => h) rfl hHeld (fun w' hSw => ?_) ?_; rotate_left; (have s0 : w'.cell? ⟨S, 0, none⟩ = some (.pointer a) := (Hb0.out.kp hSw.1 (by omega)).at_ 0 rfl; have s1 : w'.cell? ⟨S, 1, none⟩ = some (.pointer b) := (Hb0.out.kp hSw.1 (by omega)).at_ 1 rfl; clear hSw; go_simp <;> with_reducible rfl); simp only [Act.put, List.setIfInBounds_toArray, List.set_cons_zero, List.set_cons_succ])
  (refine' jL 6 rfl rfl (by kernel_rfl) (fun _ _ _ h => h) rfl hHeld (fun w' hSw => ?_) ?_; rotate_left; (have s0 : w'.cell? ⟨S, 0, none⟩ = some (.pointer a) := (Hb0.out.kp hSw.1 (by omega)).at_ 0 rfl; have s1 : w'.cell? ⟨S, 1, none⟩ = some (.pointer b) := (Hb0.out.kp hSw.1 (by omega)).at_ 1 rfl; clear hSw; go_simp <;> with_reducible rfl); simp only [Act.put, List.setIfInBounds_toArray, List.set_cons_zero, List.set_cons_succ])
  (refine' jL 8 rfl rfl (by kernel_rfl) (fun _ _ _ h => h) rfl hHeld (fun w' hSw => ?_) ?_; rotate_left; (have s0 : w'.cell? ⟨S, 0, none⟩ = some (.pointer a) := (Hb0.out.kp hSw.1 (by omega)).at_ 0 rfl; have s1 : w'.cell? ⟨S, 1, none⟩ = some (.pointer b) := (Hb0.out.kp hSw.1 (by omega)).at_ 1 rfl; clear hSw; go_simp <;> with_reducible rfl); simp only [Act.put, List.setIfInBounds_toArray, List.set_cons_zero, List.set_cons_succ])
  refine js 2 rfl (by kernel_rfl) (fun K hK => ?_)
  go_simp
  go_at_call 142
  refine (jg _ a x (HX.out _ hHeld.1) ⟨#[9, 48]⟩ (by show 2 + x.length <= _; omega)).mono ?_
  rintro e w3 ⟨p, rfl, pr, po⟩
  go_simp
  refine hK.out _ _ (hHeld.old po) (fun hHeld => ?_)
  clear hK K
  have hP : Rp w3 p (9 :: 48 :: x) := pr
  refine js 4 rfl (by kernel_rfl) (fun K hK => ?_)
  go_simp
  go_at_call 204
  refine (less_any _ p t (9 :: 48 :: x) (34 :: 34 :: y) hP (HT.out _ hHeld.1) (by simp; omega) (by simp; omega)).mono ?_
  rintro e w4 ⟨p4, rfl, p4r, p4o⟩
  go_simp
  refine hK.out _ _ (hHeld.old p4o) (fun hHeld => ?_)
  clear hK K
  refine js 7 rfl (by kernel_rfl) (fun K hK => ?_)
  go_simp
  go_at_call 142
  refine (jg _ a x (HX.out _ hHeld.1) ⟨#[48]⟩ (by show 1 + x.length <= _; omega)).mono ?_
  rintro e w5 ⟨q, rfl, qr, qo⟩
  go_simp
  refine hK.out _ _ (hHeld.old qo) (fun hHeld => ?_)
  clear hK K
  have hQ : Rp w5 q (48 :: x) := qr
  refine js 9 rfl (by kernel_rfl) (fun K hK => ?_)
  go_simp
  go_at_call 204
  refine (less_any _ q t (48 :: x) (34 :: 34 :: y) hQ (HT.out _ hHeld.1) (by simp; omega) (by simp; omega)).mono ?_
  rintro e w6 ⟨q4, rfl, q4r, q4o⟩
  go_simp
  refine hK.out _ _ (hHeld.old q4o) (fun hHeld => ?_)
  clear hK K
  (refine' jL 10 rfl rfl (by kernel_rfl) (fun _ _ _ h => h) rfl hHeld (fun w' hSw => ?_) ?_; rotate_left; (have s0 : w'.cell? ⟨S, 0, none⟩ = some (.pointer a) := (Hb0.out.kp hSw.1 (by omega)).at_ 0 rfl; have s1 : w'.cell? ⟨S, 1, none⟩ = some (.pointer b) := (Hb0.out.kp hSw.1 (by omega)).at_ 1 rfl; clear hSw; go_simp <;> with_reducible rfl); simp only [Act.put, List.setIfInBounds_toArray, List.set_cons_zero, List.set_cons_succ])
  have HP := (p4r.old qo).old q4o
  have HQ := q4r
  clear pr po p4r p4o qr qo q4r q4o hP hQ
  have HR := jJ0 (show Rp w6 p4 (vN (9 :: 48 :: x) (34 :: 34 :: y)) /\ Rp w6 q4 (vN (48 :: x) (34 :: 34 :: y)) from ⟨HP, HQ⟩)
  clear HP HQ
  obtain ⟨u0, v0, hbz⟩ := hHeld.2
  have c0 : w6.cell? ⟨S + 1, 0, none⟩ = some u0 := hbz.at_ 0 rfl
  have c1 : w6.cell? ⟨S + 1, 1, none⟩ = some v0 := hbz.at_ 1 rfl
  have z0 := hbz.frozen 0
  have z1 := hbz.frozen 1
  have hput := hHeld.put (.pointer p4) (.pointer q4)
  refine js 11 rfl (by kernel_rfl) (fun K hK => ?_)
  go_simp
  refine hK.out _ _ hput.1 (fun hHeld2 => ?_)
  refine wpAnyH_done (by kernel_rfl) ?_ _
  clear hK K c0 c1 z0 z1
  have HF := jJ0 hput.2
  have HRp := jJ0 (fun (r : Option Addr) (l : List UInt8) (h : Rp w6 r l) => h.box (X := fun k => k = S + 1) (((Kp.refl (fun k => k = S + 1) w6).setCell (p := ⟨S + 1, 0, none⟩) (fun _ => rfl) (.pointer p4)).setCell (p := ⟨S + 1, 1, none⟩) (fun _ => rfl) (.pointer q4)) (fun b e => by subst e; obtain ⟨u, v, hb⟩ := hHeld.2; exact ⟨_, hb⟩))
  have HK := jJ0 hput.1.1
  clear hput hHeld2 hHeld
  generalize (w6.setCell ⟨S + 1, 0, none⟩ (.pointer p4)).setCell ⟨S + 1, 1, none⟩ (.pointer q4) = W3 at *
  go_wp2
  refine ret_cell (g := S + 1) (cs := #[.pointer p4, .pointer q4]) rfl rfl HF.out Tryz.underlying220 rfl (by kernel_rfl) rfl ?_
  exact ⟨p4, q4, rfl, HRp.out _ _ HR.out.1, HRp.out _ _ HR.out.2, HO3.out.trans HK.out (fun b hb e => by have e' : b = S + 1 := e; omega)⟩
theorem before_empty (w : World) (a b : Option Addr) (x y : List UInt8) (hx : Rp w a x) (hy : Rp w b y) (n : Nat) (he : jY n = true) :
    Calls Tryz.prog 173 #[EndsV a b, yv n] w (EndsT w (x, y)) := by
  have HE := jJ0 (fun W => empty_any W n)
  rw [he] at HE
  have HX := jJ0 hx
  have HY := jJ0 hy
  unfold EndsV yv at *
  clear he hx hy
  go_enter Tryz.func173, Tryz.ntmps173
  go_wp2_with (go_at_call 202; refine (HE.out _).mono ?_; rintro e w1 ⟨rfl, rfl⟩)
  have hb1 : Blk ((w.alloc (.cells #[.pointer a, .pointer b] 220)).alloc (.cells #[.pointer a, .pointer b] 220)) (w.heap.size + 1) 220 #[.pointer a, .pointer b] := by
    have := Blk.new (w.alloc (.cells #[.pointer a, .pointer b] 220)) 220 #[.pointer a, .pointer b]
    rwa [show (w.alloc (.cells #[.pointer a, .pointer b] 220)).heap.size = w.heap.size + 1 by simp] at this
  refine ret_cell (g := w.heap.size + 1) (cs := #[.pointer a, .pointer b]) rfl rfl hb1 Tryz.underlying220 rfl (by kernel_rfl) rfl ?_
  have hO : Old w ((w.alloc (.cells #[.pointer a, .pointer b] 220)).alloc (.cells #[.pointer a, .pointer b] 220)) := ((Kp.refl NoX w).alloc _).alloc _
  exact ⟨a, b, rfl, HX.out.old hO, HY.out.old hO, hO⟩
theorem before_any (w : World) (hg : Sg w) (a b : Option Addr) (x y : List UInt8) (hx : Rp w a x) (hy : Rp w b y) (hl : x.length <= 100000000000) (hl2 : y.length <= 100000000000) (n : Nat) (h1 : 1 <= n) :
    Calls Tryz.prog 173 #[EndsV a b, yv n] w (EndsT w (jh n (x, y))) := by
  unfold jh
  by_cases he : jY n = true
  · rw [if_pos he]
    exact before_empty w a b x y hx hy n he
  · rw [if_neg he]
    have he' : jY n = false := by simpa using he
    by_cases h60 : n = 60
    · rw [if_pos h60]
      exact before_word w hg a b x hx hl n 34 (by decide) (by decide) rfl (.inr ⟨h60, rfl⟩)
    · rw [if_neg h60]
      by_cases h58 : 58 <= n
      · rw [if_pos h58]
        exact before_expr w hg a b x y hx hy hl hl2 n h58 h60 he'
      · rw [if_neg h58]
        by_cases hw : kM n = true
        · rw [if_pos hw]
          exact before_word w hg a b x hx hl n n h1 (by omega) hw (.inl rfl)
        · rw [if_neg hw]
          exact before_sign w hg a b y hy hl2 n h1 (by omega) (by simpa using hw)
theorem spelled_len (n : Nat) (h : n < 58) : (jH n).length <= 10 := by
  have : ∀ n : Fin 58, (jH n.val).length <= 10 := by decide +kernel
  exact this ⟨n, h⟩
theorem lessB_len (x y : List UInt8) : (vN x y).length <= max x.length y.length := by
  unfold vN
  split <;> omega
theorem before_len (n : Nat) (e : List UInt8 × List UInt8) (k : Nat) (h1 : e.1.length <= k) (h2 : e.2.length <= k) : (jh n e).1.length <= k + 12 /\ (jh n e).2.length <= k + 12 := by
  unfold jh
  split
  · omega
  · split
    · have := spelled_len 34 (by decide)
      simp only [List.length_cons, List.length_append]
      omega
    · split
      · have a1 := lessB_len (9 :: 48 :: e.1) (34 :: 34 :: e.2)
        have a2 := lessB_len (48 :: e.1) (34 :: 34 :: e.2)
        simp only [List.length_cons] at a1 a2 ⊢
        omega
      · rename_i h58
        have := spelled_len n (by omega)
        split
        · simp only [List.length_cons, List.length_append]
          omega
        · simp only [List.length_append]
          omega
theorem ke : ∀ st : List Nat, (jG st).1.length <= 12 * st.length /\ (jG st).2.length <= 12 * st.length
  | [] => ⟨Nat.le_refl _, Nat.le_refl _⟩
  | n :: st => by
    have ih := ke st
    have := before_len n (jG st) (12 * st.length) ih.1 ih.2
    have e : jG (n :: st) = jh n (jG st) := rfl
    rw [e, List.length_cons]
    omega
theorem rest_drop (st : List Nat) (j : Nat) (hj : j < st.length) : jG (st.drop (st.length - (j + 1))) = jh (st.getD (st.length - 1 - j) 0) (jG (st.drop (st.length - j))) := by
  have h : st.length - (j + 1) < st.length := by omega
  rw [List.drop_eq_getElem_cons h, show st.length - (j + 1) + 1 = st.length - j by omega]
  simp only [List.getD, List.getElem?_eq_getElem (show st.length - 1 - j < st.length by omega), Option.getD_some, show st.length - (j + 1) = st.length - 1 - j by omega]
  rfl
structure RestSt (w : World) (st : List Nat) (j : Nat) (wr : World) (a b : Option Addr) : Prop where
  old : Old w wr
  box : Blk wr w.heap.size 220 #[.pointer none, .pointer none]
  ends : Blk wr (w.heap.size + 1) 220 #[.pointer a, .pointer b]
  x : Rp wr a (jG (st.drop (st.length - j))).1
  y : Rp wr b (jG (st.drop (st.length - j))).2
theorem RestSt.next {w wr w1 : World} {st : List Nat} {j : Nat} {a b a' b' : Option Addr} (h : RestSt w st j wr a b) (hj : j < st.length) (ho : Old wr w1) (hx : Rp w1 a' (jh (st.getD (st.length - 1 - j) 0) (jG (st.drop (st.length - j)))).1) (hy : Rp w1 b' (jh (st.getD (st.length - 1 - j) 0) (jG (st.drop (st.length - j)))).2) :
    RestSt w st (j + 1) ((w1.setCell ⟨w.heap.size + 1, 0, none⟩ (.pointer a')).setCell ⟨w.heap.size + 1, 1, none⟩ (.pointer b')) a' b' := by
  have hb := h.ends.old ho
  have hk : Kp (fun k => k = w.heap.size + 1) w1 ((w1.setCell ⟨w.heap.size + 1, 0, none⟩ (.pointer a')).setCell ⟨w.heap.size + 1, 1, none⟩ (.pointer b')) :=
    ((Kp.refl (fun k => k = w.heap.size + 1) w1).setCell (p := ⟨w.heap.size + 1, 0, none⟩) (fun _ => rfl) _).setCell (p := ⟨w.heap.size + 1, 1, none⟩) (fun _ => rfl) _
  refine ⟨(h.old.old ho).trans hk (fun b hb e => by omega), (h.box.old ho).kp hk (by omega), by simpa using (hb.set_ 0 (.pointer a')).set_ 1 (.pointer b'), ?_, ?_⟩
  · rw [rest_drop st j hj]
    exact hx.box hk (fun k e => ⟨#[.pointer a, .pointer b], by have e1 : k = w.heap.size + 1 := e; rw [e1]; exact hb⟩)
  · rw [rest_drop st j hj]
    exact hy.box hk (fun k e => ⟨#[.pointer a, .pointer b], by have e1 : k = w.heap.size + 1 := e; rw [e1]; exact hb⟩)
theorem vy (w : World) (hg : Sg w) (g : Nat) (r : Option Nat) (src : ByteArray) (m : Mc) (A : Option Addr) (c : Nat) (h : Mac w g r src m A c) (hp : ∀ n ∈ m.stack, 1 <= n) (hl : m.stack.length <= 10000000) :
    Calls Tryz.prog 141 #[.pointer (some ⟨g, 0, none⟩)] w (EndsT w (jG m.stack)) := by
  have HM := jJ0 h
  have hc2 := h.c2
  have Hp := jJ0 hp
  clear hp
  have H0 := jJ0 (show RestSt w m.stack 0 ((w.alloc (.cells #[.pointer none, .pointer none] 220)).alloc (.cells #[.pointer none, .pointer none] 220)) none none from by
    refine ⟨((Kp.refl NoX w).alloc _).alloc _, (Blk.new _ _ _).alloc _, ?_, ?_, ?_⟩
    · have := Blk.new (w.alloc (.cells #[.pointer none, .pointer none] 220)) 220 #[.pointer none, .pointer none]
      rwa [show (w.alloc (.cells #[.pointer none, .pointer none] 220)).heap.size = w.heap.size + 1 by simp] at this
    · rw [Nat.sub_zero, List.drop_length]; exact .nil
    · rw [Nat.sub_zero, List.drop_length]; exact .nil)
  clear h
  generalize hL : m.stack.length = L at *
  have HL := jJ0 hL
  clear hL
  have hlt := HM.out.blk.lt
  go_enter Tryz.func141, Tryz.ntmps141
  go_wp2
  go_loopw [11] (fun i wr => ∃ (j : Nat) (a b : Option Addr), j <= L /\ i = .int .i64 j /\ RestSt w m.stack j wr a b) (fun i _ => L - (intOf i).toNat)
  case atStart => exact ⟨0, none, none, Nat.zero_le _, rfl, H0.out⟩
  case round =>
    clear H0
    obtain ⟨j, a, b, hj, rfl, hst⟩ := hrel
    have e0 : wr.cell? ⟨w.heap.size + 1, 0, none⟩ = some (.pointer a) := hst.ends.at_ 0 rfl
    have e1 : wr.cell? ⟨w.heap.size + 1, 1, none⟩ = some (.pointer b) := hst.ends.at_ 1 rfl
    by_cases hlt2 : j < L
    · have HSt := jJ0 hst
      obtain ⟨bb, o, rfl, hcell⟩ := (HM.out.old hst.old).own.at_ (L - 1 - j) (by rw [HL.out]; omega)
      rw [HL.out, show L - 1 - (L - 1 - j) = j by omega] at hcell
      have hn1 : 1 <= m.stack.getD (L - 1 - j) 0 := Hp.out _ (by
        have : L - 1 - j < m.stack.length := by rw [HL.out]; omega
        simp [List.getD, List.getElem?_eq_getElem this])
      have hle := ke (m.stack.drop (m.stack.length - j))
      have hdl : (m.stack.drop (m.stack.length - j)).length <= 10000000 := by rw [List.length_drop, HL.out]; omega
      have HB := jJ0 (before_any wr (hg.old hst.old) a b _ _ hst.x hst.y (by omega) (by omega) (m.stack.getD (L - 1 - j) 0) hn1)
      have HN := jJ0 (fun w1 a' b' ho hx hy => hst.next (w1 := w1) (a' := a') (b' := b') (by rw [HL.out]; exact hlt2) ho hx hy)
      rw [HL.out] at HB HN
      generalize m.stack.getD (L - 1 - j) 0 = n at *
      have c1 : (j : Int) < (L : Int) := by omega
      have c2 : (0 : Int) <= (j : Int) := by omega
      have c3 : (j : Int).toNat = j := by omega
      have c4 : IntKind.i64.wrap ((j : Int) + 1) = (j : Int) + 1 := IntWalk.i64_in _ (by omega)
      unfold yv EndsV at *
      clear hst hle hdl hn1
      go_wp2_with (go_at_call 173; refine HB.out.mono ?_; rintro e w1 ⟨a', b', he, hx, hy, ho⟩; obtain rfl : e = .returned (.agg #[.pointer a', .pointer b']) := he; have q0 : w1.cell? ⟨w.heap.size + 1, 0, none⟩ = some (.pointer a) := (HSt.out.ends.old ho).at_ 0 rfl; have q1 : w1.cell? ⟨w.heap.size + 1, 1, none⟩ = some (.pointer b) := (HSt.out.ends.old ho).at_ 1 rfl; have z0 := (HSt.out.ends.old ho).frozen 0; have z1 := (HSt.out.ends.old ho).frozen 1; have HX := jJ0 hx; have HY := jJ0 hy; have HO := jJ0 ho; clear hx hy ho)
      exact ⟨⟨j + 1, a', b', by omega, by go_num, HN.out _ _ _ HO.out HX.out HY.out⟩, by simp [intOf]; omega⟩
    · obtain rfl : j = L := by omega
      have z0 := hst.box.frozen 0
      have z1 := hst.box.frozen 1
      have r0 : wr.cell? ⟨w.heap.size, 0, none⟩ = some (.pointer none) := hst.box.at_ 0 rfl
      have r1 : wr.cell? ⟨w.heap.size, 1, none⟩ = some (.pointer none) := hst.box.at_ 1 rfl
      have hb : Blk ((wr.setCell ⟨w.heap.size, 0, none⟩ (.pointer a)).setCell ⟨w.heap.size, 1, none⟩ (.pointer b)) w.heap.size 220 #[.pointer a, .pointer b] := by simpa using (hst.box.set_ 0 (.pointer a)).set_ 1 (.pointer b)
      have hk : Kp (fun k => k = w.heap.size) wr ((wr.setCell ⟨w.heap.size, 0, none⟩ (.pointer a)).setCell ⟨w.heap.size, 1, none⟩ (.pointer b)) :=
        ((Kp.refl (fun k => k = w.heap.size) wr).setCell (p := ⟨w.heap.size, 0, none⟩) (fun _ => rfl) _).setCell (p := ⟨w.heap.size, 1, none⟩) (fun _ => rfl) _
      have Hfin := jJ0 (show EndsT w (jG m.stack) (.returned (.agg #[.pointer a, .pointer b])) ((wr.setCell ⟨w.heap.size, 0, none⟩ (.pointer a)).setCell ⟨w.heap.size, 1, none⟩ (.pointer b)) from by
        have hx := hst.x
        have hy := hst.y
        rw [HL.out, Nat.sub_self, List.drop_zero] at hx hy
        exact ⟨a, b, rfl, hx.box hk (fun k e => ⟨#[.pointer none, .pointer none], by have e1 : k = w.heap.size := e; rw [e1]; exact hst.box⟩), hy.box hk (fun k e => ⟨#[.pointer none, .pointer none], by have e1 : k = w.heap.size := e; rw [e1]; exact hst.box⟩), hst.old.trans hk (fun k hk e => by have e1 : k = w.heap.size := e; omega)⟩)
      have Hb := jJ0 hb
      clear hst hb hk
      go_wp2
      refine ret_cell (g := w.heap.size) (cs := #[.pointer a, .pointer b]) rfl rfl Hb.out Tryz.underlying220 rfl (by kernel_rfl) rfl ?_
      exact Hfin.out
theorem prefix_lite (w : World) (x y : ByteArray) : Calls Tryz.prog 207 #[.string x, .string y] w fun e w' => e = .returned (.bool ((sb y).isPrefixOf (sb x))) /\ w = w' := by
  have Hy := jJ0 (pre_eq (sb y) (sb x))
  rw [jA, jA] at Hy
  generalize (sb y).isPrefixOf (sb x) = R at *
  by_cases hle : y.size <= x.size
  · have d1 : (y.size : Int) <= (x.size : Int) := by omega
    have d2 : (0 : Int) <= (y.size : Int) := by omega
    have he : ((x.extract 0 y.size).toList == y.toList) = ((sb x).take y.size == sb y) := by rw [ByteArray.toList_eq, ByteArray.toList_eq]; show (sb (x.extract 0 y.size) == sb y) = _; rw [jo]; simp
    have HR := jJ0 (show R = ((x.extract 0 y.size).toList == y.toList) by rw [Hy.out, decide_eq_true hle, he]; rfl)
    clear he hle Hy
    go_enter Tryz.func207, Tryz.ntmps207
    go_wp2
    go_ret
    exact ⟨by rw [HR.out]; rfl, rfl⟩
  · have d1 : ¬ (y.size : Int) <= (x.size : Int) := by omega
    have HR := jJ0 (show R = false by rw [Hy.out, decide_eq_false hle]; rfl)
    clear hle Hy
    go_enter Tryz.func207, Tryz.ntmps207
    go_wp2
    go_ret
    exact ⟨by rw [HR.out]; rfl, rfl⟩
theorem prefix_any (w : World) (x y : ByteArray) : Calls Tryz.prog 178 #[.string x, .string y] w fun e w' => e = .returned (.bool ((sb y).isPrefixOf (sb x))) /\ w = w' := by
  have H := jJ0 (prefix_lite w x y)
  generalize (sb y).isPrefixOf (sb x) = R at *
  go_enter Tryz.func178, Tryz.ntmps178
  go_wp2_with (go_at_call 207; refine H.out.mono ?_; rintro e w1 ⟨rfl, rfl⟩)
  go_ret
  exact ⟨rfl, rfl⟩
def Pos (l : List Nat) : Prop := ∀ x ∈ l, 1 <= x
theorem Pos.ite {c : Prop} [Decidable c] {a b : List Nat} (ha : Pos a) (hb : Pos b) : Pos (if c then a else b) := by
  split
  · exact ha
  · exact hb
theorem Pos.of (l : List Nat) (h : l.all (fun x => decide (1 <= x)) = true) : Pos l := fun x hx => of_decide_eq_true (List.all_eq_true.1 h x hx)
theorem Pos.cons {t : Nat} {l : List Nat} (ht : 1 <= t) (h : Pos l) : Pos (t :: l) := fun x hx => by
  rcases List.mem_cons.1 hx with rfl | hx
  · exact ht
  · exact h x hx
theorem ruleN_pos (n t : Nat) (ht : 1 <= t) : Pos (jZ n t) := by
  unfold jZ kC kH jJ
  repeat' first | apply Pos.ite | exact Pos.of _ (by decide) | exact Pos.cons ht (Pos.of _ (by decide))
theorem Takes.pos {t n : Nat} {l k : List Nat} (ht : 1 <= t) (h : Takes t n l k) : Pos l -> Pos k := by
  induction h with
  | hit l => exact fun hp x hx => hp x (List.mem_cons_of_mem _ hx)
  | more n x l k _ _ ih =>
    intro hp
    refine ih (fun y hy => ?_)
    rcases List.mem_append.1 hy with hy | hy
    · exact ruleN_pos x t ht y hy
    · exact hp y (List.mem_cons_of_mem _ hy)
theorem Rp.far {X : Nat -> Prop} {w w1 : World} {a : Option Addr} {l : List UInt8} (T : TypeId) (hT : 225 ≠ T) (h : Rp w a l) (ho : Kp X w w1) (hx : ∀ b, X b -> ∃ cs, Blk w b T cs) : Rp w1 a l := by
  induction h with
  | nil => exact .nil
  | cons g p nx l hp hb _ ih =>
    refine .cons g p nx l hp (hb.kp ho (fun he => ?_)) ih
    obtain ⟨cs, hc⟩ := hx g he
    exact (hb.ne_ hc hT) rfl
theorem Tryz.endsWord (a b : Option Addr) (w : World) : (Instr.field 220 (.agg #[.pointer a, .pointer b]) 0).run Tryz.prog w = .ok (.pointer a) w := by kernel_rfl
theorem Tryz.endsOther (a b : Option Addr) (w : World) : (Instr.field 220 (.agg #[.pointer a, .pointer b]) 1).run Tryz.prog w = .ok (.pointer b) w := by kernel_rfl
theorem vK (t : Nat) (ht : t < 58) (st : List Nat) (h5 : ∀ n ∈ st, n < 85) (h : mayN t st = true) : ∃ n, n <= st.length + 100 /\ Takes t n st (jR t st) /\ (jR t st).length <= st.length + 12 := by
  obtain ⟨s, hs1, _⟩ := taken_may t ht ⟨0, st, 0, 0⟩ 0 h
  have hs2 : jt t (st.length + 100) st = some s := hs1
  have e : jR t st = s := by unfold jR; rw [hs2]; rfl
  obtain ⟨n, hn, hT⟩ := takes_of hs2
  rw [e]
  exact ⟨n, hn, hT, takeN_len t ht st _ s h5 h hs2⟩
def Tried (w : World) (bb : Nat) (R : List UInt8) (e : Ending) (w' : World) : Prop := e = .returned (.tuple #[]) /\ ∃ p, Blk w' bb 166 #[.pointer p] /\ Rp w' p R /\ Kp (fun k => k = bb) w w'
theorem Tried.store {w w3 : World} {bb : Nat} {p q : Option Addr} {R : List UInt8} (hO : Old w w3) (hbb : Blk w bb 166 #[.pointer p]) (hq : Rp w3 q R) : Tried w bb R (.returned (.tuple #[])) (w3.setCell ⟨bb, 0, none⟩ (.pointer q)) := by
  have hb3 := hbb.old hO
  have hk : Kp (fun k => k = bb) w3 (w3.setCell ⟨bb, 0, none⟩ (.pointer q)) := (Kp.refl (fun k => k = bb) w3).setCell (p := ⟨bb, 0, none⟩) (fun _ => rfl) _
  refine ⟨rfl, q, by simpa using hb3.set_ 0 (.pointer q), ?_, ?_⟩
  · exact hq.far 166 (by decide) hk (fun b e => ⟨#[.pointer p], by have e1 : b = bb := e; rw [e1]; exact hb3⟩)
  · exact (hO.mono (Y := fun k => k = bb) (fun _ _ f => f.elim)).trans hk (fun _ _ h => h)
theorem try_any (w : World) (hg : Sg w) (g : Nat) (r : Option Nat) (src : ByteArray) (m : Mc) (A : Option Addr) (c : Nat) (h : Mac w g r src m A c) (hp : Pos m.stack) (hl : m.stack.length <= 1000000) (bm bb : Nat) (hbm : Blk w bm 155 #[.pointer (some ⟨g, 0, none⟩)]) (p : Option Addr) (hbb : Blk w bb 166 #[.pointer p]) (best : List UInt8) (hb : Rp w p best) (hbl : best.length <= 1000000000) (t : Nat) (h1 : 1 <= t) (h2 : t < 58) (more : ByteArray) (hm : more.size <= 100) :
    Calls Tryz.prog 175 #[yv t, .string more, .pointer (some ⟨bm, 0, none⟩), .pointer (some ⟨bb, 0, none⟩)] w (Tried w bb (tryN m.stack best t (sb more))) := by
  have HM := jJ0 (may_any w g r src m A c h t)
  have hfw := Tryz.endsWord
  have m0 : w.cell? ⟨bm, 0, none⟩ = some (.pointer (some ⟨g, 0, none⟩)) := hbm.at_ 0 rfl
  have b0 : w.cell? ⟨bb, 0, none⟩ = some (.pointer p) := hbb.at_ 0 rfl
  have Hbb := jJ0 hbb
  have Hb := jJ0 hb
  have Hres := jJ0 (show tryN m.stack best t (sb more) = if mayN t m.stack = true then (if best = [] \/ vG (sb more ++ (jG (jR t m.stack)).1) best = true then sb more ++ (jG (jR t m.stack)).1 else best) else best from rfl)
  generalize tryN m.stack best t (sb more) = R at *
  by_cases hq : mayN t m.stack = true
  · obtain ⟨n, hn, hT, hlen⟩ := vK t h2 m.stack h.sym hq
    have HW := jJ0 (with_any w g r src m A c h t n _ h2 hT (by omega))
    have Hpos := jJ0 (hT.pos h1 hp)
    have hrl := (ke (jR t m.stack)).1
    rw [hq] at HM Hres
    generalize jR t m.stack = k at *
    have HR := jJ0 (fun W (hW : Old w W) g' r' A' c' (hMac : Mac W g' r' ⟨#[]⟩ ⟨0, k, 0, 0⟩ A' c') => vy W (hg.old hW) g' r' _ _ A' c' hMac Hpos.out (by show k.length <= _; omega))
    generalize jG k = rs at *
    have Hlen := jJ0 (show rs.1.length <= 20000000 by omega)
    obtain ⟨rs1, rs2⟩ := rs
    simp only at HR Hlen Hres hrl
    clear hrl h hg hT hlen hn hp hl hbm hbb hb
    unfold yv at *
    cases p with
    | none =>
      have hbe : best = [] := Hb.out.nil_of
      have HR2 := jJ0 (show R = sb more ++ rs1 by rw [Hres.out]; simp [hbe])
      clear Hres
      go_enter Tryz.func175, Tryz.ntmps175
      go_wp2_with (first | (go_at_call 176; refine HM.out.mono ?_; rintro e w1 ⟨rfl, rfl⟩) | (go_at_call 144; refine HW.out.mono ?_; rintro e w1 ⟨g', r', A', c', rfl, hMac, hO1⟩; have HMac := jJ0 hMac; have HO1 := jJ0 hO1; clear hMac hO1) | (go_at_call 141; refine (HR.out _ HO1.out _ _ _ _ HMac.out).mono ?_; rintro e w2 ⟨a, b, he, hx, hy, ho⟩; obtain rfl : e = .returned (.agg #[.pointer a, .pointer b]) := he; have HX := jJ0 hx; have HO2 := jJ0 (HO1.out.old ho); clear hx hy ho) | (go_at_call 142; refine (jg _ a rs1 HX.out more (by have := Hlen.out; omega)).mono ?_; rintro e w3 ⟨q, rfl, hq, ho⟩; have HQ := jJ0 hq; have HO3 := jJ0 (HO2.out.old ho); have b3 : w3.cell? ⟨bb, 0, none⟩ = some (.pointer none) := (Hbb.out.old HO3.out).at_ 0 rfl; have z3 := (Hbb.out.old HO3.out).frozen 0; clear hq ho))
      go_end0
      rw [HR2.out]
      exact Tried.store HO3.out Hbb.out HQ.out
    | some pa =>
      have hbe : best ≠ [] := fun e => by
        have := Hb.out.nil_iff.2 e
        cases this
      generalize haq : vG (sb more ++ rs1) best = q at *
      have HR2 := jJ0 (show R = if q = true then sb more ++ rs1 else best by rw [Hres.out]; simp [hbe])
      have Haq := jJ0 haq
      clear Hres haq
      cases q
      · have HR3 := jJ0 (show R = best by rw [HR2.out]; rfl)
        clear HR2
        go_enter Tryz.func175, Tryz.ntmps175
        go_wp2_with (first | (go_at_call 176; refine HM.out.mono ?_; rintro e w1 ⟨rfl, rfl⟩) | (go_at_call 144; refine HW.out.mono ?_; rintro e w1 ⟨g', r', A', c', rfl, hMac, hO1⟩; have HMac := jJ0 hMac; have HO1 := jJ0 hO1; clear hMac hO1) | (go_at_call 141; refine (HR.out _ HO1.out _ _ _ _ HMac.out).mono ?_; rintro e w2 ⟨a, b, he, hx, hy, ho⟩; obtain rfl : e = .returned (.agg #[.pointer a, .pointer b]) := he; have HX := jJ0 hx; have HO2 := jJ0 (HO1.out.old ho); clear hx hy ho) | (go_at_call 142; refine (jg _ a rs1 HX.out more (by have := Hlen.out; omega)).mono ?_; rintro e w3 ⟨q, rfl, hq, ho⟩; have HQ := jJ0 hq; have HO3 := jJ0 (HO2.out.old ho); have b3 : w3.cell? ⟨bb, 0, none⟩ = some (.pointer (some pa)) := (Hbb.out.old HO3.out).at_ 0 rfl; have z3 := (Hbb.out.old HO3.out).frozen 0; clear hq ho) | (go_at_call 177; refine (ahead_any _ q (some pa) _ best HQ.out (Hb.out.old HO3.out) (by rw [List.length_append, jA]; have := Hlen.out; omega) (by omega)).mono ?_; rw [Haq.out]; rintro e w4 ⟨rfl, ho⟩; have HO4 := jJ0 (HO3.out.old ho); clear ho))
        go_end0
        rw [HR3.out]
        exact ⟨rfl, some pa, Hbb.out.old HO4.out, Hb.out.old HO4.out, HO4.out.mono (fun _ _ f => f.elim)⟩
      · have HR3 := jJ0 (show R = sb more ++ rs1 by rw [HR2.out]; rfl)
        clear HR2
        go_enter Tryz.func175, Tryz.ntmps175
        go_wp2_with (first | (go_at_call 176; refine HM.out.mono ?_; rintro e w1 ⟨rfl, rfl⟩) | (go_at_call 144; refine HW.out.mono ?_; rintro e w1 ⟨g', r', A', c', rfl, hMac, hO1⟩; have HMac := jJ0 hMac; have HO1 := jJ0 hO1; clear hMac hO1) | (go_at_call 141; refine (HR.out _ HO1.out _ _ _ _ HMac.out).mono ?_; rintro e w2 ⟨a, b, he, hx, hy, ho⟩; obtain rfl : e = .returned (.agg #[.pointer a, .pointer b]) := he; have HX := jJ0 hx; have HO2 := jJ0 (HO1.out.old ho); clear hx hy ho) | (go_at_call 142; refine (jg _ a rs1 HX.out more (by have := Hlen.out; omega)).mono ?_; rintro e w3 ⟨q, rfl, hq, ho⟩; have HQ := jJ0 hq; have HO3 := jJ0 (HO2.out.old ho); have b3 : w3.cell? ⟨bb, 0, none⟩ = some (.pointer (some pa)) := (Hbb.out.old HO3.out).at_ 0 rfl; clear hq ho) | (go_at_call 177; refine (ahead_any _ q (some pa) _ best HQ.out (Hb.out.old HO3.out) (by rw [List.length_append, jA]; have := Hlen.out; omega) (by omega)).mono ?_; rw [Haq.out]; rintro e w4 ⟨rfl, ho⟩; have HO4 := jJ0 (HO3.out.old ho); have HQ4 := jJ0 (HQ.out.old ho); have b4 : w4.cell? ⟨bb, 0, none⟩ = some (.pointer (some pa)) := (Hbb.out.old HO4.out).at_ 0 rfl; have z4 := (Hbb.out.old HO4.out).frozen 0; clear ho))
        go_end0
        rw [HR3.out]
        exact Tried.store HO4.out Hbb.out HQ4.out
  · have hq' : mayN t m.stack = false := by simpa using hq
    rw [hq'] at HM
    have HR2 := jJ0 (show R = best by rw [Hres.out, if_neg hq])
    clear Hres h hg hp hbm hbb hb hq hq'
    unfold yv at *
    go_enter Tryz.func175, Tryz.ntmps175
    go_wp2_with (go_at_call 176; refine HM.out.mono ?_; rintro e w1 ⟨rfl, rfl⟩)
    go_end0
    rw [HR2.out]
    exact ⟨rfl, p, Hbb.out, Hb.out, Kp.refl _ _⟩
end Go.Proofs.YtmmjcbbogokmfaaGreatDoor
