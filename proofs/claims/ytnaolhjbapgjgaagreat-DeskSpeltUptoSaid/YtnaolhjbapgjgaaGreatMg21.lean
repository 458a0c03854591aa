import Derived.Test.YtnaolhjbapgjgaaGreatMg11
import Derived.Test.YtnaolhjbapgjgaaGreatMg18
import Derived.Test.YtnaolhjbapgjgaaGreatMg19
import Derived.Test.YtnaolhjbapgjgaaGreatMg20
set_option maxRecDepth 100000
set_option maxHeartbeats 3200000
namespace Go.Proofs.YtnaolhjbapgjgaaGreat
open Go.RowKit
theorem LayP.after {w W w' : World} {g : Nat} {r : Option Nat} {bs : List UInt8} {o : Option (List UInt8)} {m : Nat} {e : Ending} (ho : Old w W) (h : LayP W g r bs o m e w') : LayP w g r bs o m e w' := by
  rcases h with ⟨l, h1, h2, h3, h4⟩ | ⟨h1, h2, l, h3⟩
  · exact .inl ⟨l, h1, h2, h3, WStep.after ho h4⟩
  · exact .inr ⟨h1, h2, l, WStep.after ho h3⟩
theorem answered_6 (w : World) (g : Nat) (r : Option Nat) (bs : List UInt8) (cs xs : List Value) (o : Option (List UInt8)) (m : Nat) (hW : Wr w g r bs) (hl : bs.length <= 900000000) (hm : m <= 300000000000) (hs : Sub cs 47 xs)
    (hz : (Tryz.prog.info? 48).map (·.size) = some xs.length) (HE : ∀ W, Old w W -> Calls Tryz.prog 56 #[.agg xs.toArray] W (EncP W o m)) :
    Calls Tryz.prog 26 #[.pointer (some ⟨g, 0, none⟩), .int .i64 6, .agg cs.toArray] w (LayP w g r bs o m) := by
  have Hrg := jJ0 (hs.range (Blk.new w 63 cs.toArray))
  have Ho := jJ0 ((Kp.refl NoX w).alloc (.cells cs.toArray 63))
  have HEE := jJ0 (fun W h => HE W h)
  have Hz := jJ0 hz
  clear hs hz HE
  go_enter Tryz.func26, Tryz.ntmps26
  go_wp2_with (first | ((with_reducible refine jW 48 (.tmp 43) ?_); refine Tryz.load_w rfl 48 (.tmp 43) rfl w.heap.size 47 rfl xs _ Hrg.out Tryz.underlying48 rfl Hz.out ?_) | fail)
  generalize w.alloc _ = W at *
  refine (HEE.out W Ho.out).mono ?_
  clear HEE Hrg
  rintro e w1 (⟨l, A, c, rfl, hlm, rfl, hrd, hav, ho1⟩ | ⟨er, rfl, her, rfl, ho1⟩)
  · have hW1 := (hW.old Ho.out).old ho1
    have HD := jJ0 (kM w1 g r bs A c l 0 hW1 (by omega) hrd (fun hn ad e hx => hav hn ad e (by
      have := (hW.old Ho.out).lt
      rcases hx with hx | hx
      · omega
      · exact this.2 _ hx.symm)))
    have Ho1 := jJ0 (Ho.out.old ho1)
    clear hrd hav ho1 hW1
    go_wp2_with fail
    refine HD.out.mono ?_
    rintro e w2 ⟨rfl, hst⟩
    have Hst := jJ0 (WStep.after Ho1.out hst)
    clear hst
    go_wp2
    go_ret
    exact .inl ⟨l, rfl, hlm, rfl, Hst.out⟩
  · have hW1 := (hW.old Ho.out).old ho1
    have HD := jJ0 (kM w1 g r bs none 0 [] er hW1 (by simp; omega) Rd.none_ (fun h => absurd h (by simp)))
    have Ho1 := jJ0 (Ho.out.old ho1)
    rw [show decide (er = 0) = false from decide_eq_false her] at HD
    clear ho1 hW1
    go_wp2_with fail
    refine HD.out.mono ?_
    rintro e w2 ⟨rfl, hst⟩
    have Hst := jJ0 (WStep.after Ho1.out hst)
    clear hst
    go_wp2
    go_ret
    exact .inr ⟨rfl, rfl, [], Hst.out⟩
theorem answered_8 (w : World) (g : Nat) (r : Option Nat) (bs : List UInt8) (cs xs : List Value) (o : Option (List UInt8)) (m : Nat) (hW : Wr w g r bs) (hl : bs.length <= 900000000) (hm : m <= 300000000000) (hs : Sub cs 146 xs)
    (hz : (Tryz.prog.info? 51).map (·.size) = some xs.length) (HE : ∀ W, Old w W -> Calls Tryz.prog 58 #[.agg xs.toArray] W (EncP W o m)) :
    Calls Tryz.prog 26 #[.pointer (some ⟨g, 0, none⟩), .int .i64 8, .agg cs.toArray] w (LayP w g r bs o m) := by
  have Hrg := jJ0 (hs.range (Blk.new w 63 cs.toArray))
  have Ho := jJ0 ((Kp.refl NoX w).alloc (.cells cs.toArray 63))
  have HEE := jJ0 (fun W h => HE W h)
  have Hz := jJ0 hz
  clear hs hz HE
  go_enter Tryz.func26, Tryz.ntmps26
  go_wp2_with (first | ((with_reducible refine jW 51 (.tmp 75) ?_); refine Tryz.load_w rfl 51 (.tmp 75) rfl w.heap.size 146 rfl xs _ Hrg.out Tryz.underlying51 rfl Hz.out ?_) | fail)
  generalize w.alloc _ = W at *
  refine (HEE.out W Ho.out).mono ?_
  clear HEE Hrg
  rintro e w1 (⟨l, A, c, rfl, hlm, rfl, hrd, hav, ho1⟩ | ⟨er, rfl, her, rfl, ho1⟩)
  · have hW1 := (hW.old Ho.out).old ho1
    have HD := jJ0 (kM w1 g r bs A c l 0 hW1 (by omega) hrd (fun hn ad e hx => hav hn ad e (by
      have := (hW.old Ho.out).lt
      rcases hx with hx | hx
      · omega
      · exact this.2 _ hx.symm)))
    have Ho1 := jJ0 (Ho.out.old ho1)
    clear hrd hav ho1 hW1
    go_wp2_with fail
    refine HD.out.mono ?_
    rintro e w2 ⟨rfl, hst⟩
    have Hst := jJ0 (WStep.after Ho1.out hst)
    clear hst
    go_wp2
    go_ret
    exact .inl ⟨l, rfl, hlm, rfl, Hst.out⟩
  · have hW1 := (hW.old Ho.out).old ho1
    have HD := jJ0 (kM w1 g r bs none 0 [] er hW1 (by simp; omega) Rd.none_ (fun h => absurd h (by simp)))
    have Ho1 := jJ0 (Ho.out.old ho1)
    rw [show decide (er = 0) = false from decide_eq_false her] at HD
    clear ho1 hW1
    go_wp2_with fail
    refine HD.out.mono ?_
    rintro e w2 ⟨rfl, hst⟩
    have Hst := jJ0 (WStep.after Ho1.out hst)
    clear hst
    go_wp2
    go_ret
    exact .inr ⟨rfl, rfl, [], Hst.out⟩
theorem answered_9 (w : World) (g : Nat) (r : Option Nat) (bs : List UInt8) (cs xs : List Value) (o : Option (List UInt8)) (m : Nat) (hW : Wr w g r bs) (hl : bs.length <= 900000000) (hm : m <= 300000000000) (hs : Sub cs 149 xs)
    (hz : (Tryz.prog.info? 53).map (·.size) = some xs.length) (HE : ∀ W, Old w W -> Calls Tryz.prog 59 #[.agg xs.toArray] W (EncP W o m)) :
    Calls Tryz.prog 26 #[.pointer (some ⟨g, 0, none⟩), .int .i64 9, .agg cs.toArray] w (LayP w g r bs o m) := by
  have Hrg := jJ0 (hs.range (Blk.new w 63 cs.toArray))
  have Ho := jJ0 ((Kp.refl NoX w).alloc (.cells cs.toArray 63))
  have HEE := jJ0 (fun W h => HE W h)
  have Hz := jJ0 hz
  clear hs hz HE
  go_enter Tryz.func26, Tryz.ntmps26
  go_wp2_with (first | ((with_reducible refine jW 53 (.tmp 83) ?_); refine Tryz.load_w rfl 53 (.tmp 83) rfl w.heap.size 149 rfl xs _ Hrg.out Tryz.underlying53 rfl Hz.out ?_) | fail)
  generalize w.alloc _ = W at *
  refine (HEE.out W Ho.out).mono ?_
  clear HEE Hrg
  rintro e w1 (⟨l, A, c, rfl, hlm, rfl, hrd, hav, ho1⟩ | ⟨er, rfl, her, rfl, ho1⟩)
  · have hW1 := (hW.old Ho.out).old ho1
    have HD := jJ0 (kM w1 g r bs A c l 0 hW1 (by omega) hrd (fun hn ad e hx => hav hn ad e (by
      have := (hW.old Ho.out).lt
      rcases hx with hx | hx
      · omega
      · exact this.2 _ hx.symm)))
    have Ho1 := jJ0 (Ho.out.old ho1)
    clear hrd hav ho1 hW1
    go_wp2_with fail
    refine HD.out.mono ?_
    rintro e w2 ⟨rfl, hst⟩
    have Hst := jJ0 (WStep.after Ho1.out hst)
    clear hst
    go_wp2
    go_ret
    exact .inl ⟨l, rfl, hlm, rfl, Hst.out⟩
  · have hW1 := (hW.old Ho.out).old ho1
    have HD := jJ0 (kM w1 g r bs none 0 [] er hW1 (by simp; omega) Rd.none_ (fun h => absurd h (by simp)))
    have Ho1 := jJ0 (Ho.out.old ho1)
    rw [show decide (er = 0) = false from decide_eq_false her] at HD
    clear ho1 hW1
    go_wp2_with fail
    refine HD.out.mono ?_
    rintro e w2 ⟨rfl, hst⟩
    have Hst := jJ0 (WStep.after Ho1.out hst)
    clear hst
    go_wp2
    go_ret
    exact .inr ⟨rfl, rfl, [], Hst.out⟩
theorem answered_10 (w : World) (g : Nat) (r : Option Nat) (bs : List UInt8) (cs xs : List Value) (o : Option (List UInt8)) (m : Nat) (hW : Wr w g r bs) (hl : bs.length <= 900000000) (hm : m <= 300000000000) (hs : Sub cs 152 xs)
    (hz : (Tryz.prog.info? 57).map (·.size) = some xs.length) (HE : ∀ W, Old w W -> Calls Tryz.prog 60 #[.agg xs.toArray] W (EncP W o m)) :
    Calls Tryz.prog 26 #[.pointer (some ⟨g, 0, none⟩), .int .i64 10, .agg cs.toArray] w (LayP w g r bs o m) := by
  have Hrg := jJ0 (hs.range (Blk.new w 63 cs.toArray))
  have Ho := jJ0 ((Kp.refl NoX w).alloc (.cells cs.toArray 63))
  have HEE := jJ0 (fun W h => HE W h)
  have Hz := jJ0 hz
  clear hs hz HE
  go_enter Tryz.func26, Tryz.ntmps26
  go_wp2_with (first | ((with_reducible refine jW 57 (.tmp 91) ?_); refine Tryz.load_w rfl 57 (.tmp 91) rfl w.heap.size 152 rfl xs _ Hrg.out Tryz.underlying57 rfl Hz.out ?_) | fail)
  generalize w.alloc _ = W at *
  refine (HEE.out W Ho.out).mono ?_
  clear HEE Hrg
  rintro e w1 (⟨l, A, c, rfl, hlm, rfl, hrd, hav, ho1⟩ | ⟨er, rfl, her, rfl, ho1⟩)
  · have hW1 := (hW.old Ho.out).old ho1
    have HD := jJ0 (kM w1 g r bs A c l 0 hW1 (by omega) hrd (fun hn ad e hx => hav hn ad e (by
      have := (hW.old Ho.out).lt
      rcases hx with hx | hx
      · omega
      · exact this.2 _ hx.symm)))
    have Ho1 := jJ0 (Ho.out.old ho1)
    clear hrd hav ho1 hW1
    go_wp2_with fail
    refine HD.out.mono ?_
    rintro e w2 ⟨rfl, hst⟩
    have Hst := jJ0 (WStep.after Ho1.out hst)
    clear hst
    go_wp2
    go_ret
    exact .inl ⟨l, rfl, hlm, rfl, Hst.out⟩
  · have hW1 := (hW.old Ho.out).old ho1
    have HD := jJ0 (kM w1 g r bs none 0 [] er hW1 (by simp; omega) Rd.none_ (fun h => absurd h (by simp)))
    have Ho1 := jJ0 (Ho.out.old ho1)
    rw [show decide (er = 0) = false from decide_eq_false her] at HD
    clear ho1 hW1
    go_wp2_with fail
    refine HD.out.mono ?_
    rintro e w2 ⟨rfl, hst⟩
    have Hst := jJ0 (WStep.after Ho1.out hst)
    clear hst
    go_wp2
    go_ret
    exact .inr ⟨rfl, rfl, [], Hst.out⟩
theorem answered_11 (w : World) (g : Nat) (r : Option Nat) (bs : List UInt8) (cs xs : List Value) (o : Option (List UInt8)) (m : Nat) (hW : Wr w g r bs) (hl : bs.length <= 900000000) (hm : m <= 300000000000) (hs : Sub cs 220 xs)
    (hz : (Tryz.prog.info? 61).map (·.size) = some xs.length) (HE : ∀ W, Old w W -> Calls Tryz.prog 61 #[.agg xs.toArray] W (EncP W o m)) :
    Calls Tryz.prog 26 #[.pointer (some ⟨g, 0, none⟩), .int .i64 11, .agg cs.toArray] w (LayP w g r bs o m) := by
  have Hrg := jJ0 (hs.range (Blk.new w 63 cs.toArray))
  have Ho := jJ0 ((Kp.refl NoX w).alloc (.cells cs.toArray 63))
  have HEE := jJ0 (fun W h => HE W h)
  have Hz := jJ0 hz
  clear hs hz HE
  go_enter Tryz.func26, Tryz.ntmps26
  go_wp2_with (first | ((with_reducible refine jW 61 (.tmp 99) ?_); refine Tryz.load_w rfl 61 (.tmp 99) rfl w.heap.size 220 rfl xs _ Hrg.out Tryz.underlying61 rfl Hz.out ?_) | fail)
  generalize w.alloc _ = W at *
  refine (HEE.out W Ho.out).mono ?_
  clear HEE Hrg
  rintro e w1 (⟨l, A, c, rfl, hlm, rfl, hrd, hav, ho1⟩ | ⟨er, rfl, her, rfl, ho1⟩)
  · have hW1 := (hW.old Ho.out).old ho1
    have HD := jJ0 (kM w1 g r bs A c l 0 hW1 (by omega) hrd (fun hn ad e hx => hav hn ad e (by
      have := (hW.old Ho.out).lt
      rcases hx with hx | hx
      · omega
      · exact this.2 _ hx.symm)))
    have Ho1 := jJ0 (Ho.out.old ho1)
    clear hrd hav ho1 hW1
    go_wp2_with fail
    refine HD.out.mono ?_
    rintro e w2 ⟨rfl, hst⟩
    have Hst := jJ0 (WStep.after Ho1.out hst)
    clear hst
    go_wp2
    go_ret
    exact .inl ⟨l, rfl, hlm, rfl, Hst.out⟩
  · have hW1 := (hW.old Ho.out).old ho1
    have HD := jJ0 (kM w1 g r bs none 0 [] er hW1 (by simp; omega) Rd.none_ (fun h => absurd h (by simp)))
    have Ho1 := jJ0 (Ho.out.old ho1)
    rw [show decide (er = 0) = false from decide_eq_false her] at HD
    clear ho1 hW1
    go_wp2_with fail
    refine HD.out.mono ?_
    rintro e w2 ⟨rfl, hst⟩
    have Hst := jJ0 (WStep.after Ho1.out hst)
    clear hst
    go_wp2
    go_ret
    exact .inr ⟨rfl, rfl, [], Hst.out⟩
theorem answered_3 (w : World) (g : Nat) (r : Option Nat) (bs : List UInt8) (cs : List Value) (m : MCase) (hW : Wr w g r bs) (hl : bs.length <= 900000000) (hs : Sub cs 6 m.cells) (hz : m.cells.length = 39) (hok : m.Ok w (WX g r)) :
    Calls Tryz.prog 26 #[.pointer (some ⟨g, 0, none⟩), .int .i64 3, .agg cs.toArray] w (LayP w g r bs (caseB m.data) 6000000000) := by
  have Hrg := jJ0 (hs.range (Blk.new w 63 cs.toArray))
  have Ho := jJ0 ((Kp.refl NoX w).alloc (.cells cs.toArray 63))
  have Hz := jJ0 (show (Tryz.prog.info? 43).map (·.size) = some m.cells.length by rw [hz]; kernel_rfl)
  have HC := jJ0 (fun W (h : Old w W) => caseof_any W g r bs m (hW.old h) (by omega) ((KF.of h).case_ hok))
  clear hs hz hok
  go_enter Tryz.func26, Tryz.ntmps26
  go_wp2_with (first | ((with_reducible refine jW 43 (.tmp 26) ?_); refine Tryz.load_w rfl 43 (.tmp 26) rfl w.heap.size 6 rfl m.cells _ Hrg.out Tryz.underlying43 rfl Hz.out ?_) | fail)
  generalize w.alloc _ = W at *
  refine (HC.out W Ho.out).mono ?_
  clear HC Hrg
  intro e w1 h1
  have Hend := jJ0 (fun b (he : e = .returned (.bool b)) => LayP.after Ho.out (he ▸ h1))
  have hb : ∃ b, e = .returned (.bool b) := by
    rcases h1 with ⟨l, _, _, h3, _⟩ | ⟨_, h2, _⟩
    · exact ⟨true, h3⟩
    · exact ⟨false, h2⟩
  obtain ⟨b, rfl⟩ := hb
  clear h1
  go_wp2
  go_ret
  exact Hend.out b rfl
theorem answered_4 (w : World) (g : Nat) (r : Option Nat) (bs : List UInt8) (cs : List Value) (p : Part) (hW : Wr w g r bs) (hl : bs.length <= 900000000) (h45 : cs[45]? = some p.sl) (hok : p.Ok w (WX g r)) :
    Calls Tryz.prog 26 #[.pointer (some ⟨g, 0, none⟩), .int .i64 4, .agg cs.toArray] w (LayP w g r bs (some p.l) 2147483647) := by
  have Hb := jJ0 (Blk.new w 63 cs.toArray)
  have c45 := Hb.out.at_ 45 (v := .slice p.A p.l.length p.c) (by rw [List.getElem?_toArray]; exact h45)
  have Ho := jJ0 ((Kp.refl NoX w).alloc (.cells cs.toArray 63))
  have hbg := hok.big
  have HD := jJ0 (fun W (h : Old w W) => kM W g r bs p.A p.c p.l 0 (hW.old h) (by omega) (hok.rd.old h) hok.av)
  clear hok h45
  go_enter Tryz.func26, Tryz.ntmps26
  go_wp2_with fail
  generalize w.alloc _ = W at *
  refine (HD.out W Ho.out).mono ?_
  rintro e w2 ⟨rfl, hst⟩
  have Hst := jJ0 (WStep.after Ho.out hst)
  clear hst c45
  go_wp2
  go_ret
  exact .inl ⟨p.l, rfl, hbg, rfl, Hst.out⟩
theorem answered_12 (w : World) (g : Nat) (r : Option Nat) (bs : List UInt8) (cs : List Value) (hW : Wr w g r bs) (hl : bs.length <= 900000000) :
    Calls Tryz.prog 26 #[.pointer (some ⟨g, 0, none⟩), .int .i64 12, .agg cs.toArray] w (LayP w g r bs (some []) 0) := by
  have Ho := jJ0 ((Kp.refl NoX w).alloc (.cells cs.toArray 63))
  have HD := jJ0 (fun W (h : Old w W) => kM W g r bs none 0 [] 0 (hW.old h) (by simp; omega) Rd.none_ (fun h => absurd h (by simp)))
  go_enter Tryz.func26, Tryz.ntmps26
  go_wp2_with fail
  generalize w.alloc _ = W at *
  refine (HD.out W Ho.out).mono ?_
  rintro e w2 ⟨rfl, hst⟩
  have Hst := jJ0 (WStep.after Ho.out hst)
  clear hst
  go_wp2
  go_ret
  exact .inl ⟨[], rfl, Nat.le_refl _, rfl, Hst.out⟩
def headZ (h : Hd) : Bool := decide (h.log = zD /\ h.size = 0 /\ h.root = zD /\ h.index = zD /\ h.clock = 0)
theorem vg (d : List UInt8) : (vi d).length = d.length := by simp [vi]
theorem eq_head (w : World) (h : Hd) (hk : h.Ok) (hs : -9223372036854775808 <= h.size /\ h.size <= 9223372036854775807) (hc : -9223372036854775808 <= h.clock /\ h.clock <= 9223372036854775807) :
    (Op.equalIn 10000 45 (.agg h.cells.toArray) (.agg zeroHdL.toArray)).run Tryz.prog w = .ok (headZ h) w := by
  have hz := keyLits_head zeroHd zeroHd_ok (by decide) (by decide)
  rw [zeroHd_cells] at hz
  obtain ⟨r, h1, h2⟩ := eq_run 45 3 (by decide) (by kernel_rfl) h.cells zeroHdL 3 3 _ _ (keyLits_head h hk hs hc) hz (formed_of Tryz.underlying45 rfl Tryz.cellsHead hk.len) (formed_of Tryz.underlying45 rfl Tryz.cellsHead rfl) w
  have e : r = headZ h := by
    rw [Bool.eq_iff_iff, h2, headZ, decide_eq_true_eq]
    constructor
    · intro e
      have e1 := List.append_inj e (by rw [vg, vg, hk.log, zeroHd_ok.log])
      have e2 := e1.2
      simp only [List.cons.injEq, Lit.int.injEq, true_and] at e2
      have e3 := List.append_inj e2.2 (by rw [vg, vg, hk.root, zeroHd_ok.root])
      have e4 := List.append_inj e3.2 (by rw [vg, vg, hk.index, zeroHd_ok.index])
      have e5 := e4.2
      simp only [List.cons.injEq, Lit.int.injEq, true_and, and_true] at e5
      exact ⟨vh e1.1, e2.1, vh e3.1, vh e4.1, e5⟩
    · rintro ⟨a1, a2, a3, a4, a5⟩
      rw [a1, a2, a3, a4, a5]
      rfl
  rw [h1, e]
theorem Tryz.guardHead : Tryz.prog.eqGuardType Tryz.prog.depth 45 = false := by kernel_rfl
def pubB (h : Hd) (l : List Sgn) : Option (List UInt8) := if 0 < l.length \/ headZ h = false then (noteB h l).map fun x => 1 :: x else some [0]
theorem answered_7 (w : World) (g : Nat) (r : Option Nat) (bs : List UInt8) (cs : List Value) (m : MNote) (hW : Wr w g r bs) (hl : bs.length <= 900000000) (hs : Sub cs 47 m.cells) (hok : m.Ok w (WX g r))
    (hsz : -9223372036854775808 <= m.head.size /\ m.head.size <= 9223372036854775807) (hcl : -9223372036854775808 <= m.head.clock /\ m.head.clock <= 9223372036854775807) :
    Calls Tryz.prog 26 #[.pointer (some ⟨g, 0, none⟩), .int .i64 7, .agg cs.toArray] w (LayP w g r bs (pubB m.head m.signs) 2001) := by
  have Hb := jJ0 (Blk.new w 63 cs.toArray)
  have Ho := jJ0 ((Kp.refl NoX w).alloc (.cells cs.toArray 63))
  have Hx := jJ0 (kW hW (Nat.le_refl w.heap.size))
  have Hs := jJ0 hs
  have S0 := jJ0 (show Sub cs 47 m.head.cells from by
    have h1 := Sub.mid_ [] m.head.cells [.slice m.A m.signs.length m.c] 0 rfl
    have h2 : Sub m.cells 0 m.head.cells := by simpa [MNote.cells] using h1
    exact hs.trans h2)
  have S98 := jJ0 (show cs[145]? = some (.slice m.A m.signs.length m.c) from hs 98 _ ((Sub.end_ m.head.cells [.slice m.A m.signs.length m.c] 98 hok.head.len) 0 _ rfl))
  have Hz := jJ0 (show (Tryz.prog.info? 45).map (·.size) = some m.head.cells.length by rw [hok.head.len]; kernel_rfl)
  have HzN := jJ0 (show (Tryz.prog.info? 48).map (·.size) = some m.cells.length by rw [MNote.cells, List.length_append, hok.head.len]; kernel_rfl)
  have Heq := jJ0 (fun W => eq_head W m.head hok.head hsz hcl)
  have HEN := jJ0 (fun W (F : Kp (WX g r) w W) => encnote_any W m (fun k => False) ⟨hok.head, hok.rd.kp F hok.av, fun _ _ _ f => f, hok.big⟩)
  have HP := jJ0 (show pubB m.head m.signs = if 0 < m.signs.length \/ headZ m.head = false then (noteB m.head m.signs).map fun x => 1 :: x else some [0] from rfl)
  have c145 := Hb.out.at_ 145 (by rw [List.getElem?_toArray]; exact S98.out)
  have Hrg := jJ0 (S0.out.range Hb.out)
  clear hs hok hsz hcl
  generalize pubB m.head m.signs = PB at *
  generalize noteB m.head m.signs = NB at *
  generalize headZ m.head = z at *
  generalize m.signs.length = sl at *
  have Hcase : 0 < sl \/ (sl = 0 /\ z = false) \/ (sl = 0 /\ z = true) := by
    by_cases h : 0 < sl
    · exact .inl h
    · cases z
      · exact .inr (.inl ⟨by omega, rfl⟩)
      · exact .inr (.inr ⟨by omega, rfl⟩)
  rcases Hcase with h0 | ⟨rfl, rfl⟩ | ⟨rfl, rfl⟩
  · have Hpb := jJ0 (show PB = NB.map fun x => 1 :: x by rw [HP.out, if_pos (.inl h0)])
    have g0 : (0 : Int) < (sl : Int) := by omega
    clear HP
    go_enter Tryz.func26, Tryz.ntmps26
    go_wp2_with fail
    generalize w.alloc _ = W at *
    refine (flag_any W g r bs true (hW.old Ho.out) (by omega)).mono ?_
    rintro e w1 ⟨rfl, hst⟩
    obtain ⟨r1, hW1, f1⟩ := hst.kf
    have F1 := jJ0 f1
    have HW1 := jJ0 hW1
    have Hk1 := jJ0 (show Kp (WX g r) w w1 from (Ho.out.mono (Y := WX g r) (fun _ _ f => f.elim)).trans f1.kp (fun b hb e => e))
    have Hrg1 := jJ0 (Hs.out.range (f1.blk Hb.out Hx.out))
    clear hst hW1 f1 c145 Hrg
    go_wp2_with (first | ((with_reducible refine jW 48 (.tmp 67) ?_); refine Tryz.load_w rfl 48 (.tmp 67) rfl w.heap.size 47 rfl m.cells _ Hrg1.out Tryz.underlying48 rfl HzN.out ?_) | fail)
    refine (HEN.out w1 Hk1.out).mono ?_
    clear HEN Hrg1
    rintro e w2 (⟨l, A, c, rfl, hlm, rfl, hrd, hav, ho1⟩ | ⟨er, rfl, her, rfl, ho1⟩)
    · have HD := jJ0 (kM w2 g r1 _ A c l 0 (HW1.out.old ho1) (by simp; omega) hrd (fun hn ad e hx => hav hn ad e (by
        have := HW1.out.lt
        rcases hx with hx | hx
        · omega
        · exact this.2 _ hx.symm)))
      have F2 := jJ0 (F1.out.old ho1)
      clear hrd hav ho1
      go_wp2_with fail
      refine HD.out.mono ?_
      rintro e w3 ⟨rfl, hst⟩
      obtain ⟨r3, hW3, f3⟩ := hst.kf
      have Hend := jJ0 (show LayP w g r bs PB 2001 (.returned (.bool true)) w3 from LayP.after Ho.out (.inl ⟨1 :: l, Hpb.out, by simp; omega, rfl, by
        have h := (F2.out.trans f3).step hW3
        simpa using h⟩))
      clear hst hW3 f3
      go_wp2
      go_ret
      exact Hend.out
    · have HD := jJ0 (kM w2 g r1 _ none 0 [] er (HW1.out.old ho1) (by simp; omega) Rd.none_ (fun h => absurd h (by simp)))
      have F2 := jJ0 (F1.out.old ho1)
      rw [show decide (er = 0) = false from decide_eq_false her] at HD
      clear ho1
      go_wp2_with fail
      refine HD.out.mono ?_
      rintro e w3 ⟨rfl, hst⟩
      obtain ⟨r3, hW3, f3⟩ := hst.kf
      have Hend := jJ0 (show LayP w g r bs PB 2001 (.returned (.bool false)) w3 from LayP.after Ho.out (.inr ⟨Hpb.out, rfl, _, by
        have h := (F2.out.trans f3).step hW3
        rw [List.append_nil] at h
        exact h⟩))
      clear hst hW3 f3
      go_wp2
      go_ret
      exact Hend.out
  · have Hpb := jJ0 (show PB = NB.map fun x => 1 :: x by rw [HP.out, if_pos (.inr rfl)])
    clear HP
    go_enter Tryz.func26, Tryz.ntmps26
    go_wp2_with (first | ((with_reducible refine jW 45 (.tmp 57) ?_); refine Tryz.load_w rfl 45 (.tmp 57) rfl w.heap.size 47 rfl m.head.cells _ Hrg.out Tryz.underlying45 rfl Hz.out ?_) | ((with_reducible refine jU 45 ?_); refine Tryz.wl_zero rfl 45 rfl _ (Tryz.zeroHeadV _) ?_) | ((with_reducible refine at_bin .neq 45 45 (.tmp 58) (.tmp 59) ?_); refine Tryz.wl_neq rfl 45 45 (.tmp 58) (.tmp 59) rfl _ zeroHdL.toArray rfl rfl Tryz.guardHead false (Heq.out _) ?_) | fail)
    generalize w.alloc _ = W at *
    refine (flag_any W g r bs true (hW.old Ho.out) (by omega)).mono ?_
    rintro e w1 ⟨rfl, hst⟩
    obtain ⟨r1, hW1, f1⟩ := hst.kf
    have F1 := jJ0 f1
    have HW1 := jJ0 hW1
    have Hk1 := jJ0 (show Kp (WX g r) w w1 from (Ho.out.mono (Y := WX g r) (fun _ _ f => f.elim)).trans f1.kp (fun b hb e => e))
    have Hrg1 := jJ0 (Hs.out.range (f1.blk Hb.out Hx.out))
    clear hst hW1 f1 c145 Hrg
    go_wp2_with (first | ((with_reducible refine jW 48 (.tmp 67) ?_); refine Tryz.load_w rfl 48 (.tmp 67) rfl w.heap.size 47 rfl m.cells _ Hrg1.out Tryz.underlying48 rfl HzN.out ?_) | fail)
    refine (HEN.out w1 Hk1.out).mono ?_
    clear HEN Hrg1
    rintro e w2 (⟨l, A, c, rfl, hlm, rfl, hrd, hav, ho1⟩ | ⟨er, rfl, her, rfl, ho1⟩)
    · have HD := jJ0 (kM w2 g r1 _ A c l 0 (HW1.out.old ho1) (by simp; omega) hrd (fun hn ad e hx => hav hn ad e (by
        have := HW1.out.lt
        rcases hx with hx | hx
        · omega
        · exact this.2 _ hx.symm)))
      have F2 := jJ0 (F1.out.old ho1)
      clear hrd hav ho1
      go_wp2_with fail
      refine HD.out.mono ?_
      rintro e w3 ⟨rfl, hst⟩
      obtain ⟨r3, hW3, f3⟩ := hst.kf
      have Hend := jJ0 (show LayP w g r bs PB 2001 (.returned (.bool true)) w3 from LayP.after Ho.out (.inl ⟨1 :: l, Hpb.out, by simp; omega, rfl, by
        have h := (F2.out.trans f3).step hW3
        simpa using h⟩))
      clear hst hW3 f3
      go_wp2
      go_ret
      exact Hend.out
    · have HD := jJ0 (kM w2 g r1 _ none 0 [] er (HW1.out.old ho1) (by simp; omega) Rd.none_ (fun h => absurd h (by simp)))
      have F2 := jJ0 (F1.out.old ho1)
      rw [show decide (er = 0) = false from decide_eq_false her] at HD
      clear ho1
      go_wp2_with fail
      refine HD.out.mono ?_
      rintro e w3 ⟨rfl, hst⟩
      obtain ⟨r3, hW3, f3⟩ := hst.kf
      have Hend := jJ0 (show LayP w g r bs PB 2001 (.returned (.bool false)) w3 from LayP.after Ho.out (.inr ⟨Hpb.out, rfl, _, by
        have h := (F2.out.trans f3).step hW3
        rw [List.append_nil] at h
        exact h⟩))
      clear hst hW3 f3
      go_wp2
      go_ret
      exact Hend.out
  · have Hpb := jJ0 (show PB = some [0] by rw [HP.out, if_neg (by simp)])
    clear HP
    go_enter Tryz.func26, Tryz.ntmps26
    go_wp2_with (first | ((with_reducible refine jW 45 (.tmp 57) ?_); refine Tryz.load_w rfl 45 (.tmp 57) rfl w.heap.size 47 rfl m.head.cells _ Hrg.out Tryz.underlying45 rfl Hz.out ?_) | ((with_reducible refine jU 45 ?_); refine Tryz.wl_zero rfl 45 rfl _ (Tryz.zeroHeadV _) ?_) | ((with_reducible refine at_bin .neq 45 45 (.tmp 58) (.tmp 59) ?_); refine Tryz.wl_neq rfl 45 45 (.tmp 58) (.tmp 59) rfl _ zeroHdL.toArray rfl rfl Tryz.guardHead true (Heq.out _) ?_) | fail)
    generalize w.alloc _ = W at *
    refine (flag_any W g r bs false (hW.old Ho.out) (by omega)).mono ?_
    rintro e w1 ⟨rfl, hst⟩
    obtain ⟨r1, hW1, f1⟩ := hst.kf
    have F1 := jJ0 f1
    have HD := jJ0 (kM w1 g r1 _ none 0 [] 0 hW1 (by simp; omega) Rd.none_ (fun h => absurd h (by simp)))
    clear hst hW1 f1 c145 Hrg
    go_wp2_with fail
    refine HD.out.mono ?_
    rintro e w3 ⟨rfl, hst⟩
    obtain ⟨r3, hW3, f3⟩ := hst.kf
    have Hend := jJ0 (show LayP w g r bs PB 2001 (.returned (.bool true)) w3 from LayP.after Ho.out (.inl ⟨[0], Hpb.out, by simp, rfl, by
      have h := (F1.out.trans f3).step hW3
      simpa using h⟩))
    clear hst hW3 f3
    go_wp2
    go_ret
    exact Hend.out
theorem answered_1 (w : World) (g : Nat) (r : Option Nat) (bs : List UInt8) (cs : List Value) (n : Int) (A : Option Addr) (c : Nat) (l : List MHap) (hW : Wr w g r bs) (hl : bs.length <= 900000000) (h4 : cs[4]? = some (.int .i64 n)) (h5 : cs[5]? = some (.slice A l.length c))
    (hrd : Rd w 2 A l.length (l.flatMap MHap.cells)) (hav : Av (WX g r) l.length A) (hbig : ∀ h ∈ l, h.name.size <= 2147483647) (hn : l.length <= 1000000000000) :
    Calls Tryz.prog 26 #[.pointer (some ⟨g, 0, none⟩), .int .i64 1, .agg cs.toArray] w (LayP w g r bs ((happB l).map fun x => be8 n ++ x) 300000000008) := by
  have Hb := jJ0 (Blk.new w 63 cs.toArray)
  have c4 := Hb.out.at_ 4 (by rw [List.getElem?_toArray]; exact h4)
  have Ho := jJ0 ((Kp.refl NoX w).alloc (.cells cs.toArray 63))
  have Hx := jJ0 (kW hW (Nat.le_refl w.heap.size))
  have Hrd := jJ0 hrd
  have Hav := jJ0 hav
  have Hbig := jJ0 hbig
  have H5 := jJ0 h5
  clear hrd hav hbig h4 h5
  have hW1 := hW.old Ho.out
  have hrdn := Rd.arr_new (w.alloc (.cells cs.toArray 63)) 3 [.int .i64 n]
  have havn := Av.new (n := 1) hW1
  rw [show (w.alloc (.cells cs.toArray 63)).heap.size = w.heap.size + 1 by simp] at hrdn havn
  have ho2 := (Kp.refl NoX (w.alloc (.cells cs.toArray 63))).alloc (.cells #[.int .i64 n] 3)
  have Hrdn := jJ0 hrdn
  have Havn := jJ0 havn
  have Ho2 := jJ0 ho2
  have HW1 := jJ0 hW1
  clear hrdn havn ho2 hW1
  go_enter Tryz.func26, Tryz.ntmps26
  go_wp2_with fail
  refine (kG _ g r bs _ 1 _ [n] rfl (HW1.out.old Ho2.out) (by omega) Hrdn.out Havn.out (by omega)).mono ?_
  rintro e w1 ⟨rfl, hst⟩
  obtain ⟨r1, hW1', f1⟩ := hst.kf
  have F1 := jJ0 ((KF.of Ho2.out).trans f1)
  have c5 := (F1.out.blk Hb.out Hx.out).at_ 5 (by rw [List.getElem?_toArray]; exact H5.out)
  have HH := jJ0 (happened_any w1 g r1 _ A c l hW1' (by rw [List.length_append, nums_length]; simp; omega) (F1.out.rd (Hrd.out.old Ho.out) Hav.out) (F1.out.av (Hrd.out.old Ho.out) (by decide) Hav.out) Hbig.out hn)
  clear hst hW1' f1 c4 Hrdn Havn Ho2 HW1
  go_wp2_with fail
  refine HH.out.mono ?_
  have Hnn := jJ0 (show nums [n] = be8 n by simp [nums, be8])
  rintro e w2 (⟨x, h1, h2, rfl, hst⟩ | ⟨h1, rfl, x, hst⟩)
  · obtain ⟨r2, hW2, f2⟩ := hst.kf
    have Hend := jJ0 (show LayP w g r bs ((happB l).map fun x => be8 n ++ x) 300000000008 (.returned (.bool true)) w2 from by
      rw [h1]
      refine LayP.after Ho.out (.inl ⟨be8 n ++ x, rfl, by rw [List.length_append, jG]; omega, rfl, ?_⟩)
      rw [Hnn.out, List.append_assoc] at hW2
      exact (F1.out.trans f2).step hW2)
    clear hst hW2 f2 h1
    go_wp2
    go_ret
    exact Hend.out
  · obtain ⟨r2, hW2, f2⟩ := hst.kf
    have Hend := jJ0 (show LayP w g r bs ((happB l).map fun x => be8 n ++ x) 300000000008 (.returned (.bool false)) w2 from by
      rw [h1]
      rw [List.append_assoc] at hW2
      exact LayP.after Ho.out (.inr ⟨rfl, rfl, _, (F1.out.trans f2).step hW2⟩))
    clear hst hW2 f2 h1
    go_wp2
    go_ret
    exact Hend.out
theorem answered_2 (w : World) (g : Nat) (r : Option Nat) (bs : List UInt8) (cs : List Value) (n : Int) (A : Option Addr) (c : Nat) (l : List MHap) (hW : Wr w g r bs) (hl : bs.length <= 900000000) (h4 : cs[4]? = some (.int .i64 n)) (h5 : cs[5]? = some (.slice A l.length c))
    (hrd : Rd w 2 A l.length (l.flatMap MHap.cells)) (hav : Av (WX g r) l.length A) (hbig : ∀ h ∈ l, h.name.size <= 2147483647) (hn : l.length <= 1000000000000) :
    Calls Tryz.prog 26 #[.pointer (some ⟨g, 0, none⟩), .int .i64 2, .agg cs.toArray] w (LayP w g r bs ((happB l).map fun x => be8 n ++ x) 300000000008) := by
  have Hb := jJ0 (Blk.new w 63 cs.toArray)
  have c4 := Hb.out.at_ 4 (by rw [List.getElem?_toArray]; exact h4)
  have Ho := jJ0 ((Kp.refl NoX w).alloc (.cells cs.toArray 63))
  have Hx := jJ0 (kW hW (Nat.le_refl w.heap.size))
  have Hrd := jJ0 hrd
  have Hav := jJ0 hav
  have Hbig := jJ0 hbig
  have H5 := jJ0 h5
  clear hrd hav hbig h4 h5
  have hW1 := hW.old Ho.out
  have hrdn := Rd.arr_new (w.alloc (.cells cs.toArray 63)) 3 [.int .i64 n]
  have havn := Av.new (n := 1) hW1
  rw [show (w.alloc (.cells cs.toArray 63)).heap.size = w.heap.size + 1 by simp] at hrdn havn
  have ho2 := (Kp.refl NoX (w.alloc (.cells cs.toArray 63))).alloc (.cells #[.int .i64 n] 3)
  have Hrdn := jJ0 hrdn
  have Havn := jJ0 havn
  have Ho2 := jJ0 ho2
  have HW1 := jJ0 hW1
  clear hrdn havn ho2 hW1
  go_enter Tryz.func26, Tryz.ntmps26
  go_wp2_with fail
  refine (kG _ g r bs _ 1 _ [n] rfl (HW1.out.old Ho2.out) (by omega) Hrdn.out Havn.out (by omega)).mono ?_
  rintro e w1 ⟨rfl, hst⟩
  obtain ⟨r1, hW1', f1⟩ := hst.kf
  have F1 := jJ0 ((KF.of Ho2.out).trans f1)
  have c5 := (F1.out.blk Hb.out Hx.out).at_ 5 (by rw [List.getElem?_toArray]; exact H5.out)
  have HH := jJ0 (happened_any w1 g r1 _ A c l hW1' (by rw [List.length_append, nums_length]; simp; omega) (F1.out.rd (Hrd.out.old Ho.out) Hav.out) (F1.out.av (Hrd.out.old Ho.out) (by decide) Hav.out) Hbig.out hn)
  clear hst hW1' f1 c4 Hrdn Havn Ho2 HW1
  go_wp2_with fail
  refine HH.out.mono ?_
  have Hnn := jJ0 (show nums [n] = be8 n by simp [nums, be8])
  rintro e w2 (⟨x, h1, h2, rfl, hst⟩ | ⟨h1, rfl, x, hst⟩)
  · obtain ⟨r2, hW2, f2⟩ := hst.kf
    have Hend := jJ0 (show LayP w g r bs ((happB l).map fun x => be8 n ++ x) 300000000008 (.returned (.bool true)) w2 from by
      rw [h1]
      refine LayP.after Ho.out (.inl ⟨be8 n ++ x, rfl, by rw [List.length_append, jG]; omega, rfl, ?_⟩)
      rw [Hnn.out, List.append_assoc] at hW2
      exact (F1.out.trans f2).step hW2)
    clear hst hW2 f2 h1
    go_wp2
    go_ret
    exact Hend.out
  · obtain ⟨r2, hW2, f2⟩ := hst.kf
    have Hend := jJ0 (show LayP w g r bs ((happB l).map fun x => be8 n ++ x) 300000000008 (.returned (.bool false)) w2 from by
      rw [h1]
      rw [List.append_assoc] at hW2
      exact LayP.after Ho.out (.inr ⟨rfl, rfl, _, (F1.out.trans f2).step hW2⟩))
    clear hst hW2 f2 h1
    go_wp2
    go_ret
    exact Hend.out
end Go.Proofs.YtnaolhjbapgjgaaGreat
