import Derived.Test.YtmmjcbbogokmfaaGreatDoorMn08
import Derived.Test.YtmmjcbbogokmfaaGreatDoorMn36
/- Contract of the machine's rest. -/
namespace Go.Proofs.YtmmjcbbogokmfaaGreatDoor
open Go.RowKit

theorem rest_drop (st : List Nat) (j : Nat) (hj : j < st.length) : restN (st.drop (st.length - (j + 1))) = beforeN (st.getD (st.length - 1 - j) 0) (restN (st.drop (st.length - j))) := by
  have h : st.length - (j + 1) < st.length := by omega
  rw [List.drop_eq_getElem_cons h, show st.length - (j + 1) + 1 = st.length - j by omega]
  simp only [List.getD, List.getElem?_eq_getElem (show st.length - 1 - j < st.length by omega), Option.getD_some, show st.length - (j + 1) = st.length - 1 - j by omega]
  rfl
/-- while the rest is reckoned: the result's box at S, the ends at S + 1 -/
structure RestSt (w : World) (st : List Nat) (j : Nat) (wr : World) (a b : Option Addr) : Prop where
  old : Old w wr
  box : Blk wr w.heap.size 220 #[.pointer none, .pointer none]
  ends : Blk wr (w.heap.size + 1) 220 #[.pointer a, .pointer b]
  x : Rp wr a (restN (st.drop (st.length - j))).1
  y : Rp wr b (restN (st.drop (st.length - j))).2
theorem RestSt.next {w wr w1 : World} {st : List Nat} {j : Nat} {a b a' b' : Option Addr} (h : RestSt w st j wr a b) (hj : j < st.length) (ho : Old wr w1) (hx : Rp w1 a' (beforeN (st.getD (st.length - 1 - j) 0) (restN (st.drop (st.length - j)))).1) (hy : Rp w1 b' (beforeN (st.getD (st.length - 1 - j) 0) (restN (st.drop (st.length - j)))).2) :
    RestSt w st (j + 1) ((w1.setCell ⟨w.heap.size + 1, 0, none⟩ (.pointer a')).setCell ⟨w.heap.size + 1, 1, none⟩ (.pointer b')) a' b' := by
  have hb := h.ends.old ho
  have hk : Kp (fun k => k = w.heap.size + 1) w1 ((w1.setCell ⟨w.heap.size + 1, 0, none⟩ (.pointer a')).setCell ⟨w.heap.size + 1, 1, none⟩ (.pointer b')) :=
    ((Kp.refl (fun k => k = w.heap.size + 1) w1).setCell (p := ⟨w.heap.size + 1, 0, none⟩) (fun _ => rfl) _).setCell (p := ⟨w.heap.size + 1, 1, none⟩) (fun _ => rfl) _
  refine ⟨(h.old.old ho).trans hk (fun b hb e => by omega), (h.box.old ho).kp hk (by omega), by simpa using (hb.set_ 0 (.pointer a')).set_ 1 (.pointer b'), ?_, ?_⟩
  · rw [rest_drop st j hj]
    exact hx.box hk (fun k e => ⟨#[.pointer a, .pointer b], by have e1 : k = w.heap.size + 1 := e; rw [e1]; exact hb⟩)
  · rw [rest_drop st j hj]
    exact hy.box hk (fun k e => ⟨#[.pointer a, .pointer b], by have e1 : k = w.heap.size + 1 := e; rw [e1]; exact hb⟩)
set_option maxRecDepth 100000 in
set_option maxHeartbeats 3200000 in
theorem rest_any (w : World) (hg : Sg w) (g : Nat) (r : Option Nat) (src : ByteArray) (m : Mc) (A : Option Addr) (c : Nat) (h : Mac w g r src m A c) (hp : ∀ n ∈ m.stack, 1 ≤ n) (hl : m.stack.length ≤ 10000000) :
    Calls Tryz.prog 141 #[.pointer (some ⟨g, 0, none⟩)] w (EndsT w (restN m.stack)) := by
  have HM := Lib.hid h
  have hc2 := h.c2
  have Hp := Lib.hid hp
  clear hp
  have H0 := Lib.hid (show RestSt w m.stack 0 ((w.alloc (.cells #[.pointer none, .pointer none] 220)).alloc (.cells #[.pointer none, .pointer none] 220)) none none from by
    refine ⟨((Kp.refl NoX w).alloc _).alloc _, (Blk.new _ _ _).alloc _, ?_, ?_, ?_⟩
    · have := Blk.new (w.alloc (.cells #[.pointer none, .pointer none] 220)) 220 #[.pointer none, .pointer none]
      rwa [show (w.alloc (.cells #[.pointer none, .pointer none] 220)).heap.size = w.heap.size + 1 by simp] at this
    · rw [Nat.sub_zero, List.drop_length]; exact .nil
    · rw [Nat.sub_zero, List.drop_length]; exact .nil)
  clear h
  generalize hL : m.stack.length = L at *
  have HL := Lib.hid hL
  clear hL
  have hlt := HM.out.blk.lt
  go_enter Tryz.func141, Tryz.ntmps141
  go_wp2
  go_loopw [11] (fun i wr => ∃ (j : Nat) (a b : Option Addr), j ≤ L ∧ i = .int .i64 j ∧ RestSt w m.stack j wr a b) (fun i _ => L - (intOf i).toNat)
  case atStart => exact ⟨0, none, none, Nat.zero_le _, rfl, H0.out⟩
  case round =>
    clear H0
    obtain ⟨j, a, b, hj, rfl, hst⟩ := hrel
    have e0 : wr.cell? ⟨w.heap.size + 1, 0, none⟩ = some (.pointer a) := hst.ends.at_ 0 rfl
    have e1 : wr.cell? ⟨w.heap.size + 1, 1, none⟩ = some (.pointer b) := hst.ends.at_ 1 rfl
    by_cases hlt2 : j < L
    · have HSt := Lib.hid hst
      obtain ⟨bb, o, rfl, hcell⟩ := (HM.out.old hst.old).own.at_ (L - 1 - j) (by rw [HL.out]; omega)
      rw [HL.out, show L - 1 - (L - 1 - j) = j by omega] at hcell
      have hn1 : 1 ≤ m.stack.getD (L - 1 - j) 0 := Hp.out _ (by
        have : L - 1 - j < m.stack.length := by rw [HL.out]; omega
        simp [List.getD, List.getElem?_eq_getElem this])
      have hle := rest_len (m.stack.drop (m.stack.length - j))
      have hdl : (m.stack.drop (m.stack.length - j)).length ≤ 10000000 := by rw [List.length_drop, HL.out]; omega
      have HB := Lib.hid (before_any wr (hg.old hst.old) a b _ _ hst.x hst.y (by omega) (by omega) (m.stack.getD (L - 1 - j) 0) hn1)
      have HN := Lib.hid (fun w1 a' b' ho hx hy => hst.next (w1 := w1) (a' := a') (b' := b') (by rw [HL.out]; exact hlt2) ho hx hy)
      rw [HL.out] at HB HN
      generalize m.stack.getD (L - 1 - j) 0 = n at *
      have c1 : (j : Int) < (L : Int) := by omega
      have c2 : (0 : Int) ≤ (j : Int) := by omega
      have c3 : (j : Int).toNat = j := by omega
      have c4 : IntKind.i64.wrap ((j : Int) + 1) = (j : Int) + 1 := IntWalk.i64_in _ (by omega)
      unfold yv EndsV at *
      clear hst hle hdl hn1
      go_wp2_with (go_at_call 173; refine HB.out.mono ?_; rintro e w1 ⟨a', b', he, hx, hy, ho⟩; obtain rfl : e = .returned (.agg #[.pointer a', .pointer b']) := he; have q0 : w1.cell? ⟨w.heap.size + 1, 0, none⟩ = some (.pointer a) := (HSt.out.ends.old ho).at_ 0 rfl; have q1 : w1.cell? ⟨w.heap.size + 1, 1, none⟩ = some (.pointer b) := (HSt.out.ends.old ho).at_ 1 rfl; have z0 := (HSt.out.ends.old ho).frozen 0; have z1 := (HSt.out.ends.old ho).frozen 1; have HX := Lib.hid hx; have HY := Lib.hid hy; have HO := Lib.hid ho; clear hx hy ho)
      exact ⟨⟨j + 1, a', b', by omega, by go_num, HN.out _ _ _ HO.out HX.out HY.out⟩, by simp [intOf]; omega⟩
    · obtain rfl : j = L := by omega
      have z0 := hst.box.frozen 0
      have z1 := hst.box.frozen 1
      have r0 : wr.cell? ⟨w.heap.size, 0, none⟩ = some (.pointer none) := hst.box.at_ 0 rfl
      have r1 : wr.cell? ⟨w.heap.size, 1, none⟩ = some (.pointer none) := hst.box.at_ 1 rfl
      have hb : Blk ((wr.setCell ⟨w.heap.size, 0, none⟩ (.pointer a)).setCell ⟨w.heap.size, 1, none⟩ (.pointer b)) w.heap.size 220 #[.pointer a, .pointer b] := by simpa using (hst.box.set_ 0 (.pointer a)).set_ 1 (.pointer b)
      have hk : Kp (fun k => k = w.heap.size) wr ((wr.setCell ⟨w.heap.size, 0, none⟩ (.pointer a)).setCell ⟨w.heap.size, 1, none⟩ (.pointer b)) :=
        ((Kp.refl (fun k => k = w.heap.size) wr).setCell (p := ⟨w.heap.size, 0, none⟩) (fun _ => rfl) _).setCell (p := ⟨w.heap.size, 1, none⟩) (fun _ => rfl) _
      have Hfin := Lib.hid (show EndsT w (restN m.stack) (.returned (.agg #[.pointer a, .pointer b])) ((wr.setCell ⟨w.heap.size, 0, none⟩ (.pointer a)).setCell ⟨w.heap.size, 1, none⟩ (.pointer b)) from by
        have hx := hst.x
        have hy := hst.y
        rw [HL.out, Nat.sub_self, List.drop_zero] at hx hy
        exact ⟨a, b, rfl, hx.box hk (fun k e => ⟨#[.pointer none, .pointer none], by have e1 : k = w.heap.size := e; rw [e1]; exact hst.box⟩), hy.box hk (fun k e => ⟨#[.pointer none, .pointer none], by have e1 : k = w.heap.size := e; rw [e1]; exact hst.box⟩), hst.old.trans hk (fun k hk e => by have e1 : k = w.heap.size := e; omega)⟩)
      have Hb := Lib.hid hb
      clear hst hb hk
      go_wp2
      refine ret_cell (g := w.heap.size) (cs := #[.pointer a, .pointer b]) rfl rfl Hb.out Tryz.underlying220 rfl (by kernel_rfl) rfl ?_
      exact Hfin.out
end Go.Proofs.YtmmjcbbogokmfaaGreatDoor

/- Contract of strings.HasPrefix; the stack's symbols are no zeros. -/
namespace Go.Proofs.YtmmjcbbogokmfaaGreatDoor
open Go.RowKit

set_option maxRecDepth 100000 in
theorem prefix_lite (w : World) (x y : ByteArray) : Calls Tryz.prog 207 #[.string x, .string y] w fun e w' => e = .returned (.bool ((sb y).isPrefixOf (sb x))) ∧ w = w' := by
  have Hy := Lib.hid (pre_eq (sb y) (sb x))
  rw [sb_length, sb_length] at Hy
  generalize (sb y).isPrefixOf (sb x) = R at *
  by_cases hle : y.size ≤ x.size
  · have d1 : (y.size : Int) ≤ (x.size : Int) := by omega
    have d2 : (0 : Int) ≤ (y.size : Int) := by omega
    have he : ((x.extract 0 y.size).toList == y.toList) = ((sb x).take y.size == sb y) := by rw [ByteArray.toList_eq, ByteArray.toList_eq]; show (sb (x.extract 0 y.size) == sb y) = _; rw [sb_extract]; simp
    have HR := Lib.hid (show R = ((x.extract 0 y.size).toList == y.toList) by rw [Hy.out, decide_eq_true hle, he]; rfl)
    clear he hle Hy
    go_enter Tryz.func207, Tryz.ntmps207
    go_wp2
    go_ret
    exact ⟨by rw [HR.out]; rfl, rfl⟩
  · have d1 : ¬ (y.size : Int) ≤ (x.size : Int) := by omega
    have HR := Lib.hid (show R = false by rw [Hy.out, decide_eq_false hle]; rfl)
    clear hle Hy
    go_enter Tryz.func207, Tryz.ntmps207
    go_wp2
    go_ret
    exact ⟨by rw [HR.out]; rfl, rfl⟩
set_option maxRecDepth 100000 in
theorem prefix_any (w : World) (x y : ByteArray) : Calls Tryz.prog 178 #[.string x, .string y] w fun e w' => e = .returned (.bool ((sb y).isPrefixOf (sb x))) ∧ w = w' := by
  have H := Lib.hid (prefix_lite w x y)
  generalize (sb y).isPrefixOf (sb x) = R at *
  go_enter Tryz.func178, Tryz.ntmps178
  go_wp2_with (go_at_call 207; refine H.out.mono ?_; rintro e w1 ⟨rfl, rfl⟩)
  go_ret
  exact ⟨rfl, rfl⟩
/-- no zeros -/
def Pos (l : List Nat) : Prop := ∀ x ∈ l, 1 ≤ x
theorem Pos.ite {c : Prop} [Decidable c] {a b : List Nat} (ha : Pos a) (hb : Pos b) : Pos (if c then a else b) := by
  split
  · exact ha
  · exact hb
theorem Pos.of (l : List Nat) (h : l.all (fun x => decide (1 ≤ x)) = true) : Pos l := fun x hx => of_decide_eq_true (List.all_eq_true.1 h x hx)
theorem Pos.cons {t : Nat} {l : List Nat} (ht : 1 ≤ t) (h : Pos l) : Pos (t :: l) := fun x hx => by
  rcases List.mem_cons.1 hx with rfl | hx
  · exact ht
  · exact h x hx
theorem ruleN_pos (n t : Nat) (ht : 1 ≤ t) : Pos (ruleN n t) := by
  unfold ruleN declaredN atomN operatorsN
  repeat' first | apply Pos.ite | exact Pos.of _ (by decide) | exact Pos.cons ht (Pos.of _ (by decide))
theorem Takes.pos {t n : Nat} {l k : List Nat} (ht : 1 ≤ t) (h : Takes t n l k) : Pos l → Pos k := by
  induction h with
  | hit l => exact fun hp x hx => hp x (List.mem_cons_of_mem _ hx)
  | more n x l k _ _ ih =>
    intro hp
    refine ih (fun y hy => ?_)
    rcases List.mem_append.1 hy with hy | hy
    · exact ruleN_pos x t ht y hy
    · exact hp y (List.mem_cons_of_mem _ hy)
/-- ropes stay where only other things turn -/
theorem Rp.far {X : Nat → Prop} {w w1 : World} {a : Option Addr} {l : List UInt8} (T : TypeId) (hT : 225 ≠ T) (h : Rp w a l) (ho : Kp X w w1) (hx : ∀ b, X b → ∃ cs, Blk w b T cs) : Rp w1 a l := by
  induction h with
  | nil => exact .nil
  | cons g p nx l hp hb _ ih =>
    refine .cons g p nx l hp (hb.kp ho (fun he => ?_)) ih
    obtain ⟨cs, hc⟩ := hx g he
    exact (hb.ne_ hc hT) rfl
end Go.Proofs.YtmmjcbbogokmfaaGreatDoor

/- Contract of worded's closure: one word is tried. -/
namespace Go.Proofs.YtmmjcbbogokmfaaGreatDoor
open Go.RowKit

theorem Tryz.endsWord (a b : Option Addr) (w : World) : (Instr.field 220 (.agg #[.pointer a, .pointer b]) 0).run Tryz.prog w = .ok (.pointer a) w := by kernel_rfl
theorem Tryz.endsOther (a b : Option Addr) (w : World) : (Instr.field 220 (.agg #[.pointer a, .pointer b]) 1).run Tryz.prog w = .ok (.pointer b) w := by kernel_rfl
theorem with_ready (t : Nat) (ht : t < 58) (st : List Nat) (h5 : ∀ n ∈ st, n < 85) (h : mayN t st = true) : ∃ n, n ≤ st.length + 100 ∧ Takes t n st (withN t st) ∧ (withN t st).length ≤ st.length + 12 := by
  obtain ⟨s, hs1, _⟩ := taken_may t ht ⟨0, st, 0, 0⟩ 0 h
  have hs2 : takeN t (st.length + 100) st = some s := hs1
  have e : withN t st = s := by unfold withN; rw [hs2]; rfl
  obtain ⟨n, hn, hT⟩ := takes_of hs2
  rw [e]
  exact ⟨n, hn, hT, takeN_len t ht st _ s h5 h hs2⟩
/-- what one try leaves -/
def Tried (w : World) (bb : Nat) (R : List UInt8) (e : Ending) (w' : World) : Prop := e = .returned (.tuple #[]) ∧ ∃ p, Blk w' bb 166 #[.pointer p] ∧ Rp w' p R ∧ Kp (fun k => k = bb) w w'
theorem Tried.store {w w3 : World} {bb : Nat} {p q : Option Addr} {R : List UInt8} (hO : Old w w3) (hbb : Blk w bb 166 #[.pointer p]) (hq : Rp w3 q R) : Tried w bb R (.returned (.tuple #[])) (w3.setCell ⟨bb, 0, none⟩ (.pointer q)) := by
  have hb3 := hbb.old hO
  have hk : Kp (fun k => k = bb) w3 (w3.setCell ⟨bb, 0, none⟩ (.pointer q)) := (Kp.refl (fun k => k = bb) w3).setCell (p := ⟨bb, 0, none⟩) (fun _ => rfl) _
  refine ⟨rfl, q, by simpa using hb3.set_ 0 (.pointer q), ?_, ?_⟩
  · exact hq.far 166 (by decide) hk (fun b e => ⟨#[.pointer p], by have e1 : b = bb := e; rw [e1]; exact hb3⟩)
  · exact (hO.mono (Y := fun k => k = bb) (fun _ _ f => f.elim)).trans hk (fun _ _ h => h)
set_option maxRecDepth 100000 in
set_option maxHeartbeats 3200000 in
theorem try_any (w : World) (hg : Sg w) (g : Nat) (r : Option Nat) (src : ByteArray) (m : Mc) (A : Option Addr) (c : Nat) (h : Mac w g r src m A c) (hp : Pos m.stack) (hl : m.stack.length ≤ 1000000) (bm bb : Nat) (hbm : Blk w bm 155 #[.pointer (some ⟨g, 0, none⟩)]) (p : Option Addr) (hbb : Blk w bb 166 #[.pointer p]) (best : List UInt8) (hb : Rp w p best) (hbl : best.length ≤ 1000000000) (t : Nat) (h1 : 1 ≤ t) (h2 : t < 58) (more : ByteArray) (hm : more.size ≤ 100) :
    Calls Tryz.prog 175 #[yv t, .string more, .pointer (some ⟨bm, 0, none⟩), .pointer (some ⟨bb, 0, none⟩)] w (Tried w bb (tryN m.stack best t (sb more))) := by
  have HM := Lib.hid (may_any w g r src m A c h t)
  have hfw := Tryz.endsWord
  have m0 : w.cell? ⟨bm, 0, none⟩ = some (.pointer (some ⟨g, 0, none⟩)) := hbm.at_ 0 rfl
  have b0 : w.cell? ⟨bb, 0, none⟩ = some (.pointer p) := hbb.at_ 0 rfl
  have Hbb := Lib.hid hbb
  have Hb := Lib.hid hb
  have Hres := Lib.hid (show tryN m.stack best t (sb more) = if mayN t m.stack = true then (if best = [] ∨ aheadB (sb more ++ (restN (withN t m.stack)).1) best = true then sb more ++ (restN (withN t m.stack)).1 else best) else best from rfl)
  generalize tryN m.stack best t (sb more) = R at *
  by_cases hq : mayN t m.stack = true
  · obtain ⟨n, hn, hT, hlen⟩ := with_ready t h2 m.stack h.sym hq
    have HW := Lib.hid (with_any w g r src m A c h t n _ h2 hT (by omega))
    have Hpos := Lib.hid (hT.pos h1 hp)
    have hrl := (rest_len (withN t m.stack)).1
    rw [hq] at HM Hres
    generalize withN t m.stack = k at *
    have HR := Lib.hid (fun W (hW : Old w W) g' r' A' c' (hMac : Mac W g' r' ⟨#[]⟩ ⟨0, k, 0, 0⟩ A' c') => rest_any W (hg.old hW) g' r' _ _ A' c' hMac Hpos.out (by show k.length ≤ _; omega))
    generalize restN k = rs at *
    have Hlen := Lib.hid (show rs.1.length ≤ 20000000 by omega)
    obtain ⟨rs1, rs2⟩ := rs
    simp only at HR Hlen Hres hrl
    clear hrl h hg hT hlen hn hp hl hbm hbb hb
    unfold yv at *
    cases p with
    | none =>
      have hbe : best = [] := Hb.out.nil_of
      have HR2 := Lib.hid (show R = sb more ++ rs1 by rw [Hres.out]; simp [hbe])
      clear Hres
      go_enter Tryz.func175, Tryz.ntmps175
      go_wp2_with (first | (go_at_call 176; refine HM.out.mono ?_; rintro e w1 ⟨rfl, rfl⟩) | (go_at_call 144; refine HW.out.mono ?_; rintro e w1 ⟨g', r', A', c', rfl, hMac, hO1⟩; have HMac := Lib.hid hMac; have HO1 := Lib.hid hO1; clear hMac hO1) | (go_at_call 141; refine (HR.out _ HO1.out _ _ _ _ HMac.out).mono ?_; rintro e w2 ⟨a, b, he, hx, hy, ho⟩; obtain rfl : e = .returned (.agg #[.pointer a, .pointer b]) := he; have HX := Lib.hid hx; have HO2 := Lib.hid (HO1.out.old ho); clear hx hy ho) | (go_at_call 142; refine (rbehind_any _ a rs1 HX.out more (by have := Hlen.out; omega)).mono ?_; rintro e w3 ⟨q, rfl, hq, ho⟩; have HQ := Lib.hid hq; have HO3 := Lib.hid (HO2.out.old ho); have b3 : w3.cell? ⟨bb, 0, none⟩ = some (.pointer none) := (Hbb.out.old HO3.out).at_ 0 rfl; have z3 := (Hbb.out.old HO3.out).frozen 0; clear hq ho))
      go_end0
      rw [HR2.out]
      exact Tried.store HO3.out Hbb.out HQ.out
    | some pa =>
      have hbe : best ≠ [] := fun e => by
        have := Hb.out.nil_iff.2 e
        cases this
      generalize haq : aheadB (sb more ++ rs1) best = q at *
      have HR2 := Lib.hid (show R = if q = true then sb more ++ rs1 else best by rw [Hres.out]; simp [hbe])
      have Haq := Lib.hid haq
      clear Hres haq
      cases q
      · have HR3 := Lib.hid (show R = best by rw [HR2.out]; rfl)
        clear HR2
        go_enter Tryz.func175, Tryz.ntmps175
        go_wp2_with (first | (go_at_call 176; refine HM.out.mono ?_; rintro e w1 ⟨rfl, rfl⟩) | (go_at_call 144; refine HW.out.mono ?_; rintro e w1 ⟨g', r', A', c', rfl, hMac, hO1⟩; have HMac := Lib.hid hMac; have HO1 := Lib.hid hO1; clear hMac hO1) | (go_at_call 141; refine (HR.out _ HO1.out _ _ _ _ HMac.out).mono ?_; rintro e w2 ⟨a, b, he, hx, hy, ho⟩; obtain rfl : e = .returned (.agg #[.pointer a, .pointer b]) := he; have HX := Lib.hid hx; have HO2 := Lib.hid (HO1.out.old ho); clear hx hy ho) | (go_at_call 142; refine (rbehind_any _ a rs1 HX.out more (by have := Hlen.out; omega)).mono ?_; rintro e w3 ⟨q, rfl, hq, ho⟩; have HQ := Lib.hid hq; have HO3 := Lib.hid (HO2.out.old ho); have b3 : w3.cell? ⟨bb, 0, none⟩ = some (.pointer (some pa)) := (Hbb.out.old HO3.out).at_ 0 rfl; have z3 := (Hbb.out.old HO3.out).frozen 0; clear hq ho) | (go_at_call 177; refine (ahead_any _ q (some pa) _ best HQ.out (Hb.out.old HO3.out) (by rw [List.length_append, sb_length]; have := Hlen.out; omega) (by omega)).mono ?_; rw [Haq.out]; rintro e w4 ⟨rfl, ho⟩; have HO4 := Lib.hid (HO3.out.old ho); clear ho))
        go_end0
        rw [HR3.out]
        exact ⟨rfl, some pa, Hbb.out.old HO4.out, Hb.out.old HO4.out, HO4.out.mono (fun _ _ f => f.elim)⟩
      · have HR3 := Lib.hid (show R = sb more ++ rs1 by rw [HR2.out]; rfl)
        clear HR2
        go_enter Tryz.func175, Tryz.ntmps175
        go_wp2_with (first | (go_at_call 176; refine HM.out.mono ?_; rintro e w1 ⟨rfl, rfl⟩) | (go_at_call 144; refine HW.out.mono ?_; rintro e w1 ⟨g', r', A', c', rfl, hMac, hO1⟩; have HMac := Lib.hid hMac; have HO1 := Lib.hid hO1; clear hMac hO1) | (go_at_call 141; refine (HR.out _ HO1.out _ _ _ _ HMac.out).mono ?_; rintro e w2 ⟨a, b, he, hx, hy, ho⟩; obtain rfl : e = .returned (.agg #[.pointer a, .pointer b]) := he; have HX := Lib.hid hx; have HO2 := Lib.hid (HO1.out.old ho); clear hx hy ho) | (go_at_call 142; refine (rbehind_any _ a rs1 HX.out more (by have := Hlen.out; omega)).mono ?_; rintro e w3 ⟨q, rfl, hq, ho⟩; have HQ := Lib.hid hq; have HO3 := Lib.hid (HO2.out.old ho); have b3 : w3.cell? ⟨bb, 0, none⟩ = some (.pointer (some pa)) := (Hbb.out.old HO3.out).at_ 0 rfl; clear hq ho) | (go_at_call 177; refine (ahead_any _ q (some pa) _ best HQ.out (Hb.out.old HO3.out) (by rw [List.length_append, sb_length]; have := Hlen.out; omega) (by omega)).mono ?_; rw [Haq.out]; rintro e w4 ⟨rfl, ho⟩; have HO4 := Lib.hid (HO3.out.old ho); have HQ4 := Lib.hid (HQ.out.old ho); have b4 : w4.cell? ⟨bb, 0, none⟩ = some (.pointer (some pa)) := (Hbb.out.old HO4.out).at_ 0 rfl; have z4 := (Hbb.out.old HO4.out).frozen 0; clear ho))
        go_end0
        rw [HR3.out]
        exact Tried.store HO4.out Hbb.out HQ4.out
  · have hq' : mayN t m.stack = false := by simpa using hq
    rw [hq'] at HM
    have HR2 := Lib.hid (show R = best by rw [Hres.out, if_neg hq])
    clear Hres h hg hp hbm hbb hb hq hq'
    unfold yv at *
    go_enter Tryz.func175, Tryz.ntmps175
    go_wp2_with (go_at_call 176; refine HM.out.mono ?_; rintro e w1 ⟨rfl, rfl⟩)
    go_end0
    rw [HR2.out]
    exact ⟨rfl, p, Hbb.out, Hb.out, Kp.refl _ _⟩
end Go.Proofs.YtmmjcbbogokmfaaGreatDoor

/- Contract of the machine's worded. -/
namespace Go.Proofs.YtmmjcbbogokmfaaGreatDoor
open Go.RowKit

theorem try_len (st : List Nat) (h5 : ∀ n ∈ st, n < 85) (hl : st.length ≤ 1000000) (best : List UInt8) (hb : best.length ≤ 20000000) (t : Nat) (ht : t < 58) (more : List UInt8) (hm : more.length ≤ 100) : (tryN st best t more).length ≤ 20000000 := by
  unfold tryN
  split
  · rename_i hq
    obtain ⟨n, _, _, hlen⟩ := with_ready t ht st h5 hq
    have := (rest_len (withN t st)).1
    simp only
    split
    · rw [List.length_append]; omega
    · exact hb
  · exact hb
/-- while words are tried: the machine's box, the best's box -/
structure WdSt (w : World) (g : Nat) (wr : World) (p : Option Addr) (best : List UInt8) : Prop where
  old : Old w wr
  bm : Blk wr w.heap.size 155 #[.pointer (some ⟨g, 0, none⟩)]
  bb : Blk wr (w.heap.size + 1) 166 #[.pointer p]
  rp : Rp wr p best
  len : best.length ≤ 20000000
theorem WdSt.try_ {w : World} (hg : Sg w) {g : Nat} {r : Option Nat} {src : ByteArray} {m : Mc} {A : Option Addr} {c : Nat} (h : Mac w g r src m A c) (hp : Pos m.stack) (hl : m.stack.length ≤ 1000000) {wr : World} {p : Option Addr} {best : List UInt8} (hs : WdSt w g wr p best) (t : Nat) (h1 : 1 ≤ t) (h2 : t < 58) (more : ByteArray) (hm : more.size ≤ 100) :
    Calls Tryz.prog 175 #[yv t, .string more, .pointer (some ⟨w.heap.size, 0, none⟩), .pointer (some ⟨w.heap.size + 1, 0, none⟩)] wr fun e w' => e = .returned (.tuple #[]) ∧ ∃ p', WdSt w g w' p' (tryN m.stack best t (sb more)) := by
  refine (try_any wr (hg.old hs.old) g r src m A c (h.old hs.old) hp hl _ _ hs.bm p hs.bb best hs.rp (by have := hs.len; omega) t h1 h2 more hm).mono ?_
  rintro e w' ⟨he, p', hb, hr, hk⟩
  exact ⟨he, p', hs.old.trans hk (fun b hb e => by omega), hs.bm.kp hk (by omega), hb, hr, try_len m.stack h.sym hl best hs.len t h2 _ (by rw [sb_length]; exact hm)⟩
theorem tries_drop (st : List Nat) (w : List UInt8) (j : Nat) (hj : j < resL.length) (best : List UInt8) : triesN st w (resL.drop j) j best = triesN st w (resL.drop (j + 1)) (j + 1) (if w.isPrefixOf resL[j] = true then tryN st best (23 + j) (resL[j].drop w.length) else best) := by
  rw [List.drop_eq_getElem_cons hj]
  rfl
theorem res_len (j : Nat) (hj : j < resL.length) : resL[j].length ≤ 20 := by
  have h : ∀ x ∈ resL, x.length ≤ 20 := by decide +kernel
  exact h _ (List.getElem_mem hj)
theorem pre_len {a b : List UInt8} (h : a.isPrefixOf b = true) : a.length ≤ b.length := by
  rw [List.isPrefixOf_iff_prefix] at h
  exact h.length_le
set_option maxRecDepth 100000 in
set_option maxHeartbeats 3200000 in
theorem worded_end (w : World) (hg : Sg w) (g : Nat) (r : Option Nat) (src : ByteArray) (m : Mc) (A : Option Addr) (c : Nat) (h : Mac w g r src m A c) (hp : Pos m.stack) (hl : m.stack.length ≤ 1000000) (hf : m.from_ < src.size) :
    Calls Tryz.prog 143 #[.pointer (some ⟨g, 0, none⟩)] w fun e w' => ∃ p, e = .returned (.pointer p) ∧ Rp w' p (wordEnd m.stack ((sb src).drop m.from_)) ∧ Old w w' ∧ (wordEnd m.stack ((sb src).drop m.from_)).length ≤ 20000000 := by
  have hwd : sb (src.extract m.from_ src.size) = (sb src).drop m.from_ := by
    rw [sb_extract, List.take_of_length_le (by rw [List.length_drop, sb_length]; exact Nat.le_refl _)]
  have hsz : (src.extract m.from_ src.size).size = src.size - m.from_ := by rw [← sb_length, hwd, List.length_drop, sb_length]
  rw [← hwd]
  generalize hws : src.extract m.from_ src.size = ws at *
  have hw0 : 0 < ws.size := by omega
  have Hhd := Lib.hid (sb_head ws hw0)
  have HT := Lib.hid (fun wr p best (hs : WdSt w g wr p best) t h1 h2 more hm => hs.try_ hg h hp hl t h1 h2 more hm)
  have HD := Lib.hid (fun W => digit_any W (ws[0]'hw0))
  have HL := Lib.hid (fun W (hW : Old w W) => legal_any9 W (hg.old hW) ws)
  have HN := Lib.hid (fun W => startsName_any W ws)
  have Hres := Lib.hid (show wordEnd m.stack (sb ws) = if digC ((sb ws).headD 0) = true then tryN m.stack (triesN m.stack (sb ws) (resL.drop 0) 0 []) 2 [] else if legalB (sb ws) = true then tryN m.stack (triesN m.stack (sb ws) (resL.drop 0) 0 []) 1 [] else if (sb ws).length < 64 ∧ startsNameB (sb ws) = true then tryN m.stack (triesN m.stack (sb ws) (resL.drop 0) 0 []) 1 [48] else triesN m.stack (sb ws) (resL.drop 0) 0 [] from rfl)
  rw [Hhd.out, sb_length] at Hres
  have hc0 := h.c0
  have hc4 := h.c4
  have HM := Lib.hid h
  have Hg := Lib.hid hg.res
  have H0 := Lib.hid (fun n => show WdSt w g (((w.alloc (.cells #[.pointer (some ⟨g, 0, none⟩)] 155)).drewN n).alloc (.cells #[.pointer none] 166)) none [] from by
    have b1 : Blk (((w.alloc (.cells #[.pointer (some ⟨g, 0, none⟩)] 155)).drewN n).alloc (.cells #[.pointer none] 166)) w.heap.size 155 #[.pointer (some ⟨g, 0, none⟩)] := ((Blk.new _ _ _).drewN n).alloc _
    have b2 := Blk.new ((w.alloc (.cells #[.pointer (some ⟨g, 0, none⟩)] 155)).drewN n) 166 #[.pointer none]
    rw [show ((w.alloc (.cells #[.pointer (some ⟨g, 0, none⟩)] 155)).drewN n).heap.size = w.heap.size + 1 by simp] at b2
    exact ⟨(((Kp.refl NoX w).alloc _).drewN n).alloc _, b1, b2, .nil, by decide⟩)
  generalize wordEnd m.stack (sb ws) = Z at *
  generalize hbd : digC (ws[0]'hw0) = bd at *
  generalize hbl : legalB (sb ws) = bl at *
  generalize hbn : startsNameB (sb ws) = bn at *
  generalize hR : triesN m.stack (sb ws) (resL.drop 0) 0 [] = R at *
  have HR := Lib.hid hR.symm
  have HG := Lib.hid (fun W (hW : Old w W) => (hg.old hW).res)
  have Hx := Lib.hid (fun j (hj : j < 35) => wvs_at resL j hj)
  have Hsz := Lib.hid (show (Tryz.prog.info? 205).map (·.size) = some (wvs resL).length from Tryz.size35)
  have hmf : ∀ (fn : Fn) (first cap : Array Value) (w : World), (Instr.makeFunc fn first cap).run Tryz.prog w = .ok (.func fn first cap) w := fun _ _ _ _ => rfl
  generalize hcs : wvs resL = cs at *
  have a1 : (m.from_ : Int) ≤ (src.size : Int) := by omega
  have a2 : (0 : Int) ≤ (m.from_ : Int) := by omega
  have a3 : (m.from_ : Int).toNat = m.from_ := by omega
  have b0 : (0 : Int) < (ws.size : Int) := by omega
  clear hcs hR hbd hbl hbn h hg hp hl hwd Hhd Hg
  clear hf hsz
  generalize m.stack = st at *
  unfold yv at *
  go_enter Tryz.func143, Tryz.ntmps143
  go_wp2
  have hM1 := HM.out.old ((Kp.refl NoX w).alloc (.cells #[.pointer (some ⟨g, 0, none⟩)] 155))
  have d0 := hM1.c0
  have d4 := hM1.c4
  have d5 : (w.alloc (.cells #[.pointer (some ⟨g, 0, none⟩)] 155)).cell? ⟨w.heap.size, 0, none⟩ = some (.pointer (some ⟨g, 0, none⟩)) := (Blk.new w 155 #[.pointer (some ⟨g, 0, none⟩)]).at_ 0 rfl
  clear hM1
  go_quiet (fail)
  clear d0 d4 d5
  have Hold0 := Lib.hid ((H0.out nq).old)
  go_wp2_with (first | ((with_reducible refine at_loadE 205 (.global 0) ?_); refine Tryz.load_w rfl 205 (.global 0) rfl 0 0 rfl cs _ (HG.out _ Hold0.out) Tryz.underlying205 rfl Hsz.out ?_) | fail)
  go_loopw [19] (fun i wr => ∃ (j : Nat) (p : Option Addr) (best : List UInt8), j ≤ 35 ∧ i = .int .i64 j ∧ WdSt w g wr p best ∧ R = triesN st (sb ws) (resL.drop j) j best) (fun i _ => 35 - (intOf i).toNat)
  case atStart => exact ⟨0, none, [], by omega, rfl, H0.out nq, HR.out⟩
  case round =>
    clear H0 HR Hold0
    obtain ⟨j, p, best, hj, rfl, hst, hR⟩ := hrel
    have HSt := Lib.hid hst
    clear hst
    by_cases hlt : j < 35
    · have hx := Hx.out j hlt
      have hrl := res_len j hlt
      rw [tries_drop st (sb ws) j hlt] at hR
      generalize resL[j]'hlt = rw at *
      have hsx : sb (⟨rw.toArray⟩ : ByteArray) = rw := sb_mk rw
      generalize (⟨rw.toArray⟩ : ByteArray) = x at *
      subst hsx
      have b1 : (j : Int) < 35 := by omega
      have b2 : (0 : Int) ≤ (j : Int) := by omega
      have b3 : (j : Int).toNat = j := by omega
      have b4 : IntKind.u8.wrap (j : Int) = (j : Int) := IntWalk.u8_in _ (by omega)
      have b5 : IntKind.u8.wrap (23 + (j : Int)) = ((23 + j : Nat) : Int) := by rw [show (23 + (j : Int)) = ((23 + j : Nat) : Int) by omega]; exact IntWalk.u8_in _ (by omega)
      have b6 : IntKind.i64.wrap ((j : Int) + 1) = (j : Int) + 1 := IntWalk.i64_in _ (by omega)
      have hix := fun w' => Tryz.index35 w' cs j _ hx hlt
      have HP := Lib.hid (fun W => prefix_any W x ws)
      clear hx
      by_cases hpre : (sb ws).isPrefixOf (sb x) = true
      · have hle := pre_len hpre
        rw [sb_length, sb_length] at hle
        rw [hpre] at HP
        rw [if_pos hpre, show (sb x).drop (sb ws).length = sb (x.extract ws.size x.size) by rw [sb_extract, List.take_of_length_le (by rw [List.length_drop, sb_length]; exact Nat.le_refl _), sb_length]] at hR
        have hes : (x.extract ws.size x.size).size ≤ 100 := by rw [← sb_length, sb_extract, List.length_take, List.length_drop]; rw [sb_length] at hrl ⊢; omega
        have c1 : (ws.size : Int) ≤ (x.size : Int) := by omega
        have c2 : (0 : Int) ≤ (ws.size : Int) := by omega
        have c3 : (ws.size : Int).toNat = ws.size := by omega
        have HR2 := Lib.hid hR
        have Hes := Lib.hid hes
        clear hpre hR hes
        have b7 : (23 + j : Nat) < 58 := by omega
        have b8 : 1 ≤ (23 + j : Nat) := by omega
        generalize (23 + j : Nat) = t at *
        go_wp2_with (first | (go_at_call 178; refine (HP.out _).mono ?_; rintro e w1 ⟨rfl, rfl⟩) | (go_at_call 175; refine (HT.out _ _ _ HSt.out t b8 b7 _ Hes.out).mono ?_; rintro e w2 ⟨rfl, p2, hst2⟩; have HSt2 := Lib.hid hst2; clear hst2))
        exact ⟨⟨j + 1, p2, _, by omega, by go_num, HSt2.out, HR2.out⟩, by simp [intOf]; omega⟩
      · have hpre' : (sb ws).isPrefixOf (sb x) = false := Bool.eq_false_iff.2 hpre
        rw [hpre'] at HP
        rw [if_neg hpre] at hR
        have HR2 := Lib.hid hR
        clear hpre hpre' hR
        go_wp2_with (go_at_call 178; refine (HP.out _).mono ?_; rintro e w1 ⟨rfl, rfl⟩)
        exact ⟨⟨j + 1, p, best, by omega, by go_num, HSt.out, HR2.out⟩, by simp [intOf]; omega⟩
    · obtain rfl : j = 35 := by omega
      rw [show triesN st (sb ws) (resL.drop 35) 35 best = best from rfl] at hR
      rw [hR] at Hres
      clear hR
      have f0 := HSt.out.bb.at_ 0 (v := .pointer p) rfl
      have d1 : (0 : Int) < (ws.size : Int) := by omega
      cases bd
      · cases bl
        · by_cases h64 : ws.size < 64
          · have c1 : (ws.size : Int) < 64 := by omega
            cases bn
            · have HZ := Lib.hid (show Z = best by rw [Hres.out]; simp)
              clear Hres h64
              go_wp2_with (first | (go_at_call 158; refine (HD.out _).mono ?_; rintro e w1 ⟨rfl, rfl⟩) | (go_at_call 20; refine (HL.out _ HSt.out.old).mono ?_; rintro e w1 ⟨rfl, rfl⟩) | (go_at_call 69; refine (HN.out _).mono ?_; rintro e w1 ⟨rfl, rfl⟩))
              go_ret
              rw [HZ.out]
              exact ⟨p, rfl, HSt.out.rp, HSt.out.old, HSt.out.len⟩
            · have HZ := Lib.hid (show Z = tryN st best 1 [48] by rw [Hres.out]; simp [h64])
              clear Hres h64
              go_wp2_with (first | (go_at_call 158; refine (HD.out _).mono ?_; rintro e w1 ⟨rfl, rfl⟩) | (go_at_call 20; refine (HL.out _ HSt.out.old).mono ?_; rintro e w1 ⟨rfl, rfl⟩) | (go_at_call 69; refine (HN.out _).mono ?_; rintro e w1 ⟨rfl, rfl⟩) | (go_at_call 175; refine (HT.out _ _ _ HSt.out 1 (by decide) (by decide) ⟨#[48]⟩ (by decide)).mono ?_; rintro e w2 ⟨rfl, p2, hst2⟩; have HSt2 := Lib.hid hst2; have f1 := hst2.bb.at_ 0 (v := .pointer p2) rfl; clear hst2))
              go_ret
              rw [HZ.out]
              exact ⟨p2, rfl, HSt2.out.rp, HSt2.out.old, HSt2.out.len⟩
          · have c1 : ¬ (ws.size : Int) < 64 := by omega
            have HZ := Lib.hid (show Z = best by rw [Hres.out]; simp [h64])
            clear Hres h64
            go_wp2_with (first | (go_at_call 158; refine (HD.out _).mono ?_; rintro e w1 ⟨rfl, rfl⟩) | (go_at_call 20; refine (HL.out _ HSt.out.old).mono ?_; rintro e w1 ⟨rfl, rfl⟩) | (go_at_call 69; refine (HN.out _).mono ?_; rintro e w1 ⟨rfl, rfl⟩))
            go_ret
            rw [HZ.out]
            exact ⟨p, rfl, HSt.out.rp, HSt.out.old, HSt.out.len⟩
        · have HZ := Lib.hid (show Z = tryN st best 1 [] by rw [Hres.out]; rfl)
          clear Hres
          go_wp2_with (first | (go_at_call 158; refine (HD.out _).mono ?_; rintro e w1 ⟨rfl, rfl⟩) | (go_at_call 20; refine (HL.out _ HSt.out.old).mono ?_; rintro e w1 ⟨rfl, rfl⟩) | (go_at_call 69; refine (HN.out _).mono ?_; rintro e w1 ⟨rfl, rfl⟩) | (go_at_call 175; refine (HT.out _ _ _ HSt.out 1 (by decide) (by decide) ⟨#[]⟩ (by decide)).mono ?_; rintro e w2 ⟨rfl, p2, hst2⟩; have HSt2 := Lib.hid hst2; have f1 := hst2.bb.at_ 0 (v := .pointer p2) rfl; clear hst2))
          go_ret
          rw [HZ.out]
          exact ⟨p2, rfl, HSt2.out.rp, HSt2.out.old, HSt2.out.len⟩
      · have HZ := Lib.hid (show Z = tryN st best 2 [] by rw [Hres.out]; rfl)
        clear Hres
        go_wp2_with (first | (go_at_call 158; refine (HD.out _).mono ?_; rintro e w1 ⟨rfl, rfl⟩) | (go_at_call 20; refine (HL.out _ HSt.out.old).mono ?_; rintro e w1 ⟨rfl, rfl⟩) | (go_at_call 69; refine (HN.out _).mono ?_; rintro e w1 ⟨rfl, rfl⟩) | (go_at_call 175; refine (HT.out _ _ _ HSt.out 2 (by decide) (by decide) ⟨#[]⟩ (by decide)).mono ?_; rintro e w2 ⟨rfl, p2, hst2⟩; have HSt2 := Lib.hid hst2; have f1 := hst2.bb.at_ 0 (v := .pointer p2) rfl; clear hst2))
        go_ret
        rw [HZ.out]
        exact ⟨p2, rfl, HSt2.out.rp, HSt2.out.old, HSt2.out.len⟩
end Go.Proofs.YtmmjcbbogokmfaaGreatDoor
