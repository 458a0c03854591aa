import Derived.Test.YtmmjcbbogokmfaaGreatDoorMt01
import Derived.Test.YtmmjcbbogokmfaaGreatDoorMt09
import Derived.Test.YtmmjcbbogokmfaaGreatDoorMt28
import Derived.Test.YtmmjcbbogokmfaaGreatDoorMt38
import Derived.LaidEqlPtr
import Derived.Laws.ResultCell
set_option maxRecDepth 100000
set_option maxHeartbeats 25600000
namespace Go.Proofs.YtmmjcbbogokmfaaGreatDoor
open Go.RowKit
theorem nextN_tree {src : List UInt8} {r r1 : Rdr} (t : Tre) (h : jy src r = some r1) : jy src { r with tree := t } = some { r1 with tree := t } := by
  unfold jy at h ⊢
  simp only at h ⊢
  split at h
  · rename_i h1
    rw [if_pos h1]
    injection h with h
    rw [<- h]
  · rename_i h1
    rw [if_neg h1]
    obtain ⟨x, hx, e⟩ := Option.map_eq_some_iff.1 h
    rw [hx, <- e]
    rfl
theorem St.setName {w : World} {g : Nat} {src : ByteArray} {r : Rdr} {s : Sl} (h : St w g src r s) (x : ByteArray) (y : Int) :
    St ((w.setCell ⟨g, 5, none⟩ (.string x)).setCell ⟨g, 6, none⟩ (.int .i64 y)) g src { r with tree := { r.tree with name := x, at_ := y } } s /\ Fr g s s w ((w.setCell ⟨g, 5, none⟩ (.string x)).setCell ⟨g, 6, none⟩ (.int .i64 y)) := by
  obtain ⟨ns, ps, hR⟩ := h.rows
  have hk : Kp (GX g) w ((w.setCell ⟨g, 5, none⟩ (.string x)).setCell ⟨g, 6, none⟩ (.int .i64 y)) := ((Kp.refl (GX g) w).setCell (p := ⟨g, 5, none⟩) (fun _ => rfl) _).setCell (p := ⟨g, 6, none⟩) (fun _ => rfl) _
  have hR2 := hR.keep h.box hk
  have hb := (Blk.setL h.box 5 (.string x)).setL 6 (.int .i64 y)
  refine ⟨⟨h.sgf (Fr.of_g s hk), h.g8, h.small, hb, ⟨ns, ps, hR2.rA, hR2.rG, hR2.rM, hR2.rP, hR2.rN, hR2.rO, hR2.pe, hR2.ne, hR2.po, hR2.no⟩, h.from_, h.at_, h.t58, fun b hz => Nat.lt_of_lt_of_le (h.zlt b hz) hk.size, h.z8, h.zno⟩, Fr.of_g s hk⟩
def DeRel (src : ByteArray) (w : World) (g : Nat) (s : Sl) (rr : Rdr) (F n : Nat) (W : World) : Prop := n <= F /\ ∃ r' s', St W g src r' s' /\ Fr g s s' w W /\ declsN (sb src) n r' = some rr
theorem read_any (w : World) (g : Nat) (src : ByteArray) (f : Nat) (r' : Rdr) (s : Sl) (h : St w g src ⟨0, 0, 0, 0, Tre.none_⟩ s) (hk : readN (sb src) f = some r') :
    Calls Tryz.prog 78 #[.pointer (some ⟨g, 0, none⟩)] w (Ex w g src s r' (.tuple #[])) := by
  unfold readN at hk
  obtain ⟨r1, hn1, hk⟩ := Option.bind_eq_some_iff.1 hk
  obtain ⟨r2, hn2, hk⟩ := Option.bind_eq_some_iff.1 hk
  obtain ⟨⟨nm, at_, r3⟩, hm, hk⟩ := Option.bind_eq_some_iff.1 hk
  obtain ⟨r4, hn4, hk⟩ := Option.bind_eq_some_iff.1 hk
  have hn5 := nextN_tree { r3.tree with name := nm, at_ := at_ } hn4
  have e43 : r4.tree = r3.tree := by
    have hn4' := hn4
    unfold jy at hn4'
    simp only at hn4'
    split at hn4'
    · injection hn4' with e; rw [<- e]
    · obtain ⟨x, _, e⟩ := Option.map_eq_some_iff.1 hn4'; rw [<- e]
  have HS := jJ0 h
  have N1 := jJ0 hn1
  have N2 := jJ0 hn2
  have NM := jJ0 hm
  have N4 := jJ0 hn5
  simp only at hk
  rw [e43] at hk
  have DE := jJ0 hk
  clear h hn1 hn2 hm hn4 hn5 hk e43
  go_enter Tryz.func78, Tryz.ntmps78
  go_wp2_with (first | (go_at_call 135; first | (refine (jN _ g src _ _ _ H4.out.1 N4.out).mono ?_; rintro e w4 ⟨rfl, hX⟩; have H5 := jJ0 hX; clear hX) | (refine (jN _ g src _ _ _ H1.out.1 N2.out).mono ?_; rintro e w2 ⟨rfl, hX⟩; have H2 := jJ0 hX; clear hX) | (refine (jN _ g src _ _ _ HS.out N1.out).mono ?_; rintro e w1 ⟨rfl, hX⟩; have H1 := jJ0 hX; clear hX)) | (go_at_call 136; refine (vg _ g src _ _ _ _ _ H2.out.1 NM.out).mono ?_; rintro e w3 ⟨rfl, hX⟩; have c5 := Blk.at_ hX.1.box 5 rfl; have z5 := hX.1.box.z 5; have c6 := Blk.at_ hX.1.box 6 rfl; have z6 := hX.1.box.z 6; have H4 := jJ0 (hX.1.setName nm at_); have H3 := jJ0 hX.2; clear hX; unfold iv) | fail)
  have D0 := jJ0 (show DeRel src w g s r' f f w4 from ⟨Nat.le_refl _, _, s, H5.out.1, (((H1.out.2.trans H2.out.2).trans H3.out).trans H4.out.2).trans H5.out.2, DE.out⟩)
  clear H1 H2 H3 H4 H5 c5 z5 c6 z6 DE
  go_loopw [] (fun wr => ∃ n, DeRel src w g s r' f n wr) (fun wr => least (fun n => DeRel src w g s r' f n wr))
  case atStart => exact ⟨_, D0.out⟩
  case round =>
    clear D0
    obtain ⟨n, ⟨hn, rr, s', hst, hfr, hex⟩, hmin⟩ := yA hrel
    have hc3 := hst.box.c3
    have Hst := jJ0 hst
    have Hfr := jJ0 hfr
    have Hmin := jJ0 hmin
    cases n with
    | zero => exact absurd hex (by simp [declsN])
    | succ m =>
      rw [declsN] at hex
      by_cases h24 : rr.t = 24
      · rw [if_pos h24] at hex
        obtain ⟨q, hq, hex⟩ := Option.bind_eq_some_iff.1 hex
        have AQ := jJ0 (attribute_any wr g src m rr q s' hst hq)
        have EX := jJ0 hex
        rw [h24] at hc3
        clear hst hfr hmin hrel hex hq h24
        go_wp2_with (first | (go_at_call 137; refine AQ.out.mono ?_; rintro e w5 ⟨rfl, s5, hX⟩; have H5 := jJ0 hX; clear hX) | fail)
        have HL : DeRel src w g s r' f m w5 := ⟨by omega, q, s5, H5.out.1, Hfr.out.trans H5.out.2, EX.out⟩
        exact ⟨⟨m, HL⟩, by rw [Hmin.out]; exact kX HL (Nat.lt_succ_self m)⟩
      rw [if_neg h24] at hex
      by_cases h25 : rr.t = 25
      · rw [if_pos h25] at hex
        obtain ⟨q, hq, hex⟩ := Option.bind_eq_some_iff.1 hex
        have AQ := jJ0 (stage_any wr g src m rr q s' hst hq)
        have EX := jJ0 hex
        rw [h25] at hc3
        clear hst hfr hmin hrel hex hq h25
        go_wp2_with (first | (go_at_call 138; refine AQ.out.mono ?_; rintro e w5 ⟨rfl, s5, hX⟩; have H5 := jJ0 hX; clear hX) | fail)
        have HL : DeRel src w g s r' f m w5 := ⟨by omega, q, s5, H5.out.1, Hfr.out.trans H5.out.2, EX.out⟩
        exact ⟨⟨m, HL⟩, by rw [Hmin.out]; exact kX HL (Nat.lt_succ_self m)⟩
      rw [if_neg h25] at hex
      by_cases h26 : rr.t = 26
      · rw [if_pos h26] at hex
        obtain ⟨q, hq, hex⟩ := Option.bind_eq_some_iff.1 hex
        have AQ := jJ0 (milestone_any wr g src m rr q s' hst hq)
        have EX := jJ0 hex
        rw [h26] at hc3
        clear hst hfr hmin hrel hex hq h26
        go_wp2_with (first | (go_at_call 139; refine AQ.out.mono ?_; rintro e w5 ⟨rfl, s5, hX⟩; have H5 := jJ0 hX; clear hX) | fail)
        have HL : DeRel src w g s r' f m w5 := ⟨by omega, q, s5, H5.out.1, Hfr.out.trans H5.out.2, EX.out⟩
        exact ⟨⟨m, HL⟩, by rw [Hmin.out]; exact kX HL (Nat.lt_succ_self m)⟩
      rw [if_neg h26] at hex
      by_cases h27 : rr.t = 27
      · rw [if_pos h27] at hex
        obtain ⟨q, hq, hex⟩ := Option.bind_eq_some_iff.1 hex
        have AQ := jJ0 (step_any wr g src m rr q s' hst hq)
        have EX := jJ0 hex
        rw [h27] at hc3
        clear hst hfr hmin hrel hex hq h27
        go_wp2_with (first | (go_at_call 140; refine AQ.out.mono ?_; rintro e w5 ⟨rfl, s5, hX⟩; have H5 := jJ0 hX; clear hX) | fail)
        have HL : DeRel src w g s r' f m w5 := ⟨by omega, q, s5, H5.out.1, Hfr.out.trans H5.out.2, EX.out⟩
        exact ⟨⟨m, HL⟩, by rw [Hmin.out]; exact kX HL (Nat.lt_succ_self m)⟩
      rw [if_neg h27] at hex
      injection hex with hex
      subst hex
      have e24 : ((rr.t : Int) == 24) = false := beq_eq_false_iff_ne.2 (by omega)
      have e25 : ((rr.t : Int) == 25) = false := beq_eq_false_iff_ne.2 (by omega)
      have e26 : ((rr.t : Int) == 26) = false := beq_eq_false_iff_ne.2 (by omega)
      have e27 : ((rr.t : Int) == 27) = false := beq_eq_false_iff_ne.2 (by omega)
      clear hst hfr hmin hrel h24 h25 h26 h27
      go_wp2
      go_end0
      exact ⟨rfl, s', Hst.out, Hfr.out⟩
theorem rspelled_any (w : World) (hg : Sg w) (n : Nat) (h1 : 1 <= n) (h2 : n < 58) : Calls Tryz.prog 203 #[yv n] w fun e w' => e = .returned (.string ⟨(jH n).toArray⟩) /\ w = w' := by
  unfold yv
  by_cases e1 : n = 1
  · subst e1
    clear hg
    go_enter Tryz.func203, Tryz.ntmps203
    go_wp2
    go_ret
    exact ⟨rfl, rfl⟩
  by_cases e2 : n = 2
  · subst e2
    clear hg
    go_enter Tryz.func203, Tryz.ntmps203
    go_wp2
    go_ret
    exact ⟨rfl, rfl⟩
  by_cases e3 : n = 3
  · subst e3
    clear hg
    go_enter Tryz.func203, Tryz.ntmps203
    go_wp2
    go_ret
    exact ⟨rfl, rfl⟩
  have b1 : ((n : Int) == 1) = false := beq_eq_false_iff_ne.2 (by omega)
  have b2 : ((n : Int) == 2) = false := beq_eq_false_iff_ne.2 (by omega)
  have b3 : ((n : Int) == 3) = false := beq_eq_false_iff_ne.2 (by omega)
  by_cases h23 : n < 23
  · obtain ⟨j, rfl⟩ : ∃ j, n = j + 4 := ⟨n - 4, by omega⟩
    have hj : j < 19 := by omega
    have hc := hg.sig j _ (wvs_at signL j hj)
    rw [Nat.zero_add] at hc
    have Hs := jJ0 (show jH (j + 4) = signL[j]'hj from by
      unfold jH
      rw [if_neg e1, if_neg e2, if_neg e3, if_pos h23, Nat.add_sub_cancel, List.getD, List.getElem?_eq_getElem (show j < signL.length from hj)]
      rfl)
    have b4 : ((j + 4 : Nat) : Int) < 23 := by omega
    have b5 : IntKind.u8.wrap (((j + 4 : Nat) : Int) - 4) = (j : Int) := by rw [show ((j + 4 : Nat) : Int) - 4 = (j : Int) by omega]; exact IntWalk.u8_in _ (by omega)
    have b6 : (0 : Int) <= (j : Int) := by omega
    have b7 : (j : Int) < 19 := by omega
    have b8 : (j : Int).toNat = j := by omega
    rw [Hs.out]
    clear hg e1 e2 e3 h1 h2 h23 Hs
    generalize signL[j]'hj = x at *
    generalize ((j + 4 : Nat) : Int) = z at *
    go_enter Tryz.func203, Tryz.ntmps203
    go_wp2
    go_ret
    exact ⟨rfl, rfl⟩
  · obtain ⟨j, rfl⟩ : ∃ j, n = j + 23 := ⟨n - 23, by omega⟩
    have hj : j < 35 := by omega
    have hc := hg.res j _ (wvs_at resL j hj)
    rw [Nat.zero_add] at hc
    have Hs := jJ0 (show jH (j + 23) = resL[j]'hj from by
      unfold jH
      rw [if_neg e1, if_neg e2, if_neg e3, if_neg h23, Nat.add_sub_cancel, List.getD, List.getElem?_eq_getElem (show j < resL.length from hj)]
      rfl)
    have b4 : ¬ ((j + 23 : Nat) : Int) < 23 := by omega
    have b5 : IntKind.u8.wrap (((j + 23 : Nat) : Int) - 23) = (j : Int) := by rw [show ((j + 23 : Nat) : Int) - 23 = (j : Int) by omega]; exact IntWalk.u8_in _ (by omega)
    have b6 : (0 : Int) <= (j : Int) := by omega
    have b7 : (j : Int) < 35 := by omega
    have b8 : (j : Int).toNat = j := by omega
    rw [Hs.out]
    clear hg e1 e2 e3 h1 h2 h23 Hs
    generalize resL[j]'hj = x at *
    generalize ((j + 23 : Nat) : Int) = z at *
    go_enter Tryz.func203, Tryz.ntmps203
    go_wp2
    go_ret
    exact ⟨rfl, rfl⟩
theorem own_low {w : World} {base base' : Nat} {e : TypeId} {size : Nat} {v : Value} {n : Nat} {xs : List Value} (h : w.ownsRow base e size v n xs) (hb : base' <= base) : w.ownsRow base' e size v n xs := by
  refine ⟨h.1, ?_⟩
  rcases h.2 with hn | ⟨g, cap, cur, rfl, hg, rest⟩
  · exact .inl hn
  · exact .inr ⟨g, cap, cur, rfl, Nat.le_trans hb hg, rest⟩
theorem with_any (w : World) (g : Nat) (r : Option Nat) (src : ByteArray) (m : Mc) (A : Option Addr) (c : Nat) (h : Mac w g r src m A c) (t n : Nat) (k : List Nat) (ht : t < 58) (hT : Takes t n m.stack k) (hb : m.stack.length + 11 * n <= 100000000) :
    Calls Tryz.prog 144 #[.pointer (some ⟨g, 0, none⟩), yv t] w fun e w' => ∃ g' r' A' c', e = .returned (.pointer (some ⟨g', 0, none⟩)) /\ Mac w' g' r' ⟨#[]⟩ ⟨0, k, 0, 0⟩ A' c' /\ Old w w' := by
  obtain ⟨i0, hi, hz0, hz1', hz2'⟩ := info_parts Tryz.infoSym
  have hc2 := h.c2
  have hrd := h.own.rd
  have H8 := jJ0 (show 8 <= w.heap.size from by have := h.low; have := h.blk.lt; omega)
  have H5 := jJ0 h.sym
  have HT := jJ0 hT
  have Hb := jJ0 hb
  clear h hT
  generalize m.stack = st at *
  generalize hL : st.length = L at *
  have HL := jJ0 hL
  clear hL
  have H63 := jJ0 (show 0 + L <= maxLen by unfold maxLen; omega)
  have H47 := jJ0 (show (0 + L) * 1 <= 140737488355328 by omega)
  unfold yv
  go_enter Tryz.func144, Tryz.ntmps144
  go_wp2_with (at_builtin; refine jF _ rfl (.const (.slice none 0 0)) (.tmp 9) 159 rfl w.heap.size 163 i0 (.int .u8 0) 1 1 Tryz.underlying159 hi hz0 hz1' hz2' rfl (by decide) (.slice none 0 0) 0 [] rfl (World.ownsRow_nil _ _ _ _) A L c (st.reverse.map yv) rfl hrd (one_yv _) H63.out H47.out (Nat.le_refl _) ?_; intro A' c' w1 hown hgrow hat)
  have hO1 : Old w w1 := (Kp.refl NoX w).grown hgrow (fun k e _ => by cases e)
  have hW : w1.heap.size >= w.heap.size := hO1.size
  have hrow : ∀ k, A'.map (·.block) = some k -> w.heap.size <= k := fun k e => (hown.lt k (by rw [jC]; exact e)).1
  have hM : Mac (w1.alloc (.cells #[.string ⟨#[]⟩, .int .i64 0, .slice A' L c', .int .u8 0, .int .i64 0] 162)) w1.heap.size (A'.map (·.block)) ⟨#[]⟩ ⟨0, st, 0, 0⟩ A' c' := by
    refine ⟨by have := H8.out; omega, ?_, ?_, rfl, H5.out⟩
    · show Blk _ _ _ #[_, _, .slice A' st.length c', _, _]
      rw [HL.out]
      exact Blk.new _ _ _
    · have h2 := own_low hown H8.out
      rw [Nat.zero_add, List.nil_append] at h2
      unfold Stk
      rw [HL.out]
      exact jX h2 ((Kp.refl NoX w1).alloc _) (fun _ _ f => f)
  have Hcall := jJ0 (vp _ _ _ _ _ _ _ hM t n k ht HT.out (by show st.length + _ <= _; rw [HL.out]; exact Hb.out))
  unfold yv at Hcall
  have HO := jJ0 (hO1.alloc (.cells #[.string ⟨#[]⟩, .int .i64 0, .slice A' L c', .int .u8 0, .int .i64 0] 162))
  clear hM hO1 hown hgrow hat
  go_wp2_with (go_at_call 179; refine Hcall.out.mono ?_; rintro e w2 ⟨rfl, r2, A2, c2, hM2, hk2, hf2⟩)
  go_ret
  refine ⟨_, r2, A2, c2, rfl, hM2, HO.out.trans hk2 (fun b hb hx => ?_)⟩
  rcases hx with hx | hx
  · omega
  · have := hrow b hx.symm
    omega
theorem Blk.same {w : World} {g : Nat} {t t' : TypeId} {cs cs' : Array Value} (h : Blk w g t cs) (h' : Blk w g t' cs') : cs = cs' := by
  unfold Blk at h h'
  rw [h] at h'
  injection h' with h'
  injection h' with h1 _
theorem Rp.uniq {w : World} {a : Option Addr} {l : List UInt8} (h : Rp w a l) : ∀ {l' : List UInt8}, Rp w a l' -> l = l' := by
  induction h with
  | nil => intro l' h'; exact h'.nil_of.symm
  | cons g p nx l hp hb _ ih =>
    intro l' h'
    generalize ha : (some ⟨g, 0, none⟩ : Option Addr) = a at h'
    cases h' with
    | nil => cases ha
    | cons g' p' nx' l2 hp' hb' hn' =>
      injection ha with ha
      injection ha with ha
      subst ha
      have e := hb.same hb'
      simp only [Array.mk.injEq, List.cons.injEq, Value.string.injEq, Value.pointer.injEq] at e
      obtain ⟨rfl, rfl, _⟩ := e
      rw [ih hn']
inductive Ps (w : World) : Option Addr -> Nat -> List UInt8 -> Prop
  | nil : Ps w none 0 []
  | at_ (g : Nat) (p : ByteArray) (nx : Option Addr) (l : List UInt8) (i : Nat) : i < p.size -> p.size <= 1000000000000 -> Blk w g 225 #[.string p, .pointer nx, .int .i64 ((sb p ++ l).length : Int)] -> Rp w nx l -> Ps w (some ⟨g, 0, none⟩) i ((sb p).drop i ++ l)
theorem Rp.ps {w : World} {a : Option Addr} {l : List UInt8} (h : Rp w a l) (hl : l.length <= 1000000000000) : Ps w a 0 l := by
  cases h with
  | nil => exact .nil
  | cons g p nx l hp hb hn => exact .at_ g p nx l 0 hp (by rw [List.length_append, jA] at hl; omega) hb hn
theorem Ps.len {w W : World} {a : Option Addr} {i : Nat} {l : List UInt8} (h : Ps w a i l) (ho : Old w W) : rlen (.pointer a) W - i = l.length := by
  cases h with
  | nil => rfl
  | at_ g p nx l i hi _ hb hn =>
    rw [((Rp.cons g p nx l (by omega) hb hn).old ho).rlen, List.length_append, List.length_append, List.length_drop, jA]
    omega
theorem Ps.next {w : World} {p : ByteArray} {nx : Option Addr} {l : List UInt8} {i g : Nat} (hi : i < p.size) (hp : p.size <= 1000000000000) (hm : ((sb p).drop i ++ l).length <= 1000000000000) (hb : Blk w g 225 #[.string p, .pointer nx, .int .i64 ((sb p ++ l).length : Int)]) (hn : Rp w nx l) :
    (sb p).drop i ++ l = p[i] :: ((sb p).drop (i + 1) ++ l) /\ (i + 1 < p.size -> Ps w (some ⟨g, 0, none⟩) (i + 1) ((sb p).drop (i + 1) ++ l)) /\ (i + 1 = p.size -> Ps w nx 0 ((sb p).drop (i + 1) ++ l)) := by
  refine ⟨by rw [vL p i hi, List.cons_append], fun h => .at_ g p nx l (i + 1) h hp hb hn, fun h => ?_⟩
  rw [List.drop_of_length_le (by rw [jA]; omega), List.nil_append]
  exact hn.ps (by rw [List.length_append] at hm; omega)
theorem ltB_self : ∀ l : List UInt8, ltB l l = false
  | [] => rfl
  | a :: l => by rw [ltB, if_pos rfl]; exact ltB_self l
theorem ltB_nil (l : List UInt8) : ltB l [] = false := by cases l <;> rfl
theorem ltB_nil' (l : List UInt8) : ltB [] l = false := by cases l <;> rfl
theorem Tryz.sizeRope : (Tryz.prog.info? 225).map (·.size) = some 3 := by kernel_rfl
theorem Tryz.neq_same (w : World) (a : Addr) : (binOp .neq 166 (.pointer (some a)) (.pointer (some a))).run Tryz.prog w = .ok (.bool false) w := by
  obtain ⟨j, hj, _⟩ := Option.map_eq_some_iff.1 Tryz.sizeRope
  have h : ∀ d : Nat, (Op.equalIn (d + 1) 166 (.pointer (some a)) (.pointer (some a))).run Tryz.prog w = .ok true w := fun d => by
    simp [Op.equalIn, run_underlying Tryz.underlying166, sizeOf, typeInfo, hj, run_sameAddr_same]
  simp only [binOp]
  simp [Op.equal, Op.maxDepth, h 9999]
theorem Tryz.neq_other (w : World) {g g' : Nat} {ta tb : TypeId} {ca cb : Array Value} (hne : g ≠ g') (ha : Blk w g ta ca) (hb : Blk w g' tb cb) : (binOp .neq 166 (.pointer (some ⟨g, 0, none⟩)) (.pointer (some ⟨g', 0, none⟩))).run Tryz.prog w = .ok (.bool true) w := by
  obtain ⟨j, hj, hsz⟩ := Option.map_eq_some_iff.1 Tryz.sizeRope
  have hn : (⟨g, 0, none⟩ : Addr) ≠ ⟨g', 0, none⟩ := fun e => hne (by injection e)
  have h : ∀ d : Nat, (Op.equalIn (d + 1) 166 (.pointer (some ⟨g, 0, none⟩)) (.pointer (some ⟨g', 0, none⟩))).run Tryz.prog w = .ok false w := fun d => by
    simp [Op.equalIn, run_underlying Tryz.underlying166, sizeOf, typeInfo, hj, show j.size ≠ 0 by rw [hsz]; decide, run_sameAddr_other w hn ha hb]
  simp only [binOp]
  simp [Op.equal, Op.maxDepth, h 9999]
theorem ahead_any (w : World) (a b : Option Addr) (x y : List UInt8) (hx : Rp w a x) (hy : Rp w b y) (hl : x.length <= 1000000000000) (hl2 : y.length <= 1000000000000) :
    Calls Tryz.prog 177 #[.pointer a, .pointer b] w fun e w' => e = .returned (.bool (vG x y)) /\ Old w w' := by
  have H1 := jJ0 (length_any w a x hx)
  have H2 := jJ0 (length_any w b y hy)
  by_cases hne : x.length = y.length
  case neg =>
    have Hr := jJ0 (show vG x y = decide (x.length < y.length) by unfold vG; rw [if_neg hne])
    have b1 : ((x.length : Int) != (y.length : Int)) = true := bne_iff_ne.2 (by omega)
    rw [Hr.out]
    clear hx hy
    generalize x.length = n at *
    generalize y.length = k at *
    go_enter Tryz.func177, Tryz.ntmps177
    go_wp2_with (first | (go_at_call_of 174 (Value.pointer a); refine H1.out.mono ?_; rintro e w1 ⟨rfl, rfl⟩) | (go_at_call_of 174 (Value.pointer b); refine H2.out.mono ?_; rintro e w1 ⟨rfl, rfl⟩))
    all_goals (go_ret; refine ⟨retb ?_, Kp.refl _ _⟩; simp <;> omega)
  case pos =>
    have Hr := jJ0 (show vG x y = ltB x y by unfold vG; rw [if_pos hne])
    have b1 : ((x.length : Int) != (y.length : Int)) = false := by rw [hne]; simp
    have H0 := jJ0 (show Ps w a 0 x /\ Ps w b 0 y /\ x.length = y.length from ⟨hx.ps hl, hy.ps hl2, hne⟩)
    have Hlx := jJ0 hl
    generalize vG x y = R at *
    clear hx hy hl hl2 hne
    generalize hn1 : x.length = n1 at *
    generalize hn2 : y.length = n2 at *
    go_enter Tryz.func177, Tryz.ntmps177
    go_wp2_with (first | (go_at_call_of 174 (Value.pointer a); refine H1.out.mono ?_; rintro e w1 ⟨rfl, rfl⟩) | (go_at_call_of 174 (Value.pointer b); refine H2.out.mono ?_; rintro e w1 ⟨rfl, rfl⟩))
    have Hn1 := jJ0 hn1
    have Hn2 := jJ0 hn2
    clear H1 H2 b1 hn1 hn2
    go_loopw [0, 1, 5, 6] (fun v0 v1 v5 v6 wr => ∃ (a b : Option Addr) (i j : Nat) (rx ry : List UInt8), v0 = .pointer a /\ v1 = .pointer b /\ v5 = .int .i64 i /\ v6 = .int .i64 j /\ Ps w a i rx /\ Ps w b j ry /\ rx.length = ry.length /\ rx.length <= 1000000000000 /\ R = ltB rx ry /\ Old w wr) (fun v0 _ v5 _ wr => rlen v0 wr - (intOf v5).toNat)
    case atStart => exact ⟨a, b, 0, 0, x, y, rfl, rfl, rfl, rfl, H0.out.1, H0.out.2.1, by rw [Hn1.out, Hn2.out]; exact H0.out.2.2, by rw [Hn1.out]; exact Hlx.out, Hr.out, Kp.refl _ _⟩
    case round =>
      clear H0 Hr Hlx Hn1 Hn2
      obtain ⟨a, b, i, j, rx, ry, rfl, rfl, rfl, rfl, hpx, hpy, hlen, hmax, hR, hold⟩ := hrel
      have Hme := jJ0 (hpx.len hold)
      have Hold := jJ0 hold
      have Hlen := jJ0 hlen
      have HR := jJ0 hR
      cases hpx with
      | nil =>
        have Hf := jJ0 (show R = false by rw [HR.out, ltB_nil'])
        clear hR hold hlen hpy hmax
        go_wp2
        go_ret
        exact ⟨by rw [Hf.out]; rfl, Hold.out⟩
      | at_ gx px nx lx _ hix hsx hbx hnx =>
        cases hpy with
        | nil =>
          have Hf := jJ0 (show R = false by rw [HR.out, ltB_nil])
          clear hR hold hlen hmax
          go_wp2
          go_ret
          exact ⟨by rw [Hf.out]; rfl, Hold.out⟩
        | at_ gy py ny ly _ hiy hsy hby hny =>
          by_cases hg : gx = gy
          · have Hf := jJ0 (show R = false by
              subst hg
              have e := hbx.same hby
              simp only [Array.mk.injEq, List.cons.injEq, Value.string.injEq, Value.pointer.injEq] at e
              obtain ⟨rfl, rfl, _⟩ := e
              have e2 := hnx.uniq hny
              subst e2
              have h3 := Hlen.out
              rw [List.length_append, List.length_append, List.length_drop, List.length_drop, jA] at h3
              have : i = j := by omega
              subst this
              rw [HR.out, ltB_self])
            subst hg
            clear hR hold hlen hmax hix hbx hnx hiy hby hny
            have hpe := Tryz.neq_same wr ⟨gx, 0, none⟩
            go_wp2
            go_ret
            exact ⟨by rw [Hf.out]; rfl, Hold.out⟩
          · have hbx' := hbx.old Hold.out
            have hby' := hby.old Hold.out
            have p0 := hbx'.at_ 0 (v := .string px) rfl
            have p1 := hbx'.at_ 1 (v := .pointer nx) rfl
            have q0 := hby'.at_ 0 (v := .string py) rfl
            have q1 := hby'.at_ 1 (v := .pointer ny) rfl
            have Nx := jJ0 (Ps.next hix hsx hmax hbx hnx)
            have Ny := jJ0 (Ps.next hiy hsy (by rw [<- Hlen.out]; exact hmax) hby hny)
            have a1 : (i : Int) < (px.size : Int) := by omega
            have a2 : (0 : Int) <= (i : Int) := by omega
            have a3 : (i : Int).toNat = i := by omega
            have a5 : (j : Int) < (py.size : Int) := by omega
            have a6 : (0 : Int) <= (j : Int) := by omega
            have a7 : (j : Int).toNat = j := by omega
            have hpe := Tryz.neq_other wr hg hbx' hby'
            have a8 : IntKind.i64.wrap ((i : Int) + 1) = (i : Int) + 1 := IntWalk.i64_in _ (by omega)
            have a9 : IntKind.i64.wrap ((j : Int) + 1) = (j : Int) + 1 := IntWalk.i64_in _ (by omega)
            by_cases hc : px[i] = py[j]
            · have c1 : ((px[i].toNat : Int) != (py[j].toNat : Int)) = false := by rw [hc]; simp
              have HR2 := jJ0 (show R = ltB ((sb px).drop (i + 1) ++ lx) ((sb py).drop (j + 1) ++ ly) by rw [HR.out, Nx.out.1, Ny.out.1, hc, ltB, if_pos rfl])
              have Hl2 := jJ0 (show ((sb px).drop (i + 1) ++ lx).length = ((sb py).drop (j + 1) ++ ly).length by
                have h3 := Hlen.out
                rw [Nx.out.1, Ny.out.1, List.length_cons, List.length_cons] at h3
                omega)
              have Hm2 := jJ0 (show ((sb px).drop (i + 1) ++ lx).length + 1 <= 1000000000000 by
                have h3 := hmax
                rw [Nx.out.1, List.length_cons] at h3
                exact h3)
              have Hm3 := jJ0 (show ((sb px).drop i ++ lx).length = ((sb px).drop (i + 1) ++ lx).length + 1 by rw [Nx.out.1, List.length_cons])
              clear hR hold hlen hmax hbx hnx hby hny hbx' hby' hc HR
              generalize (sb px).drop (i + 1) ++ lx = rx at *
              generalize (sb py).drop (j + 1) ++ ly = ry at *
              by_cases e1 : i + 1 = px.size
              · have d1 : (((i : Int) + 1) == (px.size : Int)) = true := by rw [show (i : Int) + 1 = (px.size : Int) by omega]; simp
                have P1 := jJ0 (Nx.out.2.2 e1)
                by_cases e2 : j + 1 = py.size
                · have d2 : (((j : Int) + 1) == (py.size : Int)) = true := by rw [show (j : Int) + 1 = (py.size : Int) by omega]; simp
                  have P2 := jJ0 (Ny.out.2.2 e2)
                  clear e1 e2
                  go_wp2
                  go_quiet (fail)
                  go_wp2
                  exact ⟨⟨nx, ny, 0, 0, rx, ry, rfl, rfl, rfl, rfl, P1.out, P2.out, Hl2.out, by have := Hm2.out; omega, HR2.out, Hold.out.drewN _⟩, Nat.lt_of_lt_of_eq (Nat.lt_of_le_of_lt (Nat.le_of_eq (P1.out.len (Hold.out.drewN _))) (by rw [Hm3.out]; omega)) Hme.out.symm⟩
                · have d2 : (((j : Int) + 1) == (py.size : Int)) = false := beq_eq_false_iff_ne.2 (by omega)
                  have P2 := jJ0 (Ny.out.2.1 (by omega))
                  clear e1 e2
                  go_wp2
                  go_quiet (fail)
                  go_wp2
                  exact ⟨⟨nx, (some ⟨gy, 0, none⟩), 0, (j + 1), rx, ry, rfl, rfl, rfl, by go_num, P1.out, P2.out, Hl2.out, by have := Hm2.out; omega, HR2.out, Hold.out.drewN _⟩, Nat.lt_of_lt_of_eq (Nat.lt_of_le_of_lt (Nat.le_of_eq (P1.out.len (Hold.out.drewN _))) (by rw [Hm3.out]; omega)) Hme.out.symm⟩
              · have d1 : (((i : Int) + 1) == (px.size : Int)) = false := beq_eq_false_iff_ne.2 (by omega)
                have P1 := jJ0 (Nx.out.2.1 (by omega))
                by_cases e2 : j + 1 = py.size
                · have d2 : (((j : Int) + 1) == (py.size : Int)) = true := by rw [show (j : Int) + 1 = (py.size : Int) by omega]; simp
                  have P2 := jJ0 (Ny.out.2.2 e2)
                  clear e1 e2
                  go_wp2
                  go_quiet (fail)
                  go_wp2
                  exact ⟨⟨(some ⟨gx, 0, none⟩), ny, (i + 1), 0, rx, ry, rfl, rfl, by go_num, rfl, P1.out, P2.out, Hl2.out, by have := Hm2.out; omega, HR2.out, Hold.out.drewN _⟩, Nat.lt_of_lt_of_eq (Nat.lt_of_le_of_lt (Nat.le_of_eq (P1.out.len (Hold.out.drewN _))) (by rw [Hm3.out]; omega)) Hme.out.symm⟩
                · have d2 : (((j : Int) + 1) == (py.size : Int)) = false := beq_eq_false_iff_ne.2 (by omega)
                  have P2 := jJ0 (Ny.out.2.1 (by omega))
                  clear e1 e2
                  go_wp2
                  go_quiet (fail)
                  go_wp2
                  exact ⟨⟨(some ⟨gx, 0, none⟩), (some ⟨gy, 0, none⟩), (i + 1), (j + 1), rx, ry, rfl, rfl, by go_num, by go_num, P1.out, P2.out, Hl2.out, by have := Hm2.out; omega, HR2.out, Hold.out.drewN _⟩, Nat.lt_of_lt_of_eq (Nat.lt_of_le_of_lt (Nat.le_of_eq (P1.out.len (Hold.out.drewN _))) (by rw [Hm3.out]; omega)) Hme.out.symm⟩
            · have c1 : ((px[i].toNat : Int) != (py[j].toNat : Int)) = true := bne_iff_ne.2 (fun e => hc (UInt8.toNat_inj.1 (by omega)))
              have Hf := jJ0 (show R = decide (px[i].toNat < py[j].toNat) by rw [HR.out, Nx.out.1, Ny.out.1, ltB, if_neg hc])
              clear hR hold hlen hmax hbx hnx hby hny hbx' hby' hc HR Nx Ny
              go_wp2
              go_quiet (fail)
              go_wp2
              all_goals (go_ret; refine ⟨?_, Hold.out.drewN _⟩; rw [Hf.out]; refine retb ?_; simp <;> omega)
theorem less_any (w : World) (a b : Option Addr) (x y : List UInt8) (hx : Rp w a x) (hy : Rp w b y) (hl : x.length <= 1000000000000) (hl2 : y.length <= 1000000000000) :
    Calls Tryz.prog 204 #[.pointer a, .pointer b] w fun e w' => ∃ p, e = .returned (.pointer p) /\ Rp w' p (vN x y) /\ Old w w' := by
  have H := jJ0 (ahead_any w b a y x hy hx hl2 hl)
  have Hy := jJ0 (show vN x y = if vG y x = true then y else x from rfl)
  have HX := jJ0 hx
  have HY := jJ0 hy
  clear hx hy hl hl2
  generalize vN x y = R at *
  generalize vG y x = q at *
  cases q
  · have HR := jJ0 (show R = x by rw [Hy.out]; rfl)
    clear Hy
    go_enter Tryz.func204, Tryz.ntmps204
    go_wp2_with (go_at_call 177; refine H.out.mono ?_; rintro e w1 ⟨rfl, ho⟩)
    go_ret
    rw [HR.out]
    exact ⟨a, rfl, HX.out.old ho, ho⟩
  · have HR := jJ0 (show R = y by rw [Hy.out]; rfl)
    clear Hy
    go_enter Tryz.func204, Tryz.ntmps204
    go_wp2_with (go_at_call 177; refine H.out.mono ?_; rintro e w1 ⟨rfl, ho⟩)
    go_ret
    rw [HR.out]
    exact ⟨b, rfl, HY.out.old ho, ho⟩
theorem ret_cell {P : Program} {fn : Func} {R : Ending -> World -> Prop} {a : Act} {w : World} {p : Tmp} {ty : TypeId} {g : Nat} {t : TypeId} {cs : Array Value} {d : TypeDesc} (h : fn.results = #[.cell p ty])
    (hp : a.tmps.getD p undef = .pointer (some ⟨g, 0, none⟩)) (hb : Blk w g t cs) (hu : P.underlying ty = some d) (hd : (match d with | .struct _ | .array _ _ => true | _ => false) = true) (hi : (P.info? ty).map (·.size) = some cs.size)
    (hdf : a.defers = []) (hR : R (.returned (.agg cs)) w) : bodyPost P fn R .ret a w := by
  refine bodyPost_ret ?_ hdf hR
  have hl := run_loadVar_row (P := P) w g t ty cs (0, 0) d hb hu hd hi
  simp only [results, h]
  simp only [Array.getD_eq_getD_getElem?] at hp
  simp [hp, asAddr, hl]
end Go.Proofs.YtmmjcbbogokmfaaGreatDoor
