import Derived.Test.YtmmjcbbogokmfaaGreatDoorMt01
import Derived.Test.YtmmjcbbogokmfaaGreatDoorMt29
set_option maxRecDepth 100000
set_option maxHeartbeats 25600000
namespace Go.Proofs.YtmmjcbbogokmfaaGreatDoor
open Go.RowKit
theorem vM (w : World) (g : Nat) (src : ByteArray) (r r1 r' : Rdr) (s : Sl) (n : Nd) (x : Int) (at_ : Nat) (h : St w g src r s) (hl : litT r.t = true) (hd : vY r.t (kD (sb src) r) = some n) (hn : jy (sb src) r = some r1)
    (hx : vX n at_ r1 = some (x, r')) : Calls Tryz.prog 236 #[.pointer (some ⟨g, 0, none⟩), iv (at_ : Int)] w (Ex w g src s r' (iv x)) := by
  have ht := of_decide_eq_true hl
  unfold vY at hd
  by_cases h2 : r.t = 2
  · rw [if_pos h2] at hd
    split at hd
    case isFalse => cases hd
    rename_i hi
    injection hd with hd
    subst hd
    exact lit_int w g src r r1 r' s x at_ h h2 hi.2 hi.1 hn hx
  rw [if_neg h2] at hd
  by_cases h46 : r.t = 46 \/ r.t = 47
  · rw [if_pos h46] at hd
    injection hd with hd
    subst hd
    rcases h46 with e | e
    · rw [e] at hx; exact lit_bool46 w g src r r1 r' s x at_ h e hn hx
    · rw [e] at hx; exact lit_bool47 w g src r r1 r' s x at_ h e hn hx
  rw [if_neg h46] at hd
  by_cases h3 : r.t = 3
  · rw [if_pos h3] at hd
    split at hd
    case isFalse => cases hd
    rename_i h2l
    obtain ⟨v, hv, hd⟩ := Option.map_eq_some_iff.1 hd
    subst hd
    exact lit_text w g src r r1 r' s x at_ h h3 v h2l hv hn hx
  rw [if_neg h3] at hd
  by_cases h1 : r.t = 1
  · rw [if_pos h1] at hd
    injection hd with hd
    subst hd
    exact lit_name w g src r r1 r' s x at_ h h1 hn hx
  rw [if_neg h1] at hd
  injection hd with hd
  subst hd
  exact lit_nothing w g src r r1 r' s x at_ h (by omega) hn hx
theorem node_kids (w : World) (g : Nat) (src : ByteArray) (r r' : Rdr) (s : Sl) (op x : Int) (at_ : Nat) (kids : List Int) (h : St w g src r s) (hn : vX (kt op kids) at_ r = some (x, r')) :
    Calls Tryz.prog 201 #[.pointer (some ⟨g, 0, none⟩), iv op, iv (at_ : Int), .slice (some ⟨w.heap.size, 0, none⟩) kids.length kids.length] (w.alloc (.cells (kids.map iv).toArray 3)) (Ex w g src s r' (iv x)) := by
  have ho := (Kp.refl NoX w).alloc (.cells (kids.map iv).toArray 3)
  have hr := Rd.row_new w 3 1 kids.length (kids.map iv) (by simp)
  refine (kK _ g src r r' s op x at_ _ kids.length kids (h.old ho) hr (fun _ ad e hx => ?_) hn).mono (fun _ _ hX => Ex.of (Fr.of_old s ho) hX)
  injection e with e
  subst e
  have : w.heap.size < w.heap.size := hx.elim (fun e => (h.ox8 _ e).2) (fun e => h.zlt _ e)
  exact Nat.lt_irrefl _ this
def ExL (w : World) (g : Nat) (src : ByteArray) (s : Sl) (r' : Rdr) (kids : List Int) (e : Ending) (w' : World) : Prop :=
  ∃ A c s', e = .returned (.slice A kids.length c) /\ Rd w' 1 A kids.length (kids.map iv) /\ Av (AX g s') kids.length A /\ St w' g src r' s' /\ Fr g s s' w w'
def lvls : List Nat := [43, 44, 45, 18, 20, 19]
structure ExAll (src : ByteArray) (f : Nat) : Prop where
  ex : ∀ (w : World) (g : Nat) (r : Rdr) (s : Sl) (k : Int × List Int × Rdr), St w g src r s -> exN (sb src) f .expr r = some k -> Calls Tryz.prog 172 #[.pointer (some ⟨g, 0, none⟩)] w (Ex w g src s k.2.2 (iv k.1))
  row : ∀ (l : Nat), l ∈ lvls -> ∀ (w : World) (g : Nat) (r : Rdr) (s : Sl) (k : Int × List Int × Rdr), St w g src r s -> exN (sb src) f (.row l) r = some k -> Calls Tryz.prog 200 #[.pointer (some ⟨g, 0, none⟩), .int .u8 (l : Int)] w (Ex w g src s k.2.2 (iv k.1))
  two : ∀ (op root : Int) (l : Nat), l ∈ lvls -> ∀ (w : World) (g : Nat) (r : Rdr) (s : Sl) (k : Int × List Int × Rdr), St w g src r s -> exN (sb src) f (.two op root l) r = some k -> Calls Tryz.prog 227 #[.pointer (some ⟨g, 0, none⟩), iv op, iv root, .int .u8 (l : Int)] w (Ex w g src s k.2.2 (iv k.1))
  un : ∀ (w : World) (g : Nat) (r : Rdr) (s : Sl) (k : Int × List Int × Rdr), St w g src r s -> exN (sb src) f .unary r = some k -> Calls Tryz.prog 228 #[.pointer (some ⟨g, 0, none⟩)] w (Ex w g src s k.2.2 (iv k.1))
  ls : ∀ (last : Nat) (w : World) (g : Nat) (r : Rdr) (s : Sl) (k : Int × List Int × Rdr), St w g src r s -> exN (sb src) f (.list last []) r = some k -> Calls Tryz.prog 237 #[.pointer (some ⟨g, 0, none⟩), .int .u8 (last : Int)] w (ExL w g src s k.2.2 k.2.1)
theorem ex_step (src : ByteArray) (f : Nat) (IH : ExAll src f) (w : World) (g : Nat) (r : Rdr) (s : Sl) (k : Int × List Int × Rdr) (h : St w g src r s) (hk : exN (sb src) (f + 1) .expr r = some k) :
    Calls Tryz.prog 172 #[.pointer (some ⟨g, 0, none⟩)] w (Ex w g src s k.2.2 (iv k.1)) := by
  rw [exN] at hk
  have hc2 := h.box.c2
  have hc3 := h.box.c3
  have HS := jJ0 h
  have HI := jJ0 IH
  by_cases ht : r.t = 40
  · rw [if_neg (fun e => e ht)] at hk
    obtain ⟨r1, hn1, hk⟩ := Option.bind_eq_some_iff.1 hk
    obtain ⟨c, hc, hk⟩ := Option.bind_eq_some_iff.1 hk
    obtain ⟨r2, hn2, hk⟩ := Option.bind_eq_some_iff.1 hk
    obtain ⟨a, ha, hk⟩ := Option.bind_eq_some_iff.1 hk
    obtain ⟨r3, hn3, hk⟩ := Option.bind_eq_some_iff.1 hk
    obtain ⟨b, hb, hk⟩ := Option.bind_eq_some_iff.1 hk
    obtain ⟨x, hx, hk⟩ := Option.map_eq_some_iff.1 hk
    subst hk
    obtain ⟨x, r'⟩ := x
    have N1 := jJ0 hn1
    have N2 := jJ0 hn2
    have N3 := jJ0 hn3
    have E1 := jJ0 hc
    have E2 := jJ0 ha
    have E3 := jJ0 hb
    have NX := jJ0 hx
    rw [ht] at hc3
    clear h IH hn1 hc hn2 ha hn3 hb hx ht
    simp only
    go_enter Tryz.func172, Tryz.ntmps172
    go_wp2_with (first | (go_at_call 135; first | (refine (jN _ g src _ _ s HS.out N1.out).mono ?_; rintro e w1 ⟨rfl, hX⟩; have H1 := jJ0 hX; clear hX) | (refine (jN _ g src _ _ _ H2.out.1 N2.out).mono ?_; rintro e w3 ⟨rfl, hX⟩; have H3 := jJ0 hX; clear hX) | (refine (jN _ g src _ _ _ H4.out.1 N3.out).mono ?_; rintro e w5 ⟨rfl, hX⟩; have H5 := jJ0 hX; clear hX)) | (go_at_call 172; first | (refine (HI.out.ex _ g _ _ _ H1.out.1 E1.out).mono ?_; rintro e w2 ⟨rfl, s2, hX⟩; have H2 := jJ0 hX; clear hX; unfold iv) | (refine (HI.out.ex _ g _ _ _ H3.out.1 E2.out).mono ?_; rintro e w4 ⟨rfl, s4, hX⟩; have H4 := jJ0 hX; clear hX; unfold iv) | (refine (HI.out.ex _ g _ _ _ H5.out.1 E3.out).mono ?_; rintro e w6 ⟨rfl, s6, hX⟩; have H6 := jJ0 hX; clear hX; unfold iv)) | (go_at_call 201; refine (node_kids _ g src _ _ _ 23 _ _ [c.1, a.1, b.1] H6.out.1 NX.out).mono ?_; rintro e w7 ⟨rfl, s7, hX⟩; have H7 := jJ0 hX; clear hX; unfold iv) | fail)
    go_ret
    exact ⟨rfl, s7, H7.out.1, (((((H1.out.2.trans H2.out.2).trans H3.out.2).trans H4.out.2).trans H5.out.2).trans H6.out.2).trans H7.out.2⟩
  · rw [if_pos ht] at hk
    have E1 := jJ0 hk
    have e40 : ((r.t : Int) != 40) = true := by rw [bne, beq_eq_false_iff_ne.2 (show (r.t : Int) ≠ 40 by omega)]; rfl
    clear h hk ht
    go_enter Tryz.func172, Tryz.ntmps172
    go_wp2_with (first | (go_at_call 200; refine (HI.out.row 43 (by decide) _ g _ _ _ HS.out E1.out).mono ?_; rintro e w2 ⟨rfl, s2, hX⟩; have H2 := jJ0 hX; clear hX; unfold iv) | fail)
    go_ret
    exact ⟨rfl, s2, H2.out⟩
theorem two_step (src : ByteArray) (f : Nat) (IH : ExAll src f) (op root : Int) (l : Nat) (hl : l ∈ lvls) (w : World) (g : Nat) (r : Rdr) (s : Sl) (k : Int × List Int × Rdr) (h : St w g src r s) (hk : exN (sb src) (f + 1) (.two op root l) r = some k) :
    Calls Tryz.prog 227 #[.pointer (some ⟨g, 0, none⟩), iv op, iv root, .int .u8 (l : Int)] w (Ex w g src s k.2.2 (iv k.1)) := by
  rw [exN] at hk
  have hc2 := h.box.c2
  have HS := jJ0 h
  have HI := jJ0 IH
  have HL := jJ0 hl
  obtain ⟨r1, hn1, hk⟩ := Option.bind_eq_some_iff.1 hk
  obtain ⟨q, hq, hk⟩ := Option.bind_eq_some_iff.1 hk
  obtain ⟨x, hx, hk⟩ := Option.map_eq_some_iff.1 hk
  subst hk
  obtain ⟨x, r'⟩ := x
  have N1 := jJ0 hn1
  have E1 := jJ0 hq
  have NX := jJ0 hx
  clear h IH hn1 hq hx hl
  unfold iv
  go_enter Tryz.func227, Tryz.ntmps227
  go_wp2_with (first | (go_at_call 135; refine (jN _ g src _ _ s HS.out N1.out).mono ?_; rintro e w1 ⟨rfl, hX⟩; have H1 := jJ0 hX; clear hX) | (go_at_call 200; refine (HI.out.row _ HL.out _ g _ _ _ H1.out.1 E1.out).mono ?_; rintro e w2 ⟨rfl, s2, hX⟩; have H2 := jJ0 hX; clear hX; unfold iv) | (go_at_call 201; refine (node_kids _ g src _ _ _ op _ _ [root, q.1] H2.out.1 NX.out).mono ?_; rintro e w3 ⟨rfl, s3, hX⟩; have H3 := jJ0 hX; clear hX; unfold iv) | fail)
  go_ret
  exact ⟨rfl, s3, H3.out.1, (H1.out.2.trans H2.out.2).trans H3.out.2⟩
theorem call49 (w : World) : Calls Tryz.prog 238 #[.int .u8 49] w fun e w' => e = .returned (iv (vQ 49)) /\ w = w' := by
  go_enter Tryz.func238, Tryz.ntmps238
  go_wp2
  go_ret
  exact ⟨rfl, rfl⟩
theorem call52 (w : World) : Calls Tryz.prog 238 #[.int .u8 52] w fun e w' => e = .returned (iv (vQ 52)) /\ w = w' := by
  go_enter Tryz.func238, Tryz.ntmps238
  go_wp2
  go_ret
  exact ⟨rfl, rfl⟩
theorem call31 (w : World) : Calls Tryz.prog 238 #[.int .u8 31] w fun e w' => e = .returned (iv (vQ 31)) /\ w = w' := by
  go_enter Tryz.func238, Tryz.ntmps238
  go_wp2
  go_ret
  exact ⟨rfl, rfl⟩
theorem call50 (w : World) : Calls Tryz.prog 238 #[.int .u8 50] w fun e w' => e = .returned (iv (vQ 50)) /\ w = w' := by
  go_enter Tryz.func238, Tryz.ntmps238
  go_wp2
  go_ret
  exact ⟨rfl, rfl⟩
theorem call51 (w : World) : Calls Tryz.prog 238 #[.int .u8 51] w fun e w' => e = .returned (iv (vQ 51)) /\ w = w' := by
  go_enter Tryz.func238, Tryz.ntmps238
  go_wp2
  go_ret
  exact ⟨rfl, rfl⟩
theorem call53 (w : World) : Calls Tryz.prog 238 #[.int .u8 53] w fun e w' => e = .returned (iv (vQ 53)) /\ w = w' := by
  go_enter Tryz.func238, Tryz.ntmps238
  go_wp2
  go_ret
  exact ⟨rfl, rfl⟩
theorem call54 (w : World) : Calls Tryz.prog 238 #[.int .u8 54] w fun e w' => e = .returned (iv (vQ 54)) /\ w = w' := by
  go_enter Tryz.func238, Tryz.ntmps238
  go_wp2
  go_ret
  exact ⟨rfl, rfl⟩
theorem call55 (w : World) : Calls Tryz.prog 238 #[.int .u8 55] w fun e w' => e = .returned (iv (vQ 55)) /\ w = w' := by
  go_enter Tryz.func238, Tryz.ntmps238
  go_wp2
  go_ret
  exact ⟨rfl, rfl⟩
theorem call56 (w : World) : Calls Tryz.prog 238 #[.int .u8 56] w fun e w' => e = .returned (iv (vQ 56)) /\ w = w' := by
  go_enter Tryz.func238, Tryz.ntmps238
  go_wp2
  go_ret
  exact ⟨rfl, rfl⟩
theorem call57 (w : World) : Calls Tryz.prog 238 #[.int .u8 57] w fun e w' => e = .returned (iv (vQ 57)) /\ w = w' := by
  go_enter Tryz.func238, Tryz.ntmps238
  go_wp2
  go_ret
  exact ⟨rfl, rfl⟩
def zA (s : Sl) (A : Option Addr) : Nat -> Prop := fun b => s.z b \/ A.map (·.block) = some b
structure LsSt (src : ByteArray) (w : World) (g : Nat) (last : Nat) (s : Sl) (k : Int × List Int × Rdr) (f : Nat) (A : Option Addr) (c : Nat) (kids : List Int) (r : Rdr) (s' : Sl) (W : World) : Prop where
  st : St W g src r s'
  z : s'.z = zA s A
  kp : Kp (OX g s) w W
  ox : ∀ b, b < w.heap.size -> OX g s' b -> OX g s b
  own : W.ownsRow w.heap.size 3 1 (.slice A kids.length c) kids.length (kids.map iv)
  ex : exN (sb src) f (.list last kids) r = some k
theorem LsSt.start {src : ByteArray} {w : World} {g last : Nat} {s : Sl} {k : Int × List Int × Rdr} {f : Nat} {r : Rdr} (h : St w g src r s) (he : exN (sb src) f (.list last []) r = some k) : LsSt src w g last s k f none 0 [] r { s with z := zA s none } w :=
  ⟨h.zgrow (Kp.refl NoX w) (fun _ e => e.elim) _ (fun b hb => hb.elim (fun e => ⟨.inl e, h.zlt b e⟩) (fun e => by cases e)), rfl, Kp.refl _ _, fun _ _ e => e, World.ownsRow_nil _ _ _ _, he⟩
theorem LsSt.grow {src : ByteArray} {w W W1 W2 W3 : World} {g last : Nat} {s s' : Sl} {k : Int × List Int × Rdr} {f f' : Nat} {A A' : Option Addr} {c c' : Nat} {kids : List Int} {r r1 : Rdr} {x : Int} {s1 : Sl} (h : LsSt src w g last s k f A c kids r s' W)
    (h1 : St W1 g src r1 s1) (f1 : Fr g s' s1 W W1) (he : exN (sb src) f' (.list last (kids ++ [x])) r1 = some k) (ho : Old W1 W2) (hg : W2.grownBy W3 (A.map (·.block))) (ha : A'.map (·.block) = A.map (·.block) \/ A'.map (·.block) = some W2.heap.size)
    (hown : W3.ownsRow w.heap.size 3 1 (.slice A' (kids.length + 1) c') (kids.length + 1) (kids.map iv ++ [iv x])) : LsSt src w g last s k f' A' c' (kids ++ [x]) r1 { s1 with z := zA s A' } W3 := by
  have hk2 : Kp (fun b => A.map (·.block) = some b) W1 W3 := Kp.grown (ho.mono (fun _ _ e => e.elim)) hg (fun _ e _ => e)
  have hz1 : s1.z = zA s A := f1.z.trans h.z
  have hw : w.heap.size <= W1.heap.size := Nat.le_trans h.kp.size f1.kp.size
  refine ⟨h1.zgrow hk2 (fun b e => by rw [hz1]; exact .inr e) _ (fun b hb => ?_), rfl, (h.kp.trans f1.kp h.ox).trans hk2 (fun b hb e => ?_), fun b hb e => h.ox b hb (f1.own b (Nat.lt_of_lt_of_le hb h.kp.size) e), by rw [List.length_append, List.map_append]; exact hown, he⟩
  · rcases hb with e | e
    · have e2 : s1.z b := by rw [hz1]; exact .inl e
      exact ⟨.inl e2, Nat.lt_of_lt_of_le (h1.zlt b e2) hk2.size⟩
    · refine ⟨?_, (own_ge hown e).2⟩
      rcases ha with ha | ha
      · left; rw [hz1]; right; rw [<- ha]; exact e
      · right; rw [ha] at e; injection e with e; rw [<- e]; exact ho.size
  · have := (own_ge h.own e).1
    omega
theorem LsSt.done {src : ByteArray} {w W W' : World} {g last : Nat} {s s' : Sl} {k : Int × List Int × Rdr} {f : Nat} {A : Option Addr} {c : Nat} {kids : List Int} {r r1 : Rdr} (h : LsSt src w g last s k f A c kids r s' W) (h0 : ∀ b, s.z b -> b < w.heap.size)
    (h1 : St W' g src r1 s') (f1 : Fr g s' s' W W') : ExL w g src s r1 kids (.returned (.slice A kids.length c)) W' := by
  have ho := jX h.own f1.kp (fun b e hx => h.st.zno b hx (by rw [h.z]; right; rw [<- jC]; exact e))
  have hw : w.heap.size <= W'.heap.size := Nat.le_trans h.kp.size f1.kp.size
  refine ⟨A, c, { s' with z := s.z }, rfl, Rd.of_own ho, fun hn ad ea hx => ?_, h1.zgrow (Kp.refl NoX W') (fun _ e => e.elim) _ (fun b e => ⟨.inl (by rw [h.z]; exact .inl e), Nat.lt_of_lt_of_le (h0 b e) hw⟩), ⟨h.kp.trans f1.kp h.ox, fun b hb e => h.ox b hb e, rfl⟩⟩
  have hb : A.map (·.block) = some ad.block := by rw [ea]; rfl
  rcases hx with hx | hx
  · exact h.st.zno _ hx (by rw [h.z]; exact .inr hb)
  · have := (own_ge h.own hb).1
    have := h0 _ hx
    omega
def LsRel (src : ByteArray) (w : World) (g : Nat) (last : Nat) (s : Sl) (k : Int × List Int × Rdr) (F f : Nat) (kv : Value) (W : World) : Prop := f <= F /\ ∃ A c kids r' s', kv = .slice A kids.length c /\ LsSt src w g last s k f A c kids r' s' W
theorem list_step (src : ByteArray) (f : Nat) (IH : ∀ m, m <= f -> ExAll src m) (last : Nat) (w : World) (g : Nat) (r : Rdr) (s : Sl) (k : Int × List Int × Rdr) (h : St w g src r s) (hk : exN (sb src) (f + 1) (.list last []) r = some k) :
    Calls Tryz.prog 237 #[.pointer (some ⟨g, 0, none⟩), .int .u8 (last : Int)] w (ExL w g src s k.2.2 k.2.1) := by
  have H0 := jJ0 (show LsRel src w g last s k (f + 1) (f + 1) (.slice none 0 0) w from ⟨Nat.le_refl _, none, 0, [], r, _, rfl, LsSt.start h hk⟩)
  have HI := jJ0 IH
  have HZ := jJ0 h.zlt
  obtain ⟨i1, hj, hy0, hy1, hy2⟩ := info_parts Tryz.infoInt
  clear h hk IH
  go_enter Tryz.func237, Tryz.ntmps237
  go_wp2
  go_loopw [5] (fun kv wr => ∃ n, LsRel src w g last s k (f + 1) n kv wr) (fun kv wr => least (fun n => LsRel src w g last s k (f + 1) n kv wr))
  case atStart => exact ⟨_, H0.out⟩
  case round =>
    clear H0
    obtain ⟨n, ⟨hn, A, c, kids, r', s', rfl, hst⟩, hmin⟩ := yA hrel
    have hc3 := hst.st.box.c3
    have Hst := jJ0 hst
    have Hmin := jJ0 hmin
    cases n with
    | zero => exact absurd hst.ex (by simp [exN])
    | succ m =>
      have hex := hst.ex
      rw [exN] at hex
      by_cases ht : r'.t = last
      · rw [if_pos ht] at hex
        obtain ⟨r1, hn1, he⟩ := Option.bind_eq_some_iff.1 hex
        injection he with he
        have N1 := jJ0 hn1
        have He := jJ0 he
        have e1 : ((r'.t : Int) != (last : Int)) = false := by rw [bne, beq_iff_eq.2 (show (r'.t : Int) = (last : Int) by omega)]; rfl
        clear hst hmin hrel hex hn1 he ht
        go_wp2_with (first | (go_at_call 135; refine (jN _ g src _ _ _ Hst.out.st N1.out).mono ?_; rintro e w1 ⟨rfl, hX⟩; have H1 := jJ0 hX; clear hX) | fail)
        go_ret
        rw [<- He.out]
        exact Hst.out.done HZ.out H1.out.1 H1.out.2
      · rw [if_neg ht] at hex
        split at hex
        case isFalse => cases hex
        rename_i hlt
        obtain ⟨⟨b, r2⟩, hk2, hex⟩ := Option.bind_eq_some_iff.1 hex
        obtain ⟨q, hq, hex⟩ := Option.bind_eq_some_iff.1 hex
        have K1 := jJ0 hk2
        have E1 := jJ0 hq
        have EX := jJ0 hex
        have HIm := jJ0 (HI.out m (by omega))
        have H63 := jJ0 (show kids.length + 1 <= maxLen by unfold maxLen; omega)
        have H47 := jJ0 (show (kids.length + 1) * 8 <= 140737488355328 by omega)
        have e1 : ((r'.t : Int) != (last : Int)) = true := by rw [bne, beq_eq_false_iff_ne.2 (show (r'.t : Int) ≠ (last : Int) by omega)]; rfl
        clear hst hmin hrel hex hk2 hq ht hlt
        go_wp2_with (first | (go_at_call 167; refine (jP _ g src _ _ _ 8 _ Hst.out.st K1.out).mono ?_; rintro e w1 ⟨rfl, hX⟩; have H1 := jJ0 hX; clear hX) | (go_at_call 172; refine (HIm.out.ex _ g _ _ _ H1.out.1 E1.out).mono ?_; rintro e w2 ⟨rfl, s2, hX⟩; have H2 := jJ0 hX; clear hX; unfold iv) | (at_builtin; refine jF _ rfl (.tmp 14) (.tmp 17) 27 rfl w.heap.size 3 i1 _ 1 8 Tryz.underlying27 hj hy0 hy1 hy2 rfl (by decide) (.slice A kids.length c) kids.length (kids.map iv) rfl (jX (jX (jX Hst.out.own H1.out.2.kp (fun b e hx => Hst.out.st.zno b hx (by rw [Hst.out.z]; right; rw [<- jC]; exact e))) H2.out.2.kp (fun b e hx => H1.out.1.zno b hx (by rw [Hst.out.z]; right; rw [<- jC]; exact e))) ((Kp.refl NoX _).alloc _) (fun _ _ e => e)) _ 1 1 [iv q.1] rfl (Rd.one_new _ _ _) (kL _ rfl) H63.out H47.out (Nat.le_trans (Nat.le_trans (Nat.le_trans Hst.out.kp.size H1.out.2.kp.size) H2.out.2.kp.size) ((Kp.refl NoX _).alloc _).size) ?_; intro A1 c1 w3 hown hgrow hat; rw [jC] at hgrow hat; have HG := jJ0 (Hst.out.grow H2.out.1 (H1.out.2.trans H2.out.2) EX.out ((Kp.refl NoX _).alloc _) hgrow hat hown); clear hown hgrow hat) | fail)
        have HL : LsRel src w g last s k (f + 1) m (.slice A1 (kids.length + 1) c1) w3 := ⟨by omega, A1, c1, kids ++ [q.1], _, _, by rw [List.length_append]; rfl, HG.out⟩
        exact ⟨⟨m, HL⟩, by rw [Hmin.out]; exact kX HL (Nat.lt_succ_self m)⟩
theorem un_minus (src : ByteArray) (f : Nat) (IH : ExAll src f) (w : World) (g : Nat) (r : Rdr) (s : Sl) (k : Int × List Int × Rdr) (h : St w g src r s) (ht : r.t = 19) (hk : exN (sb src) (f + 1) .unary r = some k) :
    Calls Tryz.prog 228 #[.pointer (some ⟨g, 0, none⟩)] w (Ex w g src s k.2.2 (iv k.1)) := by
  rw [exN, if_pos ht] at hk
  have hc2 := h.box.c2
  have HS := jJ0 h
  have HI := jJ0 IH
  obtain ⟨r1, hn1, hk⟩ := Option.bind_eq_some_iff.1 hk
  obtain ⟨q, hq, hk⟩ := Option.bind_eq_some_iff.1 hk
  obtain ⟨x, hx, hk⟩ := Option.map_eq_some_iff.1 hk
  subst hk
  obtain ⟨x, r'⟩ := x
  have K1 := jJ0 (show jW (sb src) 19 r = some (true, r1) by rw [jW, if_pos ht, hn1]; rfl)
  have E1 := jJ0 hq
  have NX := jJ0 hx
  clear h IH hn1 hq hx ht
  unfold iv
  go_enter Tryz.func228, Tryz.ntmps228
  go_wp2_with (first | (go_at_call 167; refine (jP _ g src _ _ s 19 _ HS.out K1.out).mono ?_; rintro e w1 ⟨rfl, hX⟩; have H1 := jJ0 hX; clear hX) | (go_at_call 228; refine (HI.out.un _ g _ _ _ H1.out.1 E1.out).mono ?_; rintro e w2 ⟨rfl, s2, hX⟩; have H2 := jJ0 hX; clear hX; unfold iv) | (go_at_call 201; refine (node_kids _ g src _ _ _ 7 _ _ [q.1] H2.out.1 NX.out).mono ?_; rintro e w3 ⟨rfl, s3, hX⟩; have H3 := jJ0 hX; clear hX; unfold iv) | fail)
  go_ret
  exact ⟨rfl, s3, H3.out.1, (H1.out.2.trans H2.out.2).trans H3.out.2⟩
theorem un_lit2 (src : ByteArray) (f : Nat) (w : World) (g : Nat) (r : Rdr) (s : Sl) (k : Int × List Int × Rdr) (h : St w g src r s) (ht : r.t = 2) (hk : exN (sb src) (f + 1) .unary r = some k) :
    Calls Tryz.prog 228 #[.pointer (some ⟨g, 0, none⟩)] w (Ex w g src s k.2.2 (iv k.1)) := by
  have hlit : litT r.t = true := by rw [ht]; decide
  rw [exN, if_neg (by rw [ht]; decide), if_pos hlit] at hk
  have hc2 := h.box.c2
  have HS := jJ0 h
  obtain ⟨n, hnd, hk⟩ := Option.bind_eq_some_iff.1 hk
  obtain ⟨r1, hn1, hk⟩ := Option.bind_eq_some_iff.1 hk
  obtain ⟨x, hx, hk⟩ := Option.map_eq_some_iff.1 hk
  subst hk
  obtain ⟨x, r'⟩ := x
  have K1 := jJ0 (show jW (sb src) 19 r = some (false, r) by rw [jW, if_neg (by rw [ht]; decide)])
  have HT := jJ0 ht
  have HL := jJ0 (fun W s2 (hS : St W g src r s2) => vM W g src r r1 r' s2 n x r.from_ hS hlit hnd hn1 hx)
  clear h hn1 hnd hx ht hlit
  unfold iv at *
  go_enter Tryz.func228, Tryz.ntmps228
  go_wp2_with (first | (go_at_call 167; refine (jP _ g src _ _ s 19 _ HS.out K1.out).mono ?_; rintro e w1 ⟨rfl, hX⟩; have H1 := jJ0 hX; have hc2 := hX.1.box.c2; have hc3 := hX.1.box.c3; rw [HT.out] at hc3; clear hX) | fail)
  go_quiet (fail)
  go_wp2_with (first | (go_at_call 236; refine (HL.out _ _ (H1.out.1.drewN _)).mono ?_; rintro e w2 ⟨rfl, s2, hX⟩; have H2 := jJ0 hX; clear hX) | fail)
  go_ret
  exact ⟨rfl, s2, H2.out.1, (H1.out.2.trans (Fr.of_old s ((Kp.refl _ _).drewN _))).trans H2.out.2⟩
theorem un_lit46 (src : ByteArray) (f : Nat) (w : World) (g : Nat) (r : Rdr) (s : Sl) (k : Int × List Int × Rdr) (h : St w g src r s) (ht : r.t = 46) (hk : exN (sb src) (f + 1) .unary r = some k) :
    Calls Tryz.prog 228 #[.pointer (some ⟨g, 0, none⟩)] w (Ex w g src s k.2.2 (iv k.1)) := by
  have hlit : litT r.t = true := by rw [ht]; decide
  rw [exN, if_neg (by rw [ht]; decide), if_pos hlit] at hk
  have hc2 := h.box.c2
  have HS := jJ0 h
  obtain ⟨n, hnd, hk⟩ := Option.bind_eq_some_iff.1 hk
  obtain ⟨r1, hn1, hk⟩ := Option.bind_eq_some_iff.1 hk
  obtain ⟨x, hx, hk⟩ := Option.map_eq_some_iff.1 hk
  subst hk
  obtain ⟨x, r'⟩ := x
  have K1 := jJ0 (show jW (sb src) 19 r = some (false, r) by rw [jW, if_neg (by rw [ht]; decide)])
  have HT := jJ0 ht
  have HL := jJ0 (fun W s2 (hS : St W g src r s2) => vM W g src r r1 r' s2 n x r.from_ hS hlit hnd hn1 hx)
  clear h hn1 hnd hx ht hlit
  unfold iv at *
  go_enter Tryz.func228, Tryz.ntmps228
  go_wp2_with (first | (go_at_call 167; refine (jP _ g src _ _ s 19 _ HS.out K1.out).mono ?_; rintro e w1 ⟨rfl, hX⟩; have H1 := jJ0 hX; have hc2 := hX.1.box.c2; have hc3 := hX.1.box.c3; rw [HT.out] at hc3; clear hX) | fail)
  go_quiet (fail)
  go_wp2_with (first | (go_at_call 236; refine (HL.out _ _ (H1.out.1.drewN _)).mono ?_; rintro e w2 ⟨rfl, s2, hX⟩; have H2 := jJ0 hX; clear hX) | fail)
  go_ret
  exact ⟨rfl, s2, H2.out.1, (H1.out.2.trans (Fr.of_old s ((Kp.refl _ _).drewN _))).trans H2.out.2⟩
theorem un_lit47 (src : ByteArray) (f : Nat) (w : World) (g : Nat) (r : Rdr) (s : Sl) (k : Int × List Int × Rdr) (h : St w g src r s) (ht : r.t = 47) (hk : exN (sb src) (f + 1) .unary r = some k) :
    Calls Tryz.prog 228 #[.pointer (some ⟨g, 0, none⟩)] w (Ex w g src s k.2.2 (iv k.1)) := by
  have hlit : litT r.t = true := by rw [ht]; decide
  rw [exN, if_neg (by rw [ht]; decide), if_pos hlit] at hk
  have hc2 := h.box.c2
  have HS := jJ0 h
  obtain ⟨n, hnd, hk⟩ := Option.bind_eq_some_iff.1 hk
  obtain ⟨r1, hn1, hk⟩ := Option.bind_eq_some_iff.1 hk
  obtain ⟨x, hx, hk⟩ := Option.map_eq_some_iff.1 hk
  subst hk
  obtain ⟨x, r'⟩ := x
  have K1 := jJ0 (show jW (sb src) 19 r = some (false, r) by rw [jW, if_neg (by rw [ht]; decide)])
  have HT := jJ0 ht
  have HL := jJ0 (fun W s2 (hS : St W g src r s2) => vM W g src r r1 r' s2 n x r.from_ hS hlit hnd hn1 hx)
  clear h hn1 hnd hx ht hlit
  unfold iv at *
  go_enter Tryz.func228, Tryz.ntmps228
  go_wp2_with (first | (go_at_call 167; refine (jP _ g src _ _ s 19 _ HS.out K1.out).mono ?_; rintro e w1 ⟨rfl, hX⟩; have H1 := jJ0 hX; have hc2 := hX.1.box.c2; have hc3 := hX.1.box.c3; rw [HT.out] at hc3; clear hX) | fail)
  go_quiet (fail)
  go_wp2_with (first | (go_at_call 236; refine (HL.out _ _ (H1.out.1.drewN _)).mono ?_; rintro e w2 ⟨rfl, s2, hX⟩; have H2 := jJ0 hX; clear hX) | fail)
  go_ret
  exact ⟨rfl, s2, H2.out.1, (H1.out.2.trans (Fr.of_old s ((Kp.refl _ _).drewN _))).trans H2.out.2⟩
theorem un_lit3 (src : ByteArray) (f : Nat) (w : World) (g : Nat) (r : Rdr) (s : Sl) (k : Int × List Int × Rdr) (h : St w g src r s) (ht : r.t = 3) (hk : exN (sb src) (f + 1) .unary r = some k) :
    Calls Tryz.prog 228 #[.pointer (some ⟨g, 0, none⟩)] w (Ex w g src s k.2.2 (iv k.1)) := by
  have hlit : litT r.t = true := by rw [ht]; decide
  rw [exN, if_neg (by rw [ht]; decide), if_pos hlit] at hk
  have hc2 := h.box.c2
  have HS := jJ0 h
  obtain ⟨n, hnd, hk⟩ := Option.bind_eq_some_iff.1 hk
  obtain ⟨r1, hn1, hk⟩ := Option.bind_eq_some_iff.1 hk
  obtain ⟨x, hx, hk⟩ := Option.map_eq_some_iff.1 hk
  subst hk
  obtain ⟨x, r'⟩ := x
  have K1 := jJ0 (show jW (sb src) 19 r = some (false, r) by rw [jW, if_neg (by rw [ht]; decide)])
  have HT := jJ0 ht
  have HL := jJ0 (fun W s2 (hS : St W g src r s2) => vM W g src r r1 r' s2 n x r.from_ hS hlit hnd hn1 hx)
  clear h hn1 hnd hx ht hlit
  unfold iv at *
  go_enter Tryz.func228, Tryz.ntmps228
  go_wp2_with (first | (go_at_call 167; refine (jP _ g src _ _ s 19 _ HS.out K1.out).mono ?_; rintro e w1 ⟨rfl, hX⟩; have H1 := jJ0 hX; have hc2 := hX.1.box.c2; have hc3 := hX.1.box.c3; rw [HT.out] at hc3; clear hX) | fail)
  go_quiet (fail)
  go_wp2_with (first | (go_at_call 236; refine (HL.out _ _ (H1.out.1.drewN _)).mono ?_; rintro e w2 ⟨rfl, s2, hX⟩; have H2 := jJ0 hX; clear hX) | fail)
  go_ret
  exact ⟨rfl, s2, H2.out.1, (H1.out.2.trans (Fr.of_old s ((Kp.refl _ _).drewN _))).trans H2.out.2⟩
theorem un_lit48 (src : ByteArray) (f : Nat) (w : World) (g : Nat) (r : Rdr) (s : Sl) (k : Int × List Int × Rdr) (h : St w g src r s) (ht : r.t = 48) (hk : exN (sb src) (f + 1) .unary r = some k) :
    Calls Tryz.prog 228 #[.pointer (some ⟨g, 0, none⟩)] w (Ex w g src s k.2.2 (iv k.1)) := by
  have hlit : litT r.t = true := by rw [ht]; decide
  rw [exN, if_neg (by rw [ht]; decide), if_pos hlit] at hk
  have hc2 := h.box.c2
  have HS := jJ0 h
  obtain ⟨n, hnd, hk⟩ := Option.bind_eq_some_iff.1 hk
  obtain ⟨r1, hn1, hk⟩ := Option.bind_eq_some_iff.1 hk
  obtain ⟨x, hx, hk⟩ := Option.map_eq_some_iff.1 hk
  subst hk
  obtain ⟨x, r'⟩ := x
  have K1 := jJ0 (show jW (sb src) 19 r = some (false, r) by rw [jW, if_neg (by rw [ht]; decide)])
  have HT := jJ0 ht
  have HL := jJ0 (fun W s2 (hS : St W g src r s2) => vM W g src r r1 r' s2 n x r.from_ hS hlit hnd hn1 hx)
  clear h hn1 hnd hx ht hlit
  unfold iv at *
  go_enter Tryz.func228, Tryz.ntmps228
  go_wp2_with (first | (go_at_call 167; refine (jP _ g src _ _ s 19 _ HS.out K1.out).mono ?_; rintro e w1 ⟨rfl, hX⟩; have H1 := jJ0 hX; have hc2 := hX.1.box.c2; have hc3 := hX.1.box.c3; rw [HT.out] at hc3; clear hX) | fail)
  go_quiet (fail)
  go_wp2_with (first | (go_at_call 236; refine (HL.out _ _ (H1.out.1.drewN _)).mono ?_; rintro e w2 ⟨rfl, s2, hX⟩; have H2 := jJ0 hX; clear hX) | fail)
  go_ret
  exact ⟨rfl, s2, H2.out.1, (H1.out.2.trans (Fr.of_old s ((Kp.refl _ _).drewN _))).trans H2.out.2⟩
theorem un_lit1 (src : ByteArray) (f : Nat) (w : World) (g : Nat) (r : Rdr) (s : Sl) (k : Int × List Int × Rdr) (h : St w g src r s) (ht : r.t = 1) (hk : exN (sb src) (f + 1) .unary r = some k) :
    Calls Tryz.prog 228 #[.pointer (some ⟨g, 0, none⟩)] w (Ex w g src s k.2.2 (iv k.1)) := by
  have hlit : litT r.t = true := by rw [ht]; decide
  rw [exN, if_neg (by rw [ht]; decide), if_pos hlit] at hk
  have hc2 := h.box.c2
  have HS := jJ0 h
  obtain ⟨n, hnd, hk⟩ := Option.bind_eq_some_iff.1 hk
  obtain ⟨r1, hn1, hk⟩ := Option.bind_eq_some_iff.1 hk
  obtain ⟨x, hx, hk⟩ := Option.map_eq_some_iff.1 hk
  subst hk
  obtain ⟨x, r'⟩ := x
  have K1 := jJ0 (show jW (sb src) 19 r = some (false, r) by rw [jW, if_neg (by rw [ht]; decide)])
  have HT := jJ0 ht
  have HL := jJ0 (fun W s2 (hS : St W g src r s2) => vM W g src r r1 r' s2 n x r.from_ hS hlit hnd hn1 hx)
  clear h hn1 hnd hx ht hlit
  unfold iv at *
  go_enter Tryz.func228, Tryz.ntmps228
  go_wp2_with (first | (go_at_call 167; refine (jP _ g src _ _ s 19 _ HS.out K1.out).mono ?_; rintro e w1 ⟨rfl, hX⟩; have H1 := jJ0 hX; have hc2 := hX.1.box.c2; have hc3 := hX.1.box.c3; rw [HT.out] at hc3; clear hX) | fail)
  go_quiet (fail)
  go_wp2_with (first | (go_at_call 236; refine (HL.out _ _ (H1.out.1.drewN _)).mono ?_; rintro e w2 ⟨rfl, s2, hX⟩; have H2 := jJ0 hX; clear hX) | fail)
  go_ret
  exact ⟨rfl, s2, H2.out.1, (H1.out.2.trans (Fr.of_old s ((Kp.refl _ _).drewN _))).trans H2.out.2⟩
theorem un_left (src : ByteArray) (f : Nat) (IH : ExAll src f) (w : World) (g : Nat) (r : Rdr) (s : Sl) (k : Int × List Int × Rdr) (h : St w g src r s) (ht : r.t = 6) (hk : exN (sb src) (f + 1) .unary r = some k) :
    Calls Tryz.prog 228 #[.pointer (some ⟨g, 0, none⟩)] w (Ex w g src s k.2.2 (iv k.1)) := by
  rw [exN, if_neg (by rw [ht]; decide), if_neg (by rw [ht]; decide), if_pos ht] at hk
  have hc2 := h.box.c2
  have HS := jJ0 h
  have HI := jJ0 IH
  obtain ⟨r1, hn1, hk⟩ := Option.bind_eq_some_iff.1 hk
  obtain ⟨q, hq, hk⟩ := Option.bind_eq_some_iff.1 hk
  obtain ⟨r2, hn2, hk⟩ := Option.bind_eq_some_iff.1 hk
  injection hk with hk
  subst hk
  have K1 := jJ0 (show jW (sb src) 19 r = some (false, r) by rw [jW, if_neg (by rw [ht]; decide)])
  have HT := jJ0 ht
  have N1 := jJ0 hn1
  have N2 := jJ0 hn2
  have E1 := jJ0 hq
  clear h IH hn1 hq hn2 ht
  unfold iv
  go_enter Tryz.func228, Tryz.ntmps228
  go_wp2_with (first | (go_at_call 167; refine (jP _ g src _ _ s 19 _ HS.out K1.out).mono ?_; rintro e w1 ⟨rfl, hX⟩; have H1 := jJ0 hX; have hc2 := hX.1.box.c2; have hc3 := hX.1.box.c3; rw [HT.out] at hc3; clear hX) | fail)
  go_quiet (fail)
  go_wp2_with (first | (go_at_call 135; first | (refine (jN _ g src _ _ s (H1.out.1.drewN _) N1.out).mono ?_; rintro e w2 ⟨rfl, hX⟩; have H2 := jJ0 hX; clear hX) | (refine (jN _ g src _ _ _ H3.out.1 N2.out).mono ?_; rintro e w4 ⟨rfl, hX⟩; have H4 := jJ0 hX; clear hX)) | (go_at_call 172; refine (HI.out.ex _ g _ _ _ H2.out.1 E1.out).mono ?_; rintro e w3 ⟨rfl, s3, hX⟩; have H3 := jJ0 hX; clear hX; unfold iv) | fail)
  go_ret
  exact ⟨rfl, s3, H4.out.1, (((H1.out.2.trans (Fr.of_old s ((Kp.refl _ _).drewN _))).trans H2.out.2).trans H3.out.2).trans H4.out.2⟩
theorem un_open (src : ByteArray) (f : Nat) (IH : ExAll src f) (w : World) (g : Nat) (r : Rdr) (s : Sl) (k : Int × List Int × Rdr) (h : St w g src r s) (ht : r.t = 4) (hk : exN (sb src) (f + 1) .unary r = some k) :
    Calls Tryz.prog 228 #[.pointer (some ⟨g, 0, none⟩)] w (Ex w g src s k.2.2 (iv k.1)) := by
  rw [exN, if_neg (by rw [ht]; decide), if_neg (by rw [ht]; decide), if_neg (by rw [ht]; decide), if_pos ht] at hk
  have hc2 := h.box.c2
  have HS := jJ0 h
  have HI := jJ0 IH
  obtain ⟨r1, hn1, hk⟩ := Option.bind_eq_some_iff.1 hk
  obtain ⟨q, hq, hk⟩ := Option.bind_eq_some_iff.1 hk
  obtain ⟨x, hx, hk⟩ := Option.map_eq_some_iff.1 hk
  subst hk
  obtain ⟨x, r'⟩ := x
  have K1 := jJ0 (show jW (sb src) 19 r = some (false, r) by rw [jW, if_neg (by rw [ht]; decide)])
  have HT := jJ0 ht
  have N1 := jJ0 hn1
  have E1 := jJ0 hq
  have NX := jJ0 hx
  clear h IH hn1 hq hx ht
  unfold iv
  go_enter Tryz.func228, Tryz.ntmps228
  go_wp2_with (first | (go_at_call 167; refine (jP _ g src _ _ s 19 _ HS.out K1.out).mono ?_; rintro e w1 ⟨rfl, hX⟩; have H1 := jJ0 hX; have hc2 := hX.1.box.c2; have hc3 := hX.1.box.c3; rw [HT.out] at hc3; clear hX) | fail)
  go_quiet (fail)
  go_wp2_with (first | (go_at_call 135; refine (jN _ g src _ _ s (H1.out.1.drewN _) N1.out).mono ?_; rintro e w2 ⟨rfl, hX⟩; have H2 := jJ0 hX; clear hX) | (go_at_call 237; refine (HI.out.ls 5 _ g _ _ _ H2.out.1 E1.out).mono ?_; rintro e w3 ⟨A3, c3, s3, rfl, hX⟩; have H3 := jJ0 hX; clear hX) | (go_at_call 201; refine (kK _ g src _ _ _ 6 _ _ A3 c3 q.2.1 H3.out.2.2.1 H3.out.1 H3.out.2.1 NX.out).mono ?_; rintro e w4 ⟨rfl, s4, hX⟩; have H4 := jJ0 hX; clear hX; unfold iv) | fail)
  go_ret
  exact ⟨rfl, s4, H4.out.1, (((H1.out.2.trans (Fr.of_old s ((Kp.refl _ _).drewN _))).trans H2.out.2).trans H3.out.2.2.2).trans H4.out.2⟩
end Go.Proofs.YtmmjcbbogokmfaaGreatDoor
