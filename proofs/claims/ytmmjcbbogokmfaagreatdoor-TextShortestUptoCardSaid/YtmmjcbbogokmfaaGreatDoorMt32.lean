import Derived.Test.YtmmjcbbogokmfaaGreatDoorMt01
import Derived.Test.YtmmjcbbogokmfaaGreatDoorMt31
set_option maxRecDepth 100000
set_option maxHeartbeats 25600000
namespace Go.Proofs.YtmmjcbbogokmfaaGreatDoor
open Go.RowKit
def MoRel (src : ByteArray) (w : World) (g : Nat) (level : Nat) (s : Sl) (k : Int × List Int × Rdr) (F n : Nat) (rv : Value) (W : World) : Prop :=
  n <= F /\ ∃ root r' s', rv = iv root /\ St W g src r' s' /\ Fr g s s' w W /\ exN (sb src) n (.more level root) r' = some k
theorem row43 (src : ByteArray) (f : Nat) (IH : ∀ m, m <= f -> ExAll src m) (w : World) (g : Nat) (r : Rdr) (s : Sl) (k : Int × List Int × Rdr) (h : St w g src r s) (hk : exN (sb src) (f + 1) (.row 43) r = some k) :
    Calls Tryz.prog 200 #[.pointer (some ⟨g, 0, none⟩), .int .u8 43] w (Ex w g src s k.2.2 (iv k.1)) := by
  rw [exN, if_neg (by decide), if_pos (by decide)] at hk
  have HS := jJ0 h
  have HI := jJ0 IH
  have HI0 := jJ0 (IH f (Nat.le_refl f))
  obtain ⟨q, hq, hk⟩ := Option.bind_eq_some_iff.1 hk
  have E1 := jJ0 (show exN (sb src) f (.row 44) r = some q from hq)
  have EX := jJ0 hk
  clear h IH hq hk
  go_enter Tryz.func200, Tryz.ntmps200
  go_wp2_with (first | (go_at_call 200; refine (HI0.out.row 44 (by decide) _ g _ _ _ HS.out E1.out).mono ?_; rintro e w1 ⟨rfl, s1, hX⟩; have H1 := jJ0 hX; clear hX) | fail)
  go_loopw [5] (fun rv wr => ∃ n, MoRel src w g 43 s k f n rv wr) (fun rv wr => least (fun n => MoRel src w g 43 s k f n rv wr))
  case atStart => exact ⟨f, Nat.le_refl _, q.1, q.2.2, s1, rfl, H1.out.1, H1.out.2, EX.out⟩
  case round =>
    clear H1
    obtain ⟨n, ⟨hn, root, r', s', rfl, hst, hfr, hex⟩, hmin⟩ := yA hrel
    have hc3 := hst.box.c3
    have Hst := jJ0 hst
    have Hfr := jJ0 hfr
    have Hmin := jJ0 hmin
    cases n with
    | zero => exact absurd hex (by simp [exN])
    | succ m =>
      rw [exN] at hex
      by_cases ht : r'.t = 43
      · have hop : vd 43 r'.t = 10 := by rw [ht]; rfl
        rw [hop, if_neg (by decide)] at hex
        obtain ⟨q2, hq2, hex⟩ := Option.bind_eq_some_iff.1 hex
        have E2 := jJ0 (show exN (sb src) m (.two 10 root 44) r' = some q2 from hq2)
        have EX2 := jJ0 hex
        have HIm := jJ0 (HI.out m (by omega))
        rw [ht] at hc3
        clear hst hfr hmin hrel hex hq2 ht hop
        unfold iv
        go_wp2_with (first | (go_at_call 227; refine (HIm.out.two 10 root 44 (by decide) _ g _ _ _ Hst.out E2.out).mono ?_; rintro e w2 ⟨rfl, s2, hX⟩; have H2 := jJ0 hX; clear hX) | fail)
        have HL : MoRel src w g 43 s k f m (iv q2.1) w2 := ⟨by omega, q2.1, q2.2.2, s2, rfl, H2.out.1, Hfr.out.trans H2.out.2, EX2.out⟩
        exact ⟨⟨m, HL⟩, by rw [show Value.int .i64 root = iv root from rfl, Hmin.out]; exact kX HL (Nat.lt_succ_self m)⟩
      · have hop : vd 43 r'.t = 0 := by unfold vd; simp [ht]
        rw [hop, if_pos rfl] at hex
        injection hex with hex
        have He := jJ0 hex
        have e1 : ((r'.t : Int) == 43) = false := beq_eq_false_iff_ne.2 (by omega)
        clear hst hfr hmin hrel hex ht hop
        go_wp2
        go_ret
        rw [<- He.out]
        exact ⟨rfl, s', Hst.out, Hfr.out⟩
theorem row44 (src : ByteArray) (f : Nat) (IH : ∀ m, m <= f -> ExAll src m) (w : World) (g : Nat) (r : Rdr) (s : Sl) (k : Int × List Int × Rdr) (h : St w g src r s) (hk : exN (sb src) (f + 1) (.row 44) r = some k) :
    Calls Tryz.prog 200 #[.pointer (some ⟨g, 0, none⟩), .int .u8 44] w (Ex w g src s k.2.2 (iv k.1)) := by
  rw [exN, if_neg (by decide), if_pos (by decide)] at hk
  have HS := jJ0 h
  have HI := jJ0 IH
  have HI0 := jJ0 (IH f (Nat.le_refl f))
  obtain ⟨q, hq, hk⟩ := Option.bind_eq_some_iff.1 hk
  have E1 := jJ0 (show exN (sb src) f (.row 45) r = some q from hq)
  have EX := jJ0 hk
  clear h IH hq hk
  go_enter Tryz.func200, Tryz.ntmps200
  go_wp2_with (first | (go_at_call 200; refine (HI0.out.row 45 (by decide) _ g _ _ _ HS.out E1.out).mono ?_; rintro e w1 ⟨rfl, s1, hX⟩; have H1 := jJ0 hX; clear hX) | fail)
  go_loopw [5] (fun rv wr => ∃ n, MoRel src w g 44 s k f n rv wr) (fun rv wr => least (fun n => MoRel src w g 44 s k f n rv wr))
  case atStart => exact ⟨f, Nat.le_refl _, q.1, q.2.2, s1, rfl, H1.out.1, H1.out.2, EX.out⟩
  case round =>
    clear H1
    obtain ⟨n, ⟨hn, root, r', s', rfl, hst, hfr, hex⟩, hmin⟩ := yA hrel
    have hc3 := hst.box.c3
    have Hst := jJ0 hst
    have Hfr := jJ0 hfr
    have Hmin := jJ0 hmin
    cases n with
    | zero => exact absurd hex (by simp [exN])
    | succ m =>
      rw [exN] at hex
      by_cases ht : r'.t = 44
      · have hop : vd 44 r'.t = 9 := by rw [ht]; rfl
        rw [hop, if_neg (by decide)] at hex
        obtain ⟨q2, hq2, hex⟩ := Option.bind_eq_some_iff.1 hex
        have E2 := jJ0 (show exN (sb src) m (.two 9 root 45) r' = some q2 from hq2)
        have EX2 := jJ0 hex
        have HIm := jJ0 (HI.out m (by omega))
        rw [ht] at hc3
        clear hst hfr hmin hrel hex hq2 ht hop
        unfold iv
        go_wp2_with (first | (go_at_call 227; refine (HIm.out.two 9 root 45 (by decide) _ g _ _ _ Hst.out E2.out).mono ?_; rintro e w2 ⟨rfl, s2, hX⟩; have H2 := jJ0 hX; clear hX) | fail)
        have HL : MoRel src w g 44 s k f m (iv q2.1) w2 := ⟨by omega, q2.1, q2.2.2, s2, rfl, H2.out.1, Hfr.out.trans H2.out.2, EX2.out⟩
        exact ⟨⟨m, HL⟩, by rw [show Value.int .i64 root = iv root from rfl, Hmin.out]; exact kX HL (Nat.lt_succ_self m)⟩
      · have hop : vd 44 r'.t = 0 := by unfold vd; simp [ht]
        rw [hop, if_pos rfl] at hex
        injection hex with hex
        have He := jJ0 hex
        have e1 : ((r'.t : Int) == 44) = false := beq_eq_false_iff_ne.2 (by omega)
        clear hst hfr hmin hrel hex ht hop
        go_wp2
        go_ret
        rw [<- He.out]
        exact ⟨rfl, s', Hst.out, Hfr.out⟩
theorem row19 (src : ByteArray) (f : Nat) (IH : ExAll src f) (w : World) (g : Nat) (r : Rdr) (s : Sl) (k : Int × List Int × Rdr) (h : St w g src r s) (hk : exN (sb src) (f + 1) (.row 19) r = some k) :
    Calls Tryz.prog 200 #[.pointer (some ⟨g, 0, none⟩), .int .u8 19] w (Ex w g src s k.2.2 (iv k.1)) := by
  rw [exN, if_neg (by decide), if_neg (by decide)] at hk
  have HS := jJ0 h
  have HI := jJ0 IH
  have E1 := jJ0 hk
  clear h IH hk
  go_enter Tryz.func200, Tryz.ntmps200
  go_wp2_with (first | (go_at_call 228; refine (HI.out.un _ g _ _ _ HS.out E1.out).mono ?_; rintro e w1 ⟨rfl, s1, hX⟩) | fail)
  go_ret
  exact ⟨rfl, s1, hX⟩
theorem row18 (src : ByteArray) (f : Nat) (IH : ∀ m, m <= f -> ExAll src m) (w : World) (g : Nat) (r : Rdr) (s : Sl) (k : Int × List Int × Rdr) (h : St w g src r s) (hk : exN (sb src) (f + 1) (.row 18) r = some k) :
    Calls Tryz.prog 200 #[.pointer (some ⟨g, 0, none⟩), .int .u8 18] w (Ex w g src s k.2.2 (iv k.1)) := by
  rw [exN, if_neg (by decide), if_pos (by decide)] at hk
  have HS := jJ0 h
  have HI := jJ0 IH
  have HI0 := jJ0 (IH f (Nat.le_refl f))
  obtain ⟨q, hq, hk⟩ := Option.bind_eq_some_iff.1 hk
  have E1 := jJ0 (show exN (sb src) f (.row 20) r = some q from hq)
  have EX := jJ0 hk
  clear h IH hq hk
  go_enter Tryz.func200, Tryz.ntmps200
  go_wp2_with (first | (go_at_call 200; refine (HI0.out.row 20 (by decide) _ g _ _ _ HS.out E1.out).mono ?_; rintro e w1 ⟨rfl, s1, hX⟩; have H1 := jJ0 hX; clear hX) | fail)
  go_loopw [8] (fun rv wr => ∃ n, MoRel src w g 18 s k f n rv wr) (fun rv wr => least (fun n => MoRel src w g 18 s k f n rv wr))
  case atStart => exact ⟨f, Nat.le_refl _, q.1, q.2.2, s1, rfl, H1.out.1, H1.out.2, EX.out⟩
  case round =>
    clear H1
    obtain ⟨n, ⟨hn, root, r', s', rfl, hst, hfr, hex⟩, hmin⟩ := yA hrel
    have hc3 := hst.box.c3
    have Hst := jJ0 hst
    have Hfr := jJ0 hfr
    have Hmin := jJ0 hmin
    cases n with
    | zero => exact absurd hex (by simp [exN])
    | succ m =>
      rw [exN] at hex
      by_cases ht : r'.t = 18 \/ r'.t = 19
      · rcases ht with ht | ht
        · have hop : vd 18 r'.t = 18 := by rw [ht]; rfl
          rw [hop, if_neg (by decide)] at hex
          obtain ⟨q2, hq2, hex⟩ := Option.bind_eq_some_iff.1 hex
          have E2 := jJ0 (show exN (sb src) m (.two 18 root 20) r' = some q2 from hq2)
          have EX2 := jJ0 hex
          have HIm := jJ0 (HI.out m (by omega))
          rw [ht] at hc3
          clear hst hfr hmin hrel hex hq2 ht hop
          unfold iv
          go_wp2_with (first | (go_at_call 227; refine (HIm.out.two 18 root 20 (by decide) _ g _ _ _ Hst.out E2.out).mono ?_; rintro e w2 ⟨rfl, s2, hX⟩; have H2 := jJ0 hX; clear hX) | fail)
          have HL : MoRel src w g 18 s k f m (iv q2.1) w2 := ⟨by omega, q2.1, q2.2.2, s2, rfl, H2.out.1, Hfr.out.trans H2.out.2, EX2.out⟩
          exact ⟨⟨m, HL⟩, by rw [show Value.int .i64 root = iv root from rfl, Hmin.out]; exact kX HL (Nat.lt_succ_self m)⟩
        · have hop : vd 18 r'.t = 19 := by rw [ht]; rfl
          rw [hop, if_neg (by decide)] at hex
          obtain ⟨q2, hq2, hex⟩ := Option.bind_eq_some_iff.1 hex
          have E2 := jJ0 (show exN (sb src) m (.two 19 root 20) r' = some q2 from hq2)
          have EX2 := jJ0 hex
          have HIm := jJ0 (HI.out m (by omega))
          rw [ht] at hc3
          clear hst hfr hmin hrel hex hq2 ht hop
          unfold iv
          go_wp2_with (first | (go_at_call 227; refine (HIm.out.two 19 root 20 (by decide) _ g _ _ _ Hst.out E2.out).mono ?_; rintro e w2 ⟨rfl, s2, hX⟩; have H2 := jJ0 hX; clear hX) | fail)
          have HL : MoRel src w g 18 s k f m (iv q2.1) w2 := ⟨by omega, q2.1, q2.2.2, s2, rfl, H2.out.1, Hfr.out.trans H2.out.2, EX2.out⟩
          exact ⟨⟨m, HL⟩, by rw [show Value.int .i64 root = iv root from rfl, Hmin.out]; exact kX HL (Nat.lt_succ_self m)⟩
      · have hop : vd 18 r'.t = 0 := by unfold vd; simp [ht]
        rw [hop, if_pos rfl] at hex
        injection hex with hex
        have He := jJ0 hex
        have e1 : ((r'.t : Int) == 18) = false := beq_eq_false_iff_ne.2 (by omega)
        have e2 : ((r'.t : Int) == 19) = false := beq_eq_false_iff_ne.2 (by omega)
        clear hst hfr hmin hrel hex ht hop
        go_wp2
        go_ret
        rw [<- He.out]
        exact ⟨rfl, s', Hst.out, Hfr.out⟩
theorem row20 (src : ByteArray) (f : Nat) (IH : ∀ m, m <= f -> ExAll src m) (w : World) (g : Nat) (r : Rdr) (s : Sl) (k : Int × List Int × Rdr) (h : St w g src r s) (hk : exN (sb src) (f + 1) (.row 20) r = some k) :
    Calls Tryz.prog 200 #[.pointer (some ⟨g, 0, none⟩), .int .u8 20] w (Ex w g src s k.2.2 (iv k.1)) := by
  rw [exN, if_neg (by decide), if_pos (by decide)] at hk
  have HS := jJ0 h
  have HI := jJ0 IH
  obtain ⟨q, hq, hk⟩ := Option.bind_eq_some_iff.1 hk
  have E1 := jJ0 (show exN (sb src) f (.row 19) r = some q from hq)
  have EX := jJ0 hk
  cases f with
  | zero => exact absurd E1.out (by simp [exN])
  | succ f1 =>
  have E0 := jJ0 (show exN (sb src) f1 .unary r = some q by have h := E1.out; rwa [exN, if_neg (by decide), if_neg (by decide)] at h)
  have HI0 := jJ0 (IH f1 (Nat.le_succ f1))
  clear h IH hq hk E1
  go_enter Tryz.func200, Tryz.ntmps200
  go_wp2_with (first | (go_at_call 228; refine (HI0.out.un _ g _ _ _ HS.out E0.out).mono ?_; rintro e w1 ⟨rfl, s1, hX⟩; have H1 := jJ0 hX; clear hX) | fail)
  go_loopw [9] (fun rv wr => ∃ n, MoRel src w g 20 s k (f1 + 1) n rv wr) (fun rv wr => least (fun n => MoRel src w g 20 s k (f1 + 1) n rv wr))
  case atStart => exact ⟨f1 + 1, Nat.le_refl _, q.1, q.2.2, s1, rfl, H1.out.1, H1.out.2, EX.out⟩
  case round =>
    clear H1
    obtain ⟨n, ⟨hn, root, r', s', rfl, hst, hfr, hex⟩, hmin⟩ := yA hrel
    have hc3 := hst.box.c3
    have Hst := jJ0 hst
    have Hfr := jJ0 hfr
    have Hmin := jJ0 hmin
    cases n with
    | zero => exact absurd hex (by simp [exN])
    | succ m =>
      rw [exN] at hex
      by_cases ht : r'.t = 20 \/ r'.t = 21 \/ r'.t = 22
      · rcases ht with ht | ht | ht
        · have hop : vd 20 r'.t = 20 := by rw [ht]; rfl
          rw [hop, if_neg (by decide)] at hex
          obtain ⟨q2, hq2, hex⟩ := Option.bind_eq_some_iff.1 hex
          have E2 := jJ0 (show exN (sb src) m (.two 20 root 19) r' = some q2 from hq2)
          have EX2 := jJ0 hex
          have HIm := jJ0 (HI.out m (by omega))
          rw [ht] at hc3
          clear hst hfr hmin hrel hex hq2 ht hop
          unfold iv
          go_wp2_with (first | (go_at_call 227; refine (HIm.out.two 20 root 19 (by decide) _ g _ _ _ Hst.out E2.out).mono ?_; rintro e w2 ⟨rfl, s2, hX⟩; have H2 := jJ0 hX; clear hX) | fail)
          have HL : MoRel src w g 20 s k (f1 + 1) m (iv q2.1) w2 := ⟨by omega, q2.1, q2.2.2, s2, rfl, H2.out.1, Hfr.out.trans H2.out.2, EX2.out⟩
          exact ⟨⟨m, HL⟩, by rw [show Value.int .i64 root = iv root from rfl, Hmin.out]; exact kX HL (Nat.lt_succ_self m)⟩
        · have hop : vd 20 r'.t = 21 := by rw [ht]; rfl
          rw [hop, if_neg (by decide)] at hex
          obtain ⟨q2, hq2, hex⟩ := Option.bind_eq_some_iff.1 hex
          have E2 := jJ0 (show exN (sb src) m (.two 21 root 19) r' = some q2 from hq2)
          have EX2 := jJ0 hex
          have HIm := jJ0 (HI.out m (by omega))
          rw [ht] at hc3
          clear hst hfr hmin hrel hex hq2 ht hop
          unfold iv
          go_wp2_with (first | (go_at_call 227; refine (HIm.out.two 21 root 19 (by decide) _ g _ _ _ Hst.out E2.out).mono ?_; rintro e w2 ⟨rfl, s2, hX⟩; have H2 := jJ0 hX; clear hX) | fail)
          have HL : MoRel src w g 20 s k (f1 + 1) m (iv q2.1) w2 := ⟨by omega, q2.1, q2.2.2, s2, rfl, H2.out.1, Hfr.out.trans H2.out.2, EX2.out⟩
          exact ⟨⟨m, HL⟩, by rw [show Value.int .i64 root = iv root from rfl, Hmin.out]; exact kX HL (Nat.lt_succ_self m)⟩
        · have hop : vd 20 r'.t = 22 := by rw [ht]; rfl
          rw [hop, if_neg (by decide)] at hex
          obtain ⟨q2, hq2, hex⟩ := Option.bind_eq_some_iff.1 hex
          have E2 := jJ0 (show exN (sb src) m (.two 22 root 19) r' = some q2 from hq2)
          have EX2 := jJ0 hex
          have HIm := jJ0 (HI.out m (by omega))
          rw [ht] at hc3
          clear hst hfr hmin hrel hex hq2 ht hop
          unfold iv
          go_wp2_with (first | (go_at_call 227; refine (HIm.out.two 22 root 19 (by decide) _ g _ _ _ Hst.out E2.out).mono ?_; rintro e w2 ⟨rfl, s2, hX⟩; have H2 := jJ0 hX; clear hX) | fail)
          have HL : MoRel src w g 20 s k (f1 + 1) m (iv q2.1) w2 := ⟨by omega, q2.1, q2.2.2, s2, rfl, H2.out.1, Hfr.out.trans H2.out.2, EX2.out⟩
          exact ⟨⟨m, HL⟩, by rw [show Value.int .i64 root = iv root from rfl, Hmin.out]; exact kX HL (Nat.lt_succ_self m)⟩
      · have hop : vd 20 r'.t = 0 := by unfold vd; rw [if_neg (by decide), if_neg (by decide), if_neg (by decide), if_neg (by omega)]
        rw [hop, if_pos rfl] at hex
        injection hex with hex
        have He := jJ0 hex
        rcases Nat.lt_or_ge r'.t 20 with hlt | hge
        · have e1 : ¬ (20 : Int) <= (r'.t : Int) := by omega
          clear hst hfr hmin hrel hex ht hop hlt
          go_wp2
          go_ret
          rw [<- He.out]
          exact ⟨rfl, s', Hst.out, Hfr.out⟩
        · have e1 : (20 : Int) <= (r'.t : Int) := by omega
          have e2 : ¬ (r'.t : Int) <= 22 := by omega
          clear hst hfr hmin hrel hex ht hop hge
          go_wp2
          go_ret
          rw [<- He.out]
          exact ⟨rfl, s', Hst.out, Hfr.out⟩
theorem row45n (src : ByteArray) (f : Nat) (IH : ExAll src f) (w : World) (g : Nat) (r : Rdr) (s : Sl) (k : Int × List Int × Rdr) (h : St w g src r s) (ht : r.t = 45) (hk : exN (sb src) (f + 1) (.row 45) r = some k) :
    Calls Tryz.prog 200 #[.pointer (some ⟨g, 0, none⟩), .int .u8 45] w (Ex w g src s k.2.2 (iv k.1)) := by
  rw [exN, if_pos rfl, if_pos ht] at hk
  have hc2 := h.box.c2
  have HS := jJ0 h
  have HI := jJ0 IH
  obtain ⟨r1, hn1, hk⟩ := Option.bind_eq_some_iff.1 hk
  obtain ⟨q, hq, hk⟩ := Option.bind_eq_some_iff.1 hk
  obtain ⟨x, hx, hk⟩ := Option.map_eq_some_iff.1 hk
  subst hk
  obtain ⟨x, r'⟩ := x
  have K1 := jJ0 (show jW (sb src) 45 r = some (true, r1) by rw [jW, if_pos ht, hn1]; rfl)
  have E1 := jJ0 hq
  have NX := jJ0 hx
  clear h IH hn1 hq hx ht
  unfold iv
  go_enter Tryz.func200, Tryz.ntmps200
  go_wp2_with (first | (go_at_call 167; refine (jP _ g src _ _ s 45 _ HS.out K1.out).mono ?_; rintro e w1 ⟨rfl, hX⟩; have H1 := jJ0 hX; clear hX) | (go_at_call 200; refine (HI.out.row 45 (by decide) _ g _ _ _ H1.out.1 E1.out).mono ?_; rintro e w2 ⟨rfl, s2, hX⟩; have H2 := jJ0 hX; clear hX; unfold iv) | (go_at_call 201; refine (node_kids _ g src _ _ _ 8 _ _ [q.1] H2.out.1 NX.out).mono ?_; rintro e w3 ⟨rfl, s3, hX⟩; have H3 := jJ0 hX; clear hX; unfold iv) | fail)
  go_ret
  exact ⟨rfl, s3, H3.out.1, (H1.out.2.trans H2.out.2).trans H3.out.2⟩
theorem row45_12 (src : ByteArray) (f : Nat) (IH : ExAll src f) (w : World) (g : Nat) (r : Rdr) (s : Sl) (k q : Int × List Int × Rdr) (h : St w g src r s) (ht : r.t ≠ 45) (hq : exN (sb src) f (.row 18) r = some q) (hqt : q.2.2.t = 12) (hk : exN (sb src) f (.two 11 q.1 18) q.2.2 = some k) :
    Calls Tryz.prog 200 #[.pointer (some ⟨g, 0, none⟩), .int .u8 45] w (Ex w g src s k.2.2 (iv k.1)) := by
  have hc2 := h.box.c2
  have HS := jJ0 h
  have HI := jJ0 IH
  have K1 := jJ0 (show jW (sb src) 45 r = some (false, r) by rw [jW, if_neg ht])
  have E1 := jJ0 hq
  have E2 := jJ0 hk
  have HT := jJ0 hqt
  clear h IH hq hk ht hqt
  unfold iv
  go_enter Tryz.func200, Tryz.ntmps200
  go_wp2_with (first | (go_at_call 167; refine (jP _ g src _ _ s 45 _ HS.out K1.out).mono ?_; rintro e w1 ⟨rfl, hX⟩; have H1 := jJ0 hX; clear hX) | (go_at_call 200; refine (HI.out.row 18 (by decide) _ g _ _ _ H1.out.1 E1.out).mono ?_; rintro e w2 ⟨rfl, s2, hX⟩; have H2 := jJ0 hX; have hc3 := hX.1.box.c3; rw [HT.out] at hc3; clear hX; unfold iv) | (go_at_call 227; refine (HI.out.two 11 q.1 18 (by decide) _ g _ _ _ H2.out.1 E2.out).mono ?_; rintro e w3 ⟨rfl, s3, hX⟩; have H3 := jJ0 hX; clear hX; unfold iv) | fail)
  go_ret
  exact ⟨rfl, s3, H3.out.1, (H1.out.2.trans H2.out.2).trans H3.out.2⟩
theorem row45_13 (src : ByteArray) (f : Nat) (IH : ExAll src f) (w : World) (g : Nat) (r : Rdr) (s : Sl) (k q : Int × List Int × Rdr) (h : St w g src r s) (ht : r.t ≠ 45) (hq : exN (sb src) f (.row 18) r = some q) (hqt : q.2.2.t = 13) (hk : exN (sb src) f (.two 12 q.1 18) q.2.2 = some k) :
    Calls Tryz.prog 200 #[.pointer (some ⟨g, 0, none⟩), .int .u8 45] w (Ex w g src s k.2.2 (iv k.1)) := by
  have hc2 := h.box.c2
  have HS := jJ0 h
  have HI := jJ0 IH
  have K1 := jJ0 (show jW (sb src) 45 r = some (false, r) by rw [jW, if_neg ht])
  have E1 := jJ0 hq
  have E2 := jJ0 hk
  have HT := jJ0 hqt
  clear h IH hq hk ht hqt
  unfold iv
  go_enter Tryz.func200, Tryz.ntmps200
  go_wp2_with (first | (go_at_call 167; refine (jP _ g src _ _ s 45 _ HS.out K1.out).mono ?_; rintro e w1 ⟨rfl, hX⟩; have H1 := jJ0 hX; clear hX) | (go_at_call 200; refine (HI.out.row 18 (by decide) _ g _ _ _ H1.out.1 E1.out).mono ?_; rintro e w2 ⟨rfl, s2, hX⟩; have H2 := jJ0 hX; have hc3 := hX.1.box.c3; rw [HT.out] at hc3; clear hX; unfold iv) | (go_at_call 227; refine (HI.out.two 12 q.1 18 (by decide) _ g _ _ _ H2.out.1 E2.out).mono ?_; rintro e w3 ⟨rfl, s3, hX⟩; have H3 := jJ0 hX; clear hX; unfold iv) | fail)
  go_ret
  exact ⟨rfl, s3, H3.out.1, (H1.out.2.trans H2.out.2).trans H3.out.2⟩
theorem row45_14 (src : ByteArray) (f : Nat) (IH : ExAll src f) (w : World) (g : Nat) (r : Rdr) (s : Sl) (k q : Int × List Int × Rdr) (h : St w g src r s) (ht : r.t ≠ 45) (hq : exN (sb src) f (.row 18) r = some q) (hqt : q.2.2.t = 14) (hk : exN (sb src) f (.two 13 q.1 18) q.2.2 = some k) :
    Calls Tryz.prog 200 #[.pointer (some ⟨g, 0, none⟩), .int .u8 45] w (Ex w g src s k.2.2 (iv k.1)) := by
  have hc2 := h.box.c2
  have HS := jJ0 h
  have HI := jJ0 IH
  have K1 := jJ0 (show jW (sb src) 45 r = some (false, r) by rw [jW, if_neg ht])
  have E1 := jJ0 hq
  have E2 := jJ0 hk
  have HT := jJ0 hqt
  clear h IH hq hk ht hqt
  unfold iv
  go_enter Tryz.func200, Tryz.ntmps200
  go_wp2_with (first | (go_at_call 167; refine (jP _ g src _ _ s 45 _ HS.out K1.out).mono ?_; rintro e w1 ⟨rfl, hX⟩; have H1 := jJ0 hX; clear hX) | (go_at_call 200; refine (HI.out.row 18 (by decide) _ g _ _ _ H1.out.1 E1.out).mono ?_; rintro e w2 ⟨rfl, s2, hX⟩; have H2 := jJ0 hX; have hc3 := hX.1.box.c3; rw [HT.out] at hc3; clear hX; unfold iv) | (go_at_call 227; refine (HI.out.two 13 q.1 18 (by decide) _ g _ _ _ H2.out.1 E2.out).mono ?_; rintro e w3 ⟨rfl, s3, hX⟩; have H3 := jJ0 hX; clear hX; unfold iv) | fail)
  go_ret
  exact ⟨rfl, s3, H3.out.1, (H1.out.2.trans H2.out.2).trans H3.out.2⟩
theorem row45_15 (src : ByteArray) (f : Nat) (IH : ExAll src f) (w : World) (g : Nat) (r : Rdr) (s : Sl) (k q : Int × List Int × Rdr) (h : St w g src r s) (ht : r.t ≠ 45) (hq : exN (sb src) f (.row 18) r = some q) (hqt : q.2.2.t = 15) (hk : exN (sb src) f (.two 14 q.1 18) q.2.2 = some k) :
    Calls Tryz.prog 200 #[.pointer (some ⟨g, 0, none⟩), .int .u8 45] w (Ex w g src s k.2.2 (iv k.1)) := by
  have hc2 := h.box.c2
  have HS := jJ0 h
  have HI := jJ0 IH
  have K1 := jJ0 (show jW (sb src) 45 r = some (false, r) by rw [jW, if_neg ht])
  have E1 := jJ0 hq
  have E2 := jJ0 hk
  have HT := jJ0 hqt
  clear h IH hq hk ht hqt
  unfold iv
  go_enter Tryz.func200, Tryz.ntmps200
  go_wp2_with (first | (go_at_call 167; refine (jP _ g src _ _ s 45 _ HS.out K1.out).mono ?_; rintro e w1 ⟨rfl, hX⟩; have H1 := jJ0 hX; clear hX) | (go_at_call 200; refine (HI.out.row 18 (by decide) _ g _ _ _ H1.out.1 E1.out).mono ?_; rintro e w2 ⟨rfl, s2, hX⟩; have H2 := jJ0 hX; have hc3 := hX.1.box.c3; rw [HT.out] at hc3; clear hX; unfold iv) | (go_at_call 227; refine (HI.out.two 14 q.1 18 (by decide) _ g _ _ _ H2.out.1 E2.out).mono ?_; rintro e w3 ⟨rfl, s3, hX⟩; have H3 := jJ0 hX; clear hX; unfold iv) | fail)
  go_ret
  exact ⟨rfl, s3, H3.out.1, (H1.out.2.trans H2.out.2).trans H3.out.2⟩
theorem row45_16 (src : ByteArray) (f : Nat) (IH : ExAll src f) (w : World) (g : Nat) (r : Rdr) (s : Sl) (k q : Int × List Int × Rdr) (h : St w g src r s) (ht : r.t ≠ 45) (hq : exN (sb src) f (.row 18) r = some q) (hqt : q.2.2.t = 16) (hk : exN (sb src) f (.two 15 q.1 18) q.2.2 = some k) :
    Calls Tryz.prog 200 #[.pointer (some ⟨g, 0, none⟩), .int .u8 45] w (Ex w g src s k.2.2 (iv k.1)) := by
  have hc2 := h.box.c2
  have HS := jJ0 h
  have HI := jJ0 IH
  have K1 := jJ0 (show jW (sb src) 45 r = some (false, r) by rw [jW, if_neg ht])
  have E1 := jJ0 hq
  have E2 := jJ0 hk
  have HT := jJ0 hqt
  clear h IH hq hk ht hqt
  unfold iv
  go_enter Tryz.func200, Tryz.ntmps200
  go_wp2_with (first | (go_at_call 167; refine (jP _ g src _ _ s 45 _ HS.out K1.out).mono ?_; rintro e w1 ⟨rfl, hX⟩; have H1 := jJ0 hX; clear hX) | (go_at_call 200; refine (HI.out.row 18 (by decide) _ g _ _ _ H1.out.1 E1.out).mono ?_; rintro e w2 ⟨rfl, s2, hX⟩; have H2 := jJ0 hX; have hc3 := hX.1.box.c3; rw [HT.out] at hc3; clear hX; unfold iv) | (go_at_call 227; refine (HI.out.two 15 q.1 18 (by decide) _ g _ _ _ H2.out.1 E2.out).mono ?_; rintro e w3 ⟨rfl, s3, hX⟩; have H3 := jJ0 hX; clear hX; unfold iv) | fail)
  go_ret
  exact ⟨rfl, s3, H3.out.1, (H1.out.2.trans H2.out.2).trans H3.out.2⟩
theorem row45_17 (src : ByteArray) (f : Nat) (IH : ExAll src f) (w : World) (g : Nat) (r : Rdr) (s : Sl) (k q : Int × List Int × Rdr) (h : St w g src r s) (ht : r.t ≠ 45) (hq : exN (sb src) f (.row 18) r = some q) (hqt : q.2.2.t = 17) (hk : exN (sb src) f (.two 16 q.1 18) q.2.2 = some k) :
    Calls Tryz.prog 200 #[.pointer (some ⟨g, 0, none⟩), .int .u8 45] w (Ex w g src s k.2.2 (iv k.1)) := by
  have hc2 := h.box.c2
  have HS := jJ0 h
  have HI := jJ0 IH
  have K1 := jJ0 (show jW (sb src) 45 r = some (false, r) by rw [jW, if_neg ht])
  have E1 := jJ0 hq
  have E2 := jJ0 hk
  have HT := jJ0 hqt
  clear h IH hq hk ht hqt
  unfold iv
  go_enter Tryz.func200, Tryz.ntmps200
  go_wp2_with (first | (go_at_call 167; refine (jP _ g src _ _ s 45 _ HS.out K1.out).mono ?_; rintro e w1 ⟨rfl, hX⟩; have H1 := jJ0 hX; clear hX) | (go_at_call 200; refine (HI.out.row 18 (by decide) _ g _ _ _ H1.out.1 E1.out).mono ?_; rintro e w2 ⟨rfl, s2, hX⟩; have H2 := jJ0 hX; have hc3 := hX.1.box.c3; rw [HT.out] at hc3; clear hX; unfold iv) | (go_at_call 227; refine (HI.out.two 16 q.1 18 (by decide) _ g _ _ _ H2.out.1 E2.out).mono ?_; rintro e w3 ⟨rfl, s3, hX⟩; have H3 := jJ0 hX; clear hX; unfold iv) | fail)
  go_ret
  exact ⟨rfl, s3, H3.out.1, (H1.out.2.trans H2.out.2).trans H3.out.2⟩
theorem row45_28 (src : ByteArray) (f : Nat) (IH : ExAll src f) (w : World) (g : Nat) (r : Rdr) (s : Sl) (k q : Int × List Int × Rdr) (h : St w g src r s) (ht : r.t ≠ 45) (hq : exN (sb src) f (.row 18) r = some q) (hqt : q.2.2.t = 28) (hk : exN (sb src) f (.two 17 q.1 18) q.2.2 = some k) :
    Calls Tryz.prog 200 #[.pointer (some ⟨g, 0, none⟩), .int .u8 45] w (Ex w g src s k.2.2 (iv k.1)) := by
  have hc2 := h.box.c2
  have HS := jJ0 h
  have HI := jJ0 IH
  have K1 := jJ0 (show jW (sb src) 45 r = some (false, r) by rw [jW, if_neg ht])
  have E1 := jJ0 hq
  have E2 := jJ0 hk
  have HT := jJ0 hqt
  clear h IH hq hk ht hqt
  unfold iv
  go_enter Tryz.func200, Tryz.ntmps200
  go_wp2_with (first | (go_at_call 167; refine (jP _ g src _ _ s 45 _ HS.out K1.out).mono ?_; rintro e w1 ⟨rfl, hX⟩; have H1 := jJ0 hX; clear hX) | (go_at_call 200; refine (HI.out.row 18 (by decide) _ g _ _ _ H1.out.1 E1.out).mono ?_; rintro e w2 ⟨rfl, s2, hX⟩; have H2 := jJ0 hX; have hc3 := hX.1.box.c3; rw [HT.out] at hc3; clear hX; unfold iv) | (go_at_call 227; refine (HI.out.two 17 q.1 18 (by decide) _ g _ _ _ H2.out.1 E2.out).mono ?_; rintro e w3 ⟨rfl, s3, hX⟩; have H3 := jJ0 hX; clear hX; unfold iv) | fail)
  go_ret
  exact ⟨rfl, s3, H3.out.1, (H1.out.2.trans H2.out.2).trans H3.out.2⟩
theorem row45o (src : ByteArray) (f : Nat) (IH : ExAll src f) (w : World) (g : Nat) (r : Rdr) (s : Sl) (q : Int × List Int × Rdr) (h : St w g src r s) (ht : r.t ≠ 45) (hq : exN (sb src) f (.row 18) r = some q) (h1 : ¬ (12 <= q.2.2.t /\ q.2.2.t <= 17)) (h2 : ¬ q.2.2.t = 28) :
    Calls Tryz.prog 200 #[.pointer (some ⟨g, 0, none⟩), .int .u8 45] w (Ex w g src s q.2.2 (iv q.1)) := by
  have hc2 := h.box.c2
  have HS := jJ0 h
  have HI := jJ0 IH
  have K1 := jJ0 (show jW (sb src) 45 r = some (false, r) by rw [jW, if_neg ht])
  have E1 := jJ0 hq
  have e28 : ((q.2.2.t : Int) == 28) = false := beq_eq_false_iff_ne.2 (by omega)
  rcases Nat.lt_or_ge q.2.2.t 12 with hlt | hge
  · have e1 : ¬ (12 : Int) <= (q.2.2.t : Int) := by omega
    clear h IH hq ht h1 h2 hlt
    unfold iv
    go_enter Tryz.func200, Tryz.ntmps200
    go_wp2_with (first | (go_at_call 167; refine (jP _ g src _ _ s 45 _ HS.out K1.out).mono ?_; rintro e w1 ⟨rfl, hX⟩; have H1 := jJ0 hX; clear hX) | (go_at_call 200; refine (HI.out.row 18 (by decide) _ g _ _ _ H1.out.1 E1.out).mono ?_; rintro e w2 ⟨rfl, s2, hX⟩; have H2 := jJ0 hX; have hc3 := hX.1.box.c3; clear hX; unfold iv) | fail)
    go_ret
    exact ⟨rfl, s2, H2.out.1, H1.out.2.trans H2.out.2⟩
  · have e1 : (12 : Int) <= (q.2.2.t : Int) := by omega
    have e2 : ¬ (q.2.2.t : Int) <= 17 := by omega
    clear h IH hq ht h1 h2 hge
    unfold iv
    go_enter Tryz.func200, Tryz.ntmps200
    go_wp2_with (first | (go_at_call 167; refine (jP _ g src _ _ s 45 _ HS.out K1.out).mono ?_; rintro e w1 ⟨rfl, hX⟩; have H1 := jJ0 hX; clear hX) | (go_at_call 200; refine (HI.out.row 18 (by decide) _ g _ _ _ H1.out.1 E1.out).mono ?_; rintro e w2 ⟨rfl, s2, hX⟩; have H2 := jJ0 hX; have hc3 := hX.1.box.c3; clear hX; unfold iv) | fail)
    go_ret
    exact ⟨rfl, s2, H2.out.1, H1.out.2.trans H2.out.2⟩
theorem row45 (src : ByteArray) (f : Nat) (IH : ExAll src f) (w : World) (g : Nat) (r : Rdr) (s : Sl) (k : Int × List Int × Rdr) (h : St w g src r s) (hk : exN (sb src) (f + 1) (.row 45) r = some k) :
    Calls Tryz.prog 200 #[.pointer (some ⟨g, 0, none⟩), .int .u8 45] w (Ex w g src s k.2.2 (iv k.1)) := by
  by_cases ht : r.t = 45
  · exact row45n src f IH w g r s k h ht hk
  rw [exN, if_pos rfl, if_neg ht] at hk
  obtain ⟨q, hq, hk⟩ := Option.bind_eq_some_iff.1 hk
  by_cases h1 : 12 <= q.2.2.t /\ q.2.2.t <= 17
  · rw [if_pos h1] at hk
    have : q.2.2.t = 12 \/ q.2.2.t = 13 \/ q.2.2.t = 14 \/ q.2.2.t = 15 \/ q.2.2.t = 16 \/ q.2.2.t = 17 := by omega
    rcases this with e | e | e | e | e | e
    · rw [e] at hk; exact row45_12 src f IH w g r s k q h ht hq e hk
    · rw [e] at hk; exact row45_13 src f IH w g r s k q h ht hq e hk
    · rw [e] at hk; exact row45_14 src f IH w g r s k q h ht hq e hk
    · rw [e] at hk; exact row45_15 src f IH w g r s k q h ht hq e hk
    · rw [e] at hk; exact row45_16 src f IH w g r s k q h ht hq e hk
    · rw [e] at hk; exact row45_17 src f IH w g r s k q h ht hq e hk
  rw [if_neg h1] at hk
  by_cases h2 : q.2.2.t = 28
  · rw [if_pos h2] at hk
    exact row45_28 src f IH w g r s k q h ht hq h2 hk
  rw [if_neg h2] at hk
  injection hk with hk
  subst hk
  exact row45o src f IH w g r s q h ht hq h1 h2
theorem ex_all (src : ByteArray) (f : Nat) : ExAll src f := by
  induction f using Nat.strongRecOn with
  | _ f ih =>
    cases f with
    | zero => exact ⟨fun _ _ _ _ _ _ h => absurd h (by simp [exN]), fun _ _ _ _ _ _ _ _ h => absurd h (by simp [exN]), fun _ _ _ _ _ _ _ _ _ _ h => absurd h (by simp [exN]), fun _ _ _ _ _ _ h => absurd h (by simp [exN]), fun _ _ _ _ _ _ _ h => absurd h (by simp [exN])⟩
    | succ f =>
      have IH : ∀ m, m <= f -> ExAll src m := fun m hm => ih m (by omega)
      have I0 := IH f (Nat.le_refl f)
      refine ⟨ex_step src f I0, fun l hl w g r s k h hk => ?_, two_step src f I0, un_step src f I0, list_step src f IH⟩
      have : l = 43 \/ l = 44 \/ l = 45 \/ l = 18 \/ l = 20 \/ l = 19 := by simpa [lvls] using hl
      rcases this with rfl | rfl | rfl | rfl | rfl | rfl
      · exact row43 src f IH w g r s k h hk
      · exact row44 src f IH w g r s k h hk
      · exact row45 src f I0 w g r s k h hk
      · exact row18 src f IH w g r s k h hk
      · exact row20 src f IH w g r s k h hk
      · exact row19 src f I0 w g r s k h hk
end Go.Proofs.YtmmjcbbogokmfaaGreatDoor
