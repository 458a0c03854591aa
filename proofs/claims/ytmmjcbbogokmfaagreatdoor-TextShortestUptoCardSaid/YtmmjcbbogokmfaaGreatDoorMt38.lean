import Derived.Test.YtmmjcbbogokmfaaGreatDoorMt01
import Derived.Test.YtmmjcbbogokmfaaGreatDoorMt37
set_option maxRecDepth 100000
set_option maxHeartbeats 25600000
namespace Go.Proofs.YtmmjcbbogokmfaaGreatDoor
open Go.RowKit
structure Rw (src : ByteArray) (w : World) (g : Nat) (s : Sl) (a : Nat) (T : TypeId) (z : Nat) (pre post : List Value) (T2 : TypeId) (z2 : Nat) (A2 : Option Addr) (n2 c2 : Nat) (xs2 : List Value)
    (r : Rdr) (L : List Nat) (s' : Sl) (A : Option Addr) (n c : Nat) (xs : List Value) (W : World) : Prop where
  ks : Ks src w g s r L s' W
  ain : a ∈ L
  box : Blk W a 111 (pre ++ .slice A n c :: post).toArray
  own : W.ownsRow w.heap.size T z (.slice A n c) n xs
  inl : ∀ b, A.map (·.block) = some b -> b ∈ L
  own2 : W.ownsRow w.heap.size T2 z2 (.slice A2 n2 c2) n2 xs2
  inl2 : ∀ b, A2.map (·.block) = some b -> b ∈ L
section
variable {src : ByteArray} {w W W1 W2 W3 : World} {g : Nat} {s s' s1 : Sl} {a : Nat} {T : TypeId} {z : Nat} {pre post : List Value} {T2 : TypeId} {z2 : Nat} {A2 : Option Addr} {n2 c2 : Nat} {xs2 : List Value} {r r1 : Rdr} {L : List Nat} {A : Option Addr} {n c : Nat} {xs : List Value}
theorem Rw.step (h : Rw src w g s a T z pre post T2 z2 A2 n2 c2 xs2 r L s' A n c xs W) (h1 : St W1 g src r1 s1) (f : Fr g s' s1 W W1) : Rw src w g s a T z pre post T2 z2 A2 n2 c2 xs2 r1 L s1 A n c xs W1 :=
  ⟨h.ks.step h1 f, h.ain, h.ks.blk h.ain h.box f, h.ks.own h.own h.inl f, h.inl, h.ks.own h.own2 h.inl2 f, h.inl2⟩
theorem Rw.alloc (h : Rw src w g s a T z pre post T2 z2 A2 n2 c2 xs2 r L s' A n c xs W) (o : Obj) : Rw src w g s a T z pre post T2 z2 A2 n2 c2 xs2 r (W.heap.size :: L) { s' with z := zL s (W.heap.size :: L) } A n c xs (W.alloc o) :=
  ⟨h.ks.alloc o, List.mem_cons_of_mem _ h.ain, h.box.alloc o, jX h.own ((Kp.refl NoX W).alloc o) (fun _ _ e => e), fun b e => List.mem_cons_of_mem _ (h.inl b e), jX h.own2 ((Kp.refl NoX W).alloc o) (fun _ _ e => e), fun b e => List.mem_cons_of_mem _ (h.inl2 b e)⟩
structure Off (a : Nat) (A A2 : Option Addr) (L : List Nat) (p : Nat) : Prop where
  inl : p ∈ L
  box : p ≠ a
  own : A.map (·.block) ≠ some p
  own2 : A2.map (·.block) ≠ some p
theorem Rw.off (h : Rw src w g s a T z pre post T2 z2 A2 n2 c2 xs2 r L s' A n c xs W) : Off a A A2 (W.heap.size :: L) W.heap.size :=
  ⟨List.mem_cons_self, fun e => by have := h.box.lt; omega, fun e => by have := (own_ge h.own e).2; omega, fun e => by have := (own_ge h.own2 e).2; omega⟩
theorem Rw.put (h : Rw src w g s a T z pre post T2 z2 A2 n2 c2 xs2 r L s' A n c xs W) {p : Nat} (hp : Off a A A2 L p) (i : Nat) (u : Value) : Rw src w g s a T z pre post T2 z2 A2 n2 c2 xs2 r L s' A n c xs (W.setCell ⟨p, i, none⟩ u) := by
  have hk : Kp (fun k => k = p) W (W.setCell ⟨p, i, none⟩ u) := (Kp.refl (fun k => k = p) W).setCell (p := ⟨p, i, none⟩) (fun _ => rfl) u
  exact ⟨h.ks.put hp.inl i u, h.ain, h.box.kp hk (fun e => hp.box e.symm), jX h.own hk (fun b e e2 => hp.own (by rw [<- jC, e]; exact congrArg some e2)), h.inl, jX h.own2 hk (fun b e e2 => hp.own2 (by rw [<- jC, e]; exact congrArg some e2)), h.inl2⟩
theorem Rw.grow (h : Rw src w g s a T z pre post T2 z2 A2 n2 c2 xs2 r L s' A n c xs W) (hT : T ≠ 111) (hT2 : T2 ≠ T) (hT3 : T2 ≠ 111) (ho : Old W W2) {A' : Option Addr} {c' : Nat} {xs' : List Value} (hg : W2.grownBy W3 (A.map (·.block)))
    (ha : A'.map (·.block) = A.map (·.block) \/ A'.map (·.block) = some W2.heap.size) (hown : W3.ownsRow w.heap.size T z (.slice A' (n + 1) c') (n + 1) xs') :
    Blk W3 a 111 (pre ++ .slice A n c :: post).toArray /\ Rw src w g s a T z pre post T2 z2 A2 n2 c2 xs2 r ((A'.map (·.block)).toList ++ L) { s' with z := zL s ((A'.map (·.block)).toList ++ L) } A' (n + 1) c' xs' (W3.setCell ⟨a, pre.length, none⟩ (.slice A' (n + 1) c')) := by
  have hne : A.map (·.block) ≠ some a := by rw [<- jC]; exact jM h.own h.box hT
  have hk2 : Kp (fun b => A.map (·.block) = some b) W W3 := Kp.grown (ho.mono (fun _ _ e => e.elim)) hg (fun _ e _ => e)
  have hb3 : Blk W3 a 111 (pre ++ .slice A n c :: post).toArray := h.box.kp hk2 hne
  have hk3 : Kp (fun k => k = a) W3 (W3.setCell ⟨a, pre.length, none⟩ (.slice A' (n + 1) c')) := (Kp.refl (fun k => k = a) W3).setCell (p := ⟨a, pre.length, none⟩) (fun _ => rfl) _
  have hb4 := hb3.setL pre.length (.slice A' (n + 1) c')
  rw [List.set_append_right _ _ (Nat.le_refl _), Nat.sub_self, List.set_cons_zero] at hb4
  have hne2 : ∀ k, (Value.slice A2 n2 c2).ownBlock = some k -> (Value.slice A n c).ownBlock ≠ some k := kz h.own2 h.own hT2
  refine ⟨hb3, (h.ks.grow ho h.inl hg ha hown).put (List.mem_append.2 (.inr h.ain)) _ _, List.mem_append.2 (.inr h.ain), hb4, ?_, fun b e => List.mem_append.2 (.inl (Option.mem_toList.2 e)), ?_, fun b e => List.mem_append.2 (.inr (h.inl2 b e))⟩
  · exact jX hown hk3 (fun k e e2 => jM hown hb3 hT (by rw [e]; exact congrArg some e2))
  · refine jX (jX h.own2 hk2 (fun k e e2 => hne2 k e (by rw [jC]; exact e2))) hk3 (fun k e e2 => jM h.own2 h.box hT3 (by rw [e]; exact congrArg some e2))
end
structure Md (src : ByteArray) (w : World) (g : Nat) (s : Sl) (a : Nat) (T : TypeId) (z : Nat) (cs : List Value) (r : Rdr) (L : List Nat) (s' : Sl) (A : Option Addr) (n c : Nat) (xs : List Value) (W : World) : Prop where
  ks : Ks src w g s r L s' W
  ain : a ∈ L
  box : Blk W a 111 cs.toArray
  own : W.ownsRow w.heap.size T z (.slice A n c) n xs
  inl : ∀ b, A.map (·.block) = some b -> b ∈ L
section
variable {src : ByteArray} {w W W1 : World} {g : Nat} {s s' s1 : Sl} {a : Nat} {T : TypeId} {z : Nat} {pre post cs : List Value} {T2 : TypeId} {z2 : Nat} {A2 : Option Addr} {n2 c2 : Nat} {xs2 : List Value} {r r1 : Rdr} {L : List Nat} {A : Option Addr} {n c : Nat} {xs : List Value}
theorem Rw.md (h : Rw src w g s a T z pre post T2 z2 A2 n2 c2 xs2 r L s' A n c xs W) : Md src w g s a T z (pre ++ .slice A n c :: post) r L s' A n c xs W := ⟨h.ks, h.ain, h.box, h.own, h.inl⟩
theorem Md.step (h : Md src w g s a T z cs r L s' A n c xs W) (h1 : St W1 g src r1 s1) (f : Fr g s' s1 W W1) : Md src w g s a T z cs r1 L s1 A n c xs W1 := ⟨h.ks.step h1 f, h.ain, h.ks.blk h.ain h.box f, h.ks.own h.own h.inl f, h.inl⟩
theorem Md.put (h : Md src w g s a T z cs r L s' A n c xs W) (hT : T ≠ 111) (i : Nat) (u : Value) : Md src w g s a T z (cs.set i u) r L s' A n c xs (W.setCell ⟨a, i, none⟩ u) := by
  have hk : Kp (fun k => k = a) W (W.setCell ⟨a, i, none⟩ u) := (Kp.refl (fun k => k = a) W).setCell (p := ⟨a, i, none⟩) (fun _ => rfl) u
  exact ⟨h.ks.put h.ain i u, h.ain, h.box.setL i u, jX h.own hk (fun k e e2 => jM h.own h.box hT (by rw [e]; exact congrArg some e2)), h.inl⟩
theorem Md.rw (h : Md src w g s a T z (pre ++ [.slice none 0 0]) r L s' A n c xs W) (T' : TypeId) (z' : Nat) : Rw src w g s a T' z' pre [] T z A n c xs r L s' none 0 0 [] W :=
  ⟨h.ks, h.ain, h.box, World.ownsRow_nil _ _ _ _, fun b e => by (cases e), h.own, h.inl⟩
end
theorem Rd.row_at (w : World) (t : TypeId) (s n : Nat) (l : List Value) {k : Nat} (hk : k = w.heap.size) (hl : l.length = n * s) : Rd (w.alloc (.cells l.toArray t)) s (some ⟨k, 0, none⟩) n l := hk ▸ Rd.row_new w t s n l hl
theorem one_prm (x : Prm) : ∀ u ∈ prC x, u.oneCell' = true := by
  intro u hu
  simp only [prC, iv, List.mem_cons, List.mem_nil_iff, or_false] at hu
  rcases hu with rfl | rfl | rfl <;> rfl
theorem one_eff (x : Eff) : ∀ u ∈ efC x, u.oneCell' = true := by
  intro u hu
  simp only [efC, iv, List.mem_cons, List.mem_nil_iff, or_false] at hu
  rcases hu with rfl | rfl | rfl <;> rfl
theorem one_stp (x : MSt) : ∀ u ∈ stC x, u.oneCell' = true := by
  intro u hu
  simp only [stC, iv, List.mem_cons, List.mem_nil_iff, or_false] at hu
  rcases hu with rfl | rfl | rfl | rfl | rfl | rfl | rfl | rfl <;> rfl
def PaRel (src : ByteArray) (w : World) (g : Nat) (s : Sl) (a : Nat) (pre : List Value) (pres : List Prm × Rdr) (F n : Nat) (W : World) : Prop :=
  n <= F /\ ∃ ps A c r' s' L, Rw src w g s a 122 3 pre [.string ⟨#[]⟩, .int .i64 0, .int .i64 0, .slice none 0 0] 125 3 none 0 0 [] r' L s' A ps.length c (ps.flatMap prC) W /\ paramsN (sb src) n ps r' = some pres
def EfRel (src : ByteArray) (w : World) (g : Nat) (s : Sl) (a : Nat) (pre : List Value) (f : Nat) (A2 : Option Addr) (c2 : Nat) (ps : List Prm) (eres : List Eff × Rdr) (F n : Nat) (W : World) : Prop :=
  n <= F /\ ∃ es A c r' s' L, Rw src w g s a 125 3 pre [] 122 3 A2 ps.length c2 (ps.flatMap prC) r' L s' A es.length c (es.flatMap efC) W /\ vh (sb src) n es r' = some eres /\ n <= f
theorem step_any (w : World) (g : Nat) (src : ByteArray) (f : Nat) (r r' : Rdr) (s : Sl) (h : St w g src r s) (hk : stepD (sb src) f r = some r') :
    Calls Tryz.prog 140 #[.pointer (some ⟨g, 0, none⟩)] w (Ex w g src s r' (.tuple #[])) := by
  unfold stepD at hk
  obtain ⟨⟨nm, at_, od, r1⟩, hd, hk⟩ := Option.bind_eq_some_iff.1 hk
  obtain ⟨r2, hn1, hk⟩ := Option.bind_eq_some_iff.1 hk
  obtain ⟨pres, hps, hk⟩ := Option.bind_eq_some_iff.1 hk
  obtain ⟨r3, hn2, hk⟩ := Option.bind_eq_some_iff.1 hk
  obtain ⟨⟨inn, ia, r4⟩, hin, hk⟩ := Option.bind_eq_some_iff.1 hk
  obtain ⟨⟨wh, r5⟩, hg1, hk⟩ := Option.bind_eq_some_iff.1 hk
  obtain ⟨r6, hn3, hk⟩ := Option.bind_eq_some_iff.1 hk
  obtain ⟨eres, hes, hk⟩ := Option.bind_eq_some_iff.1 hk
  obtain ⟨r7, hn4, hk⟩ := Option.bind_eq_some_iff.1 hk
  split at hk
  case isFalse => cases hk
  rename_i hlt
  injection hk with hk
  have HZ := jJ0 h.zlt
  have HR' := jJ0 hk
  have HLt := jJ0 hlt
  have D0 := jJ0 hd
  have N1 := jJ0 hn1
  have PS := jJ0 hps
  have N2 := jJ0 hn2
  have I0 := jJ0 hin
  have G1 := jJ0 hg1
  have N3 := jJ0 hn3
  have ES := jJ0 hes
  have N4 := jJ0 hn4
  have K0 := jJ0 ((Ks.start h).alloc (.cells [.string ⟨#[]⟩, .int .i64 0, .int .i64 0, .slice none 0 0, .string ⟨#[]⟩, .int .i64 0, .int .i64 0, .slice none 0 0].toArray 111))
  have B0 := jJ0 (Blk.new w 111 [.string ⟨#[]⟩, .int .i64 0, .int .i64 0, .slice none 0 0, .string ⟨#[]⟩, .int .i64 0, .int .i64 0, .slice none 0 0].toArray)
  obtain ⟨iP, hp, hp0, hp1, hp2⟩ := info_parts Tryz.infoParam
  obtain ⟨iE, he, he0, he1, he2⟩ := info_parts Tryz.infoEffect
  obtain ⟨iS, hi, hz0, hz1, hz2⟩ := info_parts Tryz.infoStep
  clear h hk hlt hd hn1 hps hn2 hin hg1 hn3 hes hn4
  generalize ha : w.heap.size = a at *
  have hm : a ∈ [a] := List.mem_singleton.2 rfl
  go_enter Tryz.func140, Tryz.ntmps140
  go_wp2_with (first | (go_at_call 166; (refine (yC _ g src _ _ _ _ _ _ K0.out.st D0.out).mono ?_; rintro e w1 ⟨rfl, hX⟩; have K1a := jJ0 (K0.out.step hX.1 hX.2); have B1a := jJ0 (K0.out.blk hm B0.out hX.2); clear hX; have b0 := B1a.out.at_ 0 rfl; have z0 := B1a.out.frozen 0; have b1 := B1a.out.at_ 1 rfl; have z1 := B1a.out.frozen 1; have b2 := B1a.out.at_ 2 rfl; have z2 := B1a.out.frozen 2; have K1 := jJ0 (((K1a.out.put hm 0 (.string nm)).put hm 1 (.int .i64 at_)).put hm 2 (.int .i64 od)); have B1 := jJ0 (((B1a.out.setL 0 (.string nm)).setL 1 (.int .i64 at_)).setL 2 (.int .i64 od)); clear K1a B1a; (try unfold iv))) | (go_at_call 135; (refine (jN _ g src _ _ _ K1.out.st N1.out).mono ?_; rintro e w2 ⟨rfl, hX⟩; have K2 := jJ0 (K1.out.step hX.1 hX.2); have B2 := jJ0 (K1.out.blk hm B1.out hX.2); clear hX)) | fail)
  clear K0 B0 K1 B1 b0 b1 b2 z0 z1 z2
  have H1 := jJ0 (show PaRel src w g s a [.string nm, .int .i64 at_, .int .i64 od] pres f f w2 from ⟨Nat.le_refl _, [], none, 0, r2, _, [a], ⟨K2.out, hm, B2.out, World.ownsRow_nil _ _ _ _, fun b e => by (cases e), World.ownsRow_nil _ _ _ _, fun b e => by (cases e)⟩, PS.out⟩)
  clear K2 B2 PS
  go_loopw [] (fun wr => ∃ n, PaRel src w g s a [.string nm, .int .i64 at_, .int .i64 od] pres f n wr) (fun wr => least (fun n => PaRel src w g s a [.string nm, .int .i64 at_, .int .i64 od] pres f n wr))
  case atStart => exact ⟨_, H1.out⟩
  case round =>
    clear H1
    obtain ⟨n, ⟨hn, ps, A, c, rr, s', L, hst, hex⟩, hmin⟩ := yA hrel
    have hc3 := hst.ks.st.box.c3
    have Hst := jJ0 hst
    have Hmin := jJ0 hmin
    cases n with
    | zero => exact absurd hex (by simp [paramsN])
    | succ m =>
      rw [paramsN] at hex
      by_cases ht : rr.t = 7
      · rw [if_pos ht] at hex
        injection hex with hex
        subst hex
        rw [ht] at hc3
        have M0 := jJ0 Hst.out.md
        clear hst hmin hrel Hst Hmin ht
        go_wp2_with (first | (go_at_call 135; first | (refine (jN _ g src _ _ _ M3.out.ks.st N3.out).mono ?_; rintro e w6 ⟨rfl, hX⟩; have M4 := jJ0 (M3.out.step hX.1 hX.2); clear hX) | (refine (jN _ g src _ _ _ M0.out.ks.st N2.out).mono ?_; rintro e w3 ⟨rfl, hX⟩; have M1 := jJ0 (M0.out.step hX.1 hX.2); clear hX)) | (go_at_call 170; refine (in_any _ g src _ _ _ _ _ M1.out.ks.st I0.out).mono ?_; rintro e w4 ⟨rfl, hX⟩; have M2a := jJ0 (M1.out.step hX.1 hX.2); clear hX; have b4 := M2a.out.box.at_ 4 rfl; have z4 := M2a.out.box.frozen 4; have b5 := M2a.out.box.at_ 5 rfl; have z5 := M2a.out.box.frozen 5; have M2 := jJ0 ((M2a.out.put (by decide) 4 (.string inn)).put (by decide) 5 (.int .i64 ia)); clear M2a; unfold iv) | (go_at_call 169; refine (guard32 _ g src f _ _ _ M2.out.ks.st G1.out).mono ?_; rintro e w5 ⟨rfl, s5, hX⟩; have M3a := jJ0 (M2.out.step hX.1 hX.2); clear hX; have b6 := M3a.out.box.at_ 6 rfl; have z6 := M3a.out.box.frozen 6; have M3 := jJ0 (M3a.out.put (by decide) 6 (.int .i64 wh)); clear M3a; unfold iv) | fail)
        clear M0 M1 M2 M3 b4 b5 b6 z4 z5 z6
        have H2 := jJ0 (show EfRel src w g s a [.string nm, .int .i64 at_, .int .i64 od, .slice A ps.length c, .string inn, .int .i64 ia, .int .i64 wh] f A c ps eres f f w6 from ⟨Nat.le_refl _, [], none, 0, r6, s5, L, Md.rw (pre := [.string nm, .int .i64 at_, .int .i64 od, .slice A ps.length c, .string inn, .int .i64 ia, .int .i64 wh]) M4.out 125 3, ES.out, Nat.le_refl _⟩)
        clear M4 ES
        go_loopw [] (fun wr => ∃ n, EfRel src w g s a [.string nm, .int .i64 at_, .int .i64 od, .slice A ps.length c, .string inn, .int .i64 ia, .int .i64 wh] f A c ps eres f n wr) (fun wr => least (fun n => EfRel src w g s a [.string nm, .int .i64 at_, .int .i64 od, .slice A ps.length c, .string inn, .int .i64 ia, .int .i64 wh] f A c ps eres f n wr))
        case atStart => exact ⟨_, H2.out⟩
        case round =>
          clear H2
          obtain ⟨n2, ⟨hn2, es, A2, c2, rr, s', L, hst, hex, hnf⟩, hmin⟩ := yA hrel
          have hc3 := hst.ks.st.box.c3
          have Hst := jJ0 hst
          have Hmin := jJ0 hmin
          cases n2 with
          | zero => exact absurd hex (by simp [vh])
          | succ m2 =>
            rw [vh] at hex
            by_cases ht : rr.t = 5
            · rw [if_pos ht] at hex
              injection hex with hex
              subst hex
              rw [ht] at hc3
              have M0 := jJ0 hst
              clear hst hmin hrel Hst Hmin ht
              go_wp2_with (first | (go_at_call 135; refine (jN _ g src _ _ _ M0.out.ks.st N4.out).mono ?_; rintro e w9 ⟨rfl, hX⟩; have R8 := jJ0 (M0.out.step hX.1 hX.2); clear hX) | fail)
              clear M0
              have HD := jJ0 (R8.out.ks.done (fun b e => by rw [ha]; exact HZ.out b e))
              have HOk := jJ0 (show OkP w9 (AX g { s' with z := s.z }) ⟨⟨nm, at_, od, ps, inn, ia, wh, es⟩, A, c, A2, c2⟩ from by
                have key : ∀ {A0 : Option Addr} {n0 : Nat}, (∀ b, A0.map (·.block) = some b -> b ∈ L) -> Av (AX g { s' with z := s.z }) n0 A0 := fun hi _ ad e hx => by
                  have hb := hi ad.block (by rw [e]; rfl)
                  rcases hx with hx | hx
                  · exact R8.out.ks.st.zno _ hx (R8.out.ks.inz hb)
                  · have h1 := R8.out.ks.new _ hb
                    have h2 := HZ.out _ hx
                    omega
                exact ⟨Rd.of_own R8.out.own2, key R8.out.inl2, Rd.of_own R8.out.own, key R8.out.inl⟩)
              have HX := jJ0 (show Blk w9 a 111 (stC ⟨⟨nm, at_, od, ps, inn, ia, wh, es⟩, A, c, A2, c2⟩).toArray from R8.out.box)
              obtain ⟨ns, pp, hR⟩ := HD.out.1.rows
              have HR := jJ0 hR
              clear hR
              have H63 := jJ0 (show r7.tree.steps.length + 1 <= maxLen by have := HLt.out; unfold maxLen; omega)
              have H47 := jJ0 (show (r7.tree.steps.length + 1) * 112 <= 140737488355328 by have := HLt.out; omega)
              have hc10 : w9.cell? ⟨g, 10, none⟩ = some (.slice s'.pA r7.tree.steps.length s'.pc) := Blk.at_ HD.out.1.box 10 rfl
              have hz10 := HD.out.1.box.z 10
              have hgl := HD.out.1.lt
              have hal := HX.out.lt
              have c0 : w9.cell? ⟨a, 0, none⟩ = some (.string nm) := HX.out.at_ 0 rfl
              have c1 : w9.cell? ⟨a, 1, none⟩ = some (.int .i64 at_) := HX.out.at_ 1 rfl
              have d2 : w9.cell? ⟨a, 2, none⟩ = some (.int .i64 od) := HX.out.at_ 2 rfl
              have c3 : w9.cell? ⟨a, 3, none⟩ = some (.slice A ps.length c) := HX.out.at_ 3 rfl
              have c4 : w9.cell? ⟨a, 4, none⟩ = some (.string inn) := HX.out.at_ 4 rfl
              have c5 : w9.cell? ⟨a, 5, none⟩ = some (.int .i64 ia) := HX.out.at_ 5 rfl
              have c6 : w9.cell? ⟨a, 6, none⟩ = some (.int .i64 wh) := HX.out.at_ 6 rfl
              have c7 : w9.cell? ⟨a, 7, none⟩ = some (.slice A2 es.length c2) := HX.out.at_ 7 rfl
              have HO := jJ0 ((Kp.refl NoX w9).drew.alloc (.cells (stC ⟨⟨nm, at_, od, ps, inn, ia, wh, es⟩, A, c, A2, c2⟩).toArray 111))
              go_region_law ((refine ju _ rfl (.tmp 93) (.tmp 95) 25 rfl 8 111 iS _ 8 112 Tryz.underlying25 hi hz0 hz1 hz2 rfl (by decide) (.slice s'.pA r7.tree.steps.length s'.pc) r7.tree.steps.length (pp.flatMap stC) rfl (jX HR.out.rP HO.out (fun _ _ e => e)) _ 1 1 (stC ⟨⟨nm, at_, od, ps, inn, ia, wh, es⟩, A, c, A2, c2⟩) rfl (Rd.row_new _ _ 8 1 _ rfl) (one_stp _) H63.out H47.out (Nat.le_trans HD.out.1.eight HO.out.size) ?_; intro A9 c9 w10 hown hgrow hat; rw [jC] at hgrow hat; have hb2 := HD.out.1.pastP HR.out HO.out hgrow; have HG := jJ0 (HD.out.1.growP HR.out ⟨⟨nm, at_, od, ps, inn, ia, wh, es⟩, A, c, A2, c2⟩ HOk.out HO.out hgrow hat hown); have hc10 : w10.cell? ⟨g, 10, none⟩ = some (.slice s'.pA r7.tree.steps.length s'.pc) := Blk.at_ hb2 10 rfl; have hz10 := hb2.z 10; clear hown hgrow hat hb2))
              all_goals
                go_wp2
                go_end0
                rw [<- HR'.out]
                exact ⟨rfl, _, HG.out.1, HD.out.2.trans HG.out.2⟩
            · rw [if_neg ht] at hex
              split at hex
              case isFalse => cases hex
              rename_i hl
              obtain ⟨⟨b, q1⟩, hk1, hex⟩ := Option.bind_eq_some_iff.1 hex
              obtain ⟨⟨en, ea, q2⟩, hm2, hex⟩ := Option.bind_eq_some_iff.1 hex
              obtain ⟨⟨wo, q4⟩, hx, hex⟩ := Option.bind_eq_some_iff.1 hex
              obtain ⟨q5, hn5, hex⟩ := Option.bind_eq_some_iff.1 hex
              have S1 := jJ0 hk1
              have M1 := jJ0 hm2
              have X2 := jJ0 hn5
              have EX := jJ0 hex
              have H63 := jJ0 (show es.length + 1 <= maxLen by unfold maxLen; omega)
              have H47 := jJ0 (show (es.length + 1) * 32 <= 140737488355328 by omega)
              have e5 : ((rr.t : Int) != 5) = true := by rw [bne, beq_eq_false_iff_ne.2 (show (rr.t : Int) ≠ 5 by omega)]; rfl
              have OF := jJ0 hst.off
              have R1 := jJ0 (hst.alloc (.cells [.string ⟨#[]⟩, .int .i64 0, .int .i64 (-1)].toArray 125))
              have P1 := jJ0 (Blk.new wr 125 [.string ⟨#[]⟩, .int .i64 0, .int .i64 (-1)].toArray)
              cases b with
              | true =>
                rw [if_pos rfl] at hx
                injection hx with hx
                injection hx with hx1 hx2
                subst hx1 hx2
                clear hst hmin hrel hex hk1 hm2 hn5 ht hl
                go_wp2_with (first | (go_at_call 167; refine (jP _ g src _ _ _ 33 _ R1.out.ks.st S1.out).mono ?_; rintro e w4 ⟨rfl, hX⟩; have R2 := jJ0 (R1.out.step hX.1 hX.2); have P2 := jJ0 (R1.out.ks.blk OF.out.inl P1.out hX.2); clear hX) | (go_at_call 136; refine (vg _ g src _ _ _ _ _ R2.out.ks.st M1.out).mono ?_; rintro e w5 ⟨rfl, hX⟩; have R3a := jJ0 (R2.out.step hX.1 hX.2); have P3a := jJ0 (R2.out.ks.blk OF.out.inl P2.out hX.2); clear hX; have p0 := P3a.out.at_ 0 rfl; have y0 := P3a.out.frozen 0; have p1 := P3a.out.at_ 1 rfl; have y1 := P3a.out.frozen 1; have p2 := P3a.out.at_ 2 (v := .int .i64 (-1)) rfl; have a7 := R3a.out.box.at_ 7 (v := .slice A2 es.length c2) rfl; have R3 := jJ0 ((R3a.out.put OF.out 0 (.string en)).put OF.out 1 (.int .i64 ea)); have P3 := jJ0 ((P3a.out.setL 0 (.string en)).setL 1 (.int .i64 ea)); clear R3a P3a; unfold iv) | (at_builtin; refine jF _ rfl (.tmp 81) (.tmp 83) 109 rfl w.heap.size 125 iE _ 3 32 Tryz.underlying109 he he0 he1 he2 rfl (by decide) (.slice A2 es.length c2) es.length (es.flatMap efC) rfl (jX R3.out.own ((Kp.refl NoX _).alloc _) (fun _ _ e => e)) _ 1 1 (efC ⟨en, ea, -1⟩) rfl (Rd.row_at _ _ 3 1 _ (by simp [World.setCell]) rfl) (one_eff _) H63.out H47.out (Nat.le_trans R3.out.ks.kp.size ((Kp.refl NoX _).alloc _).size) ?_; intro A3 c3 w7 hown hgrow hat; rw [jC] at hgrow hat; have HG := R3.out.grow (by decide) (by decide) (by decide) ((Kp.refl NoX _).alloc _) hgrow hat hown; have a7 := HG.1.at_ 7 (v := .slice A2 es.length c2) rfl; have z7 := HG.1.frozen 7; have RG := jJ0 HG.2; clear hown hgrow hat HG) | (go_at_call 135; (refine (jN _ g src _ _ _ RG.out.ks.st X2.out).mono ?_; rintro e w9 ⟨rfl, hX⟩; have RH := jJ0 (RG.out.step hX.1 hX.2); clear hX)) | fail)
                have HL : EfRel src w g s a [.string nm, .int .i64 at_, .int .i64 od, .slice A ps.length c, .string inn, .int .i64 ia, .int .i64 wh] f A c ps eres f m2 w9 := by
                  have h1 := RH.out
                  rw [show es.flatMap efC ++ efC ⟨en, ea, -1⟩ = (es ++ [(⟨en, ea, (-1)⟩ : Eff)]).flatMap efC by rw [List.flatMap_append, List.flatMap_singleton], show es.length + 1 = (es ++ [(⟨en, ea, (-1)⟩ : Eff)]).length by rw [List.length_append]; rfl] at h1
                  exact ⟨by omega, _, _, _, _, _, _, h1, EX.out, by omega⟩
                exact ⟨⟨m2, HL⟩, by rw [Hmin.out]; exact kX HL (Nat.lt_succ_self m2)⟩
              | false =>
                rw [if_neg (show ¬ (false, q1).1 = true from Bool.false_ne_true)] at hx
                obtain ⟨q3, hn3, hx⟩ := Option.bind_eq_some_iff.1 hx
                obtain ⟨q, hq, e1, e2⟩ := vo hx
                have X1 := jJ0 hn3
                have E1 := jJ0 ((ex_all src m2).ex · g q3 · q · hq)
                rw [e1, e2] at E1
                clear hst hmin hrel hex hk1 hm2 hn5 ht hl hn3 hx hq e1 e2
                go_wp2_with (first | (go_at_call 167; refine (jP _ g src _ _ _ 33 _ R1.out.ks.st S1.out).mono ?_; rintro e w4 ⟨rfl, hX⟩; have R2 := jJ0 (R1.out.step hX.1 hX.2); have P2 := jJ0 (R1.out.ks.blk OF.out.inl P1.out hX.2); clear hX) | (go_at_call 136; refine (vg _ g src _ _ _ _ _ R2.out.ks.st M1.out).mono ?_; rintro e w5 ⟨rfl, hX⟩; have R3a := jJ0 (R2.out.step hX.1 hX.2); have P3a := jJ0 (R2.out.ks.blk OF.out.inl P2.out hX.2); clear hX; have p0 := P3a.out.at_ 0 rfl; have y0 := P3a.out.frozen 0; have p1 := P3a.out.at_ 1 rfl; have y1 := P3a.out.frozen 1; have p2 := P3a.out.at_ 2 (v := .int .i64 (-1)) rfl; have a7 := R3a.out.box.at_ 7 (v := .slice A2 es.length c2) rfl; have R3 := jJ0 ((R3a.out.put OF.out 0 (.string en)).put OF.out 1 (.int .i64 ea)); have P3 := jJ0 ((P3a.out.setL 0 (.string en)).setL 1 (.int .i64 ea)); clear R3a P3a; unfold iv) | (go_at_call 172; refine (E1.out _ _ R4.out.ks.st).mono ?_; rintro e w7 ⟨rfl, s7, hX⟩; have R5a := jJ0 (R4.out.step hX.1 hX.2); have P5a := jJ0 (R4.out.ks.blk OF.out.inl P4.out hX.2); clear hX; have p0 := P5a.out.at_ 0 (v := .string en) rfl; have p1 := P5a.out.at_ 1 (v := .int .i64 ea) rfl; have p2 := P5a.out.at_ 2 rfl; have y2 := P5a.out.frozen 2; have a7 := R5a.out.box.at_ 7 (v := .slice A2 es.length c2) rfl; have R5 := jJ0 (R5a.out.put OF.out 2 (.int .i64 wo)); clear R5a P5a; unfold iv) | (at_builtin; refine jF _ rfl (.tmp 81) (.tmp 83) 109 rfl w.heap.size 125 iE _ 3 32 Tryz.underlying109 he he0 he1 he2 rfl (by decide) (.slice A2 es.length c2) es.length (es.flatMap efC) rfl (jX R5.out.own ((Kp.refl NoX _).alloc _) (fun _ _ e => e)) _ 1 1 (efC ⟨en, ea, wo⟩) rfl (Rd.row_at _ _ 3 1 _ (by simp [World.setCell]) rfl) (one_eff _) H63.out H47.out (Nat.le_trans R5.out.ks.kp.size ((Kp.refl NoX _).alloc _).size) ?_; intro A3 c3 w7 hown hgrow hat; rw [jC] at hgrow hat; have HG := R5.out.grow (by decide) (by decide) (by decide) ((Kp.refl NoX _).alloc _) hgrow hat hown; have a7 := HG.1.at_ 7 (v := .slice A2 es.length c2) rfl; have z7 := HG.1.frozen 7; have RG := jJ0 HG.2; clear hown hgrow hat HG) | (go_at_call 135; first | (refine (jN _ g src _ _ _ RG.out.ks.st X2.out).mono ?_; rintro e w9 ⟨rfl, hX⟩; have RH := jJ0 (RG.out.step hX.1 hX.2); clear hX) | (refine (jN _ g src _ _ _ R3.out.ks.st X1.out).mono ?_; rintro e w6 ⟨rfl, hX⟩; have R4 := jJ0 (R3.out.step hX.1 hX.2); have P4 := jJ0 (R3.out.ks.blk OF.out.inl P3.out hX.2); clear hX)) | fail)
                have HL : EfRel src w g s a [.string nm, .int .i64 at_, .int .i64 od, .slice A ps.length c, .string inn, .int .i64 ia, .int .i64 wh] f A c ps eres f m2 w9 := by
                  have h1 := RH.out
                  rw [show es.flatMap efC ++ efC ⟨en, ea, wo⟩ = (es ++ [(⟨en, ea, wo⟩ : Eff)]).flatMap efC by rw [List.flatMap_append, List.flatMap_singleton], show es.length + 1 = (es ++ [(⟨en, ea, wo⟩ : Eff)]).length by rw [List.length_append]; rfl] at h1
                  exact ⟨by omega, _, _, _, _, _, _, h1, EX.out, by omega⟩
                exact ⟨⟨m2, HL⟩, by rw [Hmin.out]; exact kX HL (Nat.lt_succ_self m2)⟩
      · rw [if_neg ht] at hex
        split at hex
        case isFalse => cases hex
        rename_i hl
        obtain ⟨⟨b, q1⟩, hk1, hex⟩ := Option.bind_eq_some_iff.1 hex
        obtain ⟨⟨pn, pa, q2⟩, hm2, hex⟩ := Option.bind_eq_some_iff.1 hex
        obtain ⟨q3, hn3, hex⟩ := Option.bind_eq_some_iff.1 hex
        obtain ⟨⟨kd, q4⟩, hkd, hex⟩ := Option.bind_eq_some_iff.1 hex
        have S1 := jJ0 hk1
        have M1 := jJ0 hm2
        have X1 := jJ0 hn3
        have KD := jJ0 hkd
        have EX := jJ0 hex
        have H63 := jJ0 (show ps.length + 1 <= maxLen by unfold maxLen; omega)
        have H47 := jJ0 (show (ps.length + 1) * 32 <= 140737488355328 by omega)
        have e7 : ((rr.t : Int) != 7) = true := by rw [bne, beq_eq_false_iff_ne.2 (show (rr.t : Int) ≠ 7 by omega)]; rfl
        clear hst hmin hrel hex hk1 hm2 hn3 hkd ht hl
        go_wp2_with (first | (go_at_call 167; refine (jP _ g src _ _ _ 8 _ Hst.out.ks.st S1.out).mono ?_; rintro e w3 ⟨rfl, hX⟩; have R1 := jJ0 (Hst.out.step hX.1 hX.2); clear hX; have OF := jJ0 R1.out.off; have R2 := jJ0 (R1.out.alloc (.cells [.string ⟨#[]⟩, .int .i64 0, .int .i64 0].toArray 122)); have P2 := jJ0 (Blk.new w3 122 [.string ⟨#[]⟩, .int .i64 0, .int .i64 0].toArray)) | (go_at_call 136; refine (vg _ g src _ _ _ _ _ R2.out.ks.st M1.out).mono ?_; rintro e w4 ⟨rfl, hX⟩; have R3a := jJ0 (R2.out.step hX.1 hX.2); have P3a := jJ0 (R2.out.ks.blk OF.out.inl P2.out hX.2); clear hX; have p0 := P3a.out.at_ 0 rfl; have y0 := P3a.out.frozen 0; have p1 := P3a.out.at_ 1 rfl; have y1 := P3a.out.frozen 1; have R3 := jJ0 ((R3a.out.put OF.out 0 (.string pn)).put OF.out 1 (.int .i64 pa)); have P3 := jJ0 ((P3a.out.setL 0 (.string pn)).setL 1 (.int .i64 pa)); clear R3a P3a; unfold iv) | (go_at_call 135; refine (jN _ g src _ _ _ R3.out.ks.st X1.out).mono ?_; rintro e w5 ⟨rfl, hX⟩; have R4 := jJ0 (R3.out.step hX.1 hX.2); have P4 := jJ0 (R3.out.ks.blk OF.out.inl P3.out hX.2); clear hX) | (go_at_call 168; refine (kind_any _ g src _ _ _ _ R4.out.ks.st KD.out).mono ?_; rintro e w6 ⟨rfl, hX⟩; have R5a := jJ0 (R4.out.step hX.1 hX.2); have P5a := jJ0 (R4.out.ks.blk OF.out.inl P4.out hX.2); clear hX; have p0 := P5a.out.at_ 0 (v := .string pn) rfl; have p1 := P5a.out.at_ 1 (v := .int .i64 pa) rfl; have p2 := P5a.out.at_ 2 rfl; have y2 := P5a.out.frozen 2; have a3 := R5a.out.box.at_ 3 (v := .slice A ps.length c) rfl; have R5 := jJ0 (R5a.out.put OF.out 2 (.int .i64 kd)); clear R5a P5a; unfold iv) | (at_builtin; refine jF _ rfl (.tmp 37) (.tmp 39) 108 rfl w.heap.size 122 iP _ 3 32 Tryz.underlying108 hp hp0 hp1 hp2 rfl (by decide) (.slice A ps.length c) ps.length (ps.flatMap prC) rfl (jX R5.out.own ((Kp.refl NoX _).alloc _) (fun _ _ e => e)) _ 1 1 (prC ⟨pn, pa, kd⟩) rfl (Rd.row_at _ _ 3 1 _ (by simp [World.setCell]) rfl) (one_prm _) H63.out H47.out (Nat.le_trans R5.out.ks.kp.size ((Kp.refl NoX _).alloc _).size) ?_; intro A1 c1 w7 hown hgrow hat; rw [jC] at hgrow hat; have HG := R5.out.grow (by decide) (by decide) (by decide) ((Kp.refl NoX _).alloc _) hgrow hat hown; have a3 := HG.1.at_ 3 (v := .slice A ps.length c) rfl; have z3 := HG.1.frozen 3; have RG := jJ0 HG.2; clear hown hgrow hat HG) | fail)
        have HL : PaRel src w g s a [.string nm, .int .i64 at_, .int .i64 od] pres f m (w7.setCell ⟨a, 3, none⟩ (.slice A1 (ps.length + 1) c1)) := by
          have h1 := RG.out
          rw [show ps.flatMap prC ++ prC ⟨pn, pa, kd⟩ = (ps ++ [(⟨pn, pa, kd⟩ : Prm)]).flatMap prC by rw [List.flatMap_append, List.flatMap_singleton], show ps.length + 1 = (ps ++ [(⟨pn, pa, kd⟩ : Prm)]).length by rw [List.length_append]; rfl] at h1
          rw [show ps.length + 1 = (ps ++ [(⟨pn, pa, kd⟩ : Prm)]).length by rw [List.length_append]; rfl]
          exact ⟨by omega, _, _, _, _, _, _, h1, EX.out⟩
        exact ⟨⟨m, HL⟩, by rw [Hmin.out]; exact kX HL (Nat.lt_succ_self m)⟩
end Go.Proofs.YtmmjcbbogokmfaaGreatDoor
