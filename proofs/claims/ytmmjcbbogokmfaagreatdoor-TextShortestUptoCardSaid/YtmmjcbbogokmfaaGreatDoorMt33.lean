import Derived.Test.YtmmjcbbogokmfaaGreatDoorMt01
import Derived.Test.YtmmjcbbogokmfaaGreatDoorMt27
import Derived.Test.YtmmjcbbogokmfaaGreatDoorMt32
set_option maxRecDepth 100000
set_option maxHeartbeats 25600000
namespace Go.Proofs.YtmmjcbbogokmfaaGreatDoor
open Go.RowKit
def zL (s : Sl) (L : List Nat) : Nat -> Prop := fun b => s.z b \/ b ∈ L
structure Ks (src : ByteArray) (w : World) (g : Nat) (s : Sl) (r : Rdr) (L : List Nat) (s' : Sl) (W : World) : Prop where
  st : St W g src r s'
  z : s'.z = zL s L
  new : ∀ b ∈ L, w.heap.size <= b
  kp : Kp (OX g s) w W
  ox : ∀ b, b < w.heap.size -> OX g s' b -> OX g s b
section
variable {src : ByteArray} {w W W1 W2 W3 : World} {g : Nat} {s s' s1 : Sl} {r r1 : Rdr} {L : List Nat}
theorem Ks.start (h : St w g src r s) : Ks src w g s r [] { s with z := zL s [] } w :=
  ⟨h.zgrow (Kp.refl NoX w) (fun _ e => e.elim) _ (fun b hb => hb.elim (fun e => ⟨.inl e, h.zlt b e⟩) (fun e => by cases e)), rfl, fun _ e => by (cases e), Kp.refl _ _, fun _ _ e => e⟩
theorem Ks.old (h : Ks src w g s r L s' W) (ho : Old W W1) : Ks src w g s r L s' W1 := ⟨h.st.old ho, h.z, h.new, h.kp.old ho, h.ox⟩
theorem Ks.inz (h : Ks src w g s r L s' W) {b : Nat} (hb : b ∈ L) : s'.z b := by rw [h.z]; exact .inr hb
theorem Ks.alloc (h : Ks src w g s r L s' W) (o : Obj) : Ks src w g s r (W.heap.size :: L) { s' with z := zL s (W.heap.size :: L) } (W.alloc o) := by
  have ho := (Kp.refl NoX W).alloc o
  have hsz : (W.alloc o).heap.size = W.heap.size + 1 := by simp
  refine ⟨h.st.zgrow ho (fun _ e => e.elim) _ (fun b hb => ?_), rfl, fun b hb => ?_, h.kp.old ho, h.ox⟩
  · have key : s'.z b \/ b = W.heap.size := by
      rcases hb with e | e
      · left; rw [h.z]; exact .inl e
      · rcases List.mem_cons.1 e with e | e
        · exact .inr e
        · exact .inl (h.inz e)
    rcases key with e | e
    · exact ⟨.inl e, by have := h.st.zlt b e; omega⟩
    · exact ⟨.inr (by omega), by omega⟩
  · rcases List.mem_cons.1 hb with e | e
    · rw [e]; exact h.kp.size
    · exact h.new b e
theorem Ks.put (h : Ks src w g s r L s' W) {b : Nat} (hb : b ∈ L) (i : Nat) (u : Value) : Ks src w g s r L s' (W.setCell ⟨b, i, none⟩ u) := by
  have hk : Kp (fun k => k = b) W (W.setCell ⟨b, i, none⟩ u) := (Kp.refl (fun k => k = b) W).setCell (p := ⟨b, i, none⟩) (fun _ => rfl) u
  exact ⟨h.st.zgrow hk (fun k e => by rw [e]; exact h.inz hb) s'.z (fun k e => ⟨.inl e, Nat.lt_of_lt_of_le (h.st.zlt k e) hk.size⟩), h.z, h.new, h.kp.trans hk (fun k hk' e => by have := h.new b hb; omega), h.ox⟩
theorem Ks.step (h : Ks src w g s r L s' W) (h1 : St W1 g src r1 s1) (f : Fr g s' s1 W W1) : Ks src w g s r1 L s1 W1 :=
  ⟨h1, f.z.trans h.z, h.new, h.kp.trans f.kp h.ox, fun b hb e => h.ox b hb (f.own b (Nat.lt_of_lt_of_le hb h.kp.size) e)⟩
theorem Ks.blk (h : Ks src w g s r L s' W) {b : Nat} (hb : b ∈ L) {T : TypeId} {cs : Array Value} (hB : Blk W b T cs) (f : Fr g s' s1 W W1) : Blk W1 b T cs := hB.kp f.kp (fun hx => h.st.zno b hx (h.inz hb))
theorem Ks.own (h : Ks src w g s r L s' W) {base : Nat} {e : TypeId} {z : Nat} {A : Option Addr} {c n : Nat} {xs : List Value} (ho : W.ownsRow base e z (.slice A n c) n xs) (hA : ∀ b, A.map (·.block) = some b -> b ∈ L) (f : Fr g s' s1 W W1) : W1.ownsRow base e z (.slice A n c) n xs :=
  jX ho f.kp (fun b e hx => h.st.zno b hx (h.inz (hA b (by rw [<- jC]; exact e))))
theorem Ks.grow (h : Ks src w g s r L s' W) (ho : Old W W2) {A A' : Option Addr} (hA : ∀ b, A.map (·.block) = some b -> b ∈ L) (hg : W2.grownBy W3 (A.map (·.block))) (ha : A'.map (·.block) = A.map (·.block) \/ A'.map (·.block) = some W2.heap.size)
    {base : Nat} {e : TypeId} {z c n : Nat} {xs : List Value} (hown : W3.ownsRow base e z (.slice A' n c) n xs) : Ks src w g s r ((A'.map (·.block)).toList ++ L) { s' with z := zL s ((A'.map (·.block)).toList ++ L) } W3 := by
  have hk2 : Kp (fun b => A.map (·.block) = some b) W W3 := Kp.grown (ho.mono (fun _ _ e => e.elim)) hg (fun _ e _ => e)
  have key : ∀ b, A'.map (·.block) = some b -> b ∈ L \/ W2.heap.size = b := fun b e => by
    rcases ha with ha | ha
    · exact .inl (hA b (by rw [<- ha]; exact e))
    · rw [ha] at e; injection e with e; exact .inr e
  refine ⟨h.st.zgrow hk2 (fun b e => h.inz (hA b e)) _ (fun b hb => ?_), rfl, fun b hb => ?_, h.kp.trans hk2 (fun b hb e => by have := h.new b (hA b e); omega), h.ox⟩
  · rcases hb with e | e
    · have e2 : s'.z b := by rw [h.z]; exact .inl e
      exact ⟨.inl e2, Nat.lt_of_lt_of_le (h.st.zlt b e2) hk2.size⟩
    · rcases List.mem_append.1 e with e | e
      · have e := Option.mem_toList.1 e
        refine ⟨?_, (own_ge hown e).2⟩
        rcases key b e with e2 | e2
        · exact .inl (h.inz e2)
        · right; rw [<- e2]; exact ho.size
      · exact ⟨.inl (h.inz e), Nat.lt_of_lt_of_le (h.st.zlt b (h.inz e)) hk2.size⟩
  · rcases List.mem_append.1 hb with e | e
    · have e := Option.mem_toList.1 e
      rcases key b e with e2 | e2
      · exact h.new b e2
      · rw [<- e2]; exact Nat.le_trans h.kp.size ho.size
    · exact h.new b e
theorem Ks.done (h : Ks src w g s r L s' W) (h0 : ∀ b, s.z b -> b < w.heap.size) : St W g src r { s' with z := s.z } /\ Fr g s { s' with z := s.z } w W :=
  ⟨h.st.zgrow (Kp.refl NoX W) (fun _ e => e.elim) _ (fun b e => ⟨.inl (by rw [h.z]; exact .inl e), Nat.lt_of_lt_of_le (h0 b e) h.kp.size⟩), ⟨h.kp, h.ox, rfl⟩⟩
end
theorem vo {src : List UInt8} {f : Nat} {r : Rdr} {k : Int × Rdr} (h : exprN src f r = some k) : ∃ q, exN src f .expr r = some q /\ q.1 = k.1 /\ q.2.2 = k.2 := by
  obtain ⟨q, hq, e⟩ := Option.map_eq_some_iff.1 h
  exact ⟨q, hq, by rw [<- e], by rw [<- e]⟩
theorem guard12 (w : World) (g : Nat) (src : ByteArray) (f : Nat) (r : Rdr) (s : Sl) (k : Int × Rdr) (h : St w g src r s) (hk : vE (sb src) f 12 r = some k) :
    Calls Tryz.prog 169 #[.pointer (some ⟨g, 0, none⟩), .int .u8 12] w (Ex w g src s k.2 (iv k.1)) := by
  have HS := jJ0 h
  unfold vE at hk
  by_cases ht : r.t = 12
  · rw [if_neg (fun e => e ht)] at hk
    obtain ⟨r1, hn1, hk⟩ := Option.bind_eq_some_iff.1 hk
    rw [if_pos (by decide)] at hk
    obtain ⟨q, hq, e1, e2⟩ := vo hk
    have K1 := jJ0 (show jW (sb src) 12 r = some (true, r1) by rw [jW, if_pos ht, hn1]; rfl)
    have E1 := jJ0 ((ex_all src f).ex · g r1 · q · hq)
    rw [e1, e2] at E1
    clear h hn1 hk hq e1 e2 ht
    go_enter Tryz.func169, Tryz.ntmps169
    go_wp2_with (first | (go_at_call 167; refine (jP _ g src _ _ s 12 _ HS.out K1.out).mono ?_; rintro e w1 ⟨rfl, hX⟩; have H1 := jJ0 hX; clear hX) | (go_at_call 172; refine (E1.out _ _ H1.out.1).mono ?_; rintro e w2 ⟨rfl, s2, hX⟩; have H2 := jJ0 hX; clear hX; unfold iv) | fail)
    go_ret
    exact ⟨rfl, s2, H2.out.1, H1.out.2.trans H2.out.2⟩
  · rw [if_pos ht] at hk
    injection hk with hk
    subst hk
    have K1 := jJ0 (show jW (sb src) 12 r = some (false, r) by rw [jW, if_neg ht])
    clear h ht
    go_enter Tryz.func169, Tryz.ntmps169
    go_wp2_with (first | (go_at_call 167; refine (jP _ g src _ _ s 12 _ HS.out K1.out).mono ?_; rintro e w1 ⟨rfl, hX⟩; have H1 := jJ0 hX; clear hX) | fail)
    go_ret
    exact ⟨rfl, s, H1.out⟩
theorem guard32 (w : World) (g : Nat) (src : ByteArray) (f : Nat) (r : Rdr) (s : Sl) (k : Int × Rdr) (h : St w g src r s) (hk : vE (sb src) f 32 r = some k) :
    Calls Tryz.prog 169 #[.pointer (some ⟨g, 0, none⟩), .int .u8 32] w (Ex w g src s k.2 (iv k.1)) := by
  have HS := jJ0 h
  unfold vE at hk
  by_cases ht : r.t = 32
  · rw [if_neg (fun e => e ht)] at hk
    obtain ⟨r1, hn1, hk⟩ := Option.bind_eq_some_iff.1 hk
    rw [if_pos (by decide)] at hk
    obtain ⟨q, hq, e1, e2⟩ := vo hk
    have K1 := jJ0 (show jW (sb src) 32 r = some (true, r1) by rw [jW, if_pos ht, hn1]; rfl)
    have E1 := jJ0 ((ex_all src f).ex · g r1 · q · hq)
    rw [e1, e2] at E1
    clear h hn1 hk hq e1 e2 ht
    go_enter Tryz.func169, Tryz.ntmps169
    go_wp2_with (first | (go_at_call 167; refine (jP _ g src _ _ s 32 _ HS.out K1.out).mono ?_; rintro e w1 ⟨rfl, hX⟩; have H1 := jJ0 hX; clear hX) | (go_at_call 172; refine (E1.out _ _ H1.out.1).mono ?_; rintro e w2 ⟨rfl, s2, hX⟩; have H2 := jJ0 hX; clear hX; unfold iv) | fail)
    go_ret
    exact ⟨rfl, s2, H2.out.1, H1.out.2.trans H2.out.2⟩
  · rw [if_pos ht] at hk
    injection hk with hk
    subst hk
    have K1 := jJ0 (show jW (sb src) 32 r = some (false, r) by rw [jW, if_neg ht])
    clear h ht
    go_enter Tryz.func169, Tryz.ntmps169
    go_wp2_with (first | (go_at_call 167; refine (jP _ g src _ _ s 32 _ HS.out K1.out).mono ?_; rintro e w1 ⟨rfl, hX⟩; have H1 := jJ0 hX; clear hX) | fail)
    go_ret
    exact ⟨rfl, s, H1.out⟩
theorem guard29 (w : World) (g : Nat) (src : ByteArray) (f : Nat) (r : Rdr) (s : Sl) (k : Int × Rdr) (h : St w g src r s) (hk : vE (sb src) f 29 r = some k) :
    Calls Tryz.prog 169 #[.pointer (some ⟨g, 0, none⟩), .int .u8 29] w (Ex w g src s k.2 (iv k.1)) := by
  have HS := jJ0 h
  unfold vE at hk
  by_cases ht : r.t = 29
  · rw [if_neg (fun e => e ht)] at hk
    obtain ⟨r1, hn1, hk⟩ := Option.bind_eq_some_iff.1 hk
    rw [if_neg (by decide)] at hk
    obtain ⟨r2, hn2, hk⟩ := Option.bind_eq_some_iff.1 hk
    obtain ⟨q, hq, e1, e2⟩ := vo hk
    have K1 := jJ0 (show jW (sb src) 29 r = some (true, r1) by rw [jW, if_pos ht, hn1]; rfl)
    have N2 := jJ0 hn2
    have E1 := jJ0 ((ex_all src f).ex · g r2 · q · hq)
    rw [e1, e2] at E1
    clear h hn1 hn2 hk hq e1 e2 ht
    go_enter Tryz.func169, Tryz.ntmps169
    go_wp2_with (first | (go_at_call 167; refine (jP _ g src _ _ s 29 _ HS.out K1.out).mono ?_; rintro e w1 ⟨rfl, hX⟩; have H1 := jJ0 hX; clear hX) | (go_at_call 135; refine (jN _ g src _ _ s H1.out.1 N2.out).mono ?_; rintro e w2 ⟨rfl, hX⟩; have H2 := jJ0 hX; clear hX) | (go_at_call 172; refine (E1.out _ _ H2.out.1).mono ?_; rintro e w3 ⟨rfl, s3, hX⟩; have H3 := jJ0 hX; clear hX; unfold iv) | fail)
    go_ret
    exact ⟨rfl, s3, H3.out.1, (H1.out.2.trans H2.out.2).trans H3.out.2⟩
  · rw [if_pos ht] at hk
    injection hk with hk
    subst hk
    have K1 := jJ0 (show jW (sb src) 29 r = some (false, r) by rw [jW, if_neg ht])
    clear h ht
    go_enter Tryz.func169, Tryz.ntmps169
    go_wp2_with (first | (go_at_call 167; refine (jP _ g src _ _ s 29 _ HS.out K1.out).mono ?_; rintro e w1 ⟨rfl, hX⟩; have H1 := jJ0 hX; clear hX) | fail)
    go_ret
    exact ⟨rfl, s, H1.out⟩
theorem ruled29 (w : World) (g : Nat) (src : ByteArray) (f : Nat) (r : Rdr) (s : Sl) (k : Int × Rdr) (h : St w g src r s) (hk : yL (sb src) f 29 r = some k) :
    Calls Tryz.prog 171 #[.pointer (some ⟨g, 0, none⟩), .int .u8 29] w (Ex w g src s k.2 (iv k.1)) := by
  have HS := jJ0 h
  unfold yL at hk
  obtain ⟨q, hq, hk⟩ := Option.bind_eq_some_iff.1 hk
  have G1 := jJ0 (guard29 w g src f r s q h hq)
  by_cases h0 : 0 <= q.1
  · rw [if_pos h0] at hk
    obtain ⟨r1, hn1, hk⟩ := Option.bind_eq_some_iff.1 hk
    injection hk with hk
    subst hk
    have N1 := jJ0 hn1
    have f1 : (0 : Int) <= q.1 := h0
    clear h hq hn1 h0
    go_enter Tryz.func171, Tryz.ntmps171
    go_wp2_with (first | (go_at_call 169; refine G1.out.mono ?_; rintro e w1 ⟨rfl, s1, hX⟩; have H1 := jJ0 hX; clear hX; unfold iv) | (go_at_call 135; refine (jN _ g src _ _ _ H1.out.1 N1.out).mono ?_; rintro e w2 ⟨rfl, hX⟩; have H2 := jJ0 hX; clear hX) | fail)
    go_ret
    exact ⟨rfl, s1, H2.out.1, H1.out.2.trans H2.out.2⟩
  · rw [if_neg h0] at hk
    injection hk with hk
    subst hk
    clear h hq
    go_enter Tryz.func171, Tryz.ntmps171
    go_wp2_with (first | (go_at_call 169; refine G1.out.mono ?_; rintro e w1 ⟨rfl, s1, hX⟩; have H1 := jJ0 hX; clear hX; unfold iv) | fail)
    go_ret
    exact ⟨rfl, s1, H1.out⟩
theorem guard30 (w : World) (g : Nat) (src : ByteArray) (f : Nat) (r : Rdr) (s : Sl) (k : Int × Rdr) (h : St w g src r s) (hk : vE (sb src) f 30 r = some k) :
    Calls Tryz.prog 169 #[.pointer (some ⟨g, 0, none⟩), .int .u8 30] w (Ex w g src s k.2 (iv k.1)) := by
  have HS := jJ0 h
  unfold vE at hk
  by_cases ht : r.t = 30
  · rw [if_neg (fun e => e ht)] at hk
    obtain ⟨r1, hn1, hk⟩ := Option.bind_eq_some_iff.1 hk
    rw [if_neg (by decide)] at hk
    obtain ⟨r2, hn2, hk⟩ := Option.bind_eq_some_iff.1 hk
    obtain ⟨q, hq, e1, e2⟩ := vo hk
    have K1 := jJ0 (show jW (sb src) 30 r = some (true, r1) by rw [jW, if_pos ht, hn1]; rfl)
    have N2 := jJ0 hn2
    have E1 := jJ0 ((ex_all src f).ex · g r2 · q · hq)
    rw [e1, e2] at E1
    clear h hn1 hn2 hk hq e1 e2 ht
    go_enter Tryz.func169, Tryz.ntmps169
    go_wp2_with (first | (go_at_call 167; refine (jP _ g src _ _ s 30 _ HS.out K1.out).mono ?_; rintro e w1 ⟨rfl, hX⟩; have H1 := jJ0 hX; clear hX) | (go_at_call 135; refine (jN _ g src _ _ s H1.out.1 N2.out).mono ?_; rintro e w2 ⟨rfl, hX⟩; have H2 := jJ0 hX; clear hX) | (go_at_call 172; refine (E1.out _ _ H2.out.1).mono ?_; rintro e w3 ⟨rfl, s3, hX⟩; have H3 := jJ0 hX; clear hX; unfold iv) | fail)
    go_ret
    exact ⟨rfl, s3, H3.out.1, (H1.out.2.trans H2.out.2).trans H3.out.2⟩
  · rw [if_pos ht] at hk
    injection hk with hk
    subst hk
    have K1 := jJ0 (show jW (sb src) 30 r = some (false, r) by rw [jW, if_neg ht])
    clear h ht
    go_enter Tryz.func169, Tryz.ntmps169
    go_wp2_with (first | (go_at_call 167; refine (jP _ g src _ _ s 30 _ HS.out K1.out).mono ?_; rintro e w1 ⟨rfl, hX⟩; have H1 := jJ0 hX; clear hX) | fail)
    go_ret
    exact ⟨rfl, s, H1.out⟩
theorem ruled30 (w : World) (g : Nat) (src : ByteArray) (f : Nat) (r : Rdr) (s : Sl) (k : Int × Rdr) (h : St w g src r s) (hk : yL (sb src) f 30 r = some k) :
    Calls Tryz.prog 171 #[.pointer (some ⟨g, 0, none⟩), .int .u8 30] w (Ex w g src s k.2 (iv k.1)) := by
  have HS := jJ0 h
  unfold yL at hk
  obtain ⟨q, hq, hk⟩ := Option.bind_eq_some_iff.1 hk
  have G1 := jJ0 (guard30 w g src f r s q h hq)
  by_cases h0 : 0 <= q.1
  · rw [if_pos h0] at hk
    obtain ⟨r1, hn1, hk⟩ := Option.bind_eq_some_iff.1 hk
    injection hk with hk
    subst hk
    have N1 := jJ0 hn1
    have f1 : (0 : Int) <= q.1 := h0
    clear h hq hn1 h0
    go_enter Tryz.func171, Tryz.ntmps171
    go_wp2_with (first | (go_at_call 169; refine G1.out.mono ?_; rintro e w1 ⟨rfl, s1, hX⟩; have H1 := jJ0 hX; clear hX; unfold iv) | (go_at_call 135; refine (jN _ g src _ _ _ H1.out.1 N1.out).mono ?_; rintro e w2 ⟨rfl, hX⟩; have H2 := jJ0 hX; clear hX) | fail)
    go_ret
    exact ⟨rfl, s1, H2.out.1, H1.out.2.trans H2.out.2⟩
  · rw [if_neg h0] at hk
    injection hk with hk
    subst hk
    clear h hq
    go_enter Tryz.func171, Tryz.ntmps171
    go_wp2_with (first | (go_at_call 169; refine G1.out.mono ?_; rintro e w1 ⟨rfl, s1, hX⟩; have H1 := jJ0 hX; clear hX; unfold iv) | fail)
    go_ret
    exact ⟨rfl, s1, H1.out⟩
theorem guard31 (w : World) (g : Nat) (src : ByteArray) (f : Nat) (r : Rdr) (s : Sl) (k : Int × Rdr) (h : St w g src r s) (hk : vE (sb src) f 31 r = some k) :
    Calls Tryz.prog 169 #[.pointer (some ⟨g, 0, none⟩), .int .u8 31] w (Ex w g src s k.2 (iv k.1)) := by
  have HS := jJ0 h
  unfold vE at hk
  by_cases ht : r.t = 31
  · rw [if_neg (fun e => e ht)] at hk
    obtain ⟨r1, hn1, hk⟩ := Option.bind_eq_some_iff.1 hk
    rw [if_neg (by decide)] at hk
    obtain ⟨r2, hn2, hk⟩ := Option.bind_eq_some_iff.1 hk
    obtain ⟨q, hq, e1, e2⟩ := vo hk
    have K1 := jJ0 (show jW (sb src) 31 r = some (true, r1) by rw [jW, if_pos ht, hn1]; rfl)
    have N2 := jJ0 hn2
    have E1 := jJ0 ((ex_all src f).ex · g r2 · q · hq)
    rw [e1, e2] at E1
    clear h hn1 hn2 hk hq e1 e2 ht
    go_enter Tryz.func169, Tryz.ntmps169
    go_wp2_with (first | (go_at_call 167; refine (jP _ g src _ _ s 31 _ HS.out K1.out).mono ?_; rintro e w1 ⟨rfl, hX⟩; have H1 := jJ0 hX; clear hX) | (go_at_call 135; refine (jN _ g src _ _ s H1.out.1 N2.out).mono ?_; rintro e w2 ⟨rfl, hX⟩; have H2 := jJ0 hX; clear hX) | (go_at_call 172; refine (E1.out _ _ H2.out.1).mono ?_; rintro e w3 ⟨rfl, s3, hX⟩; have H3 := jJ0 hX; clear hX; unfold iv) | fail)
    go_ret
    exact ⟨rfl, s3, H3.out.1, (H1.out.2.trans H2.out.2).trans H3.out.2⟩
  · rw [if_pos ht] at hk
    injection hk with hk
    subst hk
    have K1 := jJ0 (show jW (sb src) 31 r = some (false, r) by rw [jW, if_neg ht])
    clear h ht
    go_enter Tryz.func169, Tryz.ntmps169
    go_wp2_with (first | (go_at_call 167; refine (jP _ g src _ _ s 31 _ HS.out K1.out).mono ?_; rintro e w1 ⟨rfl, hX⟩; have H1 := jJ0 hX; clear hX) | fail)
    go_ret
    exact ⟨rfl, s, H1.out⟩
theorem ruled31 (w : World) (g : Nat) (src : ByteArray) (f : Nat) (r : Rdr) (s : Sl) (k : Int × Rdr) (h : St w g src r s) (hk : yL (sb src) f 31 r = some k) :
    Calls Tryz.prog 171 #[.pointer (some ⟨g, 0, none⟩), .int .u8 31] w (Ex w g src s k.2 (iv k.1)) := by
  have HS := jJ0 h
  unfold yL at hk
  obtain ⟨q, hq, hk⟩ := Option.bind_eq_some_iff.1 hk
  have G1 := jJ0 (guard31 w g src f r s q h hq)
  by_cases h0 : 0 <= q.1
  · rw [if_pos h0] at hk
    obtain ⟨r1, hn1, hk⟩ := Option.bind_eq_some_iff.1 hk
    injection hk with hk
    subst hk
    have N1 := jJ0 hn1
    have f1 : (0 : Int) <= q.1 := h0
    clear h hq hn1 h0
    go_enter Tryz.func171, Tryz.ntmps171
    go_wp2_with (first | (go_at_call 169; refine G1.out.mono ?_; rintro e w1 ⟨rfl, s1, hX⟩; have H1 := jJ0 hX; clear hX; unfold iv) | (go_at_call 135; refine (jN _ g src _ _ _ H1.out.1 N1.out).mono ?_; rintro e w2 ⟨rfl, hX⟩; have H2 := jJ0 hX; clear hX) | fail)
    go_ret
    exact ⟨rfl, s1, H2.out.1, H1.out.2.trans H2.out.2⟩
  · rw [if_neg h0] at hk
    injection hk with hk
    subst hk
    clear h hq
    go_enter Tryz.func171, Tryz.ntmps171
    go_wp2_with (first | (go_at_call 169; refine G1.out.mono ?_; rintro e w1 ⟨rfl, s1, hX⟩; have H1 := jJ0 hX; clear hX; unfold iv) | fail)
    go_ret
    exact ⟨rfl, s1, H1.out⟩
theorem Blk.setL {w : World} {g : Nat} {t : TypeId} {cs : List Value} (h : Blk w g t cs.toArray) (i : Nat) (u : Value) : Blk (w.setCell ⟨g, i, none⟩ u) g t (cs.set i u).toArray := by
  have := h.set_ i u
  rwa [List.setIfInBounds_toArray] at this
theorem one_attr (x : Atr) : ∀ u ∈ atC x, u.oneCell' = true := by
  intro u hu
  simp only [atC, iv, List.mem_cons, List.mem_nil_iff, or_false] at hu
  rcases hu with rfl | rfl | rfl | rfl | rfl | rfl | rfl <;> rfl
theorem attribute_any (w : World) (g : Nat) (src : ByteArray) (f : Nat) (r r' : Rdr) (s : Sl) (h : St w g src r s) (hk : attrN (sb src) f r = some r') :
    Calls Tryz.prog 137 #[.pointer (some ⟨g, 0, none⟩)] w (Ex w g src s r' (.tuple #[])) := by
  unfold attrN at hk
  obtain ⟨⟨nm, at_, od, r1⟩, hd, hk⟩ := Option.bind_eq_some_iff.1 hk
  obtain ⟨r2, hn1, hk⟩ := Option.bind_eq_some_iff.1 hk
  obtain ⟨⟨opt, r3⟩, ho, hk⟩ := Option.bind_eq_some_iff.1 hk
  obtain ⟨⟨kd, r4⟩, hkd, hk⟩ := Option.bind_eq_some_iff.1 hk
  obtain ⟨⟨df, r5⟩, hg1, hk⟩ := Option.bind_eq_some_iff.1 hk
  obtain ⟨⟨wh, r6⟩, hg2, hk⟩ := Option.bind_eq_some_iff.1 hk
  obtain ⟨r7, hn2, hk⟩ := Option.bind_eq_some_iff.1 hk
  split at hk
  case isFalse => cases hk
  rename_i hlt
  injection hk with hk
  have HZ := jJ0 h.zlt
  have HR' := jJ0 hk
  have HLt := jJ0 hlt
  have D0 := jJ0 hd
  have N1 := jJ0 hn1
  have O1 := jJ0 ho
  have KD := jJ0 hkd
  have G1 := jJ0 hg1
  have G2 := jJ0 hg2
  have N2 := jJ0 hn2
  have HA := jJ0 ((Ks.start h).alloc (.cells [.string ⟨#[]⟩, iv 0, iv 0, iv 0, .bool false, iv 0, iv 0].toArray 114))
  have BA := jJ0 (Blk.new w 114 [.string ⟨#[]⟩, iv 0, iv 0, iv 0, .bool false, iv 0, iv 0].toArray)
  clear h hk hlt hd hn1 ho hkd hg1 hg2 hn2
  generalize ha : w.heap.size = a at *
  have hm : a ∈ [a] := List.mem_singleton.2 rfl
  go_enter Tryz.func137, Tryz.ntmps137
  go_wp2_with (first | (go_at_call 166; refine (yC _ g src _ _ _ _ _ _ HA.out.st D0.out).mono ?_; rintro e w1 ⟨rfl, hX⟩; have K1 := jJ0 (HA.out.step hX.1 hX.2); have B1 := jJ0 (HA.out.blk hm BA.out hX.2); clear hX; have b0 := B1.out.at_ 0 rfl; have z0 := B1.out.frozen 0; have b1 := B1.out.at_ 1 rfl; have z1 := B1.out.frozen 1; have b2 := B1.out.at_ 2 rfl; have z2 := B1.out.frozen 2; have K2 := jJ0 (((K1.out.put hm 0 (.string nm)).put hm 1 (iv at_)).put hm 2 (iv od)); have B2 := jJ0 (((B1.out.setL 0 (.string nm)).setL 1 (iv at_)).setL 2 (iv od)); unfold iv at K2 B2; unfold iv) | (go_at_call 135; first | (refine (jN _ g src _ _ _ K7.out.st N2.out).mono ?_; rintro e w8 ⟨rfl, hX⟩; have K8 := jJ0 (K7.out.step hX.1 hX.2); have B8 := jJ0 (K7.out.blk hm B7.out hX.2); clear hX) | (refine (jN _ g src _ _ _ K2.out.st N1.out).mono ?_; rintro e w3 ⟨rfl, hX⟩; have K3 := jJ0 (K2.out.step hX.1 hX.2); have B3 := jJ0 (K2.out.blk hm B2.out hX.2); clear hX)) | (go_at_call 167; refine (jP _ g src _ _ _ 39 _ K3.out.st O1.out).mono ?_; rintro e w4 ⟨rfl, hX⟩; have K4a := jJ0 (K3.out.step hX.1 hX.2); have B4a := jJ0 (K3.out.blk hm B3.out hX.2); clear hX; have b4 := B4a.out.at_ 4 rfl; have z4 := B4a.out.frozen 4; have K4 := jJ0 (K4a.out.put hm 4 (.bool opt)); have B4 := jJ0 (B4a.out.setL 4 (.bool opt))) | (go_at_call 168; refine (kind_any _ g src _ _ _ _ K4.out.st KD.out).mono ?_; rintro e w5 ⟨rfl, hX⟩; have K5a := jJ0 (K4.out.step hX.1 hX.2); have B5a := jJ0 (K4.out.blk hm B4.out hX.2); clear hX; have b3 := B5a.out.at_ 3 rfl; have z3 := B5a.out.frozen 3; have K5 := jJ0 (K5a.out.put hm 3 (.int .i64 kd)); have B5 := jJ0 (B5a.out.setL 3 (.int .i64 kd)); unfold iv) | (go_at_call 169; first | (refine (guard32 _ g src f _ _ _ K6.out.st G2.out).mono ?_; rintro e w7 ⟨rfl, s7, hX⟩; have K7a := jJ0 (K6.out.step hX.1 hX.2); have B7a := jJ0 (K6.out.blk hm B6.out hX.2); clear hX; have b6 := B7a.out.at_ 6 rfl; have z6 := B7a.out.frozen 6; have K7 := jJ0 (K7a.out.put hm 6 (.int .i64 wh)); have B7 := jJ0 (B7a.out.setL 6 (.int .i64 wh)); unfold iv) | (refine (guard12 _ g src f _ _ _ K5.out.st G1.out).mono ?_; rintro e w6 ⟨rfl, s6, hX⟩; have K6a := jJ0 (K5.out.step hX.1 hX.2); have B6a := jJ0 (K5.out.blk hm B5.out hX.2); clear hX; have b5 := B6a.out.at_ 5 rfl; have z5 := B6a.out.frozen 5; have K6 := jJ0 (K6a.out.put hm 5 (.int .i64 df)); have B6 := jJ0 (B6a.out.setL 5 (.int .i64 df)); unfold iv)) | fail)
  clear K1 B1 K2 B2 K3 B3 K4a B4a K4 B4 K5a B5a K5 B5 K6a B6a K6 B6 K7a B7a K7 B7 HA BA b0 b1 b2 b3 b4 b5 b6 z0 z1 z2 z3 z4 z5 z6
  have HX := jJ0 (show Blk w8 a 114 (atC ⟨nm, at_, od, opt, kd, df, wh⟩).toArray from B8.out)
  clear B8
  obtain ⟨ns, ps, hR⟩ := K8.out.st.rows
  have HR := jJ0 hR
  clear hR
  obtain ⟨i0, hi, hz0, hz1, hz2⟩ := info_parts Tryz.infoAttr
  have H63 := jJ0 (show r7.tree.attrs.length + 1 <= maxLen by have := HLt.out; unfold maxLen; omega)
  have H47 := jJ0 (show (r7.tree.attrs.length + 1) * 64 <= 140737488355328 by have := HLt.out; omega)
  have hc7 : w8.cell? ⟨g, 7, none⟩ = some (.slice s7.aA r7.tree.attrs.length s7.ac) := Blk.at_ K8.out.st.box 7 rfl
  have hz7 := K8.out.st.box.z 7
  have hgl := K8.out.st.lt
  have hal := HX.out.lt
  have c0 : w8.cell? ⟨a, 0, none⟩ = some (.string nm) := HX.out.at_ 0 rfl
  have c1 : w8.cell? ⟨a, 1, none⟩ = some (.int .i64 at_) := HX.out.at_ 1 rfl
  have c2 : w8.cell? ⟨a, 2, none⟩ = some (.int .i64 od) := HX.out.at_ 2 rfl
  have c3 : w8.cell? ⟨a, 3, none⟩ = some (.int .i64 kd) := HX.out.at_ 3 rfl
  have c4 : w8.cell? ⟨a, 4, none⟩ = some (.bool opt) := HX.out.at_ 4 rfl
  have c5 : w8.cell? ⟨a, 5, none⟩ = some (.int .i64 df) := HX.out.at_ 5 rfl
  have c6 : w8.cell? ⟨a, 6, none⟩ = some (.int .i64 wh) := HX.out.at_ 6 rfl
  have HO := jJ0 ((Kp.refl NoX w8).drew.alloc (.cells (atC ⟨nm, at_, od, opt, kd, df, wh⟩).toArray 114))
  go_region_law ((refine ju _ rfl (.tmp 33) (.tmp 35) 22 rfl 8 114 i0 _ 7 64 Tryz.underlying22 hi hz0 hz1 hz2 rfl (by decide) (.slice s7.aA r7.tree.attrs.length s7.ac) r7.tree.attrs.length (r7.tree.attrs.flatMap atC) rfl (jX HR.out.rA HO.out (fun _ _ e => e)) _ 1 1 (atC ⟨nm, at_, od, opt, kd, df, wh⟩) rfl (Rd.row_new _ _ 7 1 _ rfl) (one_attr _) H63.out H47.out (Nat.le_trans K8.out.st.eight HO.out.size) ?_; intro A1 c1 w9 hown hgrow hat; rw [jC] at hgrow hat; have hb2 := K8.out.st.pastA HR.out HO.out hgrow; have HG := jJ0 (K8.out.st.growA HR.out ⟨nm, at_, od, opt, kd, df, wh⟩ True.intro HO.out hgrow hat hown); have hc7 : w9.cell? ⟨g, 7, none⟩ = some (.slice s7.aA r7.tree.attrs.length s7.ac) := Blk.at_ hb2 7 rfl; have hz7 := hb2.z 7; clear hown hgrow hat hb2))
  all_goals
    have HE := jJ0 ((K8.out.step HG.out.1 HG.out.2).done (fun b e => by rw [ha]; exact HZ.out b e))
    go_wp2
    go_end0
    rw [<- HR'.out]
    exact ⟨rfl, _, HE.out.1, HE.out.2⟩
def lpC (p : Int × Int) : List Value := [iv p.1, iv p.2]
structure LyS (qr ql qa qk : Nat) (s : LayP) (W : World) : Prop where
  row : Blk W qr 134 (s.l.flatMap lpC).toArray
  lb : Blk W ql 130 #[.slice (some ⟨qr, 0, none⟩) s.l.length s.l.length]
  ab : Blk W qa 3 #[iv s.last]
  kb : Blk W qk 4 #[.bool s.ok]
def LyX (qr qa qk : Nat) : Nat -> Prop := fun b => b = qr \/ b = qa \/ b = qk
section
variable {qr ql qa qk : Nat} {s : LayP} {W W1 : World}
theorem LyS.old (h : LyS qr ql qa qk s W) (ho : Old W W1) : LyS qr ql qa qk s W1 := ⟨h.row.old ho, h.lb.old ho, h.ab.old ho, h.kb.old ho⟩
theorem LyS.setA (h : LyS qr ql qa qk s W) (v : Int) : LyS qr ql qa qk { s with last := v } (W.setCell ⟨qa, 0, none⟩ (.int .i64 v)) /\ Kp (LyX qr qa qk) W (W.setCell ⟨qa, 0, none⟩ (.int .i64 v)) :=
  ⟨⟨h.row.far (h.row.ne_ h.ab (by decide)) _, h.lb.far (h.lb.ne_ h.ab (by decide)) _, by simpa [iv] using h.ab.set_ 0 (.int .i64 v), h.kb.far (h.kb.ne_ h.ab (by decide)) _⟩, (Kp.refl (LyX qr qa qk) W).setCell (p := ⟨qa, 0, none⟩) (fun _ => .inr (.inl rfl)) _⟩
theorem LyS.setK (h : LyS qr ql qa qk s W) (v : Bool) : LyS qr ql qa qk { s with ok := v } (W.setCell ⟨qk, 0, none⟩ (.bool v)) /\ Kp (LyX qr qa qk) W (W.setCell ⟨qk, 0, none⟩ (.bool v)) :=
  ⟨⟨h.row.far (h.row.ne_ h.kb (by decide)) _, h.lb.far (h.lb.ne_ h.kb (by decide)) _, h.ab.far (h.ab.ne_ h.kb (by decide)) _, by simpa using h.kb.set_ 0 (.bool v)⟩, (Kp.refl (LyX qr qa qk) W).setCell (p := ⟨qk, 0, none⟩) (fun _ => .inr (.inr rfl)) _⟩
theorem lp_set : ∀ (l : List (Int × Int)) (k : Nat) (p : Int × Int), k < l.length -> ((l.flatMap lpC).set (k * 2) (iv p.1)).set (k * 2 + 1) (iv p.2) = (l.set k p).flatMap lpC
  | [], _, _, h => by cases h
  | x :: l, 0, p, _ => rfl
  | x :: l, k + 1, p, h => by
    have e : (k + 1) * 2 = k * 2 + 1 + 1 := by omega
    have e2 : (x :: l).flatMap lpC = iv x.1 :: iv x.2 :: l.flatMap lpC := rfl
    rw [List.set_cons_succ, e, e2]
    simp only [List.set_cons_succ]
    rw [lp_set l k p (Nat.lt_of_succ_lt_succ h)]
    rfl
theorem LyS.setR (h : LyS qr ql qa qk s W) {k : Nat} (hk : k < s.l.length) (a b : Int) : LyS qr ql qa qk { s with l := s.l.set k (a, b) } ((W.setCell ⟨qr, k * 2, none⟩ (.int .i64 a)).setCell ⟨qr, k * 2 + 1, none⟩ (.int .i64 b)) /\ Kp (LyX qr qa qk) W ((W.setCell ⟨qr, k * 2, none⟩ (.int .i64 a)).setCell ⟨qr, k * 2 + 1, none⟩ (.int .i64 b)) := by
  have h1 := Blk.setL (Blk.setL h.row (k * 2) (.int .i64 a)) (k * 2 + 1) (.int .i64 b)
  have e : ((s.l.flatMap lpC).set (k * 2) (.int .i64 a)).set (k * 2 + 1) (.int .i64 b) = (s.l.set k (a, b)).flatMap lpC := lp_set s.l k (a, b) hk
  rw [e] at h1
  refine ⟨⟨h1, ?_, (h.ab.far (h.ab.ne_ h.row (by decide)) _).far (h.ab.ne_ h.row (by decide)) _, (h.kb.far (h.kb.ne_ h.row (by decide)) _).far (h.kb.ne_ h.row (by decide)) _⟩, ((Kp.refl (LyX qr qa qk) W).setCell (p := ⟨qr, k * 2, none⟩) (fun _ => .inl rfl) _).setCell (p := ⟨qr, k * 2 + 1, none⟩) (fun _ => .inl rfl) _⟩
  have := (h.lb.far (h.lb.ne_ h.row (by decide)) (p := ⟨qr, k * 2, none⟩) (.int .i64 a)).far (h.lb.ne_ h.row (by decide)) (p := ⟨qr, k * 2 + 1, none⟩) (.int .i64 b)
  show Blk _ ql _ #[.slice (some ⟨qr, 0, none⟩) (s.l.set k (a, b)).length (s.l.set k (a, b)).length]
  rw [List.length_set]
  exact this
theorem LyS.at_ (h : LyS qr ql qa qk s W) {k : Nat} (hk : k < s.l.length) : W.cell? ⟨qr, k * 2, none⟩ = some (.int .i64 (s.l.getD k (0, 0)).1) /\ W.cell? ⟨qr, k * 2 + 1, none⟩ = some (.int .i64 (s.l.getD k (0, 0)).2) := by
  have hx : s.l[k]? = some (s.l.getD k (0, 0)) := by rw [List.getD_eq_getElem?_getD, List.getElem?_eq_getElem hk]; rfl
  have hf := flat_z lpC 2 (fun _ => rfl) s.l k _ hx
  refine ⟨h.row.at_ (k * 2) ?_, h.row.at_ (k * 2 + 1) ?_⟩
  · have := hf 0 (by decide); rw [List.getElem?_toArray]; exact this
  · have := hf 1 (by decide); rw [List.getElem?_toArray]; exact this
end
theorem eq2z (w : World) : (Op.equalIn 10000 134 (.agg #[.int .i64 0, .int .i64 0]) (.agg #[.int .i64 0, .int .i64 0])).run Tryz.prog w = .ok true w := by kernel_rfl
def LyR (qr ql qa qk : Nat) (s : LayP) (W : World) (e : Ending) (W' : World) : Prop := e = .returned (.tuple #[]) /\ LyS qr ql qa qk s W' /\ Kp (LyX qr qa qk) W W'
theorem lay_ready (W : World) (qr ql qa qk : Nat) (s : LayP) (h : LyS qr ql qa qk s W) (fam : Int) (i : Nat) (order : Int) (hl : ¬ order <= (if i = 0 then -1 else s.last)) (hlen : order < (s.l.length : Int)) (h0 : 0 <= order) (hz : s.l.getD order.toNat (0, 0) = (0, 0)) :
    Calls Tryz.prog 113 #[iv fam, iv (i : Int), iv order, .pointer (some ⟨qa, 0, none⟩), .pointer (some ⟨ql, 0, none⟩), .pointer (some ⟨qk, 0, none⟩)] W (LyR qr ql qa qk (layN fam i order s) W) := by
  have hres : layN fam i order s = ⟨s.l.set order.toNat (fam, (i : Int)), order, s.ok⟩ := by
    unfold layN
    simp only
    rw [if_neg (fun e => e.elim hl (fun e => e.elim (fun e => by omega) (fun e => e hz)))]
  rw [hres]
  obtain ⟨k, rfl⟩ : ∃ k : Nat, order = (k : Int) := ⟨order.toNat, by omega⟩
  have ek : (k : Int).toNat = k := by omega
  have heq := eq2z
  rw [ek] at hz ⊢
  have hk : k < s.l.length := by omega
  obtain ⟨a0, a1⟩ := h.at_ hk
  rw [hz] at a0 a1
  have c0 := h.ab.at_ 0 (v := .int .i64 s.last) rfl
  have c1 := h.lb.at_ 0 (v := .slice (some ⟨qr, 0, none⟩) s.l.length s.l.length) rfl
  have H := jJ0 h
  have zr := h.row.frozen (k * 2)
  have zr1 := h.row.frozen (k * 2 + 1)
  have za := h.ab.frozen 0
  have b1 : (0 : Int) <= (k : Int) := by omega
  have b3 : ¬ (s.l.length : Int) <= (k : Int) := by omega
  clear hres h
  by_cases hi : i = 0
  · rw [if_pos hi] at hl
    have d1 : ((i : Int) == 0) = true := by rw [hi]; rfl
    have H1 := jJ0 (H.out.setA (-1)).1
    have K1 := jJ0 (H.out.setA (-1)).2
    have H2 := jJ0 (H1.out.setA (k : Int)).1
    have K2 := jJ0 (K1.out.trans (H1.out.setA (k : Int)).2 (fun _ _ e => e))
    have H3 := jJ0 (H2.out.setR hk fam (i : Int)).1
    have K3 := jJ0 (K2.out.trans (H2.out.setR hk fam (i : Int)).2 (fun _ _ e => e))
    obtain ⟨e0, e1⟩ := H1.out.at_ hk
    have hz1 : s.l.getD k (0, 0) = (0, 0) := hz
    rw [hz1] at e0 e1
    have e2 := H1.out.ab.at_ 0 (v := .int .i64 (-1)) rfl
    have e3 := H1.out.lb.at_ 0 (v := .slice (some ⟨qr, 0, none⟩) s.l.length s.l.length) rfl
    have z1 := H1.out.ab.frozen 0
    have e4 := H2.out.lb.at_ 0 (v := .slice (some ⟨qr, 0, none⟩) s.l.length s.l.length) rfl
    have z2 := H2.out.row.frozen (k * 2)
    have z3 := H2.out.row.frozen (k * 2 + 1)
    obtain ⟨e5, e6⟩ := H2.out.at_ hk
    have hz2 : s.l.getD k (0, 0) = (0, 0) := hz
    rw [hz2] at e5 e6
    have hb3 := Blk.setL H2.out.row (k * 2) (.int .i64 fam)
    have e7 : (((W.setCell ⟨qa, 0, none⟩ (.int .i64 (-1))).setCell ⟨qa, 0, none⟩ (.int .i64 (k : Int))).setCell ⟨qr, k * 2, none⟩ (.int .i64 fam)).cell? ⟨qr, k * 2 + 1, none⟩ = some (.int .i64 0) := by
      rw [hb3.cell, List.getElem?_toArray, List.getElem?_set_ne (by omega), <- List.getElem?_toArray, <- H2.out.row.cell]
      exact e6
    have z4 := hb3.frozen (k * 2 + 1)
    clear hz hz1 hz2 hb3
    clear hi
    unfold iv at *
    go_enter Tryz.func113, Tryz.ntmps113
    go_wp2
    go_end0
    exact ⟨rfl, H3.out, K3.out⟩
  · rw [if_neg hi] at hl
    have d1 : ((i : Int) == 0) = false := beq_eq_false_iff_ne.2 (by omega)
    have H2 := jJ0 (H.out.setA (k : Int)).1
    have K2 := jJ0 (H.out.setA (k : Int)).2
    have H3 := jJ0 (H2.out.setR hk fam (i : Int)).1
    have K3 := jJ0 (K2.out.trans (H2.out.setR hk fam (i : Int)).2 (fun _ _ e => e))
    have e4 := H2.out.lb.at_ 0 (v := .slice (some ⟨qr, 0, none⟩) s.l.length s.l.length) rfl
    have z2 := H2.out.row.frozen (k * 2)
    have z3 := H2.out.row.frozen (k * 2 + 1)
    obtain ⟨e5, e6⟩ := H2.out.at_ hk
    have hz2 : s.l.getD k (0, 0) = (0, 0) := hz
    rw [hz2] at e5 e6
    have hb3 := Blk.setL H2.out.row (k * 2) (.int .i64 fam)
    have e7 : ((W.setCell ⟨qa, 0, none⟩ (.int .i64 (k : Int))).setCell ⟨qr, k * 2, none⟩ (.int .i64 fam)).cell? ⟨qr, k * 2 + 1, none⟩ = some (.int .i64 0) := by
      rw [hb3.cell, List.getElem?_toArray, List.getElem?_set_ne (by omega), <- List.getElem?_toArray, <- H2.out.row.cell]
      exact e6
    have z4 := hb3.frozen (k * 2 + 1)
    clear hz hz2 hb3
    clear hi
    unfold iv at *
    go_enter Tryz.func113, Tryz.ntmps113
    go_wp2
    go_end0
    exact ⟨rfl, H3.out, K3.out⟩
end Go.Proofs.YtmmjcbbogokmfaaGreatDoor
