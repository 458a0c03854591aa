import Derived.Test.YtmmjcbbogokmfaaGreatDoorMt01
import Derived.Test.YtmmjcbbogokmfaaGreatDoorMt09
import Derived.Test.YtmmjcbbogokmfaaGreatDoorMt17
import Derived.Test.YtmmjcbbogokmfaaGreatDoorMt18
import Derived.Deep.RegionHeld3
set_option maxRecDepth 100000
set_option maxHeartbeats 25600000
namespace Go.Proofs.YtmmjcbbogokmfaaGreatDoor
open Go.RowKit
theorem strLen_le : ∀ (l : List UInt8) (k : Nat), strLen l = some k -> k <= l.length
  | [], k, h => by rw [strLen] at h; cases h
  | [c], k, h => by
    rw [strLen] at h
    split at h
    · injection h with h; simp only [List.length_cons, List.length_nil]; omega
    · split at h
      · cases h
      · obtain ⟨q, hq, rfl⟩ := Option.map_eq_some_iff.1 h
        rw [strLen] at hq; cases hq
  | c :: d :: l, k, h => by
    rw [strLen] at h
    split at h
    · injection h with h; simp only [List.length_cons]; omega
    · split at h
      · obtain ⟨q, hq, rfl⟩ := Option.map_eq_some_iff.1 h
        have := strLen_le l q hq
        simp only [List.length_cons]; omega
      · obtain ⟨q, hq, rfl⟩ := Option.map_eq_some_iff.1 h
        have := strLen_le (d :: l) q hq
        simp only [List.length_cons] at this ⊢; omega
theorem lexN_fit (l : List UInt8) (n t : Nat) (h : lexN l = some (n, t)) : n <= l.length /\ t < 58 := by
  cases l with
  | nil => cases h
  | cons c l =>
    rw [lexN] at h
    split at h
    · injection h with h
      injection h with h1 h2
      rw [<- h1, <- h2]
      exact ⟨ky _ _, kr _⟩
    · split at h
      · obtain ⟨q, hq, e⟩ := Option.map_eq_some_iff.1 h
        injection e with e1 e2
        have := strLen_le l q hq
        rw [<- e1, <- e2]
        exact ⟨by simp only [List.length_cons]; omega, by decide⟩
      · split at h
        · rename_i hh
          injection h with h
          injection h with h1 h2
          rw [<- h1, <- h2]
          refine ⟨?_, ja _⟩
          cases l with
          | nil => exact absurd hh.1 (by decide)
          | cons d l => simp only [List.length_cons]; omega
        · injection h with h
          injection h with h1 h2
          rw [<- h1, <- h2]
          exact ⟨by simp only [List.length_cons]; omega, ja _⟩
theorem nextN_fit (src : List UInt8) (r r' : Rdr) (h : jy src r = some r') (ha : r.at_ <= src.length) (ht : r.t < 58) : r'.from_ <= r'.at_ /\ r'.at_ <= src.length /\ r'.t < 58 /\ r'.tree = r.tree /\ r'.order = r.order := by
  have hK := skip_le false (src.drop r.at_)
  rw [List.length_drop] at hK
  unfold jy at h
  have hk : r.at_ + ji false (src.drop r.at_) <= src.length := by omega
  generalize r.at_ + ji false (src.drop r.at_) = K at *
  simp only at h
  split at h
  · injection h with h
    rw [<- h]
    exact ⟨Nat.le_refl _, hk, ht, rfl, rfl⟩
  · obtain ⟨x, hx, e⟩ := Option.map_eq_some_iff.1 h
    obtain ⟨n, t⟩ := x
    have := lexN_fit _ n t hx
    rw [List.length_drop] at this
    rw [<- e]
    exact ⟨by simp only; omega, by simp only; omega, this.2, rfl, rfl⟩
def Sc (w : World) (g : Nat) (src : ByteArray) (s : Sl) (r' : Rdr) (v : Value) (e : Ending) (w' : World) : Prop := e = .returned v /\ St w' g src r' s /\ Fr g s s w w'
theorem jN (w : World) (g : Nat) (src : ByteArray) (r r' : Rdr) (s : Sl) (h : St w g src r s) (hn : jy (sb src) r = some r') :
    Calls Tryz.prog 135 #[.pointer (some ⟨g, 0, none⟩)] w (Sc w g src s r' (.tuple #[])) := by
  refine (next_any w h.sg g h.g8 src r r' _ h.box h.at_ h.small hn).mono ?_
  rintro e w' ⟨rfl, hb, hk⟩
  have hf := nextN_fit (sb src) r r' hn (by rw [jA]; exact h.at_) h.t58
  rw [jA] at hf
  exact ⟨rfl, h.scan hb hf.2.2.2.1 hk hf.1 hf.2.1 hf.2.2.1⟩
theorem vw (w : World) (g : Nat) (src : ByteArray) (r : Rdr) (s : Sl) (h : St w g src r s) :
    Calls Tryz.prog 165 #[.pointer (some ⟨g, 0, none⟩)] w fun e w' => e = .returned (.string ⟨(kD (sb src) r).toArray⟩) /\ ∃ n, w' = w.drewN n := by
  have := lexeme_any w g src r _ h.box h.from_ h.at_
  rwa [<- mk_sb (src.extract r.from_ r.at_), sb_lexeme] at this
noncomputable def least (p : Nat -> Prop) : Nat := Classical.epsilon fun n => p n /\ ∀ m, p m -> n <= m
theorem least_spec {p : Nat -> Prop} (h : ∃ n, p n) : p (least p) /\ ∀ m, p m -> least p <= m := by
  refine Classical.epsilon_spec (p := fun n => p n /\ ∀ m, p m -> n <= m) ?_
  obtain ⟨n, hn⟩ := h
  induction n using Nat.strongRecOn with
  | _ n ih =>
    rcases Classical.em (∃ m, m < n /\ p m) with ⟨m, hm, hp⟩ | hno
    · exact ih m hm hp
    · exact ⟨n, hn, fun m hm => Nat.le_of_not_lt fun hlt => hno ⟨m, hlt, hm⟩⟩
theorem yA {p : Nat -> Prop} (h : ∃ n, p n) : ∃ n, p n /\ least p = n := ⟨_, (least_spec h).1, rfl⟩
theorem kX {p : Nat -> Prop} {n m : Nat} (h : p n) (k : n < m) : least p < m := Nat.lt_of_le_of_lt ((least_spec ⟨n, h⟩).2 n h) k
theorem St.setOrder {w : World} {g : Nat} {src : ByteArray} {r : Rdr} {s : Sl} (h : St w g src r s) (k : Nat) :
    St (w.setCell ⟨g, 4, none⟩ (.int .i64 (k : Int))) g src { r with order := k } s /\ Fr g s s w (w.setCell ⟨g, 4, none⟩ (.int .i64 (k : Int))) :=
  h.scan (h.box.setOrder k).1 rfl (h.box.setOrder k).2 h.from_ h.at_ h.t58
theorem jP (w : World) (g : Nat) (src : ByteArray) (r r' : Rdr) (s : Sl) (t : Nat) (b : Bool) (h : St w g src r s) (hk : jW (sb src) t r = some (b, r')) :
    Calls Tryz.prog 167 #[.pointer (some ⟨g, 0, none⟩), .int .u8 (t : Int)] w (Sc w g src s r' (.bool b)) := by
  have hc3 := h.box.c3
  have HS := jJ0 h
  unfold jW at hk
  by_cases ht : r.t = t
  · rw [if_pos ht] at hk
    obtain ⟨r1, hn, he⟩ := Option.map_eq_some_iff.1 hk
    injection he with e1 e2
    subst e1 e2
    have HN := jJ0 hn
    have e1 : ((r.t : Int) == (t : Int)) = true := beq_iff_eq.2 (by omega)
    clear h hk hn ht
    go_enter Tryz.func167, Tryz.ntmps167
    go_wp2_with (go_at_call 135; refine (jN _ g src _ _ s HS.out HN.out).mono ?_; rintro e w1 ⟨rfl, hX⟩)
    go_ret
    exact ⟨rfl, hX⟩
  · rw [if_neg ht] at hk
    injection hk with hk
    injection hk with e1 e2
    subst e1 e2
    have e1 : ((r.t : Int) == (t : Int)) = false := beq_eq_false_iff_ne.2 (by omega)
    clear h ht
    go_enter Tryz.func167, Tryz.ntmps167
    go_wp2
    go_ret
    exact ⟨rfl, HS.out, Fr.refl _ _ _⟩
theorem vg (w : World) (g : Nat) (src : ByteArray) (r r' : Rdr) (s : Sl) (x : ByteArray) (at_ : Int) (h : St w g src r s) (hk : nameN (sb src) r = some (x, at_, r')) :
    Calls Tryz.prog 136 #[.pointer (some ⟨g, 0, none⟩)] w (Sc w g src s r' (.tuple #[.string x, iv at_])) := by
  have hc2 := h.box.c2
  have HS := jJ0 h
  unfold nameN at hk
  obtain ⟨r1, hn, he⟩ := Option.map_eq_some_iff.1 hk
  injection he with e1 e2
  injection e2 with e2 e3
  subst e1 e2 e3
  have HN := jJ0 hn
  have HL := jJ0 (fun n => vw (w.drewN n) g src r s (h.drewN n))
  generalize kD (sb src) r = lx at *
  clear h hk hn
  go_enter Tryz.func136, Tryz.ntmps136
  go_wp2
  go_quiet ((go_at_call 165; exact Calls.quiet_of (HL.out _)))
  go_wp2_with (go_at_call 135; refine (jN _ g src _ _ s (HS.out.drewN _) HN.out).mono ?_; rintro e w1 ⟨rfl, hX⟩)
  go_ret2
  exact ⟨rfl, hX.1, (Fr.of_old s ((Kp.refl _ _).drewN _)).trans hX.2⟩
theorem yC (w : World) (g : Nat) (src : ByteArray) (r r' : Rdr) (s : Sl) (x : ByteArray) (at_ o : Int) (h : St w g src r s) (hk : declN (sb src) r = some (x, at_, o, r')) :
    Calls Tryz.prog 166 #[.pointer (some ⟨g, 0, none⟩)] w (Sc w g src s r' (.tuple #[.string x, iv at_, iv o])) := by
  have HS := jJ0 h
  unfold declN at hk
  obtain ⟨r1, hn, hk⟩ := Option.bind_eq_some_iff.1 hk
  obtain ⟨y, hm, hk⟩ := Option.bind_eq_some_iff.1 hk
  obtain ⟨x1, a1, r2⟩ := y
  simp only at hk
  split at hk
  case isFalse => cases hk
  rename_i ho
  injection hk with he
  injection he with e1 e2
  injection e2 with e2 e3
  injection e3 with e3 e4
  subst e1 e2 e3 e4
  have HN := jJ0 hn
  have HM := jJ0 hm
  have q0 : IntKind.i64.wrap ((r2.order : Int) + 1) = (r2.order : Int) + 1 := IntWalk.i64_in _ (by omega)
  have q1 : RowKit.wrap64 (r2.order : Int) = (r2.order : Int) := IntWalk.wrap64_in _ (by omega)
  clear h hn hm ho hk
  go_enter Tryz.func166, Tryz.ntmps166
  go_wp2_with (first | (go_at_call 135; refine (jN _ g src _ _ s HS.out HN.out).mono ?_; rintro e w1 ⟨rfl, hX⟩; have HX := jJ0 hX; clear hX) | (go_at_call 136; refine (vg _ g src _ _ s _ _ HX.out.1 HM.out).mono ?_; rintro e w2 ⟨rfl, hY⟩; have hc4 := hY.1.box.c4; have hz4 := hY.1.box.z 4; have HZ := hY.1.setOrder (r2.order + 1); rw [show ((r2.order + 1 : Nat) : Int) = (r2.order : Int) + 1 by omega] at HZ; have HZ := jJ0 HZ; have HF := jJ0 (HX.out.2.trans hY.2); clear hY))
  generalize hW : World.setCell _ _ _ = W at *
  have hc4 := HZ.out.1.box.c4
  simp only [show ((r2.order + 1 : Nat) : Int) = (r2.order : Int) + 1 by omega] at hc4
  clear hW
  go_quiet (fail)
  go_wp2
  go_ret3
  exact ⟨by rw [q1]; rfl, HZ.out.1.drewN _, HF.out.trans (HZ.out.2.trans (Fr.of_old s ((Kp.refl _ _).drewN _)))⟩
theorem in_any (w : World) (g : Nat) (src : ByteArray) (r r' : Rdr) (s : Sl) (x : ByteArray) (at_ : Int) (h : St w g src r s) (hk : inN (sb src) r = some (x, at_, r')) :
    Calls Tryz.prog 170 #[.pointer (some ⟨g, 0, none⟩)] w (Sc w g src s r' (.tuple #[.string x, iv at_])) := by
  have HS := jJ0 h
  unfold inN at hk
  by_cases h28 : r.t = 28
  · rw [if_pos h28] at hk
    obtain ⟨r1, hn, hm⟩ := Option.bind_eq_some_iff.1 hk
    have HK := jJ0 (show jW (sb src) 28 r = some (true, r1) by rw [jW, if_pos h28, hn]; rfl)
    have HM := jJ0 hm
    clear h hn hm hk h28
    go_enter Tryz.func170, Tryz.ntmps170
    go_wp2_with (first | (go_at_call 167; refine (jP _ g src _ _ s 28 _ HS.out HK.out).mono ?_; rintro e w1 ⟨rfl, hX⟩; have HX := jJ0 hX; clear hX) | (go_at_call 136; refine (vg _ g src _ _ s _ _ HX.out.1 HM.out).mono ?_; rintro e w2 ⟨rfl, hY⟩))
    go_ret2
    exact ⟨rfl, hY.1, HX.out.2.trans hY.2⟩
  · rw [if_neg h28] at hk
    injection hk with hk
    injection hk with e1 e2
    injection e2 with e2 e3
    subst e1 e2 e3
    have HK := jJ0 (show jW (sb src) 28 r = some (false, r) by rw [jW, if_neg h28])
    clear h h28
    go_enter Tryz.func170, Tryz.ntmps170
    go_wp2_with (first | (go_at_call 167; refine (jP _ g src _ _ s 28 _ HS.out HK.out).mono ?_; rintro e w1 ⟨rfl, hX⟩))
    go_ret2
    exact ⟨rfl, hX⟩
theorem kind_any (w : World) (g : Nat) (src : ByteArray) (r r' : Rdr) (s : Sl) (k : Int) (h : St w g src r s) (hk : kindN (sb src) r = some (k, r')) :
    Calls Tryz.prog 168 #[.pointer (some ⟨g, 0, none⟩)] w (Sc w g src s r' (iv k)) := by
  have HS := jJ0 h
  have hc3 := h.box.c3
  unfold kindN at hk
  split at hk
  case isFalse => cases hk
  rename_i ht
  obtain ⟨r1, hn, he⟩ := Option.bind_eq_some_iff.1 hk
  injection he with he
  injection he with e1 e2
  subst e1 e2
  have HN := jJ0 hn
  obtain ⟨q, hq, hq4⟩ : ∃ q, r.t = q + 34 /\ q <= 4 := ⟨r.t - 34, by omega, by omega⟩
  clear h hn hk ht
  go_enter Tryz.func168, Tryz.ntmps168
  go_wp2_with (first | (go_at_call 135; refine (jN _ g src _ _ s HS.out HN.out).mono ?_; rintro e w1 ⟨rfl, hX⟩))
  go_ret
  exact ⟨congrArg Ending.returned (congrArg (Value.int .i64) (show 1 + (q : Int) = (r.t : Int) - 33 by omega)), hX⟩
def nth : List Oper -> Nat -> Option Oper
  | [], _ => none
  | o :: _, 0 => some o
  | _ :: l, i + 1 => nth l i
theorem nth_eq : ∀ (l : List Oper) (i : Nat), nth l i = l.toArray[i]?
  | [], i => by simp [nth]
  | o :: l, 0 => by simp [nth]
  | o :: l, i + 1 => by
    have := nth_eq l i
    simpa [nth] using this
def chk (md : Region.Mode) (l : List Oper) (listed : Array Bool) (i : Nat) : Bool := Region.noSelect l.toArray && (Region.free md l.toArray listed i && (Region.ready md l.toArray listed).contains i)
theorem chk_of {md : Region.Mode} {l : List Oper} {listed : Array Bool} {i : Nat} (h : chk md l listed i = true) : Region.noSelect l.toArray = true /\ Region.free md l.toArray listed i = true /\ (Region.ready md l.toArray listed).contains i = true := by
  unfold chk at h
  rw [Bool.and_eq_true, Bool.and_eq_true] at h
  exact h
section
variable {P : Program} {l : List Oper} {Q : Exit -> Act -> World -> Prop} {S : World -> Prop} {md : Region.Mode}
theorem jL (i : Nat) {oi : Oper} {d : Option Tmp} {v : Value} {fuel : Nat} {listed : Array Bool} {a : Act} {w : World} (hi : nth l i = some oi) (hd : oi.dst = d)
    (hk : chk md l listed i = true)
    (hQ : ∀ c a w, Q (.panic c) (a.put oi.dst v) w -> Q (.panic c) a w) (hw : Region.wanted oi (yielded l.toArray a.tmps) = true) (hS : S w) (hy : ∀ w, S w -> (execOp a.eval oi).run P w = .ok (.value v) w)
    (h : wpAnyH P md l.toArray Q S fuel (listed.setIfInBounds i true) (a.put d v) w) : wpAnyH P md l.toArray Q S (fuel + 1) listed a w := by
  subst hd
  obtain ⟨hs, hf, hr⟩ := chk_of hk
  exact wpAnyH_take ((nth_eq l i).symm.trans hi) hs hf hr hQ (.inl ⟨hw, hy⟩) hS h
theorem js (i : Nat) {oi : Oper} {fuel : Nat} {listed : Array Bool} {a : Act} {w : World} (hi : nth l i = some oi) (hr : Region.ready md l.toArray listed = [i])
    (h : ∀ K' : Act -> World -> Prop, Shut (∀ a w, S w -> (S w -> wpAnyH P md l.toArray Q S fuel (listed.setIfInBounds i true) a w) -> K' a w) -> if Region.wanted oi (yielded l.toArray a.tmps) = true then Oper.wp P oi a w K' Q else K' (a.put oi.dst undef) w) :
    wpAnyH P md l.toArray Q S (fuel + 1) listed a w :=
  wpAnyH_ready hr (by simp) (AllReadyH.cons ((nth_eq l i).symm.trans hi) h AllReadyH.nil)
end
def tkn (i n : Nat) : List Bool := List.replicate i true ++ List.replicate (n - i) false
theorem tkn_next {i n : Nat} (h : i < n) : (tkn i n).set i true = tkn (i + 1) n := by
  obtain ⟨k, hk⟩ : ∃ k, n - i = k + 1 := ⟨n - i - 1, by omega⟩
  rw [tkn, tkn, hk, show n - (i + 1) = k by omega, List.set_append_right _ _ (by simp), List.length_replicate, Nat.sub_self, List.replicate_succ, List.set_cons_zero, List.replicate_succ', List.append_assoc]
  rfl
section
variable {P : Program} {l : List Oper} {Q : Exit -> Act -> World -> Prop} {S : World -> Prop} {md : Region.Mode} {i n fuel : Nat} {oi : Oper} {d : Option Tmp} {v : Value} {a : Act} {w : World}
theorem kn {id : Nat} (n : Nat) (hn : l.length = n) (hm : P.follows .mixedOrders = true) (hS : S w.drew) (h : S w.drew -> wpAnyH P .any l.toArray Q S n (tkn 0 n).toArray a w.drew) : (Code.region id l.toArray true).wp P Q a w := by
  refine wp_region_held_drew hm hS (fun hs => ?_)
  have := h hs
  subst hn
  simpa [tkn] using this
theorem tOn (hi : nth l i = some oi) (hd : oi.dst = d) (hk : (decide (i < n) && chk md l (tkn i n).toArray i) = true)
    (hQ : ∀ c a w, Q (.panic c) (a.put oi.dst v) w -> Q (.panic c) a w) (hw : Region.wanted oi (yielded l.toArray a.tmps) = true) (hS : S w) (hy : ∀ w, S w -> (execOp a.eval oi).run P w = .ok (.value v) w)
    (h : wpAnyH P md l.toArray Q S fuel (tkn (i + 1) n).toArray (a.put d v) w) : wpAnyH P md l.toArray Q S (fuel + 1) (tkn i n).toArray a w := by
  obtain ⟨hin, hk⟩ := Bool.and_eq_true _ _ ▸ hk
  refine jL i hi hd hk hQ hw hS hy ?_
  rw [List.setIfInBounds_toArray, tkn_next (of_decide_eq_true hin)]
  exact h
theorem tCall (hi : nth l i = some oi) (hr : Region.ready md l.toArray (tkn i n).toArray = [i]) (hin : i < n)
    (h : ∀ K' : Act -> World -> Prop, Shut (∀ a w, S w -> (S w -> wpAnyH P md l.toArray Q S fuel (tkn (i + 1) n).toArray a w) -> K' a w) -> if Region.wanted oi (yielded l.toArray a.tmps) = true then Oper.wp P oi a w K' Q else K' (a.put oi.dst undef) w) :
    wpAnyH P md l.toArray Q S (fuel + 1) (tkn i n).toArray a w := by
  refine js i hi hr (fun K' hK => h K' (fun a w hS k => hK.out a w hS (fun hs => ?_)))
  rw [List.setIfInBounds_toArray, tkn_next hin]
  exact k hs
theorem tkn_as {ls ls' : Array Bool} (e : ls = ls') (h : wpAnyH P md l.toArray Q S fuel ls' a w) : wpAnyH P md l.toArray Q S fuel ls a w := e ▸ h
end
theorem Rd.row_new (w : World) (t : TypeId) (s n : Nat) (l : List Value) (hl : l.length = n * s) : Rd (w.alloc (.cells l.toArray t)) s (some ⟨w.heap.size, 0, none⟩) n l := by
  refine ⟨hl, fun _ => ⟨_, _, rfl, fun j u hu => ?_⟩⟩
  have hb := Blk.new w t l.toArray
  rw [Nat.zero_add, hb.cell j]
  simpa using hu
theorem own_ge {w : World} {base : Nat} {e : TypeId} {size : Nat} {A : Option Addr} {n c : Nat} {xs : List Value} (h : w.ownsRow base e size (.slice A n c) n xs) {b : Nat} (e : A.map (·.block) = some b) : base <= b /\ b < w.heap.size := by
  rcases h.2 with ⟨e', _⟩ | ⟨g', cap, cur, e', hge, hg, _⟩
  · injection e' with e1; subst e1; cases e
  · injection e' with e1; subst e1; injection e with e; subst e; exact ⟨hge, (Array.getElem?_eq_some_iff.1 hg).1⟩
theorem own_cap {w : World} {base : Nat} {e : TypeId} {size : Nat} {A : Option Addr} {n c : Nat} {xs : List Value} (h : w.ownsRow base e size (.slice A n c) n xs) : n <= c := by
  rcases h.2 with ⟨e, h0⟩ | ⟨g, cap, cur, e, _, _, hnc, _⟩
  · omega
  · injection e with e1 e2 e3; omega
theorem own_some {w : World} {base : Nat} {e : TypeId} {size : Nat} {A : Option Addr} {n c : Nat} {xs : List Value} (h : w.ownsRow base e size (.slice A n c) n xs) (hn : 0 < n) : ∃ k, A = some ⟨k, 0, none⟩ := by
  rcases h.2 with ⟨e, h0⟩ | ⟨g, cap, cur, e, _⟩
  · omega
  · injection e with e1 e2 e3; exact ⟨g, e1⟩
theorem own_set {w : World} {base : Nat} {e : TypeId} {z k n c : Nat} {xs : List Value} (h : w.ownsRow base e z (.slice (some ⟨k, 0, none⟩) n c) n xs) (j : Nat) (u : Value) :
    (w.setCell ⟨k, j, none⟩ u).ownsRow base e z (.slice (some ⟨k, 0, none⟩) n c) n (xs.set j u) := by
  rcases h.2 with ⟨e', _⟩ | ⟨g, cap, cur, e', hb, hg, h1, h2, h3, h4⟩
  · injection e' with e1; cases e1
  · injection e' with e1 e2 e3
    injection e1 with e1
    injection e1 with e1
    subst e1
    subst e3
    refine ⟨by rw [List.length_set]; exact h.1, .inr ⟨k, c, cur.setIfInBounds j u, rfl, hb, ?_, h1, h2, by rw [Array.size_setIfInBounds]; exact h3, ?_⟩⟩
    · simp [World.setCell, Array.getElem?_modify, hg]
    · rw [Array.toList_setIfInBounds, List.take_set, h4]
theorem own_cell {w : World} {base : Nat} {e : TypeId} {z k n c : Nat} {xs : List Value} (h : w.ownsRow base e z (.slice (some ⟨k, 0, none⟩) n c) n xs) (j : Nat) {u : Value} (hu : xs[j]? = some u) : w.cell? ⟨k, j, none⟩ = some u /\ w.frozen? ⟨k, j, none⟩ = false := by
  rcases h.2 with ⟨e', _⟩ | ⟨g, cap, cur, e', hb, hg, h1, h2, h3, h4⟩
  · injection e' with e1; cases e1
  · injection e' with e1 e2 e3
    injection e1 with e1
    injection e1 with e1
    subst e1
    rw [<- h4, List.getElem?_take] at hu
    split at hu
    · exact ⟨by rw [cell_of_row w k j cur e (0, 0) hg, <- Array.getElem?_toList]; exact hu, by simp [World.frozen?, hg]⟩
    · cases hu
theorem kp_row {wr w' : World} {row : Option Nat} (hg : wr.grownBy w' row) : Kp (fun b => row = some b) wr w' := (Kp.refl _ wr).grown hg (fun _ e _ => e)
theorem Tryz.infoInt : (Tryz.prog.info? 3).map (fun i => (i.zero, i.size, i.bytes)) = some (some (.int .i64 0), 1, 8) := by kernel_rfl
theorem Tryz.infoNode : (Tryz.prog.info? 46).map (fun i => (i.zero, i.size, i.bytes)) = some (some (.agg #[.int .i64 0, .string ⟨#[]⟩, .int .i64 0, .int .i64 0, .string ⟨#[]⟩, .slice none 0 0, .slice none 0 0]), 7, 104) := by kernel_rfl
theorem Tryz.infoAttr : (Tryz.prog.info? 114).map (fun i => (i.zero, i.size, i.bytes)) = some (some (.agg #[.string ⟨#[]⟩, .int .i64 0, .int .i64 0, .int .i64 0, .bool false, .int .i64 0, .int .i64 0]), 7, 64) := by kernel_rfl
theorem Tryz.infoStage : (Tryz.prog.info? 117).map (fun i => (i.zero, i.size, i.bytes)) = some (some (.agg #[.string ⟨#[]⟩, .int .i64 0, .int .i64 0, .string ⟨#[]⟩, .int .i64 0, .int .i64 0, .int .i64 0]), 7, 72) := by kernel_rfl
theorem Tryz.infoMile : (Tryz.prog.info? 64).map (fun i => (i.zero, i.size, i.bytes)) = some (some (.agg #[.string ⟨#[]⟩, .int .i64 0, .int .i64 0, .string ⟨#[]⟩, .int .i64 0, .int .i64 0]), 6, 64) := by kernel_rfl
theorem Tryz.infoStep : (Tryz.prog.info? 111).map (fun i => (i.zero, i.size, i.bytes)) = some (some (.agg #[.string ⟨#[]⟩, .int .i64 0, .int .i64 0, .slice none 0 0, .string ⟨#[]⟩, .int .i64 0, .int .i64 0, .slice none 0 0]), 8, 112) := by kernel_rfl
theorem Tryz.infoParam : (Tryz.prog.info? 122).map (fun i => (i.zero, i.size, i.bytes)) = some (some (.agg #[.string ⟨#[]⟩, .int .i64 0, .int .i64 0]), 3, 32) := by kernel_rfl
theorem Tryz.infoEffect : (Tryz.prog.info? 125).map (fun i => (i.zero, i.size, i.bytes)) = some (some (.agg #[.string ⟨#[]⟩, .int .i64 0, .int .i64 0]), 3, 32) := by kernel_rfl
def Ex (w : World) (g : Nat) (src : ByteArray) (s : Sl) (r' : Rdr) (v : Value) (e : Ending) (w' : World) : Prop := e = .returned v /\ ∃ s', St w' g src r' s' /\ Fr g s s' w w'
theorem Ex.of {w w1 w' : World} {g : Nat} {src : ByteArray} {s s1 : Sl} {r' : Rdr} {v : Value} {e : Ending} (f : Fr g s s1 w w1) (h : Ex w1 g src s1 r' v e w') : Ex w g src s r' v e w' :=
  ⟨h.1, h.2.elim fun s' hs => ⟨s', hs.1, f.trans hs.2⟩⟩
theorem Sc.ex {w w' : World} {g : Nat} {src : ByteArray} {s : Sl} {r' : Rdr} {v : Value} {e : Ending} (h : Sc w g src s r' v e w') : Ex w g src s r' v e w' := ⟨h.1, s, h.2⟩
theorem St.last {w : World} {g : Nat} {src : ByteArray} {r : Rdr} {s : Sl} (h : St w g src r s) {L : List Nd} {m : Nd} (hl : r.tree.nodes = L ++ [m]) :
    ∃ ns x ps, x.n = m /\ ns.map (·.n) = L /\ TRows w (AX g s) r.tree s (ns ++ [x]) ps := by
  obtain ⟨ns, ps, hR⟩ := h.rows
  have hn := hR.ne
  rw [hl] at hn
  obtain ⟨n1, n2, rfl, h1, h2⟩ := List.map_eq_append_iff.1 hn
  obtain ⟨x, l, rfl, h3, h4⟩ := List.map_eq_cons_iff.1 h2
  rw [List.map_eq_nil_iff.1 h4] at hR
  exact ⟨n1, x, ps, h3, h1, hR⟩
theorem St.turn {w w' : World} {g : Nat} {src : ByteArray} {r : Rdr} {s : Sl} (h : St w g src r s) {ns : List MNd} {x x' : MNd} {ps : List MSt} (hR : TRows w (AX g s) r.tree s (ns ++ [x]) ps)
    (hk : Kp (fun b => s.nA.map (·.block) = some b) w w') (ho : w'.ownsRow 8 46 7 (.slice s.nA r.tree.nodes.length s.nc) r.tree.nodes.length (ns.flatMap ndC ++ ndC x')) (hx : OkN w (AX g s) x') :
    St w' g src { r with tree := { r.tree with nodes := ns.map (·.n) ++ [x'.n] } } s /\ Fr g s s w w' := by
  have hf : Fr g s s w w' := ⟨hk.mono (fun b _ e => by first | exact .inl e | exact .inr (.inl e) | exact .inr (.inr (.inl e)) | exact .inr (.inr (.inr (.inl e))) | exact .inr (.inr (.inr (.inr (.inl e)))) | exact .inr (.inr (.inr (.inr (.inr (.inl e))))) | exact .inr (.inr (.inr (.inr (.inr (.inr (e))))))), fun _ _ e => e, rfl⟩
  have hlen : (ns.map (·.n) ++ [x'.n]).length = r.tree.nodes.length := by rw [<- hR.ne]; simp
  have hgne : s.nA.map (·.block) ≠ some g := by rw [<- jC]; exact jM hR.rN h.box (by decide)
  have K : ∀ {e : TypeId} {z : Nat} {v : Value} {n : Nat} {xs : List Value}, w.ownsRow 8 e z v n xs -> e ≠ 46 -> w'.ownsRow 8 e z v n xs := fun ho hne =>
    jX ho hk (fun k e e' => kz ho hR.rN hne k e (by rw [jC]; exact e'))
  refine ⟨⟨h.sgf hf, h.g8, h.small, ?_, ⟨ns ++ [x'], ps, ?_⟩, h.from_, h.at_, h.t58, fun b hz => Nat.lt_of_lt_of_le (h.zlt b hz) hk.size, h.z8, h.zno⟩, hf⟩
  · have hb := h.box.kp hk hgne
    unfold Rb at hb ⊢
    simp only [rdC, jl, hlen] at hb ⊢
    exact hb
  · constructor
    case rA => exact K hR.rA (by decide)
    case rG => exact K hR.rG (by decide)
    case rM => exact K hR.rM (by decide)
    case rP => exact K hR.rP (by decide)
    case rO => exact K hR.rO (by decide)
    case rN =>
      simp only [hlen, List.flatMap_append, List.flatMap_singleton]
      exact ho
    case pe => exact hR.pe
    case ne => simp
    case po => exact fun y hy => (hR.po y hy).fr hf
    case no => exact fun y hy => (List.mem_append.1 hy).elim (fun hy => (hR.no y (List.mem_append.2 (.inl hy))).fr hf) (fun hy => by rw [List.mem_singleton.1 hy]; exact hx.fr hf)
theorem one_node (x : MNd) : ∀ u ∈ ndC x, u.oneCell' = true := by
  intro u hu
  simp only [ndC, iv, List.mem_cons, List.mem_nil_iff, or_false] at hu
  rcases hu with rfl | rfl | rfl | rfl | rfl | rfl | rfl <;> rfl
theorem Rd.one_at (w : World) (t : TypeId) (u : Value) {n : Nat} (hn : n = w.heap.size) : Rd (w.alloc (.cells #[u] t)) 1 (some ⟨n, 0, none⟩) 1 [u] := hn ▸ Rd.one_new w t u
theorem St.eight {w : World} {g : Nat} {src : ByteArray} {r : Rdr} {s : Sl} (h : St w g src r s) : 8 <= w.heap.size := by have := h.lt; have := h.g8; omega
theorem St.pastA {w w1 w2 : World} {g : Nat} {src : ByteArray} {r : Rdr} {s : Sl} {ns : List MNd} {ps : List MSt} (hs : St w g src r s) (h : TRows w (AX g s) r.tree s ns ps) (h1 : Old w w1) (hgr : w1.grownBy w2 (s.aA.map (·.block))) : Rb w2 g src r (jl r.tree s) :=
  (hs.box.old h1).kp (kp_row hgr) (by rw [<- jC]; exact jM h.rA hs.box (by decide))
theorem St.pastG {w w1 w2 : World} {g : Nat} {src : ByteArray} {r : Rdr} {s : Sl} {ns : List MNd} {ps : List MSt} (hs : St w g src r s) (h : TRows w (AX g s) r.tree s ns ps) (h1 : Old w w1) (hgr : w1.grownBy w2 (s.gA.map (·.block))) : Rb w2 g src r (jl r.tree s) :=
  (hs.box.old h1).kp (kp_row hgr) (by rw [<- jC]; exact jM h.rG hs.box (by decide))
theorem St.pastM {w w1 w2 : World} {g : Nat} {src : ByteArray} {r : Rdr} {s : Sl} {ns : List MNd} {ps : List MSt} (hs : St w g src r s) (h : TRows w (AX g s) r.tree s ns ps) (h1 : Old w w1) (hgr : w1.grownBy w2 (s.mA.map (·.block))) : Rb w2 g src r (jl r.tree s) :=
  (hs.box.old h1).kp (kp_row hgr) (by rw [<- jC]; exact jM h.rM hs.box (by decide))
theorem St.pastP {w w1 w2 : World} {g : Nat} {src : ByteArray} {r : Rdr} {s : Sl} {ns : List MNd} {ps : List MSt} (hs : St w g src r s) (h : TRows w (AX g s) r.tree s ns ps) (h1 : Old w w1) (hgr : w1.grownBy w2 (s.pA.map (·.block))) : Rb w2 g src r (jl r.tree s) :=
  (hs.box.old h1).kp (kp_row hgr) (by rw [<- jC]; exact jM h.rP hs.box (by decide))
theorem St.pastN {w w1 w2 : World} {g : Nat} {src : ByteArray} {r : Rdr} {s : Sl} {ns : List MNd} {ps : List MSt} (hs : St w g src r s) (h : TRows w (AX g s) r.tree s ns ps) (h1 : Old w w1) (hgr : w1.grownBy w2 (s.nA.map (·.block))) : Rb w2 g src r (jl r.tree s) :=
  (hs.box.old h1).kp (kp_row hgr) (by rw [<- jC]; exact jM h.rN hs.box (by decide))
theorem St.pastO {w w1 w2 : World} {g : Nat} {src : ByteArray} {r : Rdr} {s : Sl} {ns : List MNd} {ps : List MSt} (hs : St w g src r s) (h : TRows w (AX g s) r.tree s ns ps) (h1 : Old w w1) (hgr : w1.grownBy w2 (s.oA.map (·.block))) : Rb w2 g src r (jl r.tree s) :=
  (hs.box.old h1).kp (kp_row hgr) (by rw [<- jC]; exact jM h.rO hs.box (by decide))
def bareM (op : Int) (kids : List Int) (A : Option Addr) (c : Nat) : MNd := ⟨kt op kids, A, c, none, 0⟩
theorem kK (w : World) (g : Nat) (src : ByteArray) (r r' : Rdr) (s : Sl) (op x : Int) (at_ : Nat) (A : Option Addr) (c : Nat) (kids : List Int) (h : St w g src r s) (hr : Rd w 1 A kids.length (kids.map iv)) (ha : Av (AX g s) kids.length A)
    (hn : vX (kt op kids) at_ r = some (x, r')) :
    Calls Tryz.prog 201 #[.pointer (some ⟨g, 0, none⟩), iv op, iv (at_ : Int), .slice A kids.length c] w (Ex w g src s r' (iv x)) := by
  unfold vX at hn
  split at hn
  case isFalse => cases hn
  rename_i hlt
  injection hn with hn
  injection hn with e1 e2
  subst e1 e2
  obtain ⟨ns, ps, hR⟩ := h.rows
  have HS := jJ0 h
  have HR := jJ0 hR
  have HOk := jJ0 (show OkN w (AX g s) (bareM op kids A c) from ⟨hr, ha, Rd.none_, fun h0 => absurd h0 (Nat.lt_irrefl 0)⟩)
  have hc11 : w.cell? ⟨g, 11, none⟩ = some (.slice s.nA r.tree.nodes.length s.nc) := Blk.at_ h.box 11 rfl
  have HO := jJ0 ((Kp.refl NoX w).alloc (.cells (ndC (bareM op kids A c)).toArray 46))
  have H8 := jJ0 (show 8 <= w.heap.size by have := h.lt; have := h.g8; omega)
  obtain ⟨i0, hi, hz0, hz1, hz2⟩ := info_parts Tryz.infoNode
  obtain ⟨i1, hj, hy0, hy1, hy2⟩ := info_parts Tryz.infoInt
  have H63 := jJ0 (show r.tree.nodes.length + 1 <= maxLen by unfold maxLen; omega)
  have H47 := jJ0 (show (r.tree.nodes.length + 1) * 104 <= 140737488355328 by omega)
  have J63 := jJ0 (show r.tree.ats.length + 1 <= maxLen by unfold maxLen; omega)
  have J47 := jJ0 (show (r.tree.ats.length + 1) * 8 <= 140737488355328 by omega)
  have q1 : IntKind.i64.wrap ((r.tree.nodes.length : Int) + 1 - 1) = (r.tree.nodes.length : Int) := by rw [show (r.tree.nodes.length : Int) + 1 - 1 = (r.tree.nodes.length : Int) by omega]; exact IntWalk.i64_in _ (by omega)
  have q2 : RowKit.wrap64 (r.tree.nodes.length : Int) = (r.tree.nodes.length : Int) := IntWalk.wrap64_in _ (by omega)
  clear h hR hr ha hlt
  unfold iv
  go_enter Tryz.func201, Tryz.ntmps201
  go_wp2_with (first | (at_builtin; refine jF _ rfl (.tmp 14) (.tmp 18) 26 rfl 8 46 i0 _ 7 104 Tryz.underlying26 hi hz0 hz1 hz2 rfl (by decide) (.slice s.nA r.tree.nodes.length s.nc) r.tree.nodes.length (ns.flatMap ndC) rfl (jX HR.out.rN HO.out (fun _ _ e => e)) _ 1 1 (ndC (bareM op kids A c)) rfl (Rd.row_new _ _ 7 1 _ rfl) (one_node _) H63.out H47.out (Nat.le_trans H8.out HO.out.size) ?_; intro A1 c1 w2 hown hgrow hat; rw [jC] at hgrow hat; have hb2 := HS.out.pastN HR.out HO.out hgrow; have hc11 : w2.cell? ⟨g, 11, none⟩ = some (.slice s.nA r.tree.nodes.length s.nc) := Blk.at_ hb2 11 rfl; have hz11 := hb2.z 11; have hc12 : w2.cell? ⟨g, 12, none⟩ = some (.slice s.oA r.tree.ats.length s.oc) := Blk.at_ hb2 12 rfl; have hz12 := hb2.z 12; have H1 := jJ0 (HS.out.growN HR.out (bareM op kids A c) HOk.out HO.out hgrow hat hown); obtain ⟨ns2, ps2, hR2⟩ := H1.out.1.rows; have HR2 := jJ0 hR2; clear hb2 hown hgrow hat hR2) | (at_builtin; refine jF _ rfl (.tmp 28) (.tmp 30) 27 rfl 8 3 i1 _ 1 8 Tryz.underlying27 hj hy0 hy1 hy2 rfl (by decide) (.slice s.oA r.tree.ats.length s.oc) r.tree.ats.length (r.tree.ats.flatMap oC) rfl (jX HR2.out.rO ((Kp.refl NoX _).alloc _) (fun _ _ e => e)) _ 1 1 _ rfl (Rd.one_at _ _ _ (by simp [World.setCell])) (kL _ rfl) J63.out J47.out (Nat.le_trans H1.out.1.eight ((Kp.refl NoX _).alloc _).size) ?_; intro A2 c2 w5 hown hgrow hat; rw [jC] at hgrow hat; have hb5 := H1.out.1.pastO HR2.out ((Kp.refl NoX _).alloc _) hgrow; have hc11 := Blk.at_ hb5 11 (v := .slice A1 (r.tree.nodes ++ [(bareM op kids A c).n]).length c1) rfl; rw [List.length_append, List.length_singleton] at hc11; have hc12 : w5.cell? ⟨g, 12, none⟩ = some (.slice s.oA r.tree.ats.length s.oc) := Blk.at_ hb5 12 rfl; have hz12 := hb5.z 12; have H2 := jJ0 (H1.out.1.growO HR2.out (at_ : Int) True.intro ((Kp.refl NoX _).alloc _) hgrow hat hown); clear hb5 hown hgrow hat) | fail)
  go_ret
  exact ⟨rfl, _, H2.out.1, H1.out.2.trans H2.out.2⟩
end Go.Proofs.YtmmjcbbogokmfaaGreatDoor
