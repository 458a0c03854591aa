import Derived.Test.YtmmjcbbogokmfaaGreatDoorMt01
import Derived.Test.YtmmjcbbogokmfaaGreatDoorMt02
import Derived.Test.YtmmjcbbogokmfaaGreatDoorMt12
import Derived.Test.YtmmjcbbogokmfaaGreatDoorMt19
import Derived.Test.YtmmjcbbogokmfaaGreatDoorMt25
import Derived.Test.YtmmjcbbogokmfaaGreatDoorMt26
import Derived.Lib.AtoiAll
set_option maxRecDepth 100000
set_option maxHeartbeats 25600000
namespace Go.Proofs.YtmmjcbbogokmfaaGreatDoor
open Go.RowKit
theorem flat_z {α : Type} (C : α -> List Value) (z : Nat) (hz : ∀ x, (C x).length = z) : ∀ (xs : List α) (k : Nat) (x : α), xs[k]? = some x -> ∀ i, i < z -> (xs.flatMap C)[k * z + i]? = (C x)[i]?
  | [], _, _, h => by cases h
  | y :: l, 0, x, h => by
    intro i hi
    injection h with h
    subst h
    rw [List.flatMap_cons, Nat.zero_mul, Nat.zero_add, List.getElem?_append_left (by rw [hz]; exact hi)]
  | y :: l, k + 1, x, h => by
    intro i hi
    rw [List.flatMap_cons, List.getElem?_append_right (by rw [hz, Nat.succ_mul]; omega)]
    rw [<- flat_z C z hz l k x h i hi]
    congr 1
    rw [hz, Nat.succ_mul]
    omega
theorem vf {α : Type} {w : World} {C : α -> List Value} {z : Nat} (hz : ∀ x, (C x).length = z) {A : Option Addr} {n : Nat} {xs : List α} (hr : Rd w z A n (xs.flatMap C)) {k : Nat} {x : α} (hk : xs[k]? = some x) (hn : k < n) : ∃ b o, A = some ⟨b, o, none⟩ /\ ∀ i u, (C x)[i]? = some u -> w.cell? ⟨b, o + (k * z + i), none⟩ = some u := by
  obtain ⟨b, o, hA, hc⟩ := hr.2 (by omega)
  refine ⟨b, o, hA, fun i u hu => hc _ u ?_⟩
  have hi : i < z := by rw [<- hz x]; exact (List.getElem?_eq_some_iff.1 hu).1
  rw [flat_z C z hz xs k x hk i hi]
  exact hu
structure TrD (w : World) (t : Tre) (s : Sl) (ns : List MNd) (ps : List MSt) : Prop where
  nd : TrN w t s ns
  rA : Rd w 7 s.aA t.attrs.length (t.attrs.flatMap atC)
  rG : Rd w 7 s.gA t.stages.length (t.stages.flatMap sgC)
  rM : Rd w 6 s.mA t.miles.length (t.miles.flatMap miC)
  rP : Rd w 8 s.pA t.steps.length (ps.flatMap stC)
  pe : ps.map (·.s) = t.steps
  po : ∀ x ∈ ps, (Rd w 3 x.pA x.s.params.length (x.s.params.flatMap prC) /\ x.s.params.length <= 1000000) /\ Rd w 3 x.eA x.s.effects.length (x.s.effects.flatMap efC) /\ x.s.effects.length <= 1000000
  nA : t.attrs.length <= 1000000
  nG : t.stages.length <= 1000000
  nM : t.miles.length <= 1000000
  nP : t.steps.length <= 1000000
section
variable {w W W1 W2 : World} {t : Tre} {s : Sl} {next : Nat} {l : List UInt8} {B : Option Addr} {bc : Nat}
theorem Pr.c2 (h : Pr w t s next l B bc W) : W.cell? ⟨w.heap.size, 2, none⟩ = some (.slice s.aA t.attrs.length s.ac) := h.box.at_ 2 rfl
theorem Pr.c3 (h : Pr w t s next l B bc W) : W.cell? ⟨w.heap.size, 3, none⟩ = some (.slice s.gA t.stages.length s.gc) := h.box.at_ 3 rfl
theorem Pr.c4 (h : Pr w t s next l B bc W) : W.cell? ⟨w.heap.size, 4, none⟩ = some (.slice s.mA t.miles.length s.mc) := h.box.at_ 4 rfl
theorem Pr.c5 (h : Pr w t s next l B bc W) : W.cell? ⟨w.heap.size, 5, none⟩ = some (.slice s.pA t.steps.length s.pc) := h.box.at_ 5 rfl
theorem Pr.cellw (h : Pr w t s next l B bc W) {p : Addr} {u : Value} (hc : w.cell? p = some u) : W.cell? p = some u := by
  have hb := jk hc
  rw [World.cell?_of_block (h.kp.block p.block hb (fun e : w.heap.size <= p.block => by omega))]
  exact hc
theorem Pr.setNext (h : Pr w t s next l B bc W) (n : Nat) : Pr w t s n l B bc (W.setCell ⟨w.heap.size, 8, none⟩ (.int .i64 (n : Int))) /\ FrP W (W.setCell ⟨w.heap.size, 8, none⟩ (.int .i64 (n : Int))) := by
  have hk3 : Kp (fun k => k = w.heap.size) W (W.setCell ⟨w.heap.size, 8, none⟩ (.int .i64 (n : Int))) := (Kp.refl (fun k => k = w.heap.size) W).setCell (p := ⟨w.heap.size, 8, none⟩) (fun _ => rfl) _
  have hb3 := Blk.set_ h.box 8 (.int .i64 (n : Int))
  rw [List.setIfInBounds_toArray] at hb3
  refine ⟨⟨hb3, jX h.own hk3 (fun k e e2 => jM h.own h.box (by decide) (by rw [e]; exact congrArg some e2)), h.kp.trans hk3 (fun b hb e => ?_)⟩, ⟨hk3.size, fun q T cs h1 h2 hq => hq.kp hk3 (fun e => Blk.ne_ hq h.box h1 e)⟩⟩
  show w.heap.size <= b
  have : b = w.heap.size := e
  omega
end
def TrR (w : World) (t : Tre) (s : Sl) (l : List UInt8) (B : Option Addr) (bc : Nat) (o : Option Nat) (W : World) (e : Ending) (W' : World) : Prop := e = .returned (.bool o.isSome) /\ ∃ nx, (∀ n, o = some n -> nx = n) /\ Pr w t s nx l B bc W' /\ FrP W W'
theorem TrR.of {w W W1 W' : World} {t : Tre} {s : Sl} {l : List UInt8} {B : Option Addr} {bc : Nat} {o : Option Nat} {e : Ending} (f : FrP W W1) (h : TrR w t s l B bc o W1 e W') : TrR w t s l B bc o W e W' := ⟨h.1, h.2.elim fun nx h2 => ⟨nx, h2.1, h2.2.1, f.trans h2.2.2⟩⟩
theorem treeN_le {ns : List Nd} {f : Nat} {root : Int} {next nx : Nat} (h : yI ns f root next = some nx) : 0 <= root /\ root.toNat < ns.length /\ nx = root.toNat + 1 := by
  cases f with
  | zero => rw [yI] at h; cases h
  | succ f =>
    rw [yI] at h
    by_cases h1 : root < 0 \/ (ns.length : Int) <= root
    · rw [if_pos h1] at h; cases h
    rw [if_neg h1] at h
    cases hn : ns[root.toNat]? with
    | none => rw [hn] at h; cases h
    | some n =>
      rw [hn] at h
      simp only at h
      by_cases hr : jB n = false
      · rw [if_pos hr] at h; cases h
      rw [if_neg hr] at h
      obtain ⟨k, hk, h⟩ := Option.bind_eq_some_iff.1 h
      by_cases e : root = (k : Int)
      · rw [if_pos e] at h
        injection h with h
        omega
      · rw [if_neg e] at h; cases h
def kidsN (ns : List Nd) (f : Nat) (root : Int) (kids : List Int) (o : Option Nat) : Option Nat := kids.foldl (fun (s : Option Nat) k => s.bind fun nx => if root <= k then none else yI ns f k nx) o
theorem kidsN_none (ns : List Nd) (f : Nat) (root : Int) : ∀ kids, kidsN ns f root kids none = none
  | [] => rfl
  | _ :: l => kidsN_none ns f root l
theorem kidsN_cons (ns : List Nd) (f : Nat) (root k : Int) (l : List Int) (nx : Nat) : kidsN ns f root (k :: l) (some nx) = if root <= k then none else kidsN ns f root l (yI ns f k nx) := by
  show kidsN ns f root l (if root <= k then none else yI ns f k nx) = _
  split
  · exact kidsN_none _ _ _ _
  · rfl
structure LastN (w : World) (g : Nat) (src : ByteArray) (r : Rdr) (s : Sl) (k q : Nat) (ns : List MNd) (x : MNd) (ps : List MSt) (W : World) (L : List Value) : Prop where
  st : St w g src r s
  at_ : s.nA = some ⟨k, 0, none⟩
  len : ns.length = q
  cnt : r.tree.nodes.length = q + 1
  rows : TRows w (AX g s) r.tree s (ns ++ [x]) ps
  kp : Kp (fun b => s.nA.map (·.block) = some b) w W
  own : W.ownsRow 8 46 7 (.slice s.nA r.tree.nodes.length s.nc) r.tree.nodes.length (ns.flatMap ndC ++ L)
theorem flat_len (ns : List MNd) : (ns.flatMap ndC).length = ns.length * 7 := by
  induction ns with
  | nil => rfl
  | cons x l ih => rw [List.flatMap_cons, List.length_append, ih, List.length_cons]; simp only [ndC, List.length_cons, List.length_nil]; omega
theorem St.lastN {w : World} {g : Nat} {src : ByteArray} {r : Rdr} {s : Sl} (h : St w g src r s) {L : List Nd} {m : Nd} (hl : r.tree.nodes = L ++ [m]) :
    ∃ k ns x ps, x.n = m /\ ns.map (·.n) = L /\ LastN w g src r s k L.length ns x ps w (ndC x) := by
  obtain ⟨ns, x, ps, h1, h2, h3⟩ := h.last hl
  have hlen : r.tree.nodes.length = L.length + 1 := by rw [hl, List.length_append]; rfl
  obtain ⟨k, hk⟩ := own_some h3.rN (by omega)
  refine ⟨k, ns, x, ps, h1, h2, h, hk, by rw [<- h2, List.length_map], hlen, h3, Kp.refl _ _, ?_⟩
  have := h3.rN
  rwa [List.flatMap_append, List.flatMap_singleton] at this
section
variable {w : World} {g : Nat} {src : ByteArray} {r : Rdr} {s : Sl} {k q : Nat} {ns : List MNd} {x : MNd} {ps : List MSt} {W : World} {L : List Value}
theorem LastN.cell (h : LastN w g src r s k q ns x ps W L) (i : Nat) {u : Value} (hu : L[i]? = some u) : W.cell? ⟨k, q * 7 + i, none⟩ = some u /\ W.frozen? ⟨k, q * 7 + i, none⟩ = false := by
  have ho := h.own
  rw [h.at_] at ho
  refine own_cell ho (q * 7 + i) ?_
  have hl := flat_len ns
  rw [h.len] at hl
  rw [<- hl, List.getElem?_append_right (by omega), Nat.add_sub_cancel_left]
  exact hu
theorem LastN.set_ (h : LastN w g src r s k q ns x ps W L) (i : Nat) (u : Value) : LastN w g src r s k q ns x ps (W.setCell ⟨k, q * 7 + i, none⟩ u) (L.set i u) := by
  have ho := h.own
  rw [h.at_] at ho
  have ho2 := own_set ho (q * 7 + i) u
  have hl := flat_len ns
  rw [h.len] at hl
  rw [List.set_append_right _ _ (by omega), hl, Nat.add_sub_cancel_left] at ho2
  exact ⟨h.st, h.at_, h.len, h.cnt, h.rows, h.kp.setCell (p := ⟨k, q * 7 + i, none⟩) (fun _ => by rw [h.at_]; rfl) u, by rw [h.at_]; exact ho2⟩
theorem LastN.old {W' : World} (h : LastN w g src r s k q ns x ps W L) (ho : Old W W') : LastN w g src r s k q ns x ps W' L :=
  ⟨h.st, h.at_, h.len, h.cnt, h.rows, h.kp.old ho, jX h.own ho (fun _ _ e => e)⟩
theorem LastN.done (h : LastN w g src r s k q ns x ps W L) (x' : MNd) (hL : L = ndC x') (hx : OkN w (AX g s) x') : St W g src { r with tree := { r.tree with nodes := ns.map (·.n) ++ [x'.n] } } s /\ Fr g s s w W := by
  have ho := h.own
  rw [hL] at ho
  exact h.st.turn h.rows h.kp ho hx
theorem okN_nil (w : World) (X : Nat -> Prop) (m : Nd) (A : Option Addr) (c : Nat) (vA : Option Addr) (vc : Nat) (hm : m.kids = []) (hv : m.vs = []) : OkN w X ⟨m, A, c, vA, vc⟩ := by
  refine ⟨?_, ?_, ?_, ?_⟩
  · simp only [hm]; exact ⟨rfl, fun h => absurd h (Nat.lt_irrefl 0)⟩
  · simp only [hm]; exact fun h0 => absurd h0 (Nat.lt_irrefl 0)
  · simp only [hv]; exact ⟨rfl, fun h => absurd h (Nat.lt_irrefl 0)⟩
  · simp only [hv]; exact fun h0 => absurd h0 (Nat.lt_irrefl 0)
theorem LastN.lit {r' : Rdr} {Ln : List Nd} {b : Nd} (h : LastN w g src { r' with tree := { r'.tree with nodes := Ln ++ [b] } } s k q ns x ps W L) (hns : ns.map (·.n) = Ln) {m : Nd} (hT : r'.tree.nodes = Ln ++ [m])
    (hk : m.kids = []) (hv : m.vs = []) (vA : Option Addr) (vc : Nat) (hL : L = ndC ⟨m, x.A, x.c, vA, vc⟩) : St W g src r' s /\ Fr g s s w W := by
  have h1 := h.done ⟨m, x.A, x.c, vA, vc⟩ hL (okN_nil _ _ _ _ _ _ _ hk hv)
  simp only [hns, <- hT] at h1
  exact h1
end
theorem St.lastC {w : World} {g : Nat} {src : ByteArray} {r : Rdr} {s : Sl} (h : St w g src r s) {L : List Nd} {m : Nd} {q : Nat} (hl : r.tree.nodes = L ++ [m]) (hq : L.length = q) :
    ∃ k ns x ps, x.n = m /\ ns.map (·.n) = L /\ LastN w g src r s k q ns x ps w (ndC x) /\ w.cell? ⟨g, 11, none⟩ = some (.slice (some ⟨k, 0, none⟩) (q + 1) s.nc) := by
  obtain ⟨k, ns, x, ps, h1, h2, h3⟩ := h.lastN hl
  subst hq
  have hc : w.cell? ⟨g, 11, none⟩ = some (.slice s.nA r.tree.nodes.length s.nc) := Blk.at_ h.box 11 rfl
  rw [h3.at_, h3.cnt] at hc
  exact ⟨k, ns, x, ps, h1, h2, h3, hc⟩
theorem vm {n : Nd} {at_ : Nat} {r r' : Rdr} {x : Int} (h : vX n at_ r = some (x, r')) : vX (kt 4 []) at_ r = some (x, { r' with tree := { r'.tree with nodes := r.tree.nodes ++ [kt 4 []] } }) /\ r'.tree.nodes = r.tree.nodes ++ [n] /\ x = (r.tree.nodes.length : Int) /\ r.tree.nodes.length < 1000000 := by
  unfold vX at h ⊢
  split at h
  case isFalse => cases h
  rename_i hlt
  injection h with h
  injection h with h1 h2
  rw [if_pos hlt]
  subst h1 h2
  exact ⟨rfl, rfl, rfl, hlt.1⟩
theorem lit_name (w : World) (g : Nat) (src : ByteArray) (r r1 r' : Rdr) (s : Sl) (x : Int) (at_ : Nat) (h : St w g src r s) (ht : r.t = 1) (hn : jy (sb src) r = some r1)
    (hx : vX ⟨5, ⟨(kD (sb src) r).toArray⟩, 0, 0, ⟨#[]⟩, [], []⟩ at_ r1 = some (x, r')) :
    Calls Tryz.prog 236 #[.pointer (some ⟨g, 0, none⟩), iv (at_ : Int)] w (Ex w g src s r' (iv x)) := by
  have hc3 := h.box.c3
  rw [ht] at hc3
  have HS := jJ0 h
  have HN := jJ0 hn
  have HL := jJ0 (fun n => vw (w.drewN n) g src r s (h.drewN n))
  obtain ⟨h1, h2, h3, h4⟩ := vm hx
  generalize kD (sb src) r = lx at *
  have HB := jJ0 h1
  have HT := jJ0 h2
  generalize hq : r1.tree.nodes.length = q at *
  subst h3
  clear h hn hx h1 h2 ht
  unfold iv
  have f1 : (0 : Int) <= (q : Int) := by omega
  have f2 : (q : Int).toNat = q := by omega
  have f3 : (q : Int) < (q : Int) + 1 := by omega
  go_enter Tryz.func236, Tryz.ntmps236
  go_wp2
  go_quiet ((go_at_call 165; exact Calls.quiet_of (HL.out _)))
  go_wp2_with (first | (go_at_call 135; refine (jN _ g src _ _ s (HS.out.drewN _) HN.out).mono ?_; rintro e w1 ⟨rfl, hX⟩; have HX := jJ0 hX; clear hX) | (go_at_call 201; refine (kK _ g src _ _ s 4 _ _ none 0 [] HX.out.1 Rd.none_ (fun h0 => absurd h0 (Nat.lt_irrefl 0)) HB.out).mono ?_; rintro e w2 ⟨rfl, s2, hY, hYf⟩; obtain ⟨k, ns, xx, ps, hxn, hns, hLN, hc11⟩ := hY.lastC rfl hq; have d0 : w2.cell? ⟨k, q * 7, none⟩ = _ := (hLN.cell 0 rfl).1; have z0 : w2.frozen? ⟨k, q * 7, none⟩ = false := (hLN.cell 0 rfl).2; have d1 := (hLN.cell 1 rfl).1; have z1 := (hLN.cell 1 rfl).2; have HLN := jJ0 hLN; have HF := jJ0 hYf; clear hLN hY hYf; unfold iv) | fail)
  go_ret
  have HD := jJ0 (((HLN.out.set_ 0 (.int .i64 5)).set_ 1 (.string ⟨lx.toArray⟩)).lit hns HT.out rfl rfl xx.vA xx.vc (by simp only [ndC, hxn]; rfl))
  exact ⟨rfl, s2, HD.out.1, (((Fr.of_old s ((Kp.refl _ _).drewN _)).trans HX.out.2).trans HF.out).trans HD.out.2⟩
theorem lit_bool46 (w : World) (g : Nat) (src : ByteArray) (r r1 r' : Rdr) (s : Sl) (x : Int) (at_ : Nat) (h : St w g src r s) (ht : r.t = 46) (hn : jy (sb src) r = some r1)
    (hx : vX ⟨2, ⟨#[]⟩, 2, 1, ⟨#[]⟩, [], []⟩ at_ r1 = some (x, r')) :
    Calls Tryz.prog 236 #[.pointer (some ⟨g, 0, none⟩), iv (at_ : Int)] w (Ex w g src s r' (iv x)) := by
  have hc3 := h.box.c3
  rw [ht] at hc3
  have HS := jJ0 h
  have HN := jJ0 hn
  have HL := jJ0 (fun n => vw (w.drewN n) g src r s (h.drewN n))
  obtain ⟨h1, h2, h3, h4⟩ := vm hx
  generalize kD (sb src) r = lx at *
  have HB := jJ0 h1
  have HT := jJ0 h2
  generalize hq : r1.tree.nodes.length = q at *
  subst h3
  clear h hn hx h1 h2 ht
  unfold iv
  have f1 : (0 : Int) <= (q : Int) := by omega
  have f2 : (q : Int).toNat = q := by omega
  have f3 : (q : Int) < (q : Int) + 1 := by omega
  go_enter Tryz.func236, Tryz.ntmps236
  go_wp2
  go_quiet ((go_at_call 165; exact Calls.quiet_of (HL.out _)))
  go_wp2_with (first | (go_at_call 135; refine (jN _ g src _ _ s (HS.out.drewN _) HN.out).mono ?_; rintro e w1 ⟨rfl, hX⟩; have HX := jJ0 hX; clear hX) | (go_at_call 201; refine (kK _ g src _ _ s 4 _ _ none 0 [] HX.out.1 Rd.none_ (fun h0 => absurd h0 (Nat.lt_irrefl 0)) HB.out).mono ?_; rintro e w2 ⟨rfl, s2, hY, hYf⟩; obtain ⟨k, ns, xx, ps, hxn, hns, hLN, hc11⟩ := hY.lastC rfl hq; have d0 : w2.cell? ⟨k, q * 7, none⟩ = _ := (hLN.cell 0 rfl).1; have z0 : w2.frozen? ⟨k, q * 7, none⟩ = false := (hLN.cell 0 rfl).2; have d2 := (hLN.cell 2 rfl).1; have z2 := (hLN.cell 2 rfl).2; have d3 := (hLN.cell 3 rfl).1; have z3 := (hLN.cell 3 rfl).2; have d4 := (hLN.cell 4 rfl).1; have z4 := (hLN.cell 4 rfl).2; have d5 := (hLN.cell 5 rfl).1; have z5 := (hLN.cell 5 rfl).2; have HLN := jJ0 hLN; have HF := jJ0 hYf; clear hLN hY hYf; unfold iv) | fail)
  go_ret
  have HD := jJ0 ((((((HLN.out.set_ 0 (.int .i64 2)).set_ 2 (.int .i64 2)).set_ 3 (.int .i64 1)).set_ 4 (.string ⟨#[]⟩)).set_ 5 (.slice none 0 0)).lit hns HT.out rfl rfl none 0 (by simp only [ndC, hxn]; rfl))
  exact ⟨rfl, s2, HD.out.1, (((Fr.of_old s ((Kp.refl _ _).drewN _)).trans HX.out.2).trans HF.out).trans HD.out.2⟩
theorem lit_bool47 (w : World) (g : Nat) (src : ByteArray) (r r1 r' : Rdr) (s : Sl) (x : Int) (at_ : Nat) (h : St w g src r s) (ht : r.t = 47) (hn : jy (sb src) r = some r1)
    (hx : vX ⟨2, ⟨#[]⟩, 2, 0, ⟨#[]⟩, [], []⟩ at_ r1 = some (x, r')) :
    Calls Tryz.prog 236 #[.pointer (some ⟨g, 0, none⟩), iv (at_ : Int)] w (Ex w g src s r' (iv x)) := by
  have hc3 := h.box.c3
  rw [ht] at hc3
  have HS := jJ0 h
  have HN := jJ0 hn
  have HL := jJ0 (fun n => vw (w.drewN n) g src r s (h.drewN n))
  obtain ⟨h1, h2, h3, h4⟩ := vm hx
  generalize kD (sb src) r = lx at *
  have HB := jJ0 h1
  have HT := jJ0 h2
  generalize hq : r1.tree.nodes.length = q at *
  subst h3
  clear h hn hx h1 h2 ht
  unfold iv
  have f1 : (0 : Int) <= (q : Int) := by omega
  have f2 : (q : Int).toNat = q := by omega
  have f3 : (q : Int) < (q : Int) + 1 := by omega
  go_enter Tryz.func236, Tryz.ntmps236
  go_wp2
  go_quiet ((go_at_call 165; exact Calls.quiet_of (HL.out _)))
  go_wp2_with (first | (go_at_call 135; refine (jN _ g src _ _ s (HS.out.drewN _) HN.out).mono ?_; rintro e w1 ⟨rfl, hX⟩; have HX := jJ0 hX; clear hX) | (go_at_call 201; refine (kK _ g src _ _ s 4 _ _ none 0 [] HX.out.1 Rd.none_ (fun h0 => absurd h0 (Nat.lt_irrefl 0)) HB.out).mono ?_; rintro e w2 ⟨rfl, s2, hY, hYf⟩; obtain ⟨k, ns, xx, ps, hxn, hns, hLN, hc11⟩ := hY.lastC rfl hq; have d0 : w2.cell? ⟨k, q * 7, none⟩ = _ := (hLN.cell 0 rfl).1; have z0 : w2.frozen? ⟨k, q * 7, none⟩ = false := (hLN.cell 0 rfl).2; have d2 := (hLN.cell 2 rfl).1; have z2 := (hLN.cell 2 rfl).2; have d3 := (hLN.cell 3 rfl).1; have z3 := (hLN.cell 3 rfl).2; have d4 := (hLN.cell 4 rfl).1; have z4 := (hLN.cell 4 rfl).2; have d5 := (hLN.cell 5 rfl).1; have z5 := (hLN.cell 5 rfl).2; have HLN := jJ0 hLN; have HF := jJ0 hYf; clear hLN hY hYf; unfold iv) | fail)
  go_ret
  have HD := jJ0 ((((((HLN.out.set_ 0 (.int .i64 2)).set_ 2 (.int .i64 2)).set_ 3 (.int .i64 0)).set_ 4 (.string ⟨#[]⟩)).set_ 5 (.slice none 0 0)).lit hns HT.out rfl rfl none 0 (by simp only [ndC, hxn]; rfl))
  exact ⟨rfl, s2, HD.out.1, (((Fr.of_old s ((Kp.refl _ _).drewN _)).trans HX.out.2).trans HF.out).trans HD.out.2⟩
theorem decN_add : ∀ (l : List UInt8) (n : Nat), decN l n = n * 10 ^ l.length + decN l 0
  | [], n => by rw [decN, decN, List.length_nil, Nat.pow_zero, Nat.mul_one, Nat.add_zero]
  | c :: l, n => by
    rw [decN, decN, decN_add l (10 * n + (c.toNat - 48)), decN_add l (10 * 0 + (c.toNat - 48)), List.length_cons, Nat.pow_succ]
    generalize 10 ^ l.length = p
    rw [Nat.mul_zero, Nat.zero_add, Nat.add_mul, Nat.add_assoc]
    congr 1
    rw [Nat.mul_comm 10 n, Nat.mul_assoc, Nat.mul_comm 10 p]
theorem dig_le {c : UInt8} (h : digC c = true) : 48 <= c.toNat /\ c.toNat <= 57 := of_decide_eq_true h
theorem decN_lt : ∀ (l : List UInt8), l.all digC = true -> decN l 0 < 10 ^ l.length
  | [], _ => by decide
  | c :: l, h => by
    rw [List.all_cons, Bool.and_eq_true] at h
    have h1 := decN_lt l h.2
    have h2 := dig_le h.1
    rw [decN, decN_add, List.length_cons, Nat.pow_succ, Nat.mul_zero, Nat.zero_add]
    have h3 : (c.toNat - 48) * 10 ^ l.length <= 9 * 10 ^ l.length := Nat.mul_le_mul_right _ (by omega)
    generalize 10 ^ l.length = p at *
    omega
theorem decN_ge (l : List UInt8) (n : Nat) : n <= decN l n := by
  rw [decN_add]
  exact Nat.le_trans (Nat.le_mul_of_pos_right n (Nat.pow_pos (by decide))) (Nat.le_add_right _ _)
theorem decN_dropZ : ∀ (l : List UInt8), decN (vP l) 0 = decN l 0
  | [] => rfl
  | [a] => rfl
  | a :: b :: l => by
    unfold vP
    by_cases h : a = 48
    · rw [if_pos h, decN_dropZ (b :: l)]
      subst h
      rfl
    · rw [if_neg h]
theorem all_dropZ : ∀ (l : List UInt8), l.all digC = true -> (vP l).all digC = true
  | [], h => h
  | [a], h => h
  | a :: b :: l, h => by
    unfold vP
    by_cases h1 : a = 48
    · rw [if_pos h1]
      rw [List.all_cons, Bool.and_eq_true] at h
      exact all_dropZ (b :: l) h.2
    · rw [if_neg h1]
      exact h
theorem decN_le : ∀ (x y : List UInt8), x.length = y.length -> x.all digC = true -> y.all digC = true -> leB x y = true -> decN x 0 <= decN y 0
  | [], [], _, _, _, _ => Nat.le_refl _
  | [], _ :: _, h, _, _, _ => by cases h
  | _ :: _, [], h, _, _, _ => by cases h
  | a :: x, b :: y, h, hx, hy, hl => by
    rw [List.length_cons, List.length_cons] at h
    have hlen : x.length = y.length := by omega
    rw [List.all_cons, Bool.and_eq_true] at hx hy
    have ha := dig_le hx.1
    have hb := dig_le hy.1
    have h1 := decN_lt x hx.2
    rw [leB] at hl
    rw [decN, decN, decN_add x, decN_add y, hlen]
    rw [hlen] at h1
    simp only [Nat.mul_zero, Nat.zero_add]
    by_cases hab : a.toNat < b.toNat
    · have h3 : (a.toNat - 48 + 1) * 10 ^ y.length <= (b.toNat - 48) * 10 ^ y.length := Nat.mul_le_mul_right _ (by omega)
      rw [Nat.add_mul] at h3
      generalize 10 ^ y.length = p at *
      omega
    · rw [if_neg hab] at hl
      by_cases hba : b.toNat < a.toNat
      · rw [if_pos hba] at hl; cases hl
      · rw [if_neg hba] at hl
        have h4 := decN_le x y hlen hx.2 hy.2 hl
        have h5 : a.toNat = b.toNat := by omega
        rw [h5]
        omega
theorem greatest_dec : decN yB 0 = 9223372036854775807 := by decide +kernel
theorem int_le {l : List UInt8} (h : jc l = true) : l.all digC = true /\ decN l 0 <= 9223372036854775807 := by
  unfold jc at h
  rw [Bool.and_eq_true] at h
  obtain ⟨h1, h2⟩ := h
  refine ⟨h1, ?_⟩
  rw [<- decN_dropZ l]
  have h3 := all_dropZ l h1
  rw [Bool.or_eq_true, Bool.and_eq_true] at h2
  rcases h2 with h2 | ⟨h2, h4⟩
  · have h5 := decN_lt _ h3
    have h6 : (vP l).length <= 18 := by have := of_decide_eq_true h2; omega
    have h7 : 10 ^ (vP l).length <= 10 ^ 18 := Nat.pow_le_pow_right (by decide) h6
    have h8 : (10 : Nat) ^ 18 = 1000000000000000000 := by decide
    omega
  · have h5 := decN_le (vP l) yB (of_decide_eq_true h2) h3 (by decide) h4
    rw [greatest_dec] at h5
    exact h5
theorem parse_dec : ∀ (l : List UInt8) (acc : Nat), l.all digC = true -> decN l acc < 18446744073709551616 -> Lib.parseUint10 acc l = .ok (decN l acc)
  | [], acc, _, _ => rfl
  | c :: l, acc, h, hl => by
    rw [List.all_cons, Bool.and_eq_true] at h
    have hc := dig_le h.1
    rw [decN] at hl ⊢
    have hg := decN_ge l (10 * acc + (c.toNat - 48))
    rw [Lib.parseUint10, if_pos hc, if_neg (by omega), if_neg (by omega), Nat.mul_comm acc 10]
    exact parse_dec l _ h.2 hl
theorem dec_atoi {l : List UInt8} (h : jc l = true) (hne : l ≠ []) : Lib.atoiAll l = .ok (decN l 0 : Int) := by
  obtain ⟨h1, h2⟩ := int_le h
  cases l with
  | nil => exact absurd rfl hne
  | cons c r =>
    have hc : 48 <= c.toNat /\ c.toNat <= 57 := by
      rw [List.all_cons, Bool.and_eq_true] at h1
      exact dig_le h1.1
    have hp := parse_dec (c :: r) 0 h1 (by omega)
    unfold Lib.atoiAll
    simp only
    rw [if_neg (by omega)]
    unfold Lib.parseMag
    rw [if_neg (by simp), hp]
    simp only
    rw [if_neg (by omega), if_neg (by omega), if_neg (by omega)]
theorem hexV_of {c : UInt8} (h : hexC c = true) : (48 <= c.toNat /\ c.toNat <= 57 /\ hexV c = c.toNat - 48) \/ (97 <= c.toNat /\ c.toNat <= 102 /\ hexV c = c.toNat - 87) := by
  unfold hexC at h
  rw [Bool.or_eq_true] at h
  rcases h with h | h
  · have h2 : 48 <= c.toNat /\ c.toNat <= 57 := of_decide_eq_true h
    exact .inl ⟨h2.1, h2.2, by unfold hexV; rw [if_pos h]⟩
  · have h2 := of_decide_eq_true h
    refine .inr ⟨h2.1, h2.2, ?_⟩
    unfold hexV
    rw [if_neg (by unfold digC; rw [decide_eq_false (by omega)]; decide)]
theorem parse_in (w : World) (s : ByteArray) (a b : UInt8) (hs : sb s = [a, b]) (ha : hexC a = true) (hb : hexC b = true) :
    Calls Tryz.prog 265 #[.string s, .int .i64 16, .int .i64 8] w fun e w' => e = .returned (.tuple #[.int .u64 ((16 * hexV a + hexV b : Nat) : Int), .nilIface]) /\ Old w w' := by
  have hsz : s.size = 2 := by rw [<- jA, hs]; rfl
  have hne : s.toList.isEmpty = false := by
    rw [ByteArray.toList_eq]
    show (sb s).isEmpty = false
    rw [hs]
    rfl
  have e0 : (sb s).length = 2 := by rw [hs]; rfl
  have HS := jJ0 hs
  obtain ⟨da, hda⟩ : ∃ d, hexV a = d := ⟨_, rfl⟩
  obtain ⟨db, hdb⟩ : ∃ d, hexV b = d := ⟨_, rfl⟩
  have H1 := jJ0 (hexV_of ha)
  have H2 := jJ0 (hexV_of hb)
  rw [hda] at H1 ⊢
  rw [hdb] at H2 ⊢
  clear hs ha hb hda hdb
  go_enter Tryz.func265, Tryz.ntmps265
  go_wp2_with (first | (with_reducible refine at_conv 9 33 ?_; refine wpList_conv_sb _ Tryz.underlying9 Tryz.underlying33 Tryz.underlying5 s rfl ?_; intro A1 c1 w1 hrd1 ho1 hav1) | fail)
  have HR := jJ0 hrd1
  have HO := jJ0 ho1
  clear hrd1 ho1 hav1
  go_loopw [101, 13, 12] (fun i n u wr => ∃ (j nj k : Nat), j <= 2 /\ i = .int .i64 (j : Int) /\ n = .int .u64 (nj : Int) /\ u = .bool false /\ (j = 0 -> nj = 0) /\ (j = 1 -> nj = da) /\ (j = 2 -> nj = 16 * da + db) /\ nj <= 255 /\ (j <= 1 -> nj <= 15) /\ wr = w1.drewN k) (fun i _ _ _ => 2 - (intOf i).toNat)
  case atStart => exact ⟨0, 0, 0, by omega, rfl, rfl, rfl, fun _ => rfl, fun e => by omega, fun e => by omega, by omega, fun _ => by omega, by simp [World.drewN_zero]⟩
  case round =>
    obtain ⟨j, nj, k, hj, rfl, rfl, rfl, h0, h1, h2, h255, h15, rfl⟩ := hrel
    have HJ := jJ0 (And.intro h0 (And.intro h1 h2))
    by_cases hlt : j < 2
    · obtain ⟨x, d, hx, hc, hnx⟩ : ∃ x d : Nat, (sb s)[j]? = some (UInt8.ofNat x) /\ ((48 <= x /\ x <= 57 /\ d = x - 48) \/ (97 <= x /\ x <= 102 /\ d = x - 87)) /\ (j = 0 -> d = da) /\ (j = 1 -> d = db) := by
        have hj2 : j = 0 \/ j = 1 := by omega
        rcases hj2 with rfl | rfl
        · refine ⟨a.toNat, da, by rw [HS.out, UInt8.ofNat_toNat]; rfl, H1.out, fun _ => rfl, fun e => by omega⟩
        · refine ⟨b.toNat, db, by rw [HS.out, UInt8.ofNat_toNat]; rfl, H2.out, fun e => by omega, fun _ => rfl⟩
      obtain ⟨b3, o3, u3, hA, hu, hcell⟩ := HR.out.at_ (k := j) (by rw [hsz]; exact hlt)
      subst hA
      have hx8 : x < 256 := by omega
      have hu2 : u3 = .int .u8 (x : Int) := by
        rw [List.getElem?_map, hx] at hu
        injection hu with hu
        rw [<- hu]
        unfold bv
        rw [UInt8.toNat_ofNat_of_lt' (by omega)]
      subst hu2
      have hcw : (w1.drewN k).cell? ⟨b3, o3 + j, none⟩ = some (.int .u8 (x : Int)) := hcell
      have hn15 : nj <= 15 := h15 (by omega)
      have hd15 : d <= 15 := by omega
      have b1 : (0 : Int) <= (j : Int) := by omega
      have b2 : (j : Int).toNat = j := by omega
      have b3' : (j : Int) < (s.size : Int) := by omega
      have b4 : IntKind.i64.wrap ((j : Int) + 1) = (j : Int) + 1 := IntWalk.i64_in _ (by omega)
      have c1 : ((x : Int) == 95) = false := beq_eq_false_iff_ne.2 (by omega)
      have c5 : ¬ (16 : Int) <= (d : Int) := by omega
      have c6 : ¬ (1152921504606846976 : Int) <= (nj : Int) := by omega
      have c7 : IntKind.u64.wrap ((nj : Int) * 16) = (nj : Int) * 16 := IntWalk.u64_in _ (by omega)
      have c8 : IntKind.u64.wrap ((nj : Int) * 16 + (d : Int)) = (nj : Int) * 16 + (d : Int) := IntWalk.u64_in _ (by omega)
      have c9 : ¬ (nj : Int) * 16 + (d : Int) < (nj : Int) * 16 := by omega
      have c10 : ¬ (255 : Int) < (nj : Int) * 16 + (d : Int) := by omega
      have HNX := jJ0 hnx
      clear hu hcell hx h0 h1 h2 h15 hnx h255
      rcases hc with ⟨x1, x2, x3⟩ | ⟨x1, x2, x3⟩
      · have c2 : (48 : Int) <= (x : Int) := by omega
        have c3 : (x : Int) <= 57 := by omega
        have c4 : IntKind.u8.wrap ((x : Int) - 48) = (d : Int) := by rw [show (x : Int) - 48 = (d : Int) by omega]; exact IntWalk.u8_in _ (by omega)
        clear x1 x2 x3
        go_wp2_with (first | go_quiet (fail) | fail)
        exact ⟨⟨j + 1, nj * 16 + d, k, by omega, by rw [show ((j + 1 : Nat) : Int) = (j : Int) + 1 by omega], by rw [show ((nj * 16 + d : Nat) : Int) = (nj : Int) * 16 + (d : Int) by omega], rfl, fun e => by omega, fun e => by have := HNX.out.1 (by omega); have := HJ.out.1 (by omega); omega, fun e => by have := HNX.out.2 (by omega); have := HJ.out.2.1 (by omega); omega, by omega, fun e => by have := HJ.out.1 (by omega); omega, rfl⟩, by simp only [intOf]; omega⟩
      · have c2 : (48 : Int) <= (x : Int) := by omega
        have c3 : ¬ (x : Int) <= 57 := by omega
        have c4 : IntKind.u8.wrap ((x : Int) - 97) = (x : Int) - 97 := IntWalk.u8_in _ (by omega)
        have c4' : IntKind.u8.wrap ((x : Int) - 97 + 10) = (d : Int) := by rw [show (x : Int) - 97 + 10 = (d : Int) by omega]; exact IntWalk.u8_in _ (by omega)
        have c3' : (97 : Int) <= (x : Int) := by omega
        have c3'' : (x : Int) <= 122 := by omega
        have cb : bits BinOp.or IntKind.u8 (x : Int) 32 = (x : Int) := by
          have hx6 : x = 97 \/ x = 98 \/ x = 99 \/ x = 100 \/ x = 101 \/ x = 102 := by omega
          rcases hx6 with rfl | rfl | rfl | rfl | rfl | rfl <;> decide
        clear x1 x2 x3
        go_wp2
        exact ⟨⟨j + 1, nj * 16 + d, k, by omega, by rw [show ((j + 1 : Nat) : Int) = (j : Int) + 1 by omega], by rw [show ((nj * 16 + d : Nat) : Int) = (nj : Int) * 16 + (d : Int) by omega], rfl, fun e => by omega, fun e => by have := HNX.out.1 (by omega); have := HJ.out.1 (by omega); omega, fun e => by have := HNX.out.2 (by omega); have := HJ.out.2.1 (by omega); omega, by omega, fun e => by have := HJ.out.1 (by omega); omega, rfl⟩, by simp only [intOf]; omega⟩
    · obtain rfl : j = 2 := by omega
      have hn := h2 rfl
      clear h0 h1 h2 h15 h255
      subst hn
      go_wp2_with (first | go_quiet (fail) | fail)
      go_ret2
      exact ⟨rfl, HO.out.drewN _⟩
end Go.Proofs.YtmmjcbbogokmfaaGreatDoor
