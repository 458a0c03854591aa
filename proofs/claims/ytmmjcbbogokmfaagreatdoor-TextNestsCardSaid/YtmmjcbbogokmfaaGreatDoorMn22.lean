import Derived.Test.YtmmjcbbogokmfaaGreatDoorMn14
import Derived.Test.YtmmjcbbogokmfaaGreatDoorMn20
import Derived.Test.YtmmjcbbogokmfaaGreatDoorMn21
/- Contract of text.Right (any node). -/
namespace Go.Proofs.YtmmjcbbogokmfaaGreatDoor
open Go.RowKit

set_option maxRecDepth 100000 in
set_option maxHeartbeats 3200000 in
theorem right_in (w : World) (x : MNd) (h : 1 ≤ x.n.op ∧ x.n.op < 34) (hne : ¬ (x.n.op = 1 ∨ x.n.op = 2 ∨ x.n.op = 3 ∨ x.n.op = 4 ∨ x.n.op = 29 ∨ x.n.op = 30 ∨ x.n.op = 5 ∨ x.n.op = 24 ∨ x.n.op = 25 ∨ x.n.op = 26 ∨ x.n.op = 6 ∨ x.n.op = 7 ∨ x.n.op = 8 ∨ x.n.op = 27 ∨ x.n.op = 23)) : Calls Tryz.prog 22 #[.agg (ndC x).toArray] w fun e w' => e = .returned (.bool (rightN x.n)) ∧ Old w w' := by
  obtain ⟨⟨op, name, vk, vn, vt, vs, kids⟩, A, c, vA, vc⟩ := x
  simp only at h hne
  have hem := tl_empty name
  have r1 : ¬ op = 1 := by omega
  have q1 : (op == 1) = false := beq_eq_false_iff_ne.2 r1
  have r2 : ¬ op = 2 := by omega
  have q2 : (op == 2) = false := beq_eq_false_iff_ne.2 r2
  have r3 : ¬ op = 3 := by omega
  have q3 : (op == 3) = false := beq_eq_false_iff_ne.2 r3
  have r4 : ¬ op = 4 := by omega
  have q4 : (op == 4) = false := beq_eq_false_iff_ne.2 r4
  have r29 : ¬ op = 29 := by omega
  have q29 : (op == 29) = false := beq_eq_false_iff_ne.2 r29
  have r30 : ¬ op = 30 := by omega
  have q30 : (op == 30) = false := beq_eq_false_iff_ne.2 r30
  have r5 : ¬ op = 5 := by omega
  have q5 : (op == 5) = false := beq_eq_false_iff_ne.2 r5
  have r24 : ¬ op = 24 := by omega
  have q24 : (op == 24) = false := beq_eq_false_iff_ne.2 r24
  have r25 : ¬ op = 25 := by omega
  have q25 : (op == 25) = false := beq_eq_false_iff_ne.2 r25
  have r26 : ¬ op = 26 := by omega
  have q26 : (op == 26) = false := beq_eq_false_iff_ne.2 r26
  have r6 : ¬ op = 6 := by omega
  have q6 : (op == 6) = false := beq_eq_false_iff_ne.2 r6
  have r7 : ¬ op = 7 := by omega
  have q7 : (op == 7) = false := beq_eq_false_iff_ne.2 r7
  have r8 : ¬ op = 8 := by omega
  have q8 : (op == 8) = false := beq_eq_false_iff_ne.2 r8
  have r27 : ¬ op = 27 := by omega
  have q27 : (op == 27) = false := beq_eq_false_iff_ne.2 r27
  have r23 : ¬ op = 23 := by omega
  have q23 : (op == 23) = false := beq_eq_false_iff_ne.2 r23
  clear hne
  have g1 : ¬ op < 1 := by omega
  have g2 : ¬ 34 ≤ op := by omega
  rcases stages (vk = 0) (vn = 0) vt vs kids 2 with a | ⟨a, b⟩ | ⟨a, b, d⟩ | ⟨a, b, d, e⟩ | ⟨a, b, d, e, f⟩ | ⟨a, b, d, e, f⟩
  · have a2 := bnt a
    have hy : rightN ⟨op, name, vk, vn, vt, vs, kids⟩ = false := by simp_all [rightN]
    simp only [hy]
    clear hy hem
    unfold ndC iv
    simp only
    go_enter Tryz.func22, Tryz.ntmps22
    go_wp2
    all_goals
      go_ret
      exact ⟨rfl, by first | exact ((Kp.refl _ _).alloc _) | exact ((Kp.refl _ _).alloc _).alloc _ | exact (((Kp.refl _ _).alloc _).alloc _).alloc _⟩
  · have a2 := bnf a
    have b2 := bnt b
    have hy : rightN ⟨op, name, vk, vn, vt, vs, kids⟩ = false := by simp_all [rightN]
    simp only [hy]
    clear hy hem
    unfold ndC iv
    simp only
    go_enter Tryz.func22, Tryz.ntmps22
    go_wp2
    all_goals
      go_ret
      exact ⟨rfl, by first | exact ((Kp.refl _ _).alloc _) | exact ((Kp.refl _ _).alloc _).alloc _ | exact (((Kp.refl _ _).alloc _).alloc _).alloc _⟩
  · have a2 := bnf a
    have b2 := bnf b
    have hy : rightN ⟨op, name, vk, vn, vt, vs, kids⟩ = false := by simp_all [rightN, tl_size]
    simp only [hy]
    clear hy hem
    unfold ndC iv
    simp only
    go_enter Tryz.func22, Tryz.ntmps22
    go_wp2
    all_goals
      go_ret
      exact ⟨rfl, by first | exact ((Kp.refl _ _).alloc _) | exact ((Kp.refl _ _).alloc _).alloc _ | exact (((Kp.refl _ _).alloc _).alloc _).alloc _⟩
  · have a2 := bnf a
    have b2 := bnf b
    have hy : rightN ⟨op, name, vk, vn, vt, vs, kids⟩ = false := by simp_all [rightN, tl_size, List.length_pos_iff]
    simp only [hy]
    clear hy hem
    unfold ndC iv
    simp only
    go_enter Tryz.func22, Tryz.ntmps22
    go_wp2
    all_goals
      go_ret
      exact ⟨rfl, by first | exact ((Kp.refl _ _).alloc _) | exact ((Kp.refl _ _).alloc _).alloc _ | exact (((Kp.refl _ _).alloc _).alloc _).alloc _⟩
  · have a2 := bnf a
    have b2 := bnf b
    subst e
    have f1 : (kids.length : Int) ≠ 2 := bne_iff_ne.1 f
    have f2 : ¬ kids.length = 2 := fun e => f1 (by omega)
    clear f1
    have hy : rightN ⟨op, name, vk, vn, vt, [], kids⟩ = false := by simp_all [rightN, tl_size]
    simp only [hy]
    clear hy hem
    unfold ndC iv
    simp only
    go_enter Tryz.func22, Tryz.ntmps22
    go_wp2
    all_goals
      go_ret
      exact ⟨rfl, by first | exact ((Kp.refl _ _).alloc _) | exact ((Kp.refl _ _).alloc _).alloc _ | exact (((Kp.refl _ _).alloc _).alloc _).alloc _⟩
  · have a2 := bnf a
    have b2 := bnf b
    subst e
    have f1 : (kids.length : Int) = 2 := by simpa using f
    have f2 : kids.length = 2 := by omega
    clear f1
    have hy : rightN ⟨op, name, vk, vn, vt, [], kids⟩ = name.toList.isEmpty := by simp_all [rightN, tl_size]
    simp only [hy]
    clear hy hem
    unfold ndC iv
    simp only
    go_enter Tryz.func22, Tryz.ntmps22
    go_wp2
    go_ret
    exact ⟨rfl, by first | exact ((Kp.refl _ _).alloc _) | exact ((Kp.refl _ _).alloc _).alloc _ | exact (((Kp.refl _ _).alloc _).alloc _).alloc _⟩
set_option maxRecDepth 100000 in
set_option maxHeartbeats 3200000 in
theorem right_out (w : World) (x : MNd) (h : ¬ (1 ≤ x.n.op ∧ x.n.op < 34)) (hne : ¬ (x.n.op = 1 ∨ x.n.op = 2 ∨ x.n.op = 3 ∨ x.n.op = 4 ∨ x.n.op = 29 ∨ x.n.op = 30 ∨ x.n.op = 5 ∨ x.n.op = 24 ∨ x.n.op = 25 ∨ x.n.op = 26 ∨ x.n.op = 6 ∨ x.n.op = 7 ∨ x.n.op = 8 ∨ x.n.op = 27 ∨ x.n.op = 23)) : Calls Tryz.prog 22 #[.agg (ndC x).toArray] w fun e w' => e = .returned (.bool (rightN x.n)) ∧ Old w w' := by
  obtain ⟨⟨op, name, vk, vn, vt, vs, kids⟩, A, c, vA, vc⟩ := x
  simp only at h hne
  have hem := tl_empty name
  have r1 : ¬ op = 1 := by omega
  have q1 : (op == 1) = false := beq_eq_false_iff_ne.2 r1
  have r2 : ¬ op = 2 := by omega
  have q2 : (op == 2) = false := beq_eq_false_iff_ne.2 r2
  have r3 : ¬ op = 3 := by omega
  have q3 : (op == 3) = false := beq_eq_false_iff_ne.2 r3
  have r4 : ¬ op = 4 := by omega
  have q4 : (op == 4) = false := beq_eq_false_iff_ne.2 r4
  have r29 : ¬ op = 29 := by omega
  have q29 : (op == 29) = false := beq_eq_false_iff_ne.2 r29
  have r30 : ¬ op = 30 := by omega
  have q30 : (op == 30) = false := beq_eq_false_iff_ne.2 r30
  have r5 : ¬ op = 5 := by omega
  have q5 : (op == 5) = false := beq_eq_false_iff_ne.2 r5
  have r24 : ¬ op = 24 := by omega
  have q24 : (op == 24) = false := beq_eq_false_iff_ne.2 r24
  have r25 : ¬ op = 25 := by omega
  have q25 : (op == 25) = false := beq_eq_false_iff_ne.2 r25
  have r26 : ¬ op = 26 := by omega
  have q26 : (op == 26) = false := beq_eq_false_iff_ne.2 r26
  have r6 : ¬ op = 6 := by omega
  have q6 : (op == 6) = false := beq_eq_false_iff_ne.2 r6
  have r7 : ¬ op = 7 := by omega
  have q7 : (op == 7) = false := beq_eq_false_iff_ne.2 r7
  have r8 : ¬ op = 8 := by omega
  have q8 : (op == 8) = false := beq_eq_false_iff_ne.2 r8
  have r27 : ¬ op = 27 := by omega
  have q27 : (op == 27) = false := beq_eq_false_iff_ne.2 r27
  have r23 : ¬ op = 23 := by omega
  have q23 : (op == 23) = false := beq_eq_false_iff_ne.2 r23
  clear hne
  have hy : rightN ⟨op, name, vk, vn, vt, vs, kids⟩ = false := by
    have g : ¬ (1 ≤ op ∧ op < 34) := h
    simp [rightN, r1, r2, r3, r4, r29, r30, r5, r24, r25, r26, r6, r7, r8, r27, r23, decide_eq_false g]
  simp only [hy]
  clear hy hem
  unfold ndC iv
  simp only
  rcases Int.lt_or_le op 1 with g1 | g1
  · clear h
    go_enter Tryz.func22, Tryz.ntmps22
    go_wp2
    go_ret
    exact ⟨rfl, by first | exact ((Kp.refl _ _).alloc _) | exact ((Kp.refl _ _).alloc _).alloc _ | exact (((Kp.refl _ _).alloc _).alloc _).alloc _⟩
  · have g2 : 34 ≤ op := by omega
    have g3 : ¬ op < 1 := by omega
    clear h
    go_enter Tryz.func22, Tryz.ntmps22
    go_wp2
    go_ret
    exact ⟨rfl, by first | exact ((Kp.refl _ _).alloc _) | exact ((Kp.refl _ _).alloc _).alloc _ | exact (((Kp.refl _ _).alloc _).alloc _).alloc _⟩
theorem right_any (w : World) (hg : Sg w) (x : MNd) : Calls Tryz.prog 22 #[.agg (ndC x).toArray] w fun e w' => e = .returned (.bool (rightN x.n)) ∧ Old w w' := by
  by_cases hne : x.n.op = 1 ∨ x.n.op = 2 ∨ x.n.op = 3 ∨ x.n.op = 4 ∨ x.n.op = 29 ∨ x.n.op = 30 ∨ x.n.op = 5 ∨ x.n.op = 24 ∨ x.n.op = 25 ∨ x.n.op = 26 ∨ x.n.op = 6 ∨ x.n.op = 7 ∨ x.n.op = 8 ∨ x.n.op = 27 ∨ x.n.op = 23
  · rcases hne with h | h | h | h | h | h | h | h | h | h | h | h | h | h | h
    · exact right1 w x h
    · exact right2 w x h
    · exact right3 w x h
    · exact right4 w x h
    · exact right29 w x h
    · exact right30 w x h
    · exact right5 w hg x h
    · exact right24 w hg x h
    · exact right25 w hg x h
    · exact right26 w hg x h
    · exact right6 w x h
    · exact right7 w x h
    · exact right8 w x h
    · exact right27 w x h
    · exact right23 w x h
  · by_cases h : 1 ≤ x.n.op ∧ x.n.op < 34
    · exact right_in w x h hne
    · exact right_out w x h hne
end Go.Proofs.YtmmjcbbogokmfaaGreatDoor

/- Rows of declarations as Print reads them; the printer's count of nodes. -/
namespace Go.Proofs.YtmmjcbbogokmfaaGreatDoor
open Go.RowKit

theorem flat_z {α : Type} (C : α → List Value) (z : Nat) (hz : ∀ x, (C x).length = z) : ∀ (xs : List α) (k : Nat) (x : α), xs[k]? = some x → ∀ i, i < z → (xs.flatMap C)[k * z + i]? = (C x)[i]?
  | [], _, _, h => by cases h
  | y :: l, 0, x, h => by
    intro i hi
    injection h with h
    subst h
    rw [List.flatMap_cons, Nat.zero_mul, Nat.zero_add, List.getElem?_append_left (by rw [hz]; exact hi)]
  | y :: l, k + 1, x, h => by
    intro i hi
    rw [List.flatMap_cons, List.getElem?_append_right (by rw [hz, Nat.succ_mul]; omega)]
    rw [← flat_z C z hz l k x h i hi]
    congr 1
    rw [hz, Nat.succ_mul]
    omega
theorem rec_cell {α : Type} {w : World} {C : α → List Value} {z : Nat} (hz : ∀ x, (C x).length = z) {A : Option Addr} {n : Nat} {xs : List α} (hr : Rd w z A n (xs.flatMap C)) {k : Nat} {x : α} (hk : xs[k]? = some x) (hn : k < n) : ∃ b o, A = some ⟨b, o, none⟩ ∧ ∀ i u, (C x)[i]? = some u → w.cell? ⟨b, o + (k * z + i), none⟩ = some u := by
  obtain ⟨b, o, hA, hc⟩ := hr.2 (by omega)
  refine ⟨b, o, hA, fun i u hu => hc _ u ?_⟩
  have hi : i < z := by rw [← hz x]; exact (List.getElem?_eq_some_iff.1 hu).1
  rw [flat_z C z hz xs k x hk i hi]
  exact hu
/-- the declarations of the tree that Print was handed -/
structure TrD (w : World) (t : Tre) (s : Sl) (ns : List MNd) (ps : List MSt) : Prop where
  nd : TrN w t s ns
  rA : Rd w 7 s.aA t.attrs.length (t.attrs.flatMap atC)
  rG : Rd w 7 s.gA t.stages.length (t.stages.flatMap sgC)
  rM : Rd w 6 s.mA t.miles.length (t.miles.flatMap miC)
  rP : Rd w 8 s.pA t.steps.length (ps.flatMap stC)
  pe : ps.map (·.s) = t.steps
  po : ∀ x ∈ ps, (Rd w 3 x.pA x.s.params.length (x.s.params.flatMap prC) ∧ x.s.params.length ≤ 1000000) ∧ Rd w 3 x.eA x.s.effects.length (x.s.effects.flatMap efC) ∧ x.s.effects.length ≤ 1000000
  nA : t.attrs.length ≤ 1000000
  nG : t.stages.length ≤ 1000000
  nM : t.miles.length ≤ 1000000
  nP : t.steps.length ≤ 1000000
section
variable {w W W1 W2 : World} {t : Tre} {s : Sl} {next : Nat} {l : List UInt8} {B : Option Addr} {bc : Nat}
theorem Pr.c2 (h : Pr w t s next l B bc W) : W.cell? ⟨w.heap.size, 2, none⟩ = some (.slice s.aA t.attrs.length s.ac) := h.box.at_ 2 rfl
theorem Pr.c3 (h : Pr w t s next l B bc W) : W.cell? ⟨w.heap.size, 3, none⟩ = some (.slice s.gA t.stages.length s.gc) := h.box.at_ 3 rfl
theorem Pr.c4 (h : Pr w t s next l B bc W) : W.cell? ⟨w.heap.size, 4, none⟩ = some (.slice s.mA t.miles.length s.mc) := h.box.at_ 4 rfl
theorem Pr.c5 (h : Pr w t s next l B bc W) : W.cell? ⟨w.heap.size, 5, none⟩ = some (.slice s.pA t.steps.length s.pc) := h.box.at_ 5 rfl
/-- what Print was handed stays -/
theorem Pr.cellw (h : Pr w t s next l B bc W) {p : Addr} {u : Value} (hc : w.cell? p = some u) : W.cell? p = some u := by
  have hb := cell_lt hc
  rw [World.cell?_of_block (h.kp.block p.block hb (fun e : w.heap.size ≤ p.block => by omega))]
  exact hc
theorem Pr.rdw (h : Pr w t s next l B bc W) {z n : Nat} {A : Option Addr} {xs : List Value} (hz : 0 < z) (hr : Rd w z A n xs) : Rd W z A n xs := hr.kp h.kp (fun hn ad ea hx => by have := hr.lt hz hn ea; have hx : w.heap.size ≤ ad.block := hx; omega)
theorem Pr.setNext (h : Pr w t s next l B bc W) (n : Nat) : Pr w t s n l B bc (W.setCell ⟨w.heap.size, 8, none⟩ (.int .i64 (n : Int))) ∧ FrP W (W.setCell ⟨w.heap.size, 8, none⟩ (.int .i64 (n : Int))) := by
  have hk3 : Kp (fun k => k = w.heap.size) W (W.setCell ⟨w.heap.size, 8, none⟩ (.int .i64 (n : Int))) := (Kp.refl (fun k => k = w.heap.size) W).setCell (p := ⟨w.heap.size, 8, none⟩) (fun _ => rfl) _
  have hb3 := Blk.set_ h.box 8 (.int .i64 (n : Int))
  rw [List.setIfInBounds_toArray] at hb3
  refine ⟨⟨hb3, own_kp h.own hk3 (fun k e e2 => own_blk_ne h.own h.box (by decide) (by rw [e]; exact congrArg some e2)), h.kp.trans hk3 (fun b hb e => ?_)⟩, ⟨hk3.size, fun q T cs h1 h2 hq => hq.kp hk3 (fun e => Blk.ne_ hq h.box h1 e)⟩⟩
  show w.heap.size ≤ b
  have : b = w.heap.size := e
  omega
end
/-- what a look at nodes tells -/
def TrR (w : World) (t : Tre) (s : Sl) (l : List UInt8) (B : Option Addr) (bc : Nat) (o : Option Nat) (W : World) (e : Ending) (W' : World) : Prop := e = .returned (.bool o.isSome) ∧ ∃ nx, (∀ n, o = some n → nx = n) ∧ Pr w t s nx l B bc W' ∧ FrP W W'
theorem TrR.of {w W W1 W' : World} {t : Tre} {s : Sl} {l : List UInt8} {B : Option Addr} {bc : Nat} {o : Option Nat} {e : Ending} (f : FrP W W1) (h : TrR w t s l B bc o W1 e W') : TrR w t s l B bc o W e W' := ⟨h.1, h.2.elim fun nx h2 => ⟨nx, h2.1, h2.2.1, f.trans h2.2.2⟩⟩
theorem treeN_le {ns : List Nd} {f : Nat} {root : Int} {next nx : Nat} (h : treeN ns f root next = some nx) : 0 ≤ root ∧ root.toNat < ns.length ∧ nx = root.toNat + 1 := by
  cases f with
  | zero => rw [treeN] at h; cases h
  | succ f =>
    rw [treeN] at h
    by_cases h1 : root < 0 ∨ (ns.length : Int) ≤ root
    · rw [if_pos h1] at h; cases h
    rw [if_neg h1] at h
    cases hn : ns[root.toNat]? with
    | none => rw [hn] at h; cases h
    | some n =>
      rw [hn] at h
      simp only at h
      by_cases hr : rightN n = false
      · rw [if_pos hr] at h; cases h
      rw [if_neg hr] at h
      obtain ⟨k, hk, h⟩ := Option.bind_eq_some_iff.1 h
      by_cases e : root = (k : Int)
      · rw [if_pos e] at h
        injection h with h
        omega
      · rw [if_neg e] at h; cases h
/-- a node's kids, one behind the other -/
def kidsN (ns : List Nd) (f : Nat) (root : Int) (kids : List Int) (o : Option Nat) : Option Nat := kids.foldl (fun (s : Option Nat) k => s.bind fun nx => if root ≤ k then none else treeN ns f k nx) o
theorem kidsN_none (ns : List Nd) (f : Nat) (root : Int) : ∀ kids, kidsN ns f root kids none = none
  | [] => rfl
  | _ :: l => kidsN_none ns f root l
theorem kidsN_cons (ns : List Nd) (f : Nat) (root k : Int) (l : List Int) (nx : Nat) : kidsN ns f root (k :: l) (some nx) = if root ≤ k then none else kidsN ns f root l (treeN ns f k nx) := by
  show kidsN ns f root l (if root ≤ k then none else treeN ns f k nx) = _
  split
  · exact kidsN_none _ _ _ _
  · rfl
end Go.Proofs.YtmmjcbbogokmfaaGreatDoor

/- Contract of the reader's literal: names, nothing, bools. -/
namespace Go.Proofs.YtmmjcbbogokmfaaGreatDoor
open Go.RowKit

/-- the row of nodes while its last one is written -/
structure LastN (w : World) (g : Nat) (src : ByteArray) (r : Rdr) (s : Sl) (k q : Nat) (ns : List MNd) (x : MNd) (ps : List MSt) (W : World) (L : List Value) : Prop where
  st : St w g src r s
  at_ : s.nA = some ⟨k, 0, none⟩
  len : ns.length = q
  cnt : r.tree.nodes.length = q + 1
  rows : TRows w (AX g s) r.tree s (ns ++ [x]) ps
  kp : Kp (fun b => s.nA.map (·.block) = some b) w W
  own : W.ownsRow 8 46 7 (.slice s.nA r.tree.nodes.length s.nc) r.tree.nodes.length (ns.flatMap ndC ++ L)
theorem flat_len (ns : List MNd) : (ns.flatMap ndC).length = ns.length * 7 := by
  induction ns with
  | nil => rfl
  | cons x l ih => rw [List.flatMap_cons, List.length_append, ih, List.length_cons]; simp only [ndC, List.length_cons, List.length_nil]; omega
theorem St.lastN {w : World} {g : Nat} {src : ByteArray} {r : Rdr} {s : Sl} (h : St w g src r s) {L : List Nd} {m : Nd} (hl : r.tree.nodes = L ++ [m]) :
    ∃ k ns x ps, x.n = m ∧ ns.map (·.n) = L ∧ LastN w g src r s k L.length ns x ps w (ndC x) := by
  obtain ⟨ns, x, ps, h1, h2, h3⟩ := h.last hl
  have hlen : r.tree.nodes.length = L.length + 1 := by rw [hl, List.length_append]; rfl
  obtain ⟨k, hk⟩ := own_some h3.rN (by omega)
  refine ⟨k, ns, x, ps, h1, h2, h, hk, by rw [← h2, List.length_map], hlen, h3, Kp.refl _ _, ?_⟩
  have := h3.rN
  rwa [List.flatMap_append, List.flatMap_singleton] at this
section
variable {w : World} {g : Nat} {src : ByteArray} {r : Rdr} {s : Sl} {k q : Nat} {ns : List MNd} {x : MNd} {ps : List MSt} {W : World} {L : List Value}
theorem LastN.cell (h : LastN w g src r s k q ns x ps W L) (i : Nat) {u : Value} (hu : L[i]? = some u) : W.cell? ⟨k, q * 7 + i, none⟩ = some u ∧ W.frozen? ⟨k, q * 7 + i, none⟩ = false := by
  have ho := h.own
  rw [h.at_] at ho
  refine own_cell ho (q * 7 + i) ?_
  have hl := flat_len ns
  rw [h.len] at hl
  rw [← hl, List.getElem?_append_right (by omega), Nat.add_sub_cancel_left]
  exact hu
theorem LastN.set_ (h : LastN w g src r s k q ns x ps W L) (i : Nat) (u : Value) : LastN w g src r s k q ns x ps (W.setCell ⟨k, q * 7 + i, none⟩ u) (L.set i u) := by
  have ho := h.own
  rw [h.at_] at ho
  have ho2 := own_set ho (q * 7 + i) u
  have hl := flat_len ns
  rw [h.len] at hl
  rw [List.set_append_right _ _ (by omega), hl, Nat.add_sub_cancel_left] at ho2
  exact ⟨h.st, h.at_, h.len, h.cnt, h.rows, h.kp.setCell (p := ⟨k, q * 7 + i, none⟩) (fun _ => by rw [h.at_]; rfl) u, by rw [h.at_]; exact ho2⟩
theorem LastN.old {W' : World} (h : LastN w g src r s k q ns x ps W L) (ho : Old W W') : LastN w g src r s k q ns x ps W' L :=
  ⟨h.st, h.at_, h.len, h.cnt, h.rows, h.kp.old ho, own_kp h.own ho (fun _ _ e => e)⟩
theorem LastN.done (h : LastN w g src r s k q ns x ps W L) (x' : MNd) (hL : L = ndC x') (hx : OkN w (AX g s) x') : St W g src { r with tree := { r.tree with nodes := ns.map (·.n) ++ [x'.n] } } s ∧ Fr g s s w W := by
  have ho := h.own
  rw [hL] at ho
  exact h.st.turn h.rows h.kp ho hx
theorem okN_nil (w : World) (X : Nat → Prop) (m : Nd) (A : Option Addr) (c : Nat) (vA : Option Addr) (vc : Nat) (hm : m.kids = []) (hv : m.vs = []) : OkN w X ⟨m, A, c, vA, vc⟩ := by
  refine ⟨?_, ?_, ?_, ?_⟩
  · simp only [hm]; exact ⟨rfl, fun h => absurd h (Nat.lt_irrefl 0)⟩
  · simp only [hm]; exact fun h0 => absurd h0 (Nat.lt_irrefl 0)
  · simp only [hv]; exact ⟨rfl, fun h => absurd h (Nat.lt_irrefl 0)⟩
  · simp only [hv]; exact fun h0 => absurd h0 (Nat.lt_irrefl 0)
theorem LastN.lit {r' : Rdr} {Ln : List Nd} {b : Nd} (h : LastN w g src { r' with tree := { r'.tree with nodes := Ln ++ [b] } } s k q ns x ps W L) (hns : ns.map (·.n) = Ln) {m : Nd} (hT : r'.tree.nodes = Ln ++ [m])
    (hk : m.kids = []) (hv : m.vs = []) (vA : Option Addr) (vc : Nat) (hL : L = ndC ⟨m, x.A, x.c, vA, vc⟩) : St W g src r' s ∧ Fr g s s w W := by
  have h1 := h.done ⟨m, x.A, x.c, vA, vc⟩ hL (okN_nil _ _ _ _ _ _ _ hk hv)
  simp only [hns, ← hT] at h1
  exact h1
end
theorem St.lastC {w : World} {g : Nat} {src : ByteArray} {r : Rdr} {s : Sl} (h : St w g src r s) {L : List Nd} {m : Nd} {q : Nat} (hl : r.tree.nodes = L ++ [m]) (hq : L.length = q) :
    ∃ k ns x ps, x.n = m ∧ ns.map (·.n) = L ∧ LastN w g src r s k q ns x ps w (ndC x) ∧ w.cell? ⟨g, 11, none⟩ = some (.slice (some ⟨k, 0, none⟩) (q + 1) s.nc) := by
  obtain ⟨k, ns, x, ps, h1, h2, h3⟩ := h.lastN hl
  subst hq
  have hc : w.cell? ⟨g, 11, none⟩ = some (.slice s.nA r.tree.nodes.length s.nc) := Blk.at_ h.box 11 rfl
  rw [h3.at_, h3.cnt] at hc
  exact ⟨k, ns, x, ps, h1, h2, h3, hc⟩
/-- a node laid down bare, then turned -/
theorem nodeN_turn {n : Nd} {at_ : Nat} {r r' : Rdr} {x : Int} (h : nodeN n at_ r = some (x, r')) : nodeN (bareNd 4 []) at_ r = some (x, { r' with tree := { r'.tree with nodes := r.tree.nodes ++ [bareNd 4 []] } }) ∧ r'.tree.nodes = r.tree.nodes ++ [n] ∧ x = (r.tree.nodes.length : Int) ∧ r.tree.nodes.length < 1000000 := by
  unfold nodeN at h ⊢
  split at h
  case isFalse => cases h
  rename_i hlt
  injection h with h
  injection h with h1 h2
  rw [if_pos hlt]
  subst h1 h2
  exact ⟨rfl, rfl, rfl, hlt.1⟩
set_option maxRecDepth 100000 in
set_option maxHeartbeats 3200000 in
theorem lit_name (w : World) (g : Nat) (src : ByteArray) (r r1 r' : Rdr) (s : Sl) (x : Int) (at_ : Nat) (h : St w g src r s) (ht : r.t = 1) (hn : nextN (sb src) r = some r1)
    (hx : nodeN ⟨5, ⟨(lexeme (sb src) r).toArray⟩, 0, 0, ⟨#[]⟩, [], []⟩ at_ r1 = some (x, r')) :
    Calls Tryz.prog 236 #[.pointer (some ⟨g, 0, none⟩), iv (at_ : Int)] w (Ex w g src s r' (iv x)) := by
  have hc3 := h.box.c3
  rw [ht] at hc3
  have HS := Lib.hid h
  have HN := Lib.hid hn
  have HL := Lib.hid (fun n => lexeme_st (w.drewN n) g src r s (h.drewN n))
  obtain ⟨h1, h2, h3, h4⟩ := nodeN_turn hx
  generalize lexeme (sb src) r = lx at *
  have HB := Lib.hid h1
  have HT := Lib.hid h2
  generalize hq : r1.tree.nodes.length = q at *
  subst h3
  clear h hn hx h1 h2 ht
  unfold iv
  have f1 : (0 : Int) ≤ (q : Int) := by omega
  have f2 : (q : Int).toNat = q := by omega
  have f3 : (q : Int) < (q : Int) + 1 := by omega
  go_enter Tryz.func236, Tryz.ntmps236
  go_wp2
  go_quiet ((go_at_call 165; exact Calls.quiet_of (HL.out _)))
  go_wp2_with (first | (go_at_call 135; refine (next_st _ g src _ _ s (HS.out.drewN _) HN.out).mono ?_; rintro e w1 ⟨rfl, hX⟩; have HX := Lib.hid hX; clear hX) | (go_at_call 201; refine (node_any _ g src _ _ s 4 _ _ none 0 [] HX.out.1 Rd.none_ (fun h0 => absurd h0 (Nat.lt_irrefl 0)) HB.out).mono ?_; rintro e w2 ⟨rfl, s2, hY, hYf⟩; obtain ⟨k, ns, xx, ps, hxn, hns, hLN, hc11⟩ := hY.lastC rfl hq; have d0 : w2.cell? ⟨k, q * 7, none⟩ = _ := (hLN.cell 0 rfl).1; have z0 : w2.frozen? ⟨k, q * 7, none⟩ = false := (hLN.cell 0 rfl).2; have d1 := (hLN.cell 1 rfl).1; have z1 := (hLN.cell 1 rfl).2; have HLN := Lib.hid hLN; have HF := Lib.hid hYf; clear hLN hY hYf; unfold iv) | fail)
  go_ret
  have HD := Lib.hid (((HLN.out.set_ 0 (.int .i64 5)).set_ 1 (.string ⟨lx.toArray⟩)).lit hns HT.out rfl rfl xx.vA xx.vc (by simp only [ndC, hxn]; rfl))
  exact ⟨rfl, s2, HD.out.1, (((Fr.of_old s ((Kp.refl _ _).drewN _)).trans HX.out.2).trans HF.out).trans HD.out.2⟩
set_option maxRecDepth 100000 in
set_option maxHeartbeats 3200000 in
theorem lit_bool46 (w : World) (g : Nat) (src : ByteArray) (r r1 r' : Rdr) (s : Sl) (x : Int) (at_ : Nat) (h : St w g src r s) (ht : r.t = 46) (hn : nextN (sb src) r = some r1)
    (hx : nodeN ⟨2, ⟨#[]⟩, 2, 1, ⟨#[]⟩, [], []⟩ at_ r1 = some (x, r')) :
    Calls Tryz.prog 236 #[.pointer (some ⟨g, 0, none⟩), iv (at_ : Int)] w (Ex w g src s r' (iv x)) := by
  have hc3 := h.box.c3
  rw [ht] at hc3
  have HS := Lib.hid h
  have HN := Lib.hid hn
  have HL := Lib.hid (fun n => lexeme_st (w.drewN n) g src r s (h.drewN n))
  obtain ⟨h1, h2, h3, h4⟩ := nodeN_turn hx
  generalize lexeme (sb src) r = lx at *
  have HB := Lib.hid h1
  have HT := Lib.hid h2
  generalize hq : r1.tree.nodes.length = q at *
  subst h3
  clear h hn hx h1 h2 ht
  unfold iv
  have f1 : (0 : Int) ≤ (q : Int) := by omega
  have f2 : (q : Int).toNat = q := by omega
  have f3 : (q : Int) < (q : Int) + 1 := by omega
  go_enter Tryz.func236, Tryz.ntmps236
  go_wp2
  go_quiet ((go_at_call 165; exact Calls.quiet_of (HL.out _)))
  go_wp2_with (first | (go_at_call 135; refine (next_st _ g src _ _ s (HS.out.drewN _) HN.out).mono ?_; rintro e w1 ⟨rfl, hX⟩; have HX := Lib.hid hX; clear hX) | (go_at_call 201; refine (node_any _ g src _ _ s 4 _ _ none 0 [] HX.out.1 Rd.none_ (fun h0 => absurd h0 (Nat.lt_irrefl 0)) HB.out).mono ?_; rintro e w2 ⟨rfl, s2, hY, hYf⟩; obtain ⟨k, ns, xx, ps, hxn, hns, hLN, hc11⟩ := hY.lastC rfl hq; have d0 : w2.cell? ⟨k, q * 7, none⟩ = _ := (hLN.cell 0 rfl).1; have z0 : w2.frozen? ⟨k, q * 7, none⟩ = false := (hLN.cell 0 rfl).2; have d2 := (hLN.cell 2 rfl).1; have z2 := (hLN.cell 2 rfl).2; have d3 := (hLN.cell 3 rfl).1; have z3 := (hLN.cell 3 rfl).2; have d4 := (hLN.cell 4 rfl).1; have z4 := (hLN.cell 4 rfl).2; have d5 := (hLN.cell 5 rfl).1; have z5 := (hLN.cell 5 rfl).2; have HLN := Lib.hid hLN; have HF := Lib.hid hYf; clear hLN hY hYf; unfold iv) | fail)
  go_ret
  have HD := Lib.hid ((((((HLN.out.set_ 0 (.int .i64 2)).set_ 2 (.int .i64 2)).set_ 3 (.int .i64 1)).set_ 4 (.string ⟨#[]⟩)).set_ 5 (.slice none 0 0)).lit hns HT.out rfl rfl none 0 (by simp only [ndC, hxn]; rfl))
  exact ⟨rfl, s2, HD.out.1, (((Fr.of_old s ((Kp.refl _ _).drewN _)).trans HX.out.2).trans HF.out).trans HD.out.2⟩
set_option maxRecDepth 100000 in
set_option maxHeartbeats 3200000 in
theorem lit_bool47 (w : World) (g : Nat) (src : ByteArray) (r r1 r' : Rdr) (s : Sl) (x : Int) (at_ : Nat) (h : St w g src r s) (ht : r.t = 47) (hn : nextN (sb src) r = some r1)
    (hx : nodeN ⟨2, ⟨#[]⟩, 2, 0, ⟨#[]⟩, [], []⟩ at_ r1 = some (x, r')) :
    Calls Tryz.prog 236 #[.pointer (some ⟨g, 0, none⟩), iv (at_ : Int)] w (Ex w g src s r' (iv x)) := by
  have hc3 := h.box.c3
  rw [ht] at hc3
  have HS := Lib.hid h
  have HN := Lib.hid hn
  have HL := Lib.hid (fun n => lexeme_st (w.drewN n) g src r s (h.drewN n))
  obtain ⟨h1, h2, h3, h4⟩ := nodeN_turn hx
  generalize lexeme (sb src) r = lx at *
  have HB := Lib.hid h1
  have HT := Lib.hid h2
  generalize hq : r1.tree.nodes.length = q at *
  subst h3
  clear h hn hx h1 h2 ht
  unfold iv
  have f1 : (0 : Int) ≤ (q : Int) := by omega
  have f2 : (q : Int).toNat = q := by omega
  have f3 : (q : Int) < (q : Int) + 1 := by omega
  go_enter Tryz.func236, Tryz.ntmps236
  go_wp2
  go_quiet ((go_at_call 165; exact Calls.quiet_of (HL.out _)))
  go_wp2_with (first | (go_at_call 135; refine (next_st _ g src _ _ s (HS.out.drewN _) HN.out).mono ?_; rintro e w1 ⟨rfl, hX⟩; have HX := Lib.hid hX; clear hX) | (go_at_call 201; refine (node_any _ g src _ _ s 4 _ _ none 0 [] HX.out.1 Rd.none_ (fun h0 => absurd h0 (Nat.lt_irrefl 0)) HB.out).mono ?_; rintro e w2 ⟨rfl, s2, hY, hYf⟩; obtain ⟨k, ns, xx, ps, hxn, hns, hLN, hc11⟩ := hY.lastC rfl hq; have d0 : w2.cell? ⟨k, q * 7, none⟩ = _ := (hLN.cell 0 rfl).1; have z0 : w2.frozen? ⟨k, q * 7, none⟩ = false := (hLN.cell 0 rfl).2; have d2 := (hLN.cell 2 rfl).1; have z2 := (hLN.cell 2 rfl).2; have d3 := (hLN.cell 3 rfl).1; have z3 := (hLN.cell 3 rfl).2; have d4 := (hLN.cell 4 rfl).1; have z4 := (hLN.cell 4 rfl).2; have d5 := (hLN.cell 5 rfl).1; have z5 := (hLN.cell 5 rfl).2; have HLN := Lib.hid hLN; have HF := Lib.hid hYf; clear hLN hY hYf; unfold iv) | fail)
  go_ret
  have HD := Lib.hid ((((((HLN.out.set_ 0 (.int .i64 2)).set_ 2 (.int .i64 2)).set_ 3 (.int .i64 0)).set_ 4 (.string ⟨#[]⟩)).set_ 5 (.slice none 0 0)).lit hns HT.out rfl rfl none 0 (by simp only [ndC, hxn]; rfl))
  exact ⟨rfl, s2, HD.out.1, (((Fr.of_old s ((Kp.refl _ _).drewN _)).trans HX.out.2).trans HF.out).trans HD.out.2⟩
end Go.Proofs.YtmmjcbbogokmfaaGreatDoor
