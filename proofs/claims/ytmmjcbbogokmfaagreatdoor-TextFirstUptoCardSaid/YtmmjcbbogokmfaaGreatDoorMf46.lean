import Derived.Test.YtmmjcbbogokmfaaGreatDoorMf09
import Derived.Test.YtmmjcbbogokmfaaGreatDoorMf39
import Derived.Test.YtmmjcbbogokmfaaGreatDoorMf45
import Derived.Deep.MidRow
set_option maxRecDepth 100000
set_option maxHeartbeats 25600000
namespace Go.Proofs.YtmmjcbbogokmfaaGreatDoor
open Go.RowKit
theorem Small.mile {r : Rdr} (h : Small r) : ∃ m, r.tree.miles = [m] /\ m.when_ = 3 := by
  have h1 := h.miles
  rcases hm : r.tree.miles with _ | ⟨m, _ | ⟨m2, l⟩⟩
  · rw [hm] at h1; cases h1
  · rw [hm] at h1
    simp only [List.map_cons, List.map_nil, List.cons.injEq, Prod.mk.injEq, and_true] at h1
    exact ⟨m, rfl, h1.2.2.1⟩
  · rw [hm] at h1
    simp only [List.map_cons, List.cons.injEq] at h1
    cases h1.2
theorem Small.node {r : Rdr} (h : Small r) {n : Nd} (hn : n ∈ r.tree.nodes) : (n.op = 1 -> n.vn = 12) /\ n.op ≠ 3 /\ n.kids.length <= 2 := by
  have h1 : (n.op, n.vn, n.kids) ∈ r.tree.nodes.map (fun n => (n.op, n.vn, n.kids)) := List.mem_map_of_mem hn
  rw [h.ops] at h1
  simp only [List.mem_cons, Prod.mk.injEq, List.not_mem_nil, or_false] at h1
  rcases h1 with ⟨e1, e2, e3⟩ | ⟨e1, e2, e3⟩ | ⟨e1, e2, e3⟩ | ⟨e1, e2, e3⟩
  all_goals (rw [e1, e2, e3]; exact ⟨by decide, by decide, by decide⟩)
theorem Small.op3 {r : Rdr} (h : Small r) : ∃ n, r.tree.nodes[3]? = some n /\ n.op = 8 := by
  have h1 := congrArg (fun l => l[3]?) h.ops
  simp only [List.getElem?_map] at h1
  obtain ⟨n, hn, e⟩ := Option.map_eq_some_iff.1 (h1.trans rfl)
  exact ⟨n, hn, (Prod.mk.inj e).1⟩
theorem Small.vn1 {r : Rdr} (h : Small r) : ∃ n, r.tree.nodes[1]? = some n /\ n.vn = 12 := by
  have h1 := congrArg (fun l => l[1]?) h.ops
  simp only [List.getElem?_map] at h1
  obtain ⟨n, hn, e⟩ := Option.map_eq_some_iff.1 (h1.trans rfl)
  exact ⟨n, hn, (Prod.mk.inj (Prod.mk.inj e).2).1⟩
theorem small_trd {w : World} {g : Nat} {src : ByteArray} {r : Rdr} {s : Sl} (hs : Small r) (h : St w g src r s) : ∃ ns ps, TrD w r.tree s ns ps := by
  obtain ⟨m, hm, _⟩ := hs.mile
  refine trd_of h (by rw [hs.len]; decide) (fun n hn => Nat.le_trans (hs.node hn).2.2 (by decide)) (by rw [hs.attrs]; decide) (by rw [hs.stages]; decide) (by rw [hm]; exact (by decide : 1 <= 1000000)) (by rw [hs.steps]; decide) (fun x hx => ?_)
  rw [hs.steps] at hx
  cases hx
theorem prt_small {w : World} (hg : Sg w) (h8 : 8 <= w.heap.size) {r : Rdr} (hs : Small r) {s : Sl} {ns : List MNd} {ps : List MSt} (TD : TrD w r.tree s ns ps) : ∀ w1, Old w w1 -> PrtOk w1 r.tree s := by
  intro w1 ho
  have TD1 := TD.old ho
  have hg1 := hg.old ho
  have h81 := Nat.le_trans h8 ho.size
  obtain ⟨m, hm, hw⟩ := hs.mile
  have hm0 : r.tree.miles[0]? = some m := by rw [hm]; rfl
  refine ⟨fun d hd W next l B bc hn hp => ?_, fun d hd W next l l' B bc hp hk hl => ?_⟩
  · rw [hs.lay, List.mem_singleton] at hd
    subst hd
    have h1 := right_M w1 W hg1 h81 r.tree s ns ps TD1 0 m hm0 next l B bc hp hn
    rw [show rightD r.tree (3, 0) next = rightM r.tree.nodes m next by
      unfold rightD
      rw [if_neg (by decide), if_neg (by decide), if_pos rfl]
      show (r.tree.miles[0]?).bind _ = _
      rw [hm0]
      rfl]
    exact h1
  · rw [hs.lay, List.mem_singleton] at hd
    subst hd
    unfold declP at hk
    rw [if_neg (by decide), if_neg (by decide), if_pos rfl] at hk
    obtain ⟨l4, h4, e4⟩ := Option.map_eq_some_iff.1 hk
    have h5 : declM r.tree.nodes m l = some l4 := by
      have h6 : (r.tree.miles[0]?).bind (fun a => declM r.tree.nodes a l) = some l4 := h4
      rw [hm0] at h6
      exact h6
    subst e4
    have PX := px_all w1 hg1 h81 r.tree s ns TD1.nd (fun n hn => List.all_eq_true.1 hs.rights n hn) (atoms12 w1 r.tree s (fun n hn => ⟨(hs.node hn).1, (hs.node hn).2.1⟩)) (r.tree.nodes.length + 1)
    exact decl_M w1 W r.tree s ns ps TD1 PX 0 m hm0 (by omega) next l l4 B bc hp h5 hl
def setLw (w : World) (g : Nat) : Nat -> List Value -> World
  | _, [] => w
  | i, v :: vs => setLw (w.setCell ⟨g, i, none⟩ v) g (i + 1) vs
theorem Kp.setL (g : Nat) : ∀ (vs : List Value) (w : World) (i : Nat), Kp (fun k => k = g) w (setLw w g i vs)
  | [], w, _ => Kp.refl _ w
  | v :: vs, w, i => ((Kp.refl (fun k => k = g) w).setCell (p := ⟨g, i, none⟩) (fun _ => rfl) v).trans (Kp.setL g vs _ (i + 1)) (fun _ _ h => h)
theorem Blk.setL_from {g : Nat} {t : TypeId} : ∀ (vs pre rest : List Value) (w : World), Blk w g t (pre ++ rest).toArray -> rest.length = vs.length -> Blk (setLw w g pre.length vs) g t (pre ++ vs).toArray
  | [], pre, rest, w, h, hl => by
    have : rest = [] := List.eq_nil_of_length_eq_zero (by simpa using hl)
    subst this
    simpa [setLw] using h
  | v :: vs, pre, [], w, h, hl => by simp at hl
  | v :: vs, pre, r :: rest, w, h, hl => by
    have h1 := h.set_ pre.length v
    have e : (pre ++ r :: rest).toArray.setIfInBounds pre.length v = ((pre ++ [v]) ++ rest).toArray := by
      rw [List.setIfInBounds_toArray, List.set_append_right _ _ (Nat.le_refl _)]
      simp
    rw [e] at h1
    have h2 := Blk.setL_from vs (pre ++ [v]) rest _ h1 (by simpa using hl)
    simp only [List.length_append, List.length_singleton] at h2
    simpa [setLw] using h2
theorem Blk.setAll {w : World} {g : Nat} {t : TypeId} {cs : List Value} (h : Blk w g t cs.toArray) (vs : List Value) (hl : cs.length = vs.length) : Blk (setLw w g 0 vs) g t vs.toArray := by
  have := Blk.setL_from vs [] cs w (by simpa using h) hl
  simpa using this
theorem setL_eq (g : Nat) : ∀ (vs : List Value) (w : World) (i : Nat), setLw w g i vs = w.setCells g i vs
  | [], _, _ => rfl
  | v :: vs, w, i => setL_eq g vs (w.setCell ⟨g, i, none⟩ v) (i + 1)
theorem Kp.setCells (g o : Nat) (vs : List Value) (w : World) : Kp (fun k => k = g) w (w.setCells g o vs) := by
  rw [<- setL_eq]
  exact Kp.setL g vs w o
theorem Blk.setCells {w : World} {g : Nat} {t : TypeId} {pre mid post : List Value} (h : Blk w g t (pre ++ (mid ++ post)).toArray) (vs : List Value) (hl : mid.length = vs.length) :
    Blk (w.setCells g pre.length vs) g t (pre ++ (vs ++ post)).toArray := by
  rw [<- setL_eq]
  induction vs generalizing w pre mid with
  | nil =>
    have : mid = [] := List.eq_nil_of_length_eq_zero (by simpa using hl)
    subst this
    simpa [setLw] using h
  | cons v vs ih =>
    cases mid with
    | nil => simp at hl
    | cons r rest =>
      have h1 := h.set_ pre.length v
      have e : (pre ++ (r :: rest ++ post)).toArray.setIfInBounds pre.length v = ((pre ++ [v]) ++ (rest ++ post)).toArray := by
        rw [List.setIfInBounds_toArray, List.set_append_right _ _ (Nat.le_refl _)]
        simp
      rw [e] at h1
      have h2 := ih h1 (by simpa using hl)
      simp only [List.length_append, List.length_singleton] at h2
      simpa [setLw] using h2
theorem Blk.setWhole {w : World} {g : Nat} {t : TypeId} {cs : List Value} (h : Blk w g t cs.toArray) (vs : List Value) (hl : cs.length = vs.length) : Blk (w.setCells g 0 vs) g t vs.toArray := by
  have := Blk.setCells (pre := []) (mid := cs) (post := []) (by simpa using h) vs hl
  simpa using this
theorem Blk.range {w : World} {g : Nat} {t : TypeId} {cs : List Value} (h : Blk w g t cs.toArray) : w.rangeAt g 0 cs := by
  intro j v hv
  rw [Nat.zero_add, h.cell, List.getElem?_toArray, hv]
theorem Blk.there {w : World} {g : Nat} {t : TypeId} {cs : Array Value} (h : Blk w g t cs) (o n : Nat) (hn : o + n <= cs.size) : w.there g o n := by
  intro j hj
  refine ⟨?_, h.frozen _⟩
  rw [h.cell, Array.getElem?_eq_getElem (by omega)]
  rfl
theorem all_one {l : List Value} (h : l.all (·.oneCell') = true) : l.toArray.all (·.oneCell') = true := by simpa using h
end Go.Proofs.YtmmjcbbogokmfaaGreatDoor
