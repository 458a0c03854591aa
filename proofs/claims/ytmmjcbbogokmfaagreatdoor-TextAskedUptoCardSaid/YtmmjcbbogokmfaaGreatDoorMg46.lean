import Derived.Test.YtmmjcbbogokmfaaGreatDoorMg02
import Derived.Deep.MidRow
/- A row of values stored one behind the other into one block. -/
namespace Go.Proofs.YtmmjcbbogokmfaaGreatDoor
open Go.RowKit

/-- the values vs stored from cell i of block g on -/
def setL (w : World) (g : Nat) : Nat → List Value → World
  | _, [] => w
  | i, v :: vs => setL (w.setCell ⟨g, i, none⟩ v) g (i + 1) vs

theorem Kp.setL (g : Nat) : ∀ (vs : List Value) (w : World) (i : Nat), Kp (fun k => k = g) w (setL w g i vs)
  | [], w, _ => Kp.refl _ w
  | v :: vs, w, i => ((Kp.refl (fun k => k = g) w).setCell (p := ⟨g, i, none⟩) (fun _ => rfl) v).trans (Kp.setL g vs _ (i + 1)) (fun _ _ h => h)

theorem Blk.setL_from {g : Nat} {t : TypeId} : ∀ (vs pre rest : List Value) (w : World), Blk w g t (pre ++ rest).toArray → rest.length = vs.length → Blk (setL w g pre.length vs) g t (pre ++ vs).toArray
  | [], pre, rest, w, h, hl => by
    have : rest = [] := List.eq_nil_of_length_eq_zero (by simpa using hl)
    subst this
    simpa [Go.Proofs.YtmmjcbbogokmfaaGreatDoor.setL] using h
  | v :: vs, pre, [], w, h, hl => by simp at hl
  | v :: vs, pre, r :: rest, w, h, hl => by
    have h1 := h.set_ pre.length v
    have e : (pre ++ r :: rest).toArray.setIfInBounds pre.length v = ((pre ++ [v]) ++ rest).toArray := by
      rw [List.setIfInBounds_toArray, List.set_append_right _ _ (Nat.le_refl _)]
      simp
    rw [e] at h1
    have h2 := Blk.setL_from vs (pre ++ [v]) rest _ h1 (by simpa using hl)
    simp only [List.length_append, List.length_singleton] at h2
    simpa [Go.Proofs.YtmmjcbbogokmfaaGreatDoor.setL] using h2
theorem Blk.setAll {w : World} {g : Nat} {t : TypeId} {cs : List Value} (h : Blk w g t cs.toArray) (vs : List Value) (hl : cs.length = vs.length) : Blk (setL w g 0 vs) g t vs.toArray := by
  have := Blk.setL_from vs [] cs w (by simpa using h) hl
  simpa using this
end Go.Proofs.YtmmjcbbogokmfaaGreatDoor

/- Rows of cells stored and loaded whole, in a block known whole. -/
namespace Go.Proofs.YtmmjcbbogokmfaaGreatDoor
open Go.RowKit

theorem setL_eq (g : Nat) : ∀ (vs : List Value) (w : World) (i : Nat), setL w g i vs = w.setCells g i vs
  | [], _, _ => rfl
  | v :: vs, w, i => setL_eq g vs (w.setCell ⟨g, i, none⟩ v) (i + 1)
theorem Kp.setCells (g o : Nat) (vs : List Value) (w : World) : Kp (fun k => k = g) w (w.setCells g o vs) := by
  rw [← setL_eq]
  exact Kp.setL g vs w o
theorem Blk.setCells {w : World} {g : Nat} {t : TypeId} {pre mid post : List Value} (h : Blk w g t (pre ++ (mid ++ post)).toArray) (vs : List Value) (hl : mid.length = vs.length) :
    Blk (w.setCells g pre.length vs) g t (pre ++ (vs ++ post)).toArray := by
  rw [← setL_eq]
  induction vs generalizing w pre mid with
  | nil =>
    have : mid = [] := List.eq_nil_of_length_eq_zero (by simpa using hl)
    subst this
    simpa [setL] using h
  | cons v vs ih =>
    cases mid with
    | nil => simp at hl
    | cons r rest =>
      have h1 := h.set_ pre.length v
      have e : (pre ++ (r :: rest ++ post)).toArray.setIfInBounds pre.length v = ((pre ++ [v]) ++ (rest ++ post)).toArray := by
        rw [List.setIfInBounds_toArray, List.set_append_right _ _ (Nat.le_refl _)]
        simp
      rw [e] at h1
      have h2 := ih h1 (by simpa using hl)
      simp only [List.length_append, List.length_singleton] at h2
      simpa [setL] using h2
theorem Blk.setWhole {w : World} {g : Nat} {t : TypeId} {cs : List Value} (h : Blk w g t cs.toArray) (vs : List Value) (hl : cs.length = vs.length) : Blk (w.setCells g 0 vs) g t vs.toArray := by
  have := Blk.setCells (pre := []) (mid := cs) (post := []) (by simpa using h) vs hl
  simpa using this
theorem Blk.range {w : World} {g : Nat} {t : TypeId} {cs : List Value} (h : Blk w g t cs.toArray) : w.rangeAt g 0 cs := by
  intro j v hv
  rw [Nat.zero_add, h.cell, List.getElem?_toArray, hv]
theorem Blk.there {w : World} {g : Nat} {t : TypeId} {cs : Array Value} (h : Blk w g t cs) (o n : Nat) (hn : o + n ≤ cs.size) : w.there g o n := by
  intro j hj
  refine ⟨?_, h.frozen _⟩
  rw [h.cell, Array.getElem?_eq_getElem (by omega)]
  rfl
theorem all_one {l : List Value} (h : l.all (·.oneCell') = true) : l.toArray.all (·.oneCell') = true := by simpa using h
end Go.Proofs.YtmmjcbbogokmfaaGreatDoor
