/- Small facts on texts laid down, new slices and steps. -/
import Derived.Test.YtnaolhjbapgjgaaGreatDeskD
namespace Go.Proofs.YtnaolhjbapgjgaaGreat
open Go.RowKit

theorem Rd.arr_new (w : World) (t : TypeId) (l : List Value) : Rd (w.alloc (.cells l.toArray t)) 1 (some ⟨w.heap.size, 0, none⟩) l.length l := by
  refine ⟨by simp, fun _ => ⟨_, _, rfl, fun j u hu => ?_⟩⟩
  have hb := Blk.new w t l.toArray
  rw [Nat.zero_add, hb.cell j]
  simpa using hu
theorem Av.new {w : World} {g n : Nat} {r : Option Nat} {bs : List UInt8} (h : Wr w g r bs) : Av (WX g r) n (some ⟨w.heap.size, 0, none⟩) := by
  intro _ ad e
  injection e with e
  subst e
  exact wx_new h (Nat.le_refl _)
theorem WStep.after {w1 w2 w3 : World} {g : Nat} {r : Option Nat} {bs : List UInt8} (ho : Old w1 w2) (h : WStep w2 g r w3 bs) : WStep w1 g r w3 bs :=
  WStep.trans (ho.mono (Y := WX g r) (fun _ _ f => f.elim)) (.inl rfl) h
theorem WStep.old {w1 w2 w3 : World} {g : Nat} {r : Option Nat} {bs : List UInt8} (h : WStep w1 g r w2 bs) (ho : Old w2 w3) : WStep w1 g r w3 bs := by
  obtain ⟨r', hW, hk, hf⟩ := h
  exact ⟨r', hW.old ho, hk.old ho, hf⟩

theorem lps4_one (a : ByteArray) : lps4 [a] = lp 4 (sb a) := by simp [lps4]
theorem lps4_two (a b : ByteArray) : lps4 [a, b] = lp 4 (sb a) ++ lp 4 (sb b) := by simp [lps4]

/-- one text: laid down, or too long and nothing -/
theorem TextPost.one {w w' : World} {g : Nat} {r : Option Nat} {bs : List UInt8} {a : ByteArray} {e : Ending} (h : TextPost w g r bs [a] e w') :
    (e = .returned (.bool true) ∧ a.size ≤ 4194304 ∧ WStep w g r w' (bs ++ lp 4 (sb a))) ∨ (e = .returned (.bool false) ∧ 4194304 < a.size ∧ WStep w g r w' bs) := by
  obtain ⟨k, hk, he, h1, h2, hst⟩ := h
  simp only [List.length_cons, List.length_nil] at hk h2 he
  have hk' : k = 0 ∨ k = 1 := by omega
  rcases hk' with rfl | rfl
  · exact .inr ⟨he, h2 (by omega), by simpa [lps4] using hst⟩
  · exact .inl ⟨he, h1 0 (by omega), by simpa [lps4] using hst⟩
/-- two texts -/
theorem TextPost.two {w w' : World} {g : Nat} {r : Option Nat} {bs : List UInt8} {a b : ByteArray} {e : Ending} (h : TextPost w g r bs [a, b] e w') :
    (e = .returned (.bool true) ∧ a.size ≤ 4194304 ∧ b.size ≤ 4194304 ∧ WStep w g r w' (bs ++ (lp 4 (sb a) ++ lp 4 (sb b)))) ∨
    (e = .returned (.bool false) ∧ (4194304 < a.size ∨ 4194304 < b.size) ∧ ∃ bs', bs'.length ≤ 4194308 ∧ WStep w g r w' (bs ++ bs')) := by
  obtain ⟨k, hk, he, h1, h2, hst⟩ := h
  simp only [List.length_cons, List.length_nil] at hk h2 he
  have hk' : k = 0 ∨ k = 1 ∨ k = 2 := by omega
  rcases hk' with rfl | rfl | rfl
  · exact .inr ⟨he, .inl (h2 (by omega)), [], by simp, by simpa [lps4] using hst⟩
  · have ha := h1 0 (by omega)
    refine .inr ⟨he, .inr (h2 (by omega)), lp 4 (sb a), ?_, by simpa [lps4] using hst⟩
    rw [lp_length, sb_length]
    have : ([a, b] : List ByteArray).getD 0 ByteArray.empty = a := rfl
    rw [this] at ha
    omega
  · exact .inl ⟨he, h1 0 (by omega), h1 1 (by omega), by simpa [lps4] using hst⟩

theorem flatMap_get4 (l : List MVal) : ∀ (k j : Nat) (hk : k < l.length) (_hj : j < 4), (l.flatMap MVal.cells)[k * 4 + j]? = (l[k]).cells[j]? := by
  induction l with
  | nil => intro k j hk; simp at hk
  | cons a l ih =>
    intro k j hk hj
    have hl : a.cells.length = 4 := rfl
    rw [List.flatMap_cons]
    cases k with
    | zero =>
      rw [List.getElem?_append_left (by omega)]
      simp
    | succ k =>
      rw [List.getElem?_append_right (by omega), hl]
      have e : (k + 1) * 4 + j - 4 = k * 4 + j := by omega
      rw [e, ih k j (by simpa using hk) hj]
      simp
/-- the cells of the k-th value of a row -/
theorem Rd.mval {w : World} {A : Option Addr} {l : List MVal} (h : Rd w 4 A l.length (l.flatMap MVal.cells)) {k : Nat} (hk : k < l.length) :
    ∃ b o, A = some ⟨b, o, none⟩ ∧ w.cell? ⟨b, o + k * 4, none⟩ = some (.int .i64 l[k].v.kind) ∧ w.cell? ⟨b, o + k * 4 + 1, none⟩ = some (.int .i64 l[k].v.n) ∧
      w.cell? ⟨b, o + k * 4 + 2, none⟩ = some (.string l[k].v.t) ∧ w.cell? ⟨b, o + k * 4 + 3, none⟩ = some (.slice l[k].A l[k].v.s.length l[k].c) := by
  obtain ⟨b, o, e, hc⟩ := h.2 (by omega)
  refine ⟨b, o, e, ?_, ?_, ?_, ?_⟩
  · exact hc (k * 4 + 0) _ (flatMap_get4 l k 0 hk (by decide))
  · exact hc (k * 4 + 1) _ (flatMap_get4 l k 1 hk (by decide))
  · exact hc (k * 4 + 2) _ (flatMap_get4 l k 2 hk (by decide))
  · exact hc (k * 4 + 3) _ (flatMap_get4 l k 3 hk (by decide))

/-- values one behind the other -/
def valsB (l : List Val) : List UInt8 := (l.map valB).flatten
theorem valsB_take_succ (l : List Val) (k : Nat) (h : k < l.length) : valsB (l.take (k + 1)) = valsB (l.take k) ++ valB l[k] := by
  rw [List.take_succ_eq_append_getElem h]
  unfold valsB
  rw [List.map_append, List.flatten_append]
  congr 1
  simp
theorem valsB_length (l : List Val) : ∀ k, k ≤ l.length → (∀ j (hj : j < l.length), j < k → rightE l[j] = 0) → (valsB (l.take k)).length ≤ k * 100000 := by
  intro k
  induction k with
  | zero => intro _ _; simp [valsB]
  | succ k ih =>
    intro hk h
    have h1 := ih (by omega) (fun j hj hjk => h j hj (by omega))
    have h2 := valB_length l[k] (h k (by omega) (by omega))
    rw [valsB_take_succ l k (by omega), List.length_append]
    omega
end Go.Proofs.YtnaolhjbapgjgaaGreat
