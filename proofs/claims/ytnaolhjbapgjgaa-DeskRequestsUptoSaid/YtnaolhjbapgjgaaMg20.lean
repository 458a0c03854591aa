import Derived.Test.YtnaolhjbapgjgaaMg11
import Derived.Test.YtnaolhjbapgjgaaMg19
/- The document's reading of a request, plain. The desk's reading agrees. No program in sight. -/
namespace Go.Proofs.Ytnaolhjbapgjgaa
open Go.RowKit

/-- bytes read from the left: the place, and did they end too early -/
structure Ls where
  at_ : Nat
  short : Bool
def nextL (bs : List UInt8) (n : Nat) (s : Ls) : List UInt8 × Ls := if bs.length < s.at_ + n then ([], ⟨s.at_, true⟩) else ((bs.drop s.at_).take n, ⟨s.at_ + n, s.short⟩)
def numL (bs : List UInt8) (k : Nat) (s : Ls) : Int × Ls := (i64 (ofBe (nextL bs k s).1), (nextL bs k s).2)
/-- a number of less than eight bytes -/
def lowL (bs : List UInt8) (k : Nat) (s : Ls) : Nat × Ls := (ofBe (nextL bs k s).1, (nextL bs k s).2)
def textL (bs : List UInt8) (s : Ls) : ByteArray × Ls := (⟨(nextL bs (lowL bs 4 s).1 (lowL bs 4 s).2).1.toArray⟩, (nextL bs (lowL bs 4 s).1 (lowL bs 4 s).2).2)
def valueL (bs : List UInt8) (s : Ls) : Val × Ls :=
  if (takeVal (bs.drop s.at_) ⟨0, 0⟩).2.why ≠ 0 then (zeroVal, ⟨s.at_, true⟩) else ((takeVal (bs.drop s.at_) ⟨0, 0⟩).1, (nextL bs (takeVal (bs.drop s.at_) ⟨0, 0⟩).2.at_ s).2)
def valsL (bs : List UInt8) : Nat → Ls → List Val → List Val × Ls
  | 0, s, acc => (acc, s)
  | n + 1, s, acc => if s.short = true then (acc, s) else valsL bs n (valueL bs s).2 (acc ++ [(valueL bs s).1])

theorem i64_small (n : Nat) (h : n < 9223372036854775808) : i64 n = (n : Int) := by
  unfold i64 wrap64
  omega
theorem ofBe_nil : ofBe [] = 0 := rfl
theorem ofBe_cons (a : UInt8) (l : List UInt8) : ofBe (a :: l) = a.toNat * 256 ^ l.length + ofBe l := by
  have key : ∀ (l : List UInt8) (n : Nat), l.foldl (fun n b => n * 256 + b.toNat) n = n * 256 ^ l.length + ofBe l := by
    intro l
    induction l with
    | nil => intro n; simp [ofBe]
    | cons b l ih =>
      intro n
      have hb : ofBe (b :: l) = (0 * 256 + b.toNat) * 256 ^ l.length + ofBe l := ih _
      rw [List.foldl_cons, ih, hb, List.length_cons, Nat.pow_succ]
      simp only [Nat.zero_mul, Nat.zero_add, Nat.add_mul]
      rw [Nat.mul_assoc, Nat.mul_comm 256, Nat.add_assoc]
  rw [ofBe, List.foldl_cons, key]
  simp
theorem be_mod (k : Nat) : ∀ n m : Nat, be k (m * 256 ^ k + n) = be k n := by
  induction k with
  | zero => intro n m; rfl
  | succ k ih =>
    intro n m
    have h1 : m * 256 ^ (k + 1) + n = (m * 256) * 256 ^ k + n := by rw [Nat.pow_succ, Nat.mul_comm (256 ^ k), Nat.mul_assoc]
    have hp : 0 < 256 ^ k := Nat.pow_pos (by decide)
    rw [be, be, h1, ih]
    congr 1
    rw [Nat.add_comm, Nat.add_mul_div_right _ _ hp]
    refine UInt8.toNat_inj.1 ?_
    simp
theorem be_ofBe (l : List UInt8) : be l.length (ofBe l) = l := by
  induction l with
  | nil => rfl
  | cons a l ih =>
    rw [List.length_cons, be, ofBe_cons, be_mod, ih]
    congr 1
    have hp : 0 < 256 ^ l.length := Nat.pow_pos (by decide)
    rw [Nat.add_comm, Nat.add_mul_div_right _ _ hp, Nat.div_eq_of_lt (ofBe_lt l), Nat.zero_add]
    simp
theorem be_take (bs : List UInt8) (p k : Nat) (h : p + k ≤ bs.length) : be k (ofBe ((bs.drop p).take k)) = (bs.drop p).take k := by
  have hl : ((bs.drop p).take k).length = k := by rw [List.length_take, List.length_drop]; omega
  have := be_ofBe ((bs.drop p).take k)
  rw [hl] at this
  exact this
theorem take_drop_next (bs : List UInt8) (p k : Nat) : bs.drop p = (bs.drop p).take k ++ bs.drop (p + k) := by
  rw [← List.drop_drop, List.take_append_drop]
theorem be8_i64 (n : Nat) (h : n < 18446744073709551616) : be8 (i64 n) = be 8 n := by
  have e : (i64 n % 18446744073709551616).toNat = n := by
    unfold i64 wrap64
    omega
  rw [be8, e]

/-- the two stand alike: at the same place, or both have failed -/
structure Ag (bs : List UInt8) (s : Rs) (l : Ls) : Prop where
  ok : s.why = 0 ↔ l.short = false
  at_ : s.why = 0 → s.at_ = l.at_
  le : s.why = 0 → s.at_ ≤ bs.length
/-- what is taken between the two places -/
def Con (bs : List UInt8) (s s' : Rs) (e : List UInt8) : Prop := s'.why = 0 → s.why = 0 ∧ bs.drop s.at_ = e ++ bs.drop s'.at_ ∧ (s.at_ ≤ bs.length → s'.at_ ≤ bs.length)
theorem Con.trans {bs : List UInt8} {s s1 s2 : Rs} {e e1 : List UInt8} (h : Con bs s s1 e) (h1 : Con bs s1 s2 e1) : Con bs s s2 (e ++ e1) := fun hz => by
  obtain ⟨a, b, x⟩ := h1 hz
  obtain ⟨c, d, y⟩ := h a
  exact ⟨c, by rw [d, b, List.append_assoc], fun hh => x (y hh)⟩

section
variable {bs : List UInt8} {s : Rs} {l : Ls}
theorem nextL_short (n : Nat) (h : l.short = true) : (nextL bs n l).2.short = true := by
  unfold nextL
  split
  · rfl
  · exact h
theorem ag_bad {s' : Rs} {l' : Ls} (h1 : s'.why ≠ 0) (h2 : l'.short = true) : Ag bs s' l' := ⟨⟨fun h => absurd h h1, fun h => by rw [h2] at h; cases h⟩, fun h => absurd h h1, fun h => absurd h h1⟩
theorem ag_good {p : Nat} (h : p ≤ bs.length) : Ag bs ⟨p, 0⟩ ⟨p, false⟩ := ⟨⟨fun _ => rfl, fun _ => rfl⟩, fun _ => rfl, fun _ => h⟩
/-- either both go on from one place, or both have failed -/
theorem Ag.cases (h : Ag bs s l) : (∃ p, s = ⟨p, 0⟩ ∧ l = ⟨p, false⟩ ∧ p ≤ bs.length) ∨ (s.why ≠ 0 ∧ l.short = true) := by
  by_cases hw : s.why = 0
  · refine .inl ⟨s.at_, ?_, ?_, h.le hw⟩
    · cases s; simp only at hw; subst hw; rfl
    · have h1 := h.ok.1 hw
      have h2 := h.at_ hw
      cases l
      simp only at h1 h2
      rw [h1, h2]
  · refine .inr ⟨hw, ?_⟩
    cases hs : l.short
    · exact absurd (h.ok.2 hs) hw
    · rfl
theorem low_ag (k : Nat) (h : Ag bs s l) : Ag bs (tkN bs k s).2 (lowL bs k l).2 ∧ ((tkN bs k s).2.why = 0 → (tkN bs k s).1 = (lowL bs k l).1) ∧ Con bs s (tkN bs k s).2 (be k (tkN bs k s).1) := by
  rcases h.cases with ⟨p, rfl, rfl, hp⟩ | ⟨hw, hs⟩
  · by_cases hl : p + k ≤ bs.length
    · have e1 : tkN bs k ⟨p, 0⟩ = (ofBe ((bs.drop p).take k), ⟨p + k, 0⟩) := by simp [tkN, hl]
      have e2 : nextL bs k ⟨p, false⟩ = ((bs.drop p).take k, ⟨p + k, false⟩) := by rw [nextL, if_neg (by simp only; omega)]
      rw [lowL, e1, e2]
      refine ⟨ag_good hl, fun _ => rfl, fun _ => ⟨rfl, ?_, fun _ => hl⟩⟩
      simp only
      rw [be_take bs p k hl]
      exact take_drop_next bs p k
    · have e1 : tkN bs k ⟨p, 0⟩ = (0, ⟨p, 8⟩) := by simp [tkN]; omega
      have e2 : nextL bs k ⟨p, false⟩ = ([], ⟨p, true⟩) := by rw [nextL, if_pos (by simp only; omega)]
      rw [lowL, e1, e2]
      exact ⟨ag_bad (by simp) rfl, fun h => absurd h (by simp), fun h => absurd h (by simp)⟩
  · have e1 : tkN bs k s = (0, s) := by rw [tkN, if_pos hw]
    rw [lowL, e1]
    exact ⟨ag_bad hw (nextL_short k hs), fun h => absurd h hw, fun h => absurd h hw⟩
theorem numN_ag (h : Ag bs s l) : Ag bs (numN bs s).2 (numL bs 8 l).2 ∧ ((numN bs s).2.why = 0 → (numN bs s).1 = (numL bs 8 l).1) ∧ Con bs s (numN bs s).2 (be8 (numN bs s).1) := by
  have := low_ag 8 h
  refine ⟨this.1, fun hz => by rw [numN, this.2.1 hz]; rfl, ?_⟩
  rw [numN, be8_i64 _ (by have := tkN_lt bs 8 s; omega)]
  exact this.2.2
theorem bytes_good (p n : Nat) (hn : ofBe ((bs.drop p).take 4) = n) (hb : bs.length ≤ 1048576) (hm : p + 4 + n ≤ bs.length) :
    bytesN bs 4194304 ⟨p, 0⟩ = ((bs.drop (p + 4)).take n, ⟨p + 4 + n, 0⟩) := by
  have h1 : ¬ bs.length < p + 4 := by omega
  have h2 : ¬ min (4194304 : Int) 2147483647 < (n : Int) := by omega
  have h3 : ¬ bs.length < p + 4 + n := by omega
  simp only [bytesN, hn, if_neg h1, if_neg h2, if_neg h3]
  simp
theorem bytes_fail (p n : Nat) (hn : ofBe ((bs.drop p).take 4) = n) (hm : bs.length < p + 4 + n) : (bytesN bs 4194304 ⟨p, 0⟩).2.why ≠ 0 := by
  simp only [bytesN, hn]
  generalize (4194304 : Int) = most
  split
  · assumption
  split
  · simp
  split
  · simp
  · simp
theorem text_len (p : Nat) (hl : p + 4 ≤ bs.length) : lowL bs 4 ⟨p, false⟩ = (ofBe ((bs.drop p).take 4), ⟨p + 4, false⟩) := by
  have e2 : nextL bs 4 ⟨p, false⟩ = ((bs.drop p).take 4, ⟨p + 4, false⟩) := by rw [nextL, if_neg (by simp only; omega)]
  rw [lowL, e2]
theorem text_good (p n : Nat) (hn : ofBe ((bs.drop p).take 4) = n) (hm : p + 4 + n ≤ bs.length) : textL bs ⟨p, false⟩ = (⟨((bs.drop (p + 4)).take n).toArray⟩, ⟨p + 4 + n, false⟩) := by
  have e5 : nextL bs n ⟨p + 4, false⟩ = ((bs.drop (p + 4)).take n, ⟨p + 4 + n, false⟩) := by rw [nextL, if_neg (by simp only; omega)]
  rw [textL, text_len p (by omega), hn, e5]
theorem text_fail (p n : Nat) (hn : ofBe ((bs.drop p).take 4) = n) (hm : bs.length < p + 4 + n) : (textL bs ⟨p, false⟩).2.short = true := by
  by_cases hl : p + 4 ≤ bs.length
  · have e5 : nextL bs n ⟨p + 4, false⟩ = ([], ⟨p + 4, true⟩) := by rw [nextL, if_pos (by simp only; omega)]
    rw [textL, text_len p (by omega), hn, e5]
  · have e5 : (lowL bs 4 ⟨p, false⟩).2.short = true := by rw [lowL, nextL, if_pos (by simp only; omega)]
    rw [textL]
    exact nextL_short _ e5
theorem bytes_ag (hb : bs.length ≤ 1048576) (h : Ag bs s l) : Ag bs (bytesN bs 4194304 s).2 (textL bs l).2 ∧ ((bytesN bs 4194304 s).2.why = 0 → (bytesN bs 4194304 s).1 = sb (textL bs l).1) ∧ Con bs s (bytesN bs 4194304 s).2 (lp 4 (bytesN bs 4194304 s).1) := by
  rcases h.cases with ⟨p, rfl, rfl, hp⟩ | ⟨hw, hs⟩
  · by_cases hm : p + 4 + ofBe ((bs.drop p).take 4) ≤ bs.length
    · have e1 := bytes_good p _ rfl hb hm
      have e4 := text_good p _ rfl hm
      have hq := be_take bs p 4 (by omega)
      generalize ofBe ((bs.drop p).take 4) = n at *
      rw [e1, e4]
      refine ⟨ag_good hm, fun _ => rfl, fun _ => ⟨rfl, ?_, fun _ => hm⟩⟩
      have hln : ((bs.drop (p + 4)).take n).length = n := by rw [List.length_take, List.length_drop]; omega
      simp only [lp, hln]
      rw [hq, List.append_assoc, ← take_drop_next bs (p + 4) n]
      exact take_drop_next bs p 4
    · have e1 := bytes_fail p _ rfl (Nat.lt_of_not_le hm)
      have e4 := text_fail p _ rfl (Nat.lt_of_not_le hm)
      exact ⟨ag_bad e1 e4, fun h => absurd h e1, fun h => absurd h e1⟩
  · have e1 : (bytesN bs 4194304 s).2.why ≠ 0 := by
      rw [bytesN, if_pos hw]
      exact hw
    have e2 : (lowL bs 4 l).2.short = true := nextL_short _ hs
    have e4 : (textL bs l).2.short = true := by rw [textL]; exact nextL_short _ e2
    exact ⟨ag_bad e1 e4, fun h => absurd h e1, fun h => absurd h e1⟩
theorem word_ag (hb : bs.length ≤ 1048576) (h : Ag bs s l) : Ag bs (wordN bs s).2 (textL bs l).2 ∧ ((wordN bs s).2.why = 0 → (wordN bs s).1 = (textL bs l).1) ∧ Con bs s (wordN bs s).2 (lp 4 (sb (wordN bs s).1)) := by
  have h1 := bytes_ag hb h
  refine ⟨h1.1, fun hz => sb_inj (h1.2.1 hz), h1.2.2⟩
end

/-- a place further on -/
def sh {α : Type} (p : Nat) (x : α × Rs) : α × Rs := (x.1, ⟨p + x.2.at_, x.2.why⟩)
section
variable (bs : List UInt8) (p : Nat)
theorem tkN_sh (hp : p ≤ bs.length) (k a : Nat) (y : Int) : tkN bs k ⟨p + a, y⟩ = sh p (tkN (bs.drop p) k ⟨a, y⟩) := by
  unfold tkN sh
  simp only [List.length_drop, List.drop_drop]
  by_cases h1 : y ≠ 0
  · rw [if_pos h1, if_pos h1]
  · rw [if_neg h1, if_neg h1]
    by_cases h2 : p + a + k ≤ bs.length
    · rw [if_pos h2, if_pos (by omega)]
      simp [Nat.add_assoc]
    · rw [if_neg h2, if_neg (by omega)]
theorem flagN_sh (hp : p ≤ bs.length) (a : Nat) (y : Int) : flagN bs ⟨p + a, y⟩ = sh p (flagN (bs.drop p) ⟨a, y⟩) := by
  unfold flagN sh
  simp only [List.length_drop, List.drop_drop]
  by_cases h1 : y ≠ 0
  · rw [if_pos h1, if_pos h1]
  · rw [if_neg h1, if_neg h1]
    by_cases h2 : bs.length < p + a + 1 ∨ 1 < ofBe ((bs.drop (p + a)).take 1)
    · rw [if_pos h2, if_pos (by omega)]
    · rw [if_neg h2, if_neg (by omega)]
      simp [Nat.add_assoc]
theorem textAt_sh (hp : p ≤ bs.length) (m : Int) (a : Nat) : textAt bs m (p + a) = ((textAt (bs.drop p) m a).1, p + (textAt (bs.drop p) m a).2.1, (textAt (bs.drop p) m a).2.2) := by
  unfold textAt
  simp only [List.length_drop, List.drop_drop]
  generalize ofBe ((bs.drop (p + a)).take 2) = n
  by_cases h1 : bs.length < p + a + 2
  · have h1' : bs.length - p < a + 2 := by omega
    simp only [if_pos h1, if_pos h1']
  · have h1' : ¬ bs.length - p < a + 2 := by omega
    simp only [if_neg h1, if_neg h1']
    by_cases h2 : min m 65535 < (n : Int)
    · simp only [if_pos h2, Nat.add_assoc]
    · simp only [if_neg h2]
      by_cases h3 : bs.length < p + a + 2 + n
      · have h3' : bs.length - p < a + 2 + n := by omega
        simp only [if_pos h3, if_pos h3']
        simp only [Nat.add_assoc]
      · have h3' : ¬ bs.length - p < a + 2 + n := by omega
        simp only [if_neg h3, if_neg h3']
        simp only [Nat.add_assoc]
theorem textN_sh (hp : p ≤ bs.length) (m : Int) (a : Nat) (y : Int) : textN bs m ⟨p + a, y⟩ = sh p (textN (bs.drop p) m ⟨a, y⟩) := by
  unfold textN sh
  simp only [textAt_sh bs p hp]
  by_cases h1 : y ≠ 0
  · rw [if_pos h1, if_pos h1]
  · rw [if_neg h1, if_neg h1]
    split <;> rfl
theorem textsGo_sh (hp : p ≤ bs.length) (each : Int) : ∀ (k a : Nat) (acc : List ByteArray),
    (textsGo bs each k (p + a) acc).1 = (textsGo (bs.drop p) each k a acc).1 ∧ ((textsGo (bs.drop p) each k a acc).1 = 0 → (textsGo bs each k (p + a) acc).2 = ((textsGo (bs.drop p) each k a acc).2.1, p + (textsGo (bs.drop p) each k a acc).2.2)) := by
  intro k
  induction k with
  | zero => intro a acc; exact ⟨rfl, fun _ => rfl⟩
  | succ k ih =>
    intro a acc
    have hE : textsE acc (textAt bs each (p + a)) = textsE acc (textAt (bs.drop p) each a) := by rw [textAt_sh bs p hp]; rfl
    simp only [textsGo, hE]
    by_cases h : textsE acc (textAt (bs.drop p) each a) ≠ 0
    · rw [if_pos h, if_pos h]
      exact ⟨rfl, fun hz => absurd hz h⟩
    · rw [if_neg h, if_neg h, textAt_sh bs p hp]
      exact ih _ _
theorem textsN_sh (hp : p ≤ bs.length) (most each : Int) (a : Nat) (y : Int) : textsN bs most each ⟨p + a, y⟩ = sh p (textsN (bs.drop p) most each ⟨a, y⟩) := by
  unfold textsN sh
  simp only [List.length_drop, List.drop_drop]
  by_cases h1 : y ≠ 0
  · simp only [if_pos h1]
  · simp only [if_neg h1]
    by_cases h2 : bs.length < p + a + 2
    · have h2' : bs.length - p < a + 2 := by omega
      simp only [if_pos h2, if_pos h2']
    · have h2' : ¬ bs.length - p < a + 2 := by omega
      simp only [if_neg h2, if_neg h2']
      generalize ofBe ((bs.drop (p + a)).take 2) = n
      by_cases h3 : min most 65535 < (n : Int)
      · simp only [if_pos h3]
      · simp only [if_neg h3]
        have hg := textsGo_sh bs p hp each n (a + 2) []
        rw [← Nat.add_assoc] at hg
        rw [hg.1]
        by_cases h4 : (textsGo (bs.drop p) each n (a + 2) []).1 ≠ 0
        · simp only [if_pos h4]
        · simp only [if_neg h4]
          have := hg.2 (by simpa using h4)
          rw [this]
theorem kindV_sh (hp : p ≤ bs.length) (k a : Nat) (y : Int) : kindV bs k ⟨p + a, y⟩ = sh p (kindV (bs.drop p) k ⟨a, y⟩) := by
  unfold kindV
  rw [tkN_sh bs p hp, flagN_sh bs p hp, textN_sh bs p hp, textsN_sh bs p hp]
  split
  · rfl
  split
  · rfl
  split
  · rfl
  split <;> rfl
theorem lookV_sh (x : Val × Rs) : lookV (sh p x) = sh p (lookV x) := by
  unfold lookV sh
  simp only
  split
  · rfl
  split <;> rfl
theorem takeVal_sh (hp : p ≤ bs.length) (a : Nat) (y : Int) : takeVal bs ⟨p + a, y⟩ = sh p (takeVal (bs.drop p) ⟨a, y⟩) := by
  unfold takeVal
  rw [tkN_sh bs p hp]
  have : (sh p (tkN (bs.drop p) 1 ⟨a, y⟩)).2 = ⟨p + (tkN (bs.drop p) 1 ⟨a, y⟩).2.at_, (tkN (bs.drop p) 1 ⟨a, y⟩).2.why⟩ := rfl
  rw [this, kindV_sh bs p hp, lookV_sh]
  rfl
end
end Go.Proofs.Ytnaolhjbapgjgaa

/- Contract of docketref1.TakeTexts. -/
namespace Go.Proofs.Ytnaolhjbapgjgaa
open Go.RowKit

theorem less_total : ∀ (a b : List UInt8), (Op.bytesLess a b || a == b) = !Op.bytesLess b a
  | [], [] => rfl
  | [], y :: b => by simp [Op.bytesLess]
  | x :: a, [] => by simp [Op.bytesLess]
  | x :: a, y :: b => by
    have ih := less_total a b
    by_cases h : x = y
    · subst h
      simpa [Op.bytesLess] using ih
    · have h1 : ¬ x.toNat = y.toNat := fun e => h (UInt8.toNat_inj.1 e)
      by_cases h2 : x < y
      · have h3 : ¬ y < x := by rw [UInt8.lt_iff_toNat_lt] at *; omega
        have h4 : ¬ y = x := fun e => h e.symm
        simp [Op.bytesLess, h2, h3, h4]
      · have h3 : y < x := by rw [UInt8.lt_iff_toNat_lt] at *; omega
        simp [Op.bytesLess, h, h2, h3]
/-- texts in new memory, how many bytes were gone over, the refusal -/
def TxPost (w : World) (T : List ByteArray × Rs) (e : Ending) (w' : World) : Prop :=
  ∃ A c n, e = .returned (.tuple #[.slice A T.1.length c, .int .i64 n, .int .i64 T.2.why]) ∧ (T.2.why = 0 → n = (T.2.at_ : Int)) ∧ Rd w' 1 A T.1.length (T.1.map sv) ∧ Av (fun k => k < w.heap.size) T.1.length A ∧ T.1.length ≤ c ∧ Old w w'
theorem TxPost.none_ {w w' : World} (n y : Int) (p : Nat) (hy : y ≠ 0) (ho : Old w w') : TxPost w ([], ⟨p, y⟩) (.returned (.tuple #[.slice none 0 0, .int .i64 n, .int .i64 y])) w' :=
  ⟨none, 0, n, rfl, fun h => absurd h hy, Rd.none_, fun h => absurd h (by simp), Nat.le_refl _, ho⟩

set_option maxRecDepth 100000 in
set_option maxHeartbeats 1600000 in
theorem rtx_any (w : World) (A0 : Option Addr) (c0 : Nat) (b : List UInt8) (hr : Rd w 1 A0 b.length (b.map bv)) (hc : b.length ≤ c0) (hk : b.length ≤ 100000000000) :
    Calls Try.prog 81 #[.slice A0 b.length c0, .int .i64 64, .int .i64 1024] w (TxPost w (textsN b 64 1024 ⟨0, 0⟩)) := by
  by_cases h2 : b.length < 2
  · have e : textsN b 64 1024 ⟨0, 0⟩ = ([], ⟨0, 8⟩) := by
      simp only [textsN]
      rw [if_neg (by simp), if_pos (by omega)]
    rw [e]
    clear e
    have Hno := Lib.hid (rtn_no w A0 c0 b.length 2 h2)
    go_enter Try.func81, Try.ntmps81
    go_wp2_with fail
    refine Hno.out.mono ?_
    rintro e w1 ⟨rfl, rfl⟩
    go_wp2
    go_ret3
    exact TxPost.none_ 0 8 0 (by decide) (Kp.refl _ _)
  have Hok := Lib.hid (rtn_ok w A0 c0 b.length 2 b hr rfl (by omega) (by decide))
  have HL := Lib.hid (least_any w 64 65535 (by decide) (by decide))
  have hx : ofBe (b.take 2) < 65536 := ofBe_take_lt b 2
  have HB := Lib.hid (show textsN b 64 1024 ⟨0, 0⟩ = if (64 : Int) < (ofBe (b.take 2) : Int) then ([], ⟨0, 7⟩) else if (textsGo b 1024 (ofBe (b.take 2)) 2 []).1 ≠ 0 then ([], ⟨0, (textsGo b 1024 (ofBe (b.take 2)) 2 []).1⟩) else ((textsGo b 1024 (ofBe (b.take 2)) 2 []).2.1, ⟨(textsGo b 1024 (ofBe (b.take 2)) 2 []).2.2, 0⟩) by
    have h2' : ¬ b.length < 0 + 2 := by omega
    simp only [textsN, List.drop_zero, Nat.zero_add]
    rw [if_neg (by simp), if_neg (by omega)]
    have : min (64 : Int) 65535 = 64 := by decide
    rw [this])
  generalize textsN b 64 1024 ⟨0, 0⟩ = BN at HB ⊢
  generalize ofBe (b.take 2) = n at *
  by_cases h7 : (64 : Int) < (n : Int)
  · have HBB := Lib.hid (show BN = ([], ⟨0, 7⟩) by rw [HB.out, if_pos h7])
    go_enter Try.func81, Try.ntmps81
    go_wp2_with fail
    refine Hok.out.mono ?_
    rintro e w1 ⟨rfl, rfl⟩
    go_wp2_with fail
    refine HL.out.mono ?_
    rintro e w1 ⟨rfl, rfl⟩
    go_wp2
    go_ret3
    rw [HBB.out]
    exact TxPost.none_ 0 7 0 (by decide) (Kp.refl _ _)
  have HB := Lib.hid (HB.out.trans (if_neg h7))
  obtain ⟨i0, hi, hz0, hz1, hz2⟩ := info_parts Try.infoText
  have ex : IntKind.i64.wrap (n : Int) = (n : Int) := IntWalk.i64_in _ (by omega)
  have ex2 : wrap64 (n : Int) = (n : Int) := by unfold wrap64; omega
  go_enter Try.func81, Try.ntmps81
  go_wp2_with fail
  refine Hok.out.mono ?_
  rintro e w1 ⟨rfl, rfl⟩
  go_wp2_with fail
  refine HL.out.mono ?_
  rintro e w1 ⟨rfl, rfl⟩
  go_wp2_with fail
  go_loopw [10, 12, 13] (fun q l i wr => ∃ (k : Nat) (acc : List ByteArray) (A : Option Addr) (c t : Nat), k ≤ n ∧ i = .int .i64 k ∧ acc.length = k ∧ l = .slice A k c ∧ wr.ownsRow w.heap.size 9 1 (.slice A k c) k (acc.map sv) ∧ q = .int .i64 t ∧ t ≤ b.length ∧ textsGo b 1024 n 2 [] = textsGo b 1024 (n - k) t acc ∧ Old w wr) (fun _ _ i _ => n - (intOf i).toNat)
  case atStart => exact ⟨0, [], none, 0, 2, by omega, rfl, rfl, rfl, World.ownsRow_nil _ _ _ _, rfl, by omega, rfl, Kp.refl _ _⟩
  case round =>
    obtain ⟨k, acc, A, c, t, hkn, rfl, hacc, rfl, hown, rfl, ht, hgo, ho⟩ := hrel
    have hrd := Rd.of_own hown
    have Hgo := Lib.hid hgo
    have Ho := Lib.hid ho
    have hshf := textAt_sh b t ht 1024 0
    rw [Nat.add_zero] at hshf
    have hto := textAt_le b 1024 t ht
    have hcut := (hr.old ho).cut (k := t) (cap := c0) ht hc
    rw [Nat.mul_one, ← List.map_drop] at hcut
    have hsl := fun W => cut_l (P := Try.prog) Try.elemBytes Try.sizeBytes A0 b.length c0 t .i64 (t : Int) rfl ht W
    rw [Nat.mul_one] at hsl
    generalize (if c0 = t then A0 else A0.map (·.add t)) = AA at hcut hsl
    have Hh2 := Lib.hid (rtt_any wr AA (c0 - t) (b.length - t) 1024 (b.drop t) hcut (by rw [List.length_drop]) (by omega) (by omega) (by decide) (by decide))
    clear hgo hcut ho
    by_cases hlt2 : k < n
    · obtain ⟨m, hm⟩ : ∃ m, n - k = m + 1 := ⟨n - k - 1, by omega⟩
      rw [hm] at Hgo
      generalize textAt (b.drop t) 1024 0 = T at Hh2 hshf
      obtain ⟨l, q, er⟩ := T
      simp only at Hh2 hshf
      rw [hshf] at hto
      simp only at hto
      have hT : textAt b 1024 t = (l, t + q, er) := hshf
      clear hshf
      have hkk : (k : Int) ≤ 64 := by omega
      by_cases her : er = 0
      case neg =>
        rw [textsGo_err b 1024 m t acc hT her] at Hgo
        have hB := HB.out
        rw [Hgo.out, if_pos her] at hB
        have HBB := Lib.hid hB
        have her' : (er != 0) = true := by simpa using her
        have Her := Lib.hid her
        clear hB hT hm her
        go_wp2_with fail
        refine Hh2.out.mono ?_
        rintro e w1 ⟨kk, rfl, _, ho1⟩
        have Ho1 := Lib.hid (Ho.out.old ho1)
        clear ho1
        go_wp2
        go_ret3
        rw [HBB.out]
        exact TxPost.none_ 0 er 0 Her.out Ho1.out
      subst her
      have Hm := Lib.hid hm
      have HT := Lib.hid hT
      clear hm hT
      have H63 := Lib.hid (show k + 1 ≤ maxLen by unfold maxLen; omega)
      have H47 := Lib.hid (show (k + 1) * 16 ≤ 140737488355328 by omega)
      have etq : IntKind.i64.wrap ((t : Int) + (q : Int)) = (t : Int) + (q : Int) := IntWalk.i64_in _ (by omega)
      rcases Nat.eq_zero_or_pos k with h0 | hpos
      · subst h0
        have hnil : acc = [] := List.eq_nil_of_length_eq_zero hacc
        subst hnil
        have Hon := Lib.hid (textsGo_on b 1024 m t [] HT.out (.inl rfl))
        simp only [List.length_nil, List.map_nil] at *
        go_wp2_with fail
        refine Hh2.out.mono ?_
        rintro e w1 ⟨kk, rfl, hkk1, ho1⟩
        obtain rfl := hkk1 (by trivial)
        have Ho1 := Lib.hid (Ho.out.old ho1)
        have hown1 := own_kp hown ho1 (fun _ _ f => f)
        clear ho1 hown
        go_wp2_with (at_builtin; refine wpList_append_any _ rfl (.tmp 60) (.tmp 62) 23 rfl w.heap.size 9 i0 (.string ByteArray.empty) 1 16 Try.underlying23 hi hz0 hz1 hz2 rfl (by decide) (.slice A 0 c) 0 [] rfl (hown1.alloc _) _ 1 1 _ rfl (Rd.one_new _ _ _) (one_value _ rfl) H63.out H47.out (Nat.le_trans Ho1.out.size (by simp)) ?_; intro A' c' w2 hown2 hgrow hat)
        have Hown2 := Lib.hid hown2
        have Ho2 := Lib.hid (((Ho1.out.alloc _).grown hgrow (fun k e => by
          rcases hown1.2 with ⟨e', _⟩ | ⟨g', _, _, e', hge, _⟩
          · rw [e'] at e; simp [Value.ownBlock] at e
          · rw [e'] at e; simp [Value.ownBlock] at e; omega)))
        clear hown2 hgrow hat hown1 hrd
        go_wp2
        go_roundw
        case rel =>
          refine ⟨1, [⟨l.toArray⟩], A', c', t + q, by omega, rfl, rfl, rfl, ?_, by go_num, hto, ?_, Ho2.out⟩
          · simpa [sv] using Hown2.out
          · rw [Hgo.out, Hon.out, show n - 1 = m by have := Hm.out; omega]; rfl
        case measure => simp [intOf]; omega
      · obtain ⟨bb, o, hAe, hlast⟩ := hrd.text (k := k - 1) (by omega)
        subst hAe
        have hne : acc ≠ [] := by rintro rfl; simp at hacc; omega
        have hgl : acc.getD (acc.length - 1) ByteArray.empty = acc.getD (k - 1) ByteArray.empty := by rw [hacc]
        generalize hz : acc.getD (k - 1) ByteArray.empty = z at hlast hgl
        have b1 : (0 : Int) ≤ (k : Int) - 1 := by omega
        have b2 : (k : Int) - 1 < (k : Int) := by omega
        have b3 : ((k : Int) - 1).toNat = k - 1 := by omega
        have b4 : (0 : Int) < (k : Int) := by omega
        have htot := less_total l z.toList
        cases hlx : Op.bytesLess z.toList l
        · have Hf := Lib.hid (textsGo_falls b 1024 m t acc HT.out hne (by rw [hgl]; simpa [blt] using hlx))
          have hB := HB.out
          rw [Hgo.out, Hf.out, if_pos (by decide)] at hB
          have HBB := Lib.hid hB
          clear hB hgl hz hacc hne
          go_wp2_with fail
          refine Hh2.out.mono ?_
          rintro e w1 ⟨kk, rfl, hkk1, ho1⟩
          obtain rfl := hkk1 (by trivial)
          have Ho1 := Lib.hid (Ho.out.old ho1)
          have hlast1 := (World.cell?_of_block (ho1.block bb (cell_lt hlast) (fun f => f))).trans hlast
          rw [hlx] at htot
          simp only [Bool.not_false] at htot
          clear ho1 hlast
          go_wp2
          go_ret3
          rw [HBB.out]
          exact TxPost.none_ 0 8 0 (by decide) Ho1.out
        · have Hon := Lib.hid (textsGo_on b 1024 m t acc HT.out (.inr (by rw [hgl]; simpa [blt] using hlx)))
          have Hacc := Lib.hid hacc
          clear hgl hz hacc hne
          go_wp2_with fail
          refine Hh2.out.mono ?_
          rintro e w1 ⟨kk, rfl, hkk1, ho1⟩
          obtain rfl := hkk1 (by trivial)
          have Ho1 := Lib.hid (Ho.out.old ho1)
          have hown1 := own_kp hown ho1 (fun _ _ f => f)
          have hlast1 := (World.cell?_of_block (ho1.block bb (cell_lt hlast) (fun f => f))).trans hlast
          rw [hlx] at htot
          simp only [Bool.not_true, Bool.or_eq_false_iff] at htot
          clear ho1 hown hlast
          go_wp2_with (at_builtin; refine wpList_append_any _ rfl (.tmp 60) (.tmp 62) 23 rfl w.heap.size 9 i0 (.string ByteArray.empty) 1 16 Try.underlying23 hi hz0 hz1 hz2 rfl (by decide) (.slice (some ⟨bb, o, none⟩) k c) k (acc.map sv) rfl (hown1.alloc _) _ 1 1 _ rfl (Rd.one_new _ _ _) (one_value _ rfl) H63.out H47.out (Nat.le_trans Ho1.out.size (by simp)) ?_; intro A' c' w2 hown2 hgrow hat)
          have Hown2 := Lib.hid hown2
          have Ho2 := Lib.hid (((Ho1.out.alloc _).grown hgrow (fun k e => by
            have := hown1.lt k e
            omega)))
          clear hown2 hgrow hat hown1 hrd
          go_wp2
          go_roundw
          case rel =>
            refine ⟨k + 1, acc ++ [⟨l.toArray⟩], A', c', t + q, by omega, by go_num, by rw [List.length_append, Hacc.out]; rfl, rfl, ?_, by go_num, hto, ?_, Ho2.out⟩
            · rw [← map_sv_snoc]; exact Hown2.out
            · rw [Hgo.out, Hon.out, show n - (k + 1) = m by have := Hm.out; omega]
          case measure => simp [intOf]; omega
    · obtain rfl : k = n := by omega
      have hB : BN = (acc, ⟨t, 0⟩) := by
        have := HB.out
        rw [Hgo.out, Nat.sub_self] at this
        simpa [textsGo] using this
      have HBB := Lib.hid hB
      have Hown := Lib.hid hown
      have Hacc := Lib.hid hacc
      clear hB hown hacc
      go_wp2
      go_ret3
      rw [HBB.out]
      refine ⟨A, c, (t : Int), by rw [Hacc.out]; rfl, fun _ => rfl, ?_, ?_, ?_, Ho.out⟩
      · rw [Hacc.out]; exact Rd.of_own Hown.out
      · rw [Hacc.out]; exact own_av Hown.out
      · rw [Hacc.out]; exact own_cap Hown.out
end Go.Proofs.Ytnaolhjbapgjgaa
