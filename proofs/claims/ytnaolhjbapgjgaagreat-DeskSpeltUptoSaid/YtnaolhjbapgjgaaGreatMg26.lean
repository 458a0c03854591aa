import Derived.Test.YtnaolhjbapgjgaaGreatMg25
set_option maxRecDepth 100000
set_option maxHeartbeats 3200000
namespace Go.Proofs.YtnaolhjbapgjgaaGreat
open Go.RowKit
structure Ls where
  at_ : Nat
  short : Bool
def vu (bs : List UInt8) (n : Nat) (s : Ls) : List UInt8 × Ls := if bs.length < s.at_ + n then ([], ⟨s.at_, true⟩) else ((bs.drop s.at_).take n, ⟨s.at_ + n, s.short⟩)
def numL (bs : List UInt8) (k : Nat) (s : Ls) : Int × Ls := (i64 (ofBe (vu bs k s).1), (vu bs k s).2)
def lowL (bs : List UInt8) (k : Nat) (s : Ls) : Nat × Ls := (ofBe (vu bs k s).1, (vu bs k s).2)
def kH (bs : List UInt8) (s : Ls) : ByteArray × Ls := (⟨(vu bs (lowL bs 4 s).1 (lowL bs 4 s).2).1.toArray⟩, (vu bs (lowL bs 4 s).1 (lowL bs 4 s).2).2)
def valueL (bs : List UInt8) (s : Ls) : Val × Ls :=
  if (jN (bs.drop s.at_) ⟨0, 0⟩).2.why ≠ 0 then (jh, ⟨s.at_, true⟩) else ((jN (bs.drop s.at_) ⟨0, 0⟩).1, (vu bs (jN (bs.drop s.at_) ⟨0, 0⟩).2.at_ s).2)
def valsL (bs : List UInt8) : Nat -> Ls -> List Val -> List Val × Ls
  | 0, s, acc => (acc, s)
  | n + 1, s, acc => if s.short = true then (acc, s) else valsL bs n (valueL bs s).2 (acc ++ [(valueL bs s).1])
theorem i64_small (n : Nat) (h : n < 9223372036854775808) : i64 n = (n : Int) := by
  unfold i64 wrap64
  omega
theorem ofBe_nil : ofBe [] = 0 := rfl
theorem ofBe_cons (a : UInt8) (l : List UInt8) : ofBe (a :: l) = a.toNat * 256 ^ l.length + ofBe l := by
  have key : ∀ (l : List UInt8) (n : Nat), l.foldl (fun n b => n * 256 + b.toNat) n = n * 256 ^ l.length + ofBe l := by
    intro l
    induction l with
    | nil => intro n; simp [ofBe]
    | cons b l ih =>
      intro n
      have hb : ofBe (b :: l) = (0 * 256 + b.toNat) * 256 ^ l.length + ofBe l := ih _
      rw [List.foldl_cons, ih, hb, List.length_cons, Nat.pow_succ]
      simp only [Nat.zero_mul, Nat.zero_add, Nat.add_mul]
      rw [Nat.mul_assoc, Nat.mul_comm 256, Nat.add_assoc]
  rw [ofBe, List.foldl_cons, key]
  simp
theorem be_mod (k : Nat) : ∀ n m : Nat, be k (m * 256 ^ k + n) = be k n := by
  induction k with
  | zero => intro n m; rfl
  | succ k ih =>
    intro n m
    have h1 : m * 256 ^ (k + 1) + n = (m * 256) * 256 ^ k + n := by rw [Nat.pow_succ, Nat.mul_comm (256 ^ k), Nat.mul_assoc]
    have hp : 0 < 256 ^ k := Nat.pow_pos (by decide)
    rw [be, be, h1, ih]
    congr 1
    rw [Nat.add_comm, Nat.add_mul_div_right _ _ hp]
    refine UInt8.toNat_inj.1 ?_
    simp
theorem be_ofBe (l : List UInt8) : be l.length (ofBe l) = l := by
  induction l with
  | nil => rfl
  | cons a l ih =>
    rw [List.length_cons, be, ofBe_cons, be_mod, ih]
    congr 1
    have hp : 0 < 256 ^ l.length := Nat.pow_pos (by decide)
    rw [Nat.add_comm, Nat.add_mul_div_right _ _ hp, Nat.div_eq_of_lt (ofBe_lt l), Nat.zero_add]
    simp
theorem be_take (bs : List UInt8) (p k : Nat) (h : p + k <= bs.length) : be k (ofBe ((bs.drop p).take k)) = (bs.drop p).take k := by
  have hl : ((bs.drop p).take k).length = k := by rw [List.length_take, List.length_drop]; omega
  have := be_ofBe ((bs.drop p).take k)
  rw [hl] at this
  exact this
theorem jj (bs : List UInt8) (p k : Nat) : bs.drop p = (bs.drop p).take k ++ bs.drop (p + k) := by
  rw [<- List.drop_drop, List.take_append_drop]
theorem be8_i64 (n : Nat) (h : n < 18446744073709551616) : be8 (i64 n) = be 8 n := by
  have e : (i64 n % 18446744073709551616).toNat = n := by
    unfold i64 wrap64
    omega
  rw [be8, e]
structure Ag (bs : List UInt8) (s : Rs) (l : Ls) : Prop where
  ok : s.why = 0 ↔ l.short = false
  at_ : s.why = 0 -> s.at_ = l.at_
  le : s.why = 0 -> s.at_ <= bs.length
def Con (bs : List UInt8) (s s' : Rs) (e : List UInt8) : Prop := s'.why = 0 -> s.why = 0 /\ bs.drop s.at_ = e ++ bs.drop s'.at_ /\ (s.at_ <= bs.length -> s'.at_ <= bs.length)
theorem Con.trans {bs : List UInt8} {s s1 s2 : Rs} {e e1 : List UInt8} (h : Con bs s s1 e) (h1 : Con bs s1 s2 e1) : Con bs s s2 (e ++ e1) := fun hz => by
  obtain ⟨a, b, x⟩ := h1 hz
  obtain ⟨c, d, y⟩ := h a
  exact ⟨c, by rw [d, b, List.append_assoc], fun hh => x (y hh)⟩
section
variable {bs : List UInt8} {s : Rs} {l : Ls}
theorem nextL_short (n : Nat) (h : l.short = true) : (vu bs n l).2.short = true := by
  unfold vu
  split
  · rfl
  · exact h
theorem ag_bad {s' : Rs} {l' : Ls} (h1 : s'.why ≠ 0) (h2 : l'.short = true) : Ag bs s' l' := ⟨⟨fun h => absurd h h1, fun h => by rw [h2] at h; cases h⟩, fun h => absurd h h1, fun h => absurd h h1⟩
theorem ag_good {p : Nat} (h : p <= bs.length) : Ag bs ⟨p, 0⟩ ⟨p, false⟩ := ⟨⟨fun _ => rfl, fun _ => rfl⟩, fun _ => rfl, fun _ => h⟩
theorem Ag.cases (h : Ag bs s l) : (∃ p, s = ⟨p, 0⟩ /\ l = ⟨p, false⟩ /\ p <= bs.length) \/ (s.why ≠ 0 /\ l.short = true) := by
  by_cases hw : s.why = 0
  · refine .inl ⟨s.at_, ?_, ?_, h.le hw⟩
    · cases s; simp only at hw; subst hw; rfl
    · have h1 := h.ok.1 hw
      have h2 := h.at_ hw
      cases l
      simp only at h1 h2
      rw [h1, h2]
  · refine .inr ⟨hw, ?_⟩
    cases hs : l.short
    · exact absurd (h.ok.2 hs) hw
    · rfl
theorem low_ag (k : Nat) (h : Ag bs s l) : Ag bs (tkN bs k s).2 (lowL bs k l).2 /\ ((tkN bs k s).2.why = 0 -> (tkN bs k s).1 = (lowL bs k l).1) /\ Con bs s (tkN bs k s).2 (be k (tkN bs k s).1) := by
  rcases h.cases with ⟨p, rfl, rfl, hp⟩ | ⟨hw, hs⟩
  · by_cases hl : p + k <= bs.length
    · have e1 : tkN bs k ⟨p, 0⟩ = (ofBe ((bs.drop p).take k), ⟨p + k, 0⟩) := by simp [tkN, hl]
      have e2 : vu bs k ⟨p, false⟩ = ((bs.drop p).take k, ⟨p + k, false⟩) := by rw [vu, if_neg (by simp only; omega)]
      rw [lowL, e1, e2]
      refine ⟨ag_good hl, fun _ => rfl, fun _ => ⟨rfl, ?_, fun _ => hl⟩⟩
      simp only
      rw [be_take bs p k hl]
      exact jj bs p k
    · have e1 : tkN bs k ⟨p, 0⟩ = (0, ⟨p, 8⟩) := by simp [tkN]; omega
      have e2 : vu bs k ⟨p, false⟩ = ([], ⟨p, true⟩) := by rw [vu, if_pos (by simp only; omega)]
      rw [lowL, e1, e2]
      exact ⟨ag_bad (by simp) rfl, fun h => absurd h (by simp), fun h => absurd h (by simp)⟩
  · have e1 : tkN bs k s = (0, s) := by rw [tkN, if_pos hw]
    rw [lowL, e1]
    exact ⟨ag_bad hw (nextL_short k hs), fun h => absurd h hw, fun h => absurd h hw⟩
theorem numN_ag (h : Ag bs s l) : Ag bs (numN bs s).2 (numL bs 8 l).2 /\ ((numN bs s).2.why = 0 -> (numN bs s).1 = (numL bs 8 l).1) /\ Con bs s (numN bs s).2 (be8 (numN bs s).1) := by
  have := low_ag 8 h
  refine ⟨this.1, fun hz => by rw [numN, this.2.1 hz]; rfl, ?_⟩
  rw [numN, be8_i64 _ (by have := kE bs 8 s; omega)]
  exact this.2.2
theorem bytes_good (p n : Nat) (hn : ofBe ((bs.drop p).take 4) = n) (hb : bs.length <= 1048576) (hm : p + 4 + n <= bs.length) :
    jf bs 4194304 ⟨p, 0⟩ = ((bs.drop (p + 4)).take n, ⟨p + 4 + n, 0⟩) := by
  have h1 : ¬ bs.length < p + 4 := by omega
  have h2 : ¬ min (4194304 : Int) 2147483647 < (n : Int) := by omega
  have h3 : ¬ bs.length < p + 4 + n := by omega
  simp only [jf, hn, if_neg h1, if_neg h2, if_neg h3]
  simp
theorem bytes_fail (p n : Nat) (hn : ofBe ((bs.drop p).take 4) = n) (hm : bs.length < p + 4 + n) : (jf bs 4194304 ⟨p, 0⟩).2.why ≠ 0 := by
  simp only [jf, hn]
  generalize (4194304 : Int) = most
  split
  · assumption
  split
  · simp
  split
  · simp
  · simp
theorem text_len (p : Nat) (hl : p + 4 <= bs.length) : lowL bs 4 ⟨p, false⟩ = (ofBe ((bs.drop p).take 4), ⟨p + 4, false⟩) := by
  have e2 : vu bs 4 ⟨p, false⟩ = ((bs.drop p).take 4, ⟨p + 4, false⟩) := by rw [vu, if_neg (by simp only; omega)]
  rw [lowL, e2]
theorem text_good (p n : Nat) (hn : ofBe ((bs.drop p).take 4) = n) (hm : p + 4 + n <= bs.length) : kH bs ⟨p, false⟩ = (⟨((bs.drop (p + 4)).take n).toArray⟩, ⟨p + 4 + n, false⟩) := by
  have e5 : vu bs n ⟨p + 4, false⟩ = ((bs.drop (p + 4)).take n, ⟨p + 4 + n, false⟩) := by rw [vu, if_neg (by simp only; omega)]
  rw [kH, text_len p (by omega), hn, e5]
theorem text_fail (p n : Nat) (hn : ofBe ((bs.drop p).take 4) = n) (hm : bs.length < p + 4 + n) : (kH bs ⟨p, false⟩).2.short = true := by
  by_cases hl : p + 4 <= bs.length
  · have e5 : vu bs n ⟨p + 4, false⟩ = ([], ⟨p + 4, true⟩) := by rw [vu, if_pos (by simp only; omega)]
    rw [kH, text_len p (by omega), hn, e5]
  · have e5 : (lowL bs 4 ⟨p, false⟩).2.short = true := by rw [lowL, vu, if_pos (by simp only; omega)]
    rw [kH]
    exact nextL_short _ e5
theorem bytes_ag (hb : bs.length <= 1048576) (h : Ag bs s l) : Ag bs (jf bs 4194304 s).2 (kH bs l).2 /\ ((jf bs 4194304 s).2.why = 0 -> (jf bs 4194304 s).1 = sb (kH bs l).1) /\ Con bs s (jf bs 4194304 s).2 (lp 4 (jf bs 4194304 s).1) := by
  rcases h.cases with ⟨p, rfl, rfl, hp⟩ | ⟨hw, hs⟩
  · by_cases hm : p + 4 + ofBe ((bs.drop p).take 4) <= bs.length
    · have e1 := bytes_good p _ rfl hb hm
      have e4 := text_good p _ rfl hm
      have hq := be_take bs p 4 (by omega)
      generalize ofBe ((bs.drop p).take 4) = n at *
      rw [e1, e4]
      refine ⟨ag_good hm, fun _ => rfl, fun _ => ⟨rfl, ?_, fun _ => hm⟩⟩
      have hln : ((bs.drop (p + 4)).take n).length = n := by rw [List.length_take, List.length_drop]; omega
      simp only [lp, hln]
      rw [hq, List.append_assoc, <- jj bs (p + 4) n]
      exact jj bs p 4
    · have e1 := bytes_fail p _ rfl (Nat.lt_of_not_le hm)
      have e4 := text_fail p _ rfl (Nat.lt_of_not_le hm)
      exact ⟨ag_bad e1 e4, fun h => absurd h e1, fun h => absurd h e1⟩
  · have e1 : (jf bs 4194304 s).2.why ≠ 0 := by
      rw [jf, if_pos hw]
      exact hw
    have e2 : (lowL bs 4 l).2.short = true := nextL_short _ hs
    have e4 : (kH bs l).2.short = true := by rw [kH]; exact nextL_short _ e2
    exact ⟨ag_bad e1 e4, fun h => absurd h e1, fun h => absurd h e1⟩
theorem word_ag (hb : bs.length <= 1048576) (h : Ag bs s l) : Ag bs (jI bs s).2 (kH bs l).2 /\ ((jI bs s).2.why = 0 -> (jI bs s).1 = (kH bs l).1) /\ Con bs s (jI bs s).2 (lp 4 (sb (jI bs s).1)) := by
  have h1 := bytes_ag hb h
  refine ⟨h1.1, fun hz => sb_inj (h1.2.1 hz), h1.2.2⟩
end
def sh {α : Type} (p : Nat) (x : α × Rs) : α × Rs := (x.1, ⟨p + x.2.at_, x.2.why⟩)
section
variable (bs : List UInt8) (p : Nat)
theorem tkN_sh (hp : p <= bs.length) (k a : Nat) (y : Int) : tkN bs k ⟨p + a, y⟩ = sh p (tkN (bs.drop p) k ⟨a, y⟩) := by
  unfold tkN sh
  simp only [List.length_drop, List.drop_drop]
  by_cases h1 : y ≠ 0
  · rw [if_pos h1, if_pos h1]
  · rw [if_neg h1, if_neg h1]
    by_cases h2 : p + a + k <= bs.length
    · rw [if_pos h2, if_pos (by omega)]
      simp [Nat.add_assoc]
    · rw [if_neg h2, if_neg (by omega)]
theorem flagN_sh (hp : p <= bs.length) (a : Nat) (y : Int) : kO bs ⟨p + a, y⟩ = sh p (kO (bs.drop p) ⟨a, y⟩) := by
  unfold kO sh
  simp only [List.length_drop, List.drop_drop]
  by_cases h1 : y ≠ 0
  · rw [if_pos h1, if_pos h1]
  · rw [if_neg h1, if_neg h1]
    by_cases h2 : bs.length < p + a + 1 \/ 1 < ofBe ((bs.drop (p + a)).take 1)
    · rw [if_pos h2, if_pos (by omega)]
    · rw [if_neg h2, if_neg (by omega)]
      simp [Nat.add_assoc]
theorem textAt_sh (hp : p <= bs.length) (m : Int) (a : Nat) : jd bs m (p + a) = ((jd (bs.drop p) m a).1, p + (jd (bs.drop p) m a).2.1, (jd (bs.drop p) m a).2.2) := by
  unfold jd
  simp only [List.length_drop, List.drop_drop]
  generalize ofBe ((bs.drop (p + a)).take 2) = n
  by_cases h1 : bs.length < p + a + 2
  · have h1' : bs.length - p < a + 2 := by omega
    simp only [if_pos h1, if_pos h1']
  · have h1' : ¬ bs.length - p < a + 2 := by omega
    simp only [if_neg h1, if_neg h1']
    by_cases h2 : min m 65535 < (n : Int)
    · simp only [if_pos h2, Nat.add_assoc]
    · simp only [if_neg h2]
      by_cases h3 : bs.length < p + a + 2 + n
      · have h3' : bs.length - p < a + 2 + n := by omega
        simp only [if_pos h3, if_pos h3']
        simp only [Nat.add_assoc]
      · have h3' : ¬ bs.length - p < a + 2 + n := by omega
        simp only [if_neg h3, if_neg h3']
        simp only [Nat.add_assoc]
theorem textN_sh (hp : p <= bs.length) (m : Int) (a : Nat) (y : Int) : va bs m ⟨p + a, y⟩ = sh p (va (bs.drop p) m ⟨a, y⟩) := by
  unfold va sh
  simp only [textAt_sh bs p hp]
  by_cases h1 : y ≠ 0
  · rw [if_pos h1, if_pos h1]
  · rw [if_neg h1, if_neg h1]
    split <;> rfl
theorem textsGo_sh (hp : p <= bs.length) (each : Int) : ∀ (k a : Nat) (acc : List ByteArray),
    (jY bs each k (p + a) acc).1 = (jY (bs.drop p) each k a acc).1 /\ ((jY (bs.drop p) each k a acc).1 = 0 -> (jY bs each k (p + a) acc).2 = ((jY (bs.drop p) each k a acc).2.1, p + (jY (bs.drop p) each k a acc).2.2)) := by
  intro k
  induction k with
  | zero => intro a acc; exact ⟨rfl, fun _ => rfl⟩
  | succ k ih =>
    intro a acc
    have hE : textsE acc (jd bs each (p + a)) = textsE acc (jd (bs.drop p) each a) := by rw [textAt_sh bs p hp]; rfl
    simp only [jY, hE]
    by_cases h : textsE acc (jd (bs.drop p) each a) ≠ 0
    · rw [if_pos h, if_pos h]
      exact ⟨rfl, fun hz => absurd hz h⟩
    · rw [if_neg h, if_neg h, textAt_sh bs p hp]
      exact ih _ _
theorem textsN_sh (hp : p <= bs.length) (most each : Int) (a : Nat) (y : Int) : kY bs most each ⟨p + a, y⟩ = sh p (kY (bs.drop p) most each ⟨a, y⟩) := by
  unfold kY sh
  simp only [List.length_drop, List.drop_drop]
  by_cases h1 : y ≠ 0
  · simp only [if_pos h1]
  · simp only [if_neg h1]
    by_cases h2 : bs.length < p + a + 2
    · have h2' : bs.length - p < a + 2 := by omega
      simp only [if_pos h2, if_pos h2']
    · have h2' : ¬ bs.length - p < a + 2 := by omega
      simp only [if_neg h2, if_neg h2']
      generalize ofBe ((bs.drop (p + a)).take 2) = n
      by_cases h3 : min most 65535 < (n : Int)
      · simp only [if_pos h3]
      · simp only [if_neg h3]
        have hg := textsGo_sh bs p hp each n (a + 2) []
        rw [<- Nat.add_assoc] at hg
        rw [hg.1]
        by_cases h4 : (jY (bs.drop p) each n (a + 2) []).1 ≠ 0
        · simp only [if_pos h4]
        · simp only [if_neg h4]
          have := hg.2 (by simpa using h4)
          rw [this]
theorem kindV_sh (hp : p <= bs.length) (k a : Nat) (y : Int) : kX bs k ⟨p + a, y⟩ = sh p (kX (bs.drop p) k ⟨a, y⟩) := by
  unfold kX
  rw [tkN_sh bs p hp, flagN_sh bs p hp, textN_sh bs p hp, textsN_sh bs p hp]
  split
  · rfl
  split
  · rfl
  split
  · rfl
  split <;> rfl
theorem lookV_sh (x : Val × Rs) : kN (sh p x) = sh p (kN x) := by
  unfold kN sh
  simp only
  split
  · rfl
  split <;> rfl
theorem takeVal_sh (hp : p <= bs.length) (a : Nat) (y : Int) : jN bs ⟨p + a, y⟩ = sh p (jN (bs.drop p) ⟨a, y⟩) := by
  unfold jN
  rw [tkN_sh bs p hp]
  have : (sh p (tkN (bs.drop p) 1 ⟨a, y⟩)).2 = ⟨p + (tkN (bs.drop p) 1 ⟨a, y⟩).2.at_, (tkN (bs.drop p) 1 ⟨a, y⟩).2.why⟩ := rfl
  rw [this, kindV_sh bs p hp, lookV_sh]
  rfl
end
section
variable {bs : List UInt8} {s : Rs} {l : Ls}
theorem ka {s s' : Rs} {e : List UInt8} (h : s'.why ≠ 0) : Con bs s s' e := fun hz => absurd hz h
theorem kU (k : Nat) (s : Rs) : Con bs s (tkN bs k s).2 (be k (tkN bs k s).1) := by
  unfold tkN
  by_cases h1 : s.why ≠ 0
  · rw [if_pos h1]; exact ka h1
  · rw [if_neg h1]
    by_cases h2 : s.at_ + k <= bs.length
    · rw [if_pos h2]
      refine fun _ => ⟨by simpa using h1, ?_, fun _ => h2⟩
      simp only
      rw [be_take bs s.at_ k h2]
      exact jj bs s.at_ k
    · rw [if_neg h2]; exact ka (by simp)
theorem flagN_con (s : Rs) : Con bs s (kO bs s).2 [if (kO bs s).1 = true then 1 else 0] := by
  unfold kO
  by_cases h1 : s.why ≠ 0
  · rw [if_pos h1]; exact ka h1
  · rw [if_neg h1]
    by_cases h2 : bs.length < s.at_ + 1 \/ 1 < ofBe ((bs.drop s.at_).take 1)
    · rw [if_pos h2]; exact ka (by simp)
    · rw [if_neg h2]
      have h3 : s.at_ + 1 <= bs.length := by omega
      refine fun _ => ⟨by simpa using h1, ?_, fun _ => h3⟩
      have hq := be_take bs s.at_ 1 h3
      have hn : ofBe ((bs.drop s.at_).take 1) <= 1 := by omega
      have he := jj bs s.at_ 1
      simp only
      generalize ofBe ((bs.drop s.at_).take 1) = n at *
      rw [<- hq] at he
      have hc : n = 0 \/ n = 1 := by omega
      rcases hc with rfl | rfl
      · simpa [be] using he
      · simpa [be] using he
theorem textAt_con (m : Int) (p : Nat) (h : (jd bs m p).2.2 = 0) : bs.drop p = lp 2 (jd bs m p).1 ++ bs.drop (jd bs m p).2.1 /\ (jd bs m p).2.1 <= bs.length := by
  revert h
  unfold jd
  by_cases h1 : bs.length < p + 2
  · rw [if_pos h1]; intro h; cases h
  · rw [if_neg h1]
    have hq := be_take bs p 2 (by omega)
    have he := jj bs p 2
    generalize ofBe ((bs.drop p).take 2) = n at *
    by_cases h2 : min m 65535 < (n : Int)
    · rw [if_pos h2]; intro h; cases h
    · rw [if_neg h2]
      by_cases h3 : bs.length < p + 2 + n
      · rw [if_pos h3]; intro h; cases h
      · rw [if_neg h3]
        intro _
        have hln : ((bs.drop (p + 2)).take n).length = n := by rw [List.length_take, List.length_drop]; omega
        refine ⟨?_, by simp only; omega⟩
        simp only [lp, hln]
        rw [hq, List.append_assoc, <- jj bs (p + 2) n]
        exact he
theorem textN_con (m : Int) (s : Rs) : Con bs s (va bs m s).2 (lp 2 (va bs m s).1) := by
  unfold va
  by_cases h1 : s.why ≠ 0
  · rw [if_pos h1]; exact ka h1
  · rw [if_neg h1]
    by_cases h2 : (jd bs m s.at_).2.2 ≠ 0
    · rw [if_pos h2]; exact ka h2
    · rw [if_neg h2]
      have := textAt_con m s.at_ (by simpa using h2)
      exact fun _ => ⟨by simpa using h1, this.1, fun _ => this.2⟩
theorem textsGo_con (each : Int) : ∀ (k p : Nat) (acc : List ByteArray), (jY bs each k p acc).1 = 0 ->
    ∃ new, new.length = k /\ (jY bs each k p acc).2.1 = acc ++ new /\ bs.drop p = lps new ++ bs.drop (jY bs each k p acc).2.2 /\ (p <= bs.length -> (jY bs each k p acc).2.2 <= bs.length) := by
  intro k
  induction k with
  | zero => intro p acc _; exact ⟨[], rfl, by simp [jY], by simp [jY, lps], fun h => h⟩
  | succ k ih =>
    intro p acc
    simp only [jY]
    by_cases h : textsE acc (jd bs each p) ≠ 0
    · rw [if_pos h]; intro hz; exact absurd hz h
    · rw [if_neg h]
      intro hz
      obtain ⟨new, hn, he, hd, hl⟩ := ih _ _ hz
      have h0 : (jd bs each p).2.2 = 0 := by
        have h' : textsE acc (jd bs each p) = 0 := by simpa using h
        unfold textsE at h'
        split at h'
        · cases h'
        · exact h'
      have ht := textAt_con each p h0
      refine ⟨⟨(jd bs each p).1.toArray⟩ :: new, by simp [hn], by rw [he]; simp, ?_, fun _ => hl ht.2⟩
      rw [ht.1, hd]
      simp [lps, sb_mk]
theorem textsN_con (most each : Int) (s : Rs) : Con bs s (kY bs most each s).2 (vY (kY bs most each s).1) := by
  unfold kY
  by_cases h1 : s.why ≠ 0
  · rw [if_pos h1]; exact ka h1
  · rw [if_neg h1]
    by_cases h2 : bs.length < s.at_ + 2
    · rw [if_pos h2]; exact ka (by simp)
    · rw [if_neg h2]
      have hq := be_take bs s.at_ 2 (by omega)
      have he := jj bs s.at_ 2
      generalize ofBe ((bs.drop s.at_).take 2) = n at *
      by_cases h3 : min most 65535 < (n : Int)
      · rw [if_pos h3]; exact ka (by simp)
      · rw [if_neg h3]
        by_cases h4 : (jY bs each n (s.at_ + 2) []).1 ≠ 0
        · rw [if_pos h4]; exact ka h4
        · rw [if_neg h4]
          obtain ⟨new, hn, hl, hd, hle⟩ := textsGo_con (bs := bs) each n (s.at_ + 2) [] (by simpa using h4)
          refine fun _ => ⟨by simpa using h1, ?_, fun _ => hle (by omega)⟩
          simp only
          rw [hl, List.nil_append, vY, hn, hq, List.append_assoc, <- hd]
          exact he
theorem be1_small (k : Nat) : be 1 ((k : Int)).toNat = be 1 k := by simp
theorem yJ (s : Rs) : Con bs s (jN bs s).2 (valB (jN bs s).1) /\ ((jN bs s).2.why = 0 -> jP (jN bs s).1 = 0) := by
  have hk := kU (bs := bs) 1 s
  have hlt := kE bs 1 s
  rw [jN]
  generalize tkN bs 1 s = K at hk hlt
  obtain ⟨k, s1⟩ := K
  simp only at hk hlt ⊢
  have key : jP (kX bs k s1).1 = 0 -> Con bs s (kX bs k s1).2 (valB (kX bs k s1).1) := by
    unfold kX
    by_cases h1 : k = 1 \/ k = 4
    · rw [if_pos h1]
      intro _
      have e : valB ⟨(k : Int), i64 (tkN bs 8 s1).1, ByteArray.empty, []⟩ = be 1 k ++ be 8 (tkN bs 8 s1).1 := by
        rw [valB]
        simp only
        rw [if_pos (by omega), be1_small k]
        have := be8_i64 (tkN bs 8 s1).1 (by have := kE bs 8 s1; omega)
        rw [be8] at this
        rw [this]
      simp only
      rw [e]
      exact hk.trans (kU 8 s1)
    · rw [if_neg h1]
      by_cases h2 : k = 2
      · subst h2
        rw [if_pos rfl]
        intro _
        have e : valB ⟨2, if (kO bs s1).1 = true then 1 else 0, ByteArray.empty, []⟩ = be 1 2 ++ [if (kO bs s1).1 = true then 1 else 0] := by
          cases (kO bs s1).1 <;> simp [valB]
        simp only
        rw [e]
        exact hk.trans (flagN_con s1)
      · rw [if_neg h2]
        by_cases h3 : k = 3
        · subst h3
          rw [if_pos rfl]
          intro _
          have e : valB ⟨3, 0, ⟨(va bs 1024 s1).1.toArray⟩, []⟩ = be 1 3 ++ lp 2 (va bs 1024 s1).1 := by
            rw [valB]
            simp [sb_mk]
          simp only
          rw [e]
          exact hk.trans (textN_con 1024 s1)
        · rw [if_neg h3]
          by_cases h5 : k = 5
          · subst h5
            rw [if_pos rfl]
            intro _
            have e : valB ⟨5, 0, ByteArray.empty, (kY bs 64 1024 s1).1⟩ = be 1 5 ++ vY (kY bs 64 1024 s1).1 := by
              rw [valB]
              simp
            simp only
            rw [e]
            exact hk.trans (textsN_con 64 1024 s1)
          · rw [if_neg h5]
            intro hr
            have h0 : k = 0 := by
              by_cases h0 : k = 0
              · exact h0
              · exfalso
                have hf : kD ⟨(k : Int), 0, ByteArray.empty, []⟩ = false := by
                  simp only [kD]
                  rw [if_neg (by omega), if_neg (by omega), if_neg (by omega), if_neg (by omega)]
                  simp
                simp only [jP] at hr
                rw [if_pos hf] at hr
                cases hr
            subst h0
            have e : valB ⟨((0 : Nat) : Int), 0, ByteArray.empty, []⟩ = be 1 0 := by
              rw [valB]
              simp
            simp only
            rw [e]
            exact hk
  unfold kN
  by_cases h1 : (kX bs k s1).2.why ≠ 0
  · rw [if_pos h1]; exact ⟨ka h1, fun hz => absurd hz h1⟩
  · rw [if_neg h1]
    by_cases h2 : jP (kX bs k s1).1 ≠ 0
    · rw [if_pos h2]; exact ⟨ka (by simp), fun hz => by simp at hz⟩
    · rw [if_neg h2]
      have h2' : jP (kX bs k s1).1 = 0 := by simpa using h2
      exact ⟨key h2', fun _ => h2'⟩
theorem takeVal_bad (s : Rs) (h : s.why ≠ 0) : (jN bs s).2.why ≠ 0 := fun hz => h ((yJ s).1 hz).1
theorem value_ag (h : Ag bs s l) : Ag bs (jN bs s).2 (valueL bs l).2 /\ ((jN bs s).2.why = 0 -> (jN bs s).1 = (valueL bs l).1) := by
  rcases h.cases with ⟨p, rfl, rfl, hp⟩ | ⟨hw, hs⟩
  · have hsh := takeVal_sh bs p hp 0 0
    rw [Nat.add_zero] at hsh
    have hc := (yJ (bs := bs.drop p) ⟨0, 0⟩).1
    rw [hsh, valueL]
    simp only
    generalize jN (bs.drop p) ⟨0, 0⟩ = V at *
    obtain ⟨v, q, y⟩ := V
    by_cases hy : y = 0
    · subst hy
      have hq := (hc rfl).2.2 (Nat.zero_le _)
      simp only [List.length_drop] at hq
      simp only [ne_eq, not_true_eq_false, if_false, sh]
      have e : vu bs q ⟨p, false⟩ = ((bs.drop p).take q, ⟨p + q, false⟩) := by rw [vu, if_neg (by simp only; omega)]
      rw [e]
      exact ⟨ag_good (by omega), fun _ => by trivial⟩
    · simp only [sh]
      rw [if_pos hy]
      exact ⟨ag_bad hy rfl, fun h => absurd h hy⟩
  · refine ⟨ag_bad (takeVal_bad s hw) ?_, fun h => absurd h (takeVal_bad s hw)⟩
    rw [valueL]
    split
    · rfl
    · exact nextL_short _ hs
theorem valsGo_bad (n : Nat) : ∀ (s : Rs) (acc : List Val), s.why ≠ 0 -> (kb bs n s acc).2.why ≠ 0 := by
  induction n with
  | zero => intro s acc h; exact h
  | succ n ih => intro s acc h; exact ih _ _ (takeVal_bad s h)
theorem valsL_short (n : Nat) : ∀ (l : Ls) (acc : List Val), l.short = true -> (valsL bs n l acc).2.short = true := by
  cases n with
  | zero => intro l acc h; exact h
  | succ n => intro l acc h; rw [valsL, if_pos h]; exact h
theorem vals_ag (n : Nat) : ∀ (s : Rs) (l : Ls) (acc : List Val), Ag bs s l -> Ag bs (kb bs n s acc).2 (valsL bs n l acc).2 /\ ((kb bs n s acc).2.why = 0 -> (kb bs n s acc).1 = (valsL bs n l acc).1) := by
  induction n with
  | zero => intro s l acc h; exact ⟨h, fun _ => rfl⟩
  | succ n ih =>
    intro s l acc h
    by_cases hw : s.why = 0
    · have h1 := value_ag h
      have hs := h.ok.1 hw
      rw [kb, valsL, if_neg (by rw [hs]; decide)]
      by_cases hv : (jN bs s).2.why = 0
      · rw [h1.2 hv]
        exact ih _ _ _ h1.1
      · have b1 := valsGo_bad (bs := bs) n _ (acc ++ [(jN bs s).1]) hv
        refine ⟨ag_bad b1 (valsL_short n _ _ ?_), fun h => absurd h b1⟩
        cases hsh : (valueL bs l).2.short
        · exact absurd (h1.1.ok.2 hsh) hv
        · rfl
    · have hs : l.short = true := by
        cases hs : l.short
        · exact absurd (h.ok.2 hs) hw
        · rfl
      have b1 := valsGo_bad (bs := bs) (n + 1) s acc hw
      exact ⟨ag_bad b1 (valsL_short _ _ _ hs), fun h => absurd h b1⟩
theorem vals_con (n : Nat) : ∀ (s : Rs) (acc : List Val), ∃ new, (kb bs n s acc).1 = acc ++ new /\ new.length = n /\ Con bs s (kb bs n s acc).2 (vM new) /\ ((kb bs n s acc).2.why = 0 -> (new.all fun v => jP v == 0) = true) := by
  induction n with
  | zero => intro s acc; exact ⟨[], by simp [kb], rfl, fun hz => ⟨hz, by simp [vM, kb], fun h => h⟩, fun _ => rfl⟩
  | succ n ih =>
    intro s acc
    obtain ⟨new, h1, h2, h3, h4⟩ := ih (jN bs s).2 (acc ++ [(jN bs s).1])
    have hv := yJ (bs := bs) s
    refine ⟨(jN bs s).1 :: new, by rw [kb, h1]; simp, by simp [h2], ?_, fun hz => ?_⟩
    · rw [kb]
      have := hv.1.trans h3
      simpa [vM] using this
    · rw [kb] at hz
      have hz1 : (jN bs s).2.why = 0 := (h3 hz).1
      simp only [List.all_cons, h4 hz, hv.2 hz1, Bool.and_true]
      rfl
end
end Go.Proofs.YtnaolhjbapgjgaaGreat
