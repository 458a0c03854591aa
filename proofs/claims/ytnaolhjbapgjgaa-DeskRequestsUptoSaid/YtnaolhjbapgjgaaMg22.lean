import Derived.Test.YtnaolhjbapgjgaaMg20
/- A value, values, an operation and a request read: the document's reading and the desk's agree; what is read is laid down again. No program in sight. -/
namespace Go.Proofs.Ytnaolhjbapgjgaa
open Go.RowKit

section
variable {bs : List UInt8} {s : Rs} {l : Ls}
theorem con_bad {s s' : Rs} {e : List UInt8} (h : s'.why ≠ 0) : Con bs s s' e := fun hz => absurd hz h
theorem tkN_con (k : Nat) (s : Rs) : Con bs s (tkN bs k s).2 (be k (tkN bs k s).1) := by
  unfold tkN
  by_cases h1 : s.why ≠ 0
  · rw [if_pos h1]; exact con_bad h1
  · rw [if_neg h1]
    by_cases h2 : s.at_ + k ≤ bs.length
    · rw [if_pos h2]
      refine fun _ => ⟨by simpa using h1, ?_, fun _ => h2⟩
      simp only
      rw [be_take bs s.at_ k h2]
      exact take_drop_next bs s.at_ k
    · rw [if_neg h2]; exact con_bad (by simp)
theorem flagN_con (s : Rs) : Con bs s (flagN bs s).2 [if (flagN bs s).1 = true then 1 else 0] := by
  unfold flagN
  by_cases h1 : s.why ≠ 0
  · rw [if_pos h1]; exact con_bad h1
  · rw [if_neg h1]
    by_cases h2 : bs.length < s.at_ + 1 ∨ 1 < ofBe ((bs.drop s.at_).take 1)
    · rw [if_pos h2]; exact con_bad (by simp)
    · rw [if_neg h2]
      have h3 : s.at_ + 1 ≤ bs.length := by omega
      refine fun _ => ⟨by simpa using h1, ?_, fun _ => h3⟩
      have hq := be_take bs s.at_ 1 h3
      have hn : ofBe ((bs.drop s.at_).take 1) ≤ 1 := by omega
      have he := take_drop_next bs s.at_ 1
      simp only
      generalize ofBe ((bs.drop s.at_).take 1) = n at *
      rw [← hq] at he
      have hc : n = 0 ∨ n = 1 := by omega
      rcases hc with rfl | rfl
      · simpa [be] using he
      · simpa [be] using he
theorem textAt_con (m : Int) (p : Nat) (h : (textAt bs m p).2.2 = 0) : bs.drop p = lp 2 (textAt bs m p).1 ++ bs.drop (textAt bs m p).2.1 ∧ (textAt bs m p).2.1 ≤ bs.length := by
  revert h
  unfold textAt
  by_cases h1 : bs.length < p + 2
  · rw [if_pos h1]; intro h; cases h
  · rw [if_neg h1]
    have hq := be_take bs p 2 (by omega)
    have he := take_drop_next bs p 2
    generalize ofBe ((bs.drop p).take 2) = n at *
    by_cases h2 : min m 65535 < (n : Int)
    · rw [if_pos h2]; intro h; cases h
    · rw [if_neg h2]
      by_cases h3 : bs.length < p + 2 + n
      · rw [if_pos h3]; intro h; cases h
      · rw [if_neg h3]
        intro _
        have hln : ((bs.drop (p + 2)).take n).length = n := by rw [List.length_take, List.length_drop]; omega
        refine ⟨?_, by simp only; omega⟩
        simp only [lp, hln]
        rw [hq, List.append_assoc, ← take_drop_next bs (p + 2) n]
        exact he
theorem textN_con (m : Int) (s : Rs) : Con bs s (textN bs m s).2 (lp 2 (textN bs m s).1) := by
  unfold textN
  by_cases h1 : s.why ≠ 0
  · rw [if_pos h1]; exact con_bad h1
  · rw [if_neg h1]
    by_cases h2 : (textAt bs m s.at_).2.2 ≠ 0
    · rw [if_pos h2]; exact con_bad h2
    · rw [if_neg h2]
      have := textAt_con m s.at_ (by simpa using h2)
      exact fun _ => ⟨by simpa using h1, this.1, fun _ => this.2⟩
theorem textsGo_con (each : Int) : ∀ (k p : Nat) (acc : List ByteArray), (textsGo bs each k p acc).1 = 0 →
    ∃ new, new.length = k ∧ (textsGo bs each k p acc).2.1 = acc ++ new ∧ bs.drop p = lps new ++ bs.drop (textsGo bs each k p acc).2.2 ∧ (p ≤ bs.length → (textsGo bs each k p acc).2.2 ≤ bs.length) := by
  intro k
  induction k with
  | zero => intro p acc _; exact ⟨[], rfl, by simp [textsGo], by simp [textsGo, lps], fun h => h⟩
  | succ k ih =>
    intro p acc
    simp only [textsGo]
    by_cases h : textsE acc (textAt bs each p) ≠ 0
    · rw [if_pos h]; intro hz; exact absurd hz h
    · rw [if_neg h]
      intro hz
      obtain ⟨new, hn, he, hd, hl⟩ := ih _ _ hz
      have h0 : (textAt bs each p).2.2 = 0 := by
        have h' : textsE acc (textAt bs each p) = 0 := by simpa using h
        unfold textsE at h'
        split at h'
        · cases h'
        · exact h'
      have ht := textAt_con each p h0
      refine ⟨⟨(textAt bs each p).1.toArray⟩ :: new, by simp [hn], by rw [he]; simp, ?_, fun _ => hl ht.2⟩
      rw [ht.1, hd]
      simp [lps, sb_mk]
theorem textsN_con (most each : Int) (s : Rs) : Con bs s (textsN bs most each s).2 (textsB (textsN bs most each s).1) := by
  unfold textsN
  by_cases h1 : s.why ≠ 0
  · rw [if_pos h1]; exact con_bad h1
  · rw [if_neg h1]
    by_cases h2 : bs.length < s.at_ + 2
    · rw [if_pos h2]; exact con_bad (by simp)
    · rw [if_neg h2]
      have hq := be_take bs s.at_ 2 (by omega)
      have he := take_drop_next bs s.at_ 2
      generalize ofBe ((bs.drop s.at_).take 2) = n at *
      by_cases h3 : min most 65535 < (n : Int)
      · rw [if_pos h3]; exact con_bad (by simp)
      · rw [if_neg h3]
        by_cases h4 : (textsGo bs each n (s.at_ + 2) []).1 ≠ 0
        · rw [if_pos h4]; exact con_bad h4
        · rw [if_neg h4]
          obtain ⟨new, hn, hl, hd, hle⟩ := textsGo_con (bs := bs) each n (s.at_ + 2) [] (by simpa using h4)
          refine fun _ => ⟨by simpa using h1, ?_, fun _ => hle (by omega)⟩
          simp only
          rw [hl, List.nil_append, textsB, hn, hq, List.append_assoc, ← hd]
          exact he
theorem be1_small (k : Nat) : be 1 ((k : Int)).toNat = be 1 k := by simp
/-- a value that was taken is right, and its bytes are what was taken -/
theorem takeVal_con (s : Rs) : Con bs s (takeVal bs s).2 (valB (takeVal bs s).1) ∧ ((takeVal bs s).2.why = 0 → rightE (takeVal bs s).1 = 0) := by
  have hk := tkN_con (bs := bs) 1 s
  have hlt := tkN_lt bs 1 s
  rw [takeVal]
  generalize tkN bs 1 s = K at hk hlt
  obtain ⟨k, s1⟩ := K
  simp only at hk hlt ⊢
  have key : rightE (kindV bs k s1).1 = 0 → Con bs s (kindV bs k s1).2 (valB (kindV bs k s1).1) := by
    unfold kindV
    by_cases h1 : k = 1 ∨ k = 4
    · rw [if_pos h1]
      intro _
      have e : valB ⟨(k : Int), i64 (tkN bs 8 s1).1, ByteArray.empty, []⟩ = be 1 k ++ be 8 (tkN bs 8 s1).1 := by
        rw [valB]
        simp only
        rw [if_pos (by omega), be1_small k]
        have := be8_i64 (tkN bs 8 s1).1 (by have := tkN_lt bs 8 s1; omega)
        rw [be8] at this
        rw [this]
      simp only
      rw [e]
      exact hk.trans (tkN_con 8 s1)
    · rw [if_neg h1]
      by_cases h2 : k = 2
      · subst h2
        rw [if_pos rfl]
        intro _
        have e : valB ⟨2, if (flagN bs s1).1 = true then 1 else 0, ByteArray.empty, []⟩ = be 1 2 ++ [if (flagN bs s1).1 = true then 1 else 0] := by
          cases (flagN bs s1).1 <;> simp [valB]
        simp only
        rw [e]
        exact hk.trans (flagN_con s1)
      · rw [if_neg h2]
        by_cases h3 : k = 3
        · subst h3
          rw [if_pos rfl]
          intro _
          have e : valB ⟨3, 0, ⟨(textN bs 1024 s1).1.toArray⟩, []⟩ = be 1 3 ++ lp 2 (textN bs 1024 s1).1 := by
            rw [valB]
            simp [sb_mk]
          simp only
          rw [e]
          exact hk.trans (textN_con 1024 s1)
        · rw [if_neg h3]
          by_cases h5 : k = 5
          · subst h5
            rw [if_pos rfl]
            intro _
            have e : valB ⟨5, 0, ByteArray.empty, (textsN bs 64 1024 s1).1⟩ = be 1 5 ++ textsB (textsN bs 64 1024 s1).1 := by
              rw [valB]
              simp
            simp only
            rw [e]
            exact hk.trans (textsN_con 64 1024 s1)
          · rw [if_neg h5]
            intro hr
            have h0 : k = 0 := by
              by_cases h0 : k = 0
              · exact h0
              · exfalso
                have hf : formedB ⟨(k : Int), 0, ByteArray.empty, []⟩ = false := by
                  simp only [formedB]
                  rw [if_neg (by omega), if_neg (by omega), if_neg (by omega), if_neg (by omega)]
                  simp
                simp only [rightE] at hr
                rw [if_pos hf] at hr
                cases hr
            subst h0
            have e : valB ⟨((0 : Nat) : Int), 0, ByteArray.empty, []⟩ = be 1 0 := by
              rw [valB]
              simp
            simp only
            rw [e]
            exact hk
  unfold lookV
  by_cases h1 : (kindV bs k s1).2.why ≠ 0
  · rw [if_pos h1]; exact ⟨con_bad h1, fun hz => absurd hz h1⟩
  · rw [if_neg h1]
    by_cases h2 : rightE (kindV bs k s1).1 ≠ 0
    · rw [if_pos h2]; exact ⟨con_bad (by simp), fun hz => by simp at hz⟩
    · rw [if_neg h2]
      have h2' : rightE (kindV bs k s1).1 = 0 := by simpa using h2
      exact ⟨key h2', fun _ => h2'⟩
theorem takeVal_bad (s : Rs) (h : s.why ≠ 0) : (takeVal bs s).2.why ≠ 0 := fun hz => h ((takeVal_con s).1 hz).1
theorem value_ag (h : Ag bs s l) : Ag bs (takeVal bs s).2 (valueL bs l).2 ∧ ((takeVal bs s).2.why = 0 → (takeVal bs s).1 = (valueL bs l).1) := by
  rcases h.cases with ⟨p, rfl, rfl, hp⟩ | ⟨hw, hs⟩
  · have hsh := takeVal_sh bs p hp 0 0
    rw [Nat.add_zero] at hsh
    have hc := (takeVal_con (bs := bs.drop p) ⟨0, 0⟩).1
    rw [hsh, valueL]
    simp only
    generalize takeVal (bs.drop p) ⟨0, 0⟩ = V at *
    obtain ⟨v, q, y⟩ := V
    by_cases hy : y = 0
    · subst hy
      have hq := (hc rfl).2.2 (Nat.zero_le _)
      simp only [List.length_drop] at hq
      simp only [ne_eq, not_true_eq_false, if_false, sh]
      have e : nextL bs q ⟨p, false⟩ = ((bs.drop p).take q, ⟨p + q, false⟩) := by rw [nextL, if_neg (by simp only; omega)]
      rw [e]
      exact ⟨ag_good (by omega), fun _ => by trivial⟩
    · simp only [sh]
      rw [if_pos hy]
      exact ⟨ag_bad hy rfl, fun h => absurd h hy⟩
  · refine ⟨ag_bad (takeVal_bad s hw) ?_, fun h => absurd h (takeVal_bad s hw)⟩
    rw [valueL]
    split
    · rfl
    · exact nextL_short _ hs
theorem valsGo_bad (n : Nat) : ∀ (s : Rs) (acc : List Val), s.why ≠ 0 → (valsGo bs n s acc).2.why ≠ 0 := by
  induction n with
  | zero => intro s acc h; exact h
  | succ n ih => intro s acc h; exact ih _ _ (takeVal_bad s h)
theorem valsL_short (n : Nat) : ∀ (l : Ls) (acc : List Val), l.short = true → (valsL bs n l acc).2.short = true := by
  cases n with
  | zero => intro l acc h; exact h
  | succ n => intro l acc h; rw [valsL, if_pos h]; exact h
theorem vals_ag (n : Nat) : ∀ (s : Rs) (l : Ls) (acc : List Val), Ag bs s l → Ag bs (valsGo bs n s acc).2 (valsL bs n l acc).2 ∧ ((valsGo bs n s acc).2.why = 0 → (valsGo bs n s acc).1 = (valsL bs n l acc).1) := by
  induction n with
  | zero => intro s l acc h; exact ⟨h, fun _ => rfl⟩
  | succ n ih =>
    intro s l acc h
    by_cases hw : s.why = 0
    · have h1 := value_ag h
      have hs := h.ok.1 hw
      rw [valsGo, valsL, if_neg (by rw [hs]; decide)]
      by_cases hv : (takeVal bs s).2.why = 0
      · rw [h1.2 hv]
        exact ih _ _ _ h1.1
      · have b1 := valsGo_bad (bs := bs) n _ (acc ++ [(takeVal bs s).1]) hv
        refine ⟨ag_bad b1 (valsL_short n _ _ ?_), fun h => absurd h b1⟩
        cases hsh : (valueL bs l).2.short
        · exact absurd (h1.1.ok.2 hsh) hv
        · rfl
    · have hs : l.short = true := by
        cases hs : l.short
        · exact absurd (h.ok.2 hs) hw
        · rfl
      have b1 := valsGo_bad (bs := bs) (n + 1) s acc hw
      exact ⟨ag_bad b1 (valsL_short _ _ _ hs), fun h => absurd h b1⟩
theorem vals_con (n : Nat) : ∀ (s : Rs) (acc : List Val), ∃ new, (valsGo bs n s acc).1 = acc ++ new ∧ new.length = n ∧ Con bs s (valsGo bs n s acc).2 (valsB new) ∧ ((valsGo bs n s acc).2.why = 0 → (new.all fun v => rightE v == 0) = true) := by
  induction n with
  | zero => intro s acc; exact ⟨[], by simp [valsGo], rfl, fun hz => ⟨hz, by simp [valsB, valsGo], fun h => h⟩, fun _ => rfl⟩
  | succ n ih =>
    intro s acc
    obtain ⟨new, h1, h2, h3, h4⟩ := ih (takeVal bs s).2 (acc ++ [(takeVal bs s).1])
    have hv := takeVal_con (bs := bs) s
    refine ⟨(takeVal bs s).1 :: new, by rw [valsGo, h1]; simp, by simp [h2], ?_, fun hz => ?_⟩
    · rw [valsGo]
      have := hv.1.trans h3
      simpa [valsB] using this
    · rw [valsGo] at hz
      have hz1 : (takeVal bs s).2.why = 0 := (h3 hz).1
      simp only [List.all_cons, h4 hz, hv.2 hz1, Bool.and_true]
      rfl
end
end Go.Proofs.Ytnaolhjbapgjgaa
