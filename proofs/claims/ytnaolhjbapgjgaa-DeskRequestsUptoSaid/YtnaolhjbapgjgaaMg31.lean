import Derived.Test.YtnaolhjbapgjgaaMg11
import Derived.Test.YtnaolhjbapgjgaaMg19
import Derived.Test.YtnaolhjbapgjgaaMg22
import Derived.Test.YtnaolhjbapgjgaaMg25
import Derived.Test.YtnaolhjbapgjgaaMg30
import Derived.Deep.DeepCutAuto
/- A request read: the document's reading is the desk's. No program in sight. -/
namespace Go.Proofs.Ytnaolhjbapgjgaa
open Go.RowKit

/-- an operation of this op is read -/
def opL (bs : List UInt8) (k : Nat) (s : Ls) : Opn × Ls :=
  if k = 1 then ({ zeroOpn with op := 1, type_ := (textL bs s).1, source := sb (textL bs (textL bs s).2).1 }, (textL bs (textL bs s).2).2)
  else if k = 2 then ({ zeroOpn with op := 2, case_ := (textL bs s).1, type_ := (textL bs (textL bs s).2).1 }, (textL bs (textL bs s).2).2)
  else if k = 3 then ({ zeroOpn with op := 3, case_ := (textL bs s).1, name := (textL bs (textL bs s).2).1, value := (valueL bs (textL bs (textL bs s).2).2).1 }, (valueL bs (textL bs (textL bs s).2).2).2)
  else if k = 4 then ({ zeroOpn with op := 4, case_ := (textL bs s).1, name := (textL bs (textL bs s).2).1, args := (valsL bs (lowL bs 1 (textL bs (textL bs s).2).2).1 (lowL bs 1 (textL bs (textL bs s).2).2).2 []).1 }, (valsL bs (lowL bs 1 (textL bs (textL bs s).2).2).1 (lowL bs 1 (textL bs (textL bs s).2).2).2 []).2)
  else if k = 5 then ({ zeroOpn with op := 5, clock := (numL bs 8 s).1 }, (numL bs 8 s).2)
  else ({ zeroOpn with op := k }, s)
/-- the fields of a request of this op are read -/
def fldL (bs : List UInt8) (k : Nat) (s : Ls) : Req × Ls :=
  if k = 1 ∨ k = 2 then ({ zeroReq with op := k, do_ := (opL bs (lowL bs 1 s).1 (lowL bs 1 s).2).1 }, (opL bs (lowL bs 1 s).1 (lowL bs 1 s).2).2)
  else if k = 3 then ({ zeroReq with op := k, name := (textL bs s).1 }, (textL bs s).2)
  else if k = 4 then ({ zeroReq with op := k, number := (numL bs 8 s).1 }, (numL bs 8 s).2)
  else if k = 8 then ({ zeroReq with op := k, number := (numL bs 8 s).1, size := (numL bs 8 (numL bs 8 s).2).1 }, (numL bs 8 (numL bs 8 s).2).2)
  else if k = 9 then ({ zeroReq with op := k, from_ := (numL bs 8 s).1, to_ := (numL bs 8 (numL bs 8 s).2).1 }, (numL bs 8 (numL bs 8 s).2).2)
  else if k = 10 then ({ zeroReq with op := k, name := (textL bs s).1, size := (numL bs 8 (textL bs s).2).1 }, (numL bs 8 (textL bs s).2).2)
  else if k = 11 then ({ zeroReq with op := k, name := (textL bs s).1, size := (numL bs 8 (textL bs s).2).1, first := (numL bs 8 (numL bs 8 (textL bs s).2).2).1 }, (numL bs 8 (numL bs 8 (textL bs s).2).2).2)
  else ({ zeroReq with op := k }, s)
def reqL (bs : List UInt8) : Req × Ls := fldL bs (lowL bs 1 ⟨0, false⟩).1 (lowL bs 1 ⟨0, false⟩).2
/-- what is laid down again as the bytes that were read -/
def backL (bs : List UInt8) (q : Req × Ls) : Option Req := if q.2.short = false ∧ encReq q.1 = some bs then some q.1 else none
def readReq (bs : List UInt8) : Option Req := backL bs (reqL bs)

section
variable {bs : List UInt8} {s : Rs} {l : Ls}
/-- from where both go on: a byte -/
theorem byte_good {p : Nat} (hp : p ≤ bs.length) : (tkN bs 1 ⟨p, 0⟩).1 = (lowL bs 1 ⟨p, false⟩).1 ∧ ((∃ q, (tkN bs 1 ⟨p, 0⟩).2 = ⟨q, 0⟩ ∧ (lowL bs 1 ⟨p, false⟩).2 = ⟨q, false⟩ ∧ q ≤ bs.length) ∨ ((tkN bs 1 ⟨p, 0⟩).1 = 0 ∧ (tkN bs 1 ⟨p, 0⟩).2.why ≠ 0 ∧ (lowL bs 1 ⟨p, false⟩).2.short = true)) := by
  by_cases hl : p + 1 ≤ bs.length
  · have e1 : tkN bs 1 ⟨p, 0⟩ = (ofBe ((bs.drop p).take 1), ⟨p + 1, 0⟩) := by simp [tkN, hl]
    have e2 : nextL bs 1 ⟨p, false⟩ = ((bs.drop p).take 1, ⟨p + 1, false⟩) := by rw [nextL, if_neg (by simp only; omega)]
    rw [lowL, e1, e2]
    exact ⟨rfl, .inl ⟨p + 1, rfl, rfl, hl⟩⟩
  · have e1 : tkN bs 1 ⟨p, 0⟩ = (0, ⟨p, 8⟩) := by simp [tkN]; omega
    have e2 : nextL bs 1 ⟨p, false⟩ = ([], ⟨p, true⟩) := by rw [nextL, if_pos (by simp only; omega)]
    rw [lowL, e1, e2]
    exact ⟨rfl, .inr ⟨rfl, by simp, rfl⟩⟩

/-- one request is read by both: (the desk's, can it be, the Reader), (the document's, its place) -/
structure Both (bs : List UInt8) (s : Rs) (d : Req × Bool × Rs) (x : Req × Ls) : Prop where
  ag : Ag bs d.2.2 x.2
  eq_ : d.2.2.why = 0 → d.1 = x.1
  ok : d.2.2.why = 0 → d.2.1 = true → ∃ e, reqTail d.1 = some e ∧ Con bs s d.2.2 e
  no : d.2.2.why = 0 → d.2.1 = false → reqTail d.1 = none

theorem op_both {p : Nat} (hp : p ≤ bs.length) (hb : bs.length ≤ 1048576) (k : Nat) (hk : k < 256) :
    Ag bs (opN bs k ⟨p, 0⟩).2 (opL bs k ⟨p, false⟩).2 ∧ ((opN bs k ⟨p, 0⟩).2.why = 0 → (opN bs k ⟨p, 0⟩).1 = (opL bs k ⟨p, false⟩).1) ∧ (opN bs k ⟨p, 0⟩).1.op = k ∧
      ((opN bs k ⟨p, 0⟩).2.why = 0 → 1 ≤ k ∧ k ≤ 5 → ∃ e, opTail (opN bs k ⟨p, 0⟩).1 = some e ∧ Con bs ⟨p, 0⟩ (opN bs k ⟨p, 0⟩).2 e) := by
  have h0 : Ag bs ⟨p, 0⟩ ⟨p, false⟩ := ag_good hp
  unfold opN opL
  by_cases h1 : k = 1
  · subst h1
    have a := word_ag hb h0
    have b := bytes_ag hb a.1
    simp only [if_true]
    refine ⟨b.1, fun hz => ?_, rfl, fun hz _ => ⟨_, rfl, a.2.2.trans b.2.2⟩⟩
    rw [a.2.1 (b.2.2 hz).1, b.2.1 hz]
  by_cases h2 : k = 2
  · subst h2
    have a := word_ag hb h0
    have b := word_ag hb a.1
    simp only [if_neg (show ¬ (2 : Nat) = 1 by decide), if_true]
    refine ⟨b.1, fun hz => ?_, rfl, fun hz _ => ⟨_, rfl, a.2.2.trans b.2.2⟩⟩
    rw [a.2.1 (b.2.2 hz).1, b.2.1 hz]
  by_cases h3 : k = 3
  · subst h3
    have a := word_ag hb h0
    have b := word_ag hb a.1
    have c := value_ag b.1
    have cc := takeVal_con (bs := bs) (wordN bs (wordN bs ⟨p, 0⟩).2).2
    simp only [if_neg (show ¬ (3 : Nat) = 1 by decide), if_neg (show ¬ (3 : Nat) = 2 by decide), if_true]
    refine ⟨c.1, fun hz => ?_, rfl, fun hz _ => ⟨_, ?_, (a.2.2.trans b.2.2).trans cc.1⟩⟩
    · have z2 := (cc.1 hz).1
      rw [a.2.1 (b.2.2 z2).1, b.2.1 z2, c.2 hz]
    · rw [opTail]
      simp only
      rw [if_neg (by decide), if_neg (by decide), if_pos trivial, if_pos (cc.2 hz)]
  by_cases h4 : k = 4
  · subst h4
    have a := word_ag hb h0
    have b := word_ag hb a.1
    have c := low_ag 1 b.1
    have hlt := tkN_lt bs 1 (wordN bs (wordN bs ⟨p, 0⟩).2).2
    simp only [if_neg (show ¬ (4 : Nat) = 1 by decide), if_neg (show ¬ (4 : Nat) = 2 by decide), if_neg (show ¬ (4 : Nat) = 3 by decide), if_true]
    generalize tkN bs 1 (wordN bs (wordN bs ⟨p, 0⟩).2).2 = N at *
    obtain ⟨n, sn⟩ := N
    generalize lowL bs 1 (textL bs (textL bs ⟨p, false⟩).2).2 = M at *
    obtain ⟨mn, lm⟩ := M
    simp only at c hlt ⊢
    obtain ⟨new, v1, v2, v3, v4⟩ := vals_con (bs := bs) n sn []
    rw [List.nil_append] at v1
    by_cases hsn : sn.why = 0
    · have hm : n = mn := c.2.1 hsn
      subst hm
      have d := vals_ag (bs := bs) n sn lm [] c.1
      refine ⟨d.1, fun hz => ?_, rfl, fun hz _ => ⟨_, ?_, (a.2.2.trans b.2.2).trans (c.2.2.trans v3)⟩⟩
      · have z2 := (c.2.2 hsn).1
        rw [a.2.1 (b.2.2 z2).1, b.2.1 z2, d.2 hz]
      · rw [opTail]
        simp only
        rw [if_neg (by decide), if_neg (by decide), if_neg (by decide), if_pos trivial, v1, if_pos ⟨by omega, v4 hz⟩, v2]
        rfl
    · have bad := valsGo_bad (bs := bs) n sn [] hsn
      have hsh : lm.short = true := by
        cases hs : lm.short
        · exact absurd (c.1.ok.2 hs) hsn
        · rfl
      exact ⟨ag_bad bad (valsL_short _ _ _ hsh), fun hz => absurd hz bad, rfl, fun hz => absurd hz bad⟩
  by_cases h5 : k = 5
  · subst h5
    have a := numN_ag h0
    simp only [if_neg (show ¬ (5 : Nat) = 1 by decide), if_neg (show ¬ (5 : Nat) = 2 by decide), if_neg (show ¬ (5 : Nat) = 3 by decide), if_neg (show ¬ (5 : Nat) = 4 by decide), if_true]
    refine ⟨a.1, fun hz => ?_, rfl, fun hz _ => ⟨_, rfl, a.2.2⟩⟩
    rw [a.2.1 hz]
  · simp only [if_neg h1, if_neg h2, if_neg h3, if_neg h4, if_neg h5]
    exact ⟨h0, fun _ => by trivial, by trivial, fun _ hh => by omega⟩

theorem fld_both {p : Nat} (hp : p ≤ bs.length) (hb : bs.length ≤ 1048576) (k : Nat) (hk : k < 256) : Both bs ⟨p, 0⟩ (decN bs k ⟨p, 0⟩) (fldL bs k ⟨p, false⟩) := by
  have h0 : Ag bs ⟨p, 0⟩ ⟨p, false⟩ := ag_good hp
  unfold decN fldL
  by_cases h1 : k = 1 ∨ k = 2
  · simp only [if_pos h1]
    obtain ⟨be_, hc⟩ := byte_good (bs := bs) hp
    have hlt := tkN_lt bs 1 ⟨p, 0⟩
    have hcon := tkN_con (bs := bs) 1 ⟨p, 0⟩
    rw [askedN, ← be_]
    generalize tkN bs 1 ⟨p, 0⟩ = K at *
    generalize (lowL bs 1 ⟨p, false⟩).2 = lm at *
    obtain ⟨k2, sk⟩ := K
    simp only at hc hlt hcon ⊢
    rcases hc with ⟨q, rfl, rfl, hq⟩ | ⟨rfl, hw, hs⟩
    · obtain ⟨o1, o2, o3, o4⟩ := op_both hq hb k2 (by omega)
      refine ⟨o1, fun hz => by simp only at hz ⊢; rw [o2 hz], fun hz hok => ?_, fun hz hno => ?_⟩
      · simp only [decide_eq_true_eq, o3] at hok
        obtain ⟨e, he, hce⟩ := o4 hz (by omega)
        refine ⟨be 1 k2 ++ e, ?_, hcon.trans hce⟩
        simp only [reqTail]
        rw [if_pos (by omega), opB, he, o3]
        simp
      · simp only [decide_eq_false_iff_not, o3] at hno
        simp only [reqTail]
        rw [if_pos (by omega), opB, opTail]
        rw [o3, if_neg (by omega), if_neg (by omega), if_neg (by omega), if_neg (by omega), if_neg (by omega)]
        rfl
    · have e1 : (opN bs 0 sk).2 = sk := by simp [opN]
      have e2 : (opL bs 0 lm).2 = lm := by simp [opL]
      refine ⟨?_, fun hz => ?_, fun hz => ?_, fun hz => ?_⟩
      · simp only [e1, e2]; exact ag_bad hw hs
      all_goals (simp only [e1] at hz; exact absurd hz hw)
  simp only [if_neg h1]
  by_cases h3 : k = 3
  · subst h3
    have a := word_ag hb h0
    simp only [if_true]
    exact ⟨a.1, fun hz => by simp only at hz ⊢; rw [a.2.1 hz], fun hz _ => ⟨_, rfl, a.2.2⟩, fun _ h => by cases h⟩
  simp only [if_neg h3]
  by_cases h4 : k = 4
  · subst h4
    have a := numN_ag h0
    simp only [if_true]
    exact ⟨a.1, fun hz => by simp only at hz ⊢; rw [a.2.1 hz], fun hz _ => ⟨_, rfl, a.2.2⟩, fun _ h => by cases h⟩
  simp only [if_neg h4]
  by_cases h8 : k = 8
  · subst h8
    have a := numN_ag h0
    have b := numN_ag a.1
    simp only [if_true]
    exact ⟨b.1, fun hz => by simp only at hz ⊢; rw [a.2.1 (b.2.2 hz).1, b.2.1 hz], fun hz _ => ⟨_, rfl, a.2.2.trans b.2.2⟩, fun _ h => by cases h⟩
  simp only [if_neg h8]
  by_cases h9 : k = 9
  · subst h9
    have a := numN_ag h0
    have b := numN_ag a.1
    simp only [if_true]
    exact ⟨b.1, fun hz => by simp only at hz ⊢; rw [a.2.1 (b.2.2 hz).1, b.2.1 hz], fun hz _ => ⟨_, rfl, a.2.2.trans b.2.2⟩, fun _ h => by cases h⟩
  simp only [if_neg h9]
  by_cases h10 : k = 10
  · subst h10
    have a := word_ag hb h0
    have b := numN_ag a.1
    simp only [if_true]
    exact ⟨b.1, fun hz => by simp only at hz ⊢; rw [a.2.1 (b.2.2 hz).1, b.2.1 hz], fun hz _ => ⟨_, rfl, a.2.2.trans b.2.2⟩, fun _ h => by cases h⟩
  simp only [if_neg h10]
  by_cases h11 : k = 11
  · subst h11
    have a := word_ag hb h0
    have b := numN_ag a.1
    have c := numN_ag b.1
    simp only [if_true]
    exact ⟨c.1, fun hz => by simp only at hz ⊢; rw [a.2.1 (b.2.2 (c.2.2 hz).1).1, b.2.1 (c.2.2 hz).1, c.2.1 hz], fun hz _ => ⟨_, rfl, a.2.2.trans (b.2.2.trans c.2.2)⟩, fun _ h => by cases h⟩
  simp only [if_neg h11]
  refine ⟨h0, fun _ => rfl, fun _ hok => ⟨[], ?_, fun hz => ⟨rfl, rfl, fun h => h⟩⟩, fun _ hno => ?_⟩
  · simp only [decide_eq_true_eq] at hok
    simp only [reqTail, zeroReq]
    rw [if_neg (by omega), if_neg (by omega), if_neg (by omega), if_pos (by omega)]
  · simp only [decide_eq_false_iff_not] at hno
    simp only [reqTail, zeroReq]
    rw [if_neg (by omega), if_neg (by omega), if_neg (by omega), if_neg (by omega), if_neg (by omega), if_neg (by omega), if_neg (by omega), if_neg (by omega)]
theorem encReq_le {q : Req} {b : List UInt8} (h : encReq q = some b) : b.length ≤ 1048576 := by
  unfold encReq at h
  cases hr : reqB q with
  | none => rw [hr] at h; cases h
  | some c =>
    rw [hr] at h
    simp only [Option.bind_some] at h
    split at h
    · injection h with h; subst h; assumption
    · cases h
theorem decN_op (k : Nat) (s : Rs) : (decN bs k s).1.op = k := by
  unfold decN
  repeat (split; · rfl)
  rfl
/-- the document's reading is the desk's -/
theorem readReq_eq (bs : List UInt8) : readReq bs = decReq bs := by
  unfold readReq decReq
  by_cases hb : 1048576 < bs.length
  · rw [if_pos hb, backL, if_neg]
    rintro ⟨_, h⟩
    have := encReq_le h
    omega
  rw [if_neg hb, reqL]
  obtain ⟨be_, hc⟩ := byte_good (bs := bs) (Nat.zero_le _)
  have hlt := tkN_lt bs 1 ⟨0, 0⟩
  have hcon := tkN_con (bs := bs) 1 ⟨0, 0⟩
  rw [← be_]
  generalize tkN bs 1 ⟨0, 0⟩ = K at *
  generalize (lowL bs 1 ⟨0, false⟩).2 = lm at *
  obtain ⟨k, sk⟩ := K
  simp only at hc hlt hcon ⊢
  rcases hc with ⟨q, rfl, rfl, hq⟩ | ⟨rfl, hw, hs⟩
  · have hB := fld_both hq (by omega) k (by omega)
    have hop := decN_op (bs := bs) k ⟨q, 0⟩
    generalize decN bs k ⟨q, 0⟩ = d at *
    generalize fldL bs k ⟨q, false⟩ = x at *
    obtain ⟨r, ok, sd⟩ := d
    obtain ⟨x, lx⟩ := x
    obtain ⟨ag, eq_, hok, hno⟩ := hB
    simp only at ag eq_ hok hno hop
    unfold decEnd backL
    simp only
    by_cases hz : sd.why = 0
    · have h1 := ag.ok.1 hz
      obtain rfl := eq_ hz
      cases ok with
      | false =>
        rw [encReq_none (hno hz rfl), if_neg (by simp), if_neg (by simp)]
      | true =>
        obtain ⟨e, he, hce⟩ := hok hz rfl
        have hall := (hcon.trans hce) hz
        have hR : reqB r = some (be 1 k ++ e) := by rw [reqB, he, hop]; simp
        have hd := hall.2.1
        simp only [List.drop_zero] at hd
        have hle : sd.at_ ≤ bs.length := hall.2.2 (Nat.zero_le _)
        by_cases hend : sd.at_ = bs.length
        · have hbs : be 1 k ++ e = bs := by
            have : bs.drop sd.at_ = [] := by rw [hend]; exact List.drop_length
            rw [this, List.append_nil] at hd
            exact hd.symm
          rw [hbs] at hR
          rw [if_pos ⟨h1, encReq_of hR (by omega)⟩, if_pos ⟨rfl, by rw [doneN, if_neg (by omega)]; exact hz⟩]
        · rw [if_neg, if_neg]
          · rintro ⟨_, h⟩
            rw [doneN, if_pos ⟨hz, by omega⟩] at h
            cases h
          · rintro ⟨_, h⟩
            have hl : (be 1 k ++ e).length ≤ 1048576 := by
              have : bs.length = (be 1 k ++ e).length + (bs.drop sd.at_).length := by rw [← List.length_append, ← hd]
              omega
            rw [encReq_of hR hl] at h
            injection h with h
            have h2 : bs.length = (be 1 k ++ e).length + (bs.drop sd.at_).length := by rw [← List.length_append, ← hd]
            rw [h, List.length_drop] at h2
            omega
    · rw [if_neg, if_neg]
      · rintro ⟨_, h⟩
        rw [doneN, if_neg (by rintro ⟨h, _⟩; exact hz h)] at h
        exact hz h
      · rintro ⟨h, _⟩
        exact hz (ag.ok.2 h)
  · have e1 : (decN bs 0 sk).2.2 = sk := by simp [decN]
    have e2 : (fldL bs 0 lm).2 = lm := by simp [fldL]
    rw [backL, decEnd, e1, e2, if_neg, if_neg]
    · rintro ⟨_, h⟩
      rw [doneN, if_neg (by rintro ⟨h, _⟩; exact hw h)] at h
      exact hw h
    · rintro ⟨h, _⟩
      rw [hs] at h
      cases h
end
end Go.Proofs.Ytnaolhjbapgjgaa

/- Contract of desk.DecodeRequest: a request read. -/
namespace Go.Proofs.Ytnaolhjbapgjgaa
open Go.RowKit

theorem zeroOp_ok (w : World) (X : Nat → Prop) : MOp.Ok w X ⟨0, ⟨#[]⟩, ⟨#[]⟩, ⟨#[]⟩, ⟨⟨0, 0, ⟨#[]⟩, []⟩, none, 0⟩, [], none, 0, [], none, 0, 0⟩ :=
  ⟨zeroM_ok _ _ _ rfl, fun v hv => by simp at hv, Rd.none_, fun h => absurd h (by simp), Nat.le_refl _, Rd.none_, fun h => absurd h (by simp), by refine ⟨?_, ?_, ?_, ?_, ?_⟩ <;> first | exact empty_size | exact Nat.zero_le _⟩

set_option maxRecDepth 100000 in
set_option maxHeartbeats 3200000 in
theorem dec_long (w : World) (A : Option Addr) (c : Nat) (bs : List UInt8) (hl : 1048576 < bs.length) :
    Calls Try.prog 23 #[.slice A bs.length c] w (DecPost w (decReq bs)) := by
  have HT := Lib.hid (show decReq bs = none by rw [decReq, if_pos hl])
  generalize decReq bs = TV at HT ⊢
  have hlI : (1048576 : Int) < (bs.length : Int) := by omega
  have hb := Blk.new w 31 zeroReqC.toArray
  have Hb := Lib.hid hb
  have Hz := Lib.hid (hb.setWhole zeroReqC rfl)
  have Ho := Lib.hid (show Old w ((w.alloc (.cells zeroReqC.toArray 31)).setCells w.heap.size 0 zeroReqC) from ((Kp.refl NoX w).alloc _).trans (Kp.setCells _ _ _ _) (fun b hb e => by omega))
  clear hb
  go_enter Try.func23, Try.ntmps23
  go_wp2_with (refine wpList_store_mid rfl 31 (.tmp 2) (.tmp 10) rfl w.heap.size 0 _ rfl rfl (Hb.out.there 0 18 (by decide)) Try.sizeRequest (all_one rfl) ?_)
  refine ret_cell_tmp (g := w.heap.size) (cs := zeroReqC.toArray) rfl rfl Hz.out Try.underlying31 rfl (by kernel_rfl) rfl ?_
  exact .inr ⟨HT.out, rfl, Ho.out⟩

end Go.Proofs.Ytnaolhjbapgjgaa

/- What stands while the document reads a request. -/
namespace Go.Proofs.Ytnaolhjbapgjgaa
open Go.RowKit

/-- what reading leaves: the request, in new memory, or nothing -/
def ReadPost (w : World) (d : Option Req) (e : Ending) (w' : World) : Prop :=
  (∃ m : MReq, d = some m.data ∧ e = .returned (.tuple #[.agg m.cells.toArray, .bool true]) ∧ m.do_.Ok w' (fun k => k < w.heap.size) ∧ m.name.size ≤ 2147483647 ∧ Old w w') ∨
  (d = none ∧ e = .returned (.tuple #[.agg zeroReqC.toArray, .bool false]) ∧ Old w w')

/-- while a request is read: the request so far in block Q, the result's box R, the reader g -/
structure RdSt (w : World) (R g Q : Nat) (bs : List UInt8) (cs : List Value) (s : Ls) (W : World) : Prop where
  boxQ : Blk W Q 31 cs.toArray
  boxR : Blk W R 31 zeroReqC.toArray
  lr : Lr W g bs s
  old : Old w W
  le : w.heap.size = R
  lt : R < g
  gt : g < Q
section
variable {w : World} {R g Q : Nat} {bs : List UInt8} {cs : List Value} {s s' : Ls} {W W' : World}
theorem RdSt.step (h : RdSt w R g Q bs cs s W) (hr : Lr W' g bs s') (hk : Kp (RX g) W W') : RdSt w R g Q bs cs s' W' :=
  ⟨h.boxQ.kp hk (fun e => by have : Q = g := e; have := h.gt; omega), h.boxR.kp hk (fun e => by have : R = g := e; have := h.lt; omega), hr,
    h.old.trans hk (fun b hb e => by have : b = g := e; have := h.le; have := h.lt; omega), h.le, h.lt, h.gt⟩
theorem RdSt.still (h : RdSt w R g Q bs cs s W) (hk : Old W W') : RdSt w R g Q bs cs s W' :=
  ⟨h.boxQ.old hk, h.boxR.old hk, h.lr.old hk, h.old.old hk, h.le, h.lt, h.gt⟩
theorem RdSt.put (h : RdSt w R g Q bs cs s W) (hk : Kp (fun k => k = Q) W W') {cs' : List Value} (hb : Blk W' Q 31 cs'.toArray) : RdSt w R g Q bs cs' s W' :=
  ⟨hb, h.boxR.kp hk (fun e => by have := h.lt; have := h.gt; omega), h.lr.kp hk (fun k hk' e => by have := h.gt; omega),
    h.old.trans hk (fun b hb e => by have := h.le; have := h.lt; have := h.gt; omega), h.le, h.lt, h.gt⟩
theorem RdSt.set (h : RdSt w R g Q bs cs s W) (i : Nat) (v : Value) : RdSt w R g Q bs (cs.set i v) s (W.setCell ⟨Q, i, none⟩ v) :=
  h.put ((Kp.refl (fun k => k = Q) W).setCell (p := ⟨Q, i, none⟩) (fun _ => rfl) v) (by rw [← List.setIfInBounds_toArray]; exact h.boxQ.set_ i v)
theorem RdSt.told (h : RdSt w R g Q bs cs s W) (vs : List Value) (hl : 18 = vs.length) : Blk (W.setCells R 0 vs) R 31 vs.toArray ∧ Old w (W.setCells R 0 vs) ∧ Kp (fun k => k = R) W (W.setCells R 0 vs) :=
  ⟨h.boxR.setWhole vs hl, h.old.trans (Kp.setCells R 0 vs W) (fun b hb e => by have := h.le; omega), Kp.setCells R 0 vs W⟩
end
theorem Try.load_wanted {ops : Array Oper} {rest : List Oper} {op : Oper} {a : Act} {w : World} {Q : Exit → Act → World → Prop} (hw : Region.wanted op (yielded ops a.tmps) = true) (ty : TypeId) (x : Operand) (ho : op.op = .load ty x)
    (b o : Nat) (hx : a.eval x = .pointer (some ⟨b, o, none⟩)) (cs : List Value) (d : TypeDesc) (hc : w.rangeAt b o cs)
    (hu : Try.prog.underlying ty = some d) (hd : d.isRow = true) (hi : (Try.prog.info? ty).map (·.size) = some cs.length)
    (h : wpList Try.prog ops Q rest (a.put op.dst (.agg cs.toArray)) w) : wpList Try.prog ops Q (op :: rest) a w :=
  wpList_step fun K hK => by simp only [hw, if_true]; exact wp_load_mid ty x ho b o hx cs d hc hu hd hi (hK _ _ h)

theorem low_num (bs : List UInt8) (k : Nat) (s : Ls) (hk : k ≤ 7) : numL bs k s = (((lowL bs k s).1 : Int), (lowL bs k s).2) := by
  have h1 := nextL_len bs k s
  have h2 := ofBe_lt (nextL bs k s).1
  have h3 : (256 : Nat) ^ (nextL bs k s).1.length ≤ 256 ^ 7 := Nat.pow_le_pow_right (by decide) (by omega)
  have h4 : (lowL bs k s).1 < 9223372036854775808 := by
    simp only [lowL]
    omega
  rw [numL, ← i64_small _ h4]
  rfl
theorem nextL_len2 (bs : List UInt8) (n : Nat) (s : Ls) : (nextL bs n s).1.length ≤ bs.length := by
  unfold nextL
  split
  · simp
  · simp only [List.length_take, List.length_drop]; omega
theorem textL_size (bs : List UInt8) (s : Ls) (h : bs.length ≤ 2147483647) : (textL bs s).1.size ≤ 2147483647 := by
  rw [← sb_length]
  exact Nat.le_trans (nextL_len2 bs _ _) h
/-- the request that was read, where it stands, and its state -/
def ReadSt (w : World) (R g Q : Nat) (bs : List UInt8) (W : World) : Prop :=
  ∃ m : MReq, m.data = (reqL bs).1 ∧ RdSt w R g Q bs m.cells (reqL bs).2 W ∧ m.do_.Ok W (fun k => k ≤ g) ∧ m.name.size ≤ 2147483647
end Go.Proofs.Ytnaolhjbapgjgaa

/- Contract of docketlaw24.sameRequests: requests that are alike. -/
namespace Go.Proofs.Ytnaolhjbapgjgaa
open Go.RowKit

theorem Blk.rangeMid {w : World} {g : Nat} {t : TypeId} {pre mid post : List Value} (h : Blk w g t (pre ++ (mid ++ post)).toArray) : w.rangeAt g pre.length mid := by
  intro j v hv
  rw [h.cell, List.getElem?_toArray, List.getElem?_append_right (by omega), Nat.add_sub_cancel_left, List.getElem?_append_left (List.getElem?_eq_some_iff.1 hv).1, hv]
theorem cells_box {w w' : World} {g : Nat} {t : TypeId} {cs : Array Value} (h : Blk w g t cs) (ho : Old w w') (i : Nat) {v : Value} (e : cs[i]? = some v) : w'.cell? ⟨g, i, none⟩ = some v := (h.old ho).at_ i e

set_option maxRecDepth 100000 in
set_option maxHeartbeats 3200000 in
theorem samer_eq (w : World) (m1 m2 : MReq) (h1 : m1.do_.Ok w NoX) (h2 : m2.do_.Ok w NoX) (hd : m1.data = m2.data) :
    Calls Try.prog 25 #[.agg m1.cells.toArray, .agg m2.cells.toArray] w fun e w' => e = .returned (.bool true) ∧ Old w w' := by
  obtain ⟨op, ⟨dop, ca, ty, na, ⟨v, vA, vc⟩, args, aA, aC, src, sA, sC, clk⟩, nm, no, si, fr, to_, fi⟩ := m1
  obtain ⟨op2, ⟨dop2, ca2, ty2, na2, ⟨v2, vB, vd⟩, brgs, bA, bC, src2, tA, tC, clk2⟩, nm2, no2, si2, fr2, to2, fi2⟩ := m2
  simp only [MReq.data, MOp.data, Req.mk.injEq, Opn.mk.injEq] at hd
  obtain ⟨rfl, ⟨rfl, rfl, rfl, rfl, rfl, hab, rfl, rfl⟩, rfl, rfl, rfl, rfl, rfl, rfl⟩ := hd
  simp only at h1 h2
  have HO := Lib.hid (fun W (ho : Old w W) => sameo_eq W dop ca ty na v clk src args brgs vA vB aA bA sA tA vc vd aC bC sC tC (h1.old ho) (h2.old ho) hab)
  clear h1 h2 hab
  obtain ⟨vk, vn, vt, vs⟩ := v
  simp only [MReq.cells, MOp.cells, List.cons_append, List.nil_append] at HO ⊢
  have ho : Old w _ := ((Kp.refl NoX w).alloc (.cells (List.toArray [.int .i64 op, .int .i64 dop, .string ca, .string ty, .string na, .int .i64 vk, .int .i64 vn, .string vt, .slice vA vs.length vc, .slice aA args.length aC, .slice sA src.length sC, .int .i64 clk, .string nm, .int .i64 no, .int .i64 si, .int .i64 fr, .int .i64 to_, .int .i64 fi]) 31)).alloc (.cells (List.toArray [.int .i64 op, .int .i64 dop, .string ca, .string ty, .string na, .int .i64 vk, .int .i64 vn, .string vt, .slice vB vs.length vd, .slice bA brgs.length bC, .slice tA src.length tC, .int .i64 clk, .string nm, .int .i64 no, .int .i64 si, .int .i64 fr, .int .i64 to_, .int .i64 fi]) 31)
  have hbA := (Blk.new w 31 (List.toArray [.int .i64 op, .int .i64 dop, .string ca, .string ty, .string na, .int .i64 vk, .int .i64 vn, .string vt, .slice vA vs.length vc, .slice aA args.length aC, .slice sA src.length sC, .int .i64 clk, .string nm, .int .i64 no, .int .i64 si, .int .i64 fr, .int .i64 to_, .int .i64 fi])).alloc (.cells (List.toArray [.int .i64 op, .int .i64 dop, .string ca, .string ty, .string na, .int .i64 vk, .int .i64 vn, .string vt, .slice vB vs.length vd, .slice bA brgs.length bC, .slice tA src.length tC, .int .i64 clk, .string nm, .int .i64 no, .int .i64 si, .int .i64 fr, .int .i64 to_, .int .i64 fi]) 31)
  have hbB := Blk.new (w.alloc (.cells (List.toArray [.int .i64 op, .int .i64 dop, .string ca, .string ty, .string na, .int .i64 vk, .int .i64 vn, .string vt, .slice vA vs.length vc, .slice aA args.length aC, .slice sA src.length sC, .int .i64 clk, .string nm, .int .i64 no, .int .i64 si, .int .i64 fr, .int .i64 to_, .int .i64 fi]) 31)) 31 (List.toArray [.int .i64 op, .int .i64 dop, .string ca, .string ty, .string na, .int .i64 vk, .int .i64 vn, .string vt, .slice vB vs.length vd, .slice bA brgs.length bC, .slice tA src.length tC, .int .i64 clk, .string nm, .int .i64 no, .int .i64 si, .int .i64 fr, .int .i64 to_, .int .i64 fi])
  rw [show (w.alloc (.cells (List.toArray [.int .i64 op, .int .i64 dop, .string ca, .string ty, .string na, .int .i64 vk, .int .i64 vn, .string vt, .slice vA vs.length vc, .slice aA args.length aC, .slice sA src.length sC, .int .i64 clk, .string nm, .int .i64 no, .int .i64 si, .int .i64 fr, .int .i64 to_, .int .i64 fi]) 31)).heap.size = w.heap.size + 1 by simp] at hbB
  have HA := Lib.hid hbA
  have HB := Lib.hid hbB
  have Ho := Lib.hid ho
  clear hbA hbB ho
  go_enter Try.func25, Try.ntmps25
  go_upto_region 1 with (fail)
  generalize (w.alloc _).alloc _ = W at *
  have a0 := HA.out.at_ 0 (v := .int .i64 op) rfl
  have b0 := HB.out.at_ 0 (v := .int .i64 op) rfl
  have RA := Lib.hid (Blk.rangeMid (pre := [.int .i64 op]) (mid := [.int .i64 dop, .string ca, .string ty, .string na, .int .i64 vk, .int .i64 vn, .string vt, .slice vA vs.length vc, .slice aA args.length aC, .slice sA src.length sC, .int .i64 clk]) (post := [.string nm, .int .i64 no, .int .i64 si, .int .i64 fr, .int .i64 to_, .int .i64 fi]) HA.out)
  have RB := Lib.hid (Blk.rangeMid (pre := [.int .i64 op]) (mid := [.int .i64 dop, .string ca, .string ty, .string na, .int .i64 vk, .int .i64 vn, .string vt, .slice vB vs.length vd, .slice bA brgs.length bC, .slice tA src.length tC, .int .i64 clk]) (post := [.string nm, .int .i64 no, .int .i64 si, .int .i64 fr, .int .i64 to_, .int .i64 fi]) HB.out)
  go_wp2_with (first
    | refine Try.load_wanted rfl 29 (.tmp 11) rfl w.heap.size 1 rfl [.int .i64 dop, .string ca, .string ty, .string na, .int .i64 vk, .int .i64 vn, .string vt, .slice vA vs.length vc, .slice aA args.length aC, .slice sA src.length sC, .int .i64 clk] _ RA.out Try.underlying29 rfl Try.sizeOperation ?_
    | refine Try.load_wanted rfl 29 (.tmp 13) rfl (w.heap.size + 1) 1 rfl [.int .i64 dop, .string ca, .string ty, .string na, .int .i64 vk, .int .i64 vn, .string vt, .slice vB vs.length vd, .slice bA brgs.length bC, .slice tA src.length tC, .int .i64 clk] _ RB.out Try.underlying29 rfl Try.sizeOperation ?_
    | fail)
  refine (HO.out W Ho.out).mono ?_
  rintro e w1 ⟨rfl, ho1⟩
  have a12 := cells_box HA.out ho1 12 (v := .string nm) rfl
  have a13 := cells_box HA.out ho1 13 (v := .int .i64 no) rfl
  have a14 := cells_box HA.out ho1 14 (v := .int .i64 si) rfl
  have a15 := cells_box HA.out ho1 15 (v := .int .i64 fr) rfl
  have a16 := cells_box HA.out ho1 16 (v := .int .i64 to_) rfl
  have a17 := cells_box HA.out ho1 17 (v := .int .i64 fi) rfl
  have b12 := cells_box HB.out ho1 12 (v := .string nm) rfl
  have b13 := cells_box HB.out ho1 13 (v := .int .i64 no) rfl
  have b14 := cells_box HB.out ho1 14 (v := .int .i64 si) rfl
  have b15 := cells_box HB.out ho1 15 (v := .int .i64 fr) rfl
  have b16 := cells_box HB.out ho1 16 (v := .int .i64 to_) rfl
  have b17 := cells_box HB.out ho1 17 (v := .int .i64 fi) rfl
  have Ho1 := Lib.hid (Ho.out.old ho1)
  clear a0 b0 RA RB ho1
  go_wp2
  go_ret
  exact ⟨rfl, Ho1.out⟩
end Go.Proofs.Ytnaolhjbapgjgaa
