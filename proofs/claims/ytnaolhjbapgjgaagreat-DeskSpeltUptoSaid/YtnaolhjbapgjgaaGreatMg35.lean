import Derived.Test.YtnaolhjbapgjgaaGreatMg34
set_option maxRecDepth 100000
set_option maxHeartbeats 3200000
namespace Go.Proofs.YtnaolhjbapgjgaaGreat
open Go.RowKit
def At (bs : List UInt8) (p : Nat) (e : List UInt8) : Prop := ∃ pre post, bs = pre ++ (e ++ post) /\ pre.length = p
section
variable {bs : List UInt8} {p : Nat}
theorem At.fst {a b : List UInt8} (h : At bs p (a ++ b)) : At bs p a := by
  obtain ⟨pre, post, rfl, rfl⟩ := h
  exact ⟨pre, b ++ post, by simp, rfl⟩
theorem At.snd {a b : List UInt8} (h : At bs p (a ++ b)) : At bs (p + a.length) b := by
  obtain ⟨pre, post, rfl, rfl⟩ := h
  exact ⟨pre ++ a, post, by simp, by simp⟩
theorem At.tk {k n : Nat} (h : At bs p (be k n)) (hn : n < 256 ^ k) : tkN bs k ⟨p, 0⟩ = (n, ⟨p + k, 0⟩) := by
  obtain ⟨pre, post, rfl, rfl⟩ := h
  exact tkN_fwd pre post k n hn
theorem At.num {n : Int} (h : At bs p (be8 n)) : numN bs ⟨p, 0⟩ = (c64 n, ⟨p + 8, 0⟩) := by
  obtain ⟨pre, post, rfl, rfl⟩ := h
  exact numN_fwd pre post n
theorem At.raw {l : List UInt8} (h : At bs p l) : rawN bs (l.length : Int) ⟨p, 0⟩ = (l, ⟨p + l.length, 0⟩) := by
  obtain ⟨pre, post, rfl, rfl⟩ := h
  exact rawN_fwd pre post l
theorem At.dig {d : List UInt8} (h : At bs p d) (hd : d.length = 32) : digN bs ⟨p, 0⟩ = (d, ⟨p + 32, 0⟩) := by
  obtain ⟨pre, post, rfl, rfl⟩ := h
  exact digN_fwd pre post d hd
theorem At.digs {ds : List (List UInt8)} (h : At bs p ds.flatten) (hd : Dgs ds) : vX bs (ds.length : Int) ⟨p, 0⟩ = (ds, ⟨p + 32 * ds.length, 0⟩) := by
  obtain ⟨pre, post, rfl, rfl⟩ := h
  exact digsN_fwd pre post ds hd
theorem At.flag {b : Bool} (h : At bs p [if b = true then 1 else 0]) : kO bs ⟨p, 0⟩ = (b, ⟨p + 1, 0⟩) := by
  obtain ⟨pre, post, rfl, rfl⟩ := h
  exact flagN_fwd pre post b
theorem At.bytes {l : List UInt8} {most : Int} (h : At bs p (lp 4 l)) (hm : (l.length : Int) <= most) (hl : l.length <= 2147483647) : jf bs most ⟨p, 0⟩ = (l, ⟨p + (4 + l.length), 0⟩) := by
  obtain ⟨pre, post, rfl, rfl⟩ := h
  exact bytesN_fwd pre post l most hm hl
theorem At.word {s : ByteArray} (h : At bs p (lp 4 (sb s))) (hl : s.size <= 4194304) : jI bs ⟨p, 0⟩ = (s, ⟨p + (4 + s.size), 0⟩) := by
  obtain ⟨pre, post, rfl, rfl⟩ := h
  exact wordN_fwd pre post s hl
theorem At.val {v : Val} (h : At bs p (valB v)) (hr : jP v = 0) : jN bs ⟨p, 0⟩ = (cV v, ⟨p + (valB v).length, 0⟩) := by
  obtain ⟨pre, post, rfl, rfl⟩ := h
  exact takeVal_fwd pre post v hr
theorem At.vals {l : List Val} (h : At bs p (vM l)) (hr : ∀ v ∈ l, jP v = 0) (acc : List Val) : kb bs l.length ⟨p, 0⟩ acc = (acc ++ l.map cV, ⟨p + (vM l).length, 0⟩) := by
  obtain ⟨pre, post, rfl, rfl⟩ := h
  exact valsGo_fwd l pre post acc hr
theorem At.whole (e post : List UInt8) : At (e ++ post) 0 e := ⟨[], post, by simp, rfl⟩
theorem At.snd' {a b : List UInt8} {q : Nat} (h : At bs p (a ++ b)) (hq : q = p + a.length) : At bs q b := hq ▸ h.snd
theorem jb (s : ByteArray) : (lp 4 (sb s)).length = 4 + s.size := by rw [jL, jF]
theorem ex_fst {α β : Type} {y : α × β} {s : β} (h : y.2 = s) : ∃ x, y = (x, s) := ⟨y.1, by rw [<- h]⟩
theorem opN_at {o : Opn} {e : List UInt8} (h : At bs p e) (he : vZ o = some e) (hl : e.length <= 1048576) : 1 <= o.op /\ o.op <= 5 /\ ∃ x, opN bs o.op.toNat ⟨p, 0⟩ = (x, ⟨p + e.length, 0⟩) := by
  unfold vZ at he
  by_cases h1 : o.op = 1
  · rw [if_pos h1] at he
    cases he
    rw [List.length_append, jb, jL] at hl
    have a := h.fst.word (by omega)
    have b := (h.snd' (q := p + (4 + o.type_.size)) (by rw [jb])).bytes (most := 4194304) (by omega) (by omega)
    refine ⟨by omega, by omega, ?_⟩
    rw [h1]
    refine ex_fst ?_
    · unfold opN
      rw [if_pos (by decide), a]
      simp only
      rw [b, List.length_append, jb, jL, Nat.add_assoc]
  rw [if_neg h1] at he
  by_cases h2 : o.op = 2
  · rw [if_pos h2] at he
    cases he
    rw [List.length_append, jb, jb] at hl
    have a := h.fst.word (by omega)
    have b := (h.snd' (q := p + (4 + o.case_.size)) (by rw [jb])).word (by omega)
    refine ⟨by omega, by omega, ?_⟩
    rw [h2]
    refine ex_fst ?_
    · unfold opN
      rw [if_neg (by decide), if_pos (by decide), a]
      simp only
      rw [b, List.length_append, jb, jb, Nat.add_assoc]
  rw [if_neg h2] at he
  by_cases h3 : o.op = 3
  · rw [if_pos h3] at he
    by_cases hr : jP o.value = 0
    · rw [if_pos hr] at he
      cases he
      rw [List.append_assoc] at h hl ⊢
      rw [List.length_append, List.length_append, jb, jb] at hl
      have a := h.fst.word (by omega)
      have h' := h.snd' (q := p + (4 + o.case_.size)) (by rw [jb])
      have b := h'.fst.word (by omega)
      have c := (h'.snd' (q := p + (4 + o.case_.size) + (4 + o.name.size)) (by rw [jb])).val hr
      refine ⟨by omega, by omega, ?_⟩
      rw [h3]
      refine ex_fst ?_
      · unfold opN
        rw [if_neg (by decide), if_neg (by decide), if_pos (by decide), a]
        simp only
        rw [b]
        simp only
        rw [c, List.length_append, List.length_append, jb, jb, Nat.add_assoc, Nat.add_assoc, Nat.add_assoc]
    · rw [if_neg hr] at he; cases he
  rw [if_neg h3] at he
  by_cases h4 : o.op = 4
  · rw [if_pos h4] at he
    by_cases hr : o.args.length <= 255 /\ (o.args.all fun v => jP v == 0) = true
    · rw [if_pos hr] at he
      cases he
      have hrv : ∀ v ∈ o.args, jP v = 0 := fun v hv => by
        have := List.all_eq_true.1 hr.2 v hv
        simpa using this
      rw [show (o.args.map valB).flatten = vM o.args from rfl] at *
      rw [List.append_assoc] at h hl ⊢
      rw [List.length_append, List.length_append, jb, jb] at hl
      have a := h.fst.word (by omega)
      have h' := h.snd' (q := p + (4 + o.case_.size)) (by rw [jb])
      have b := h'.fst.word (by omega)
      have h2' := h'.snd' (q := p + (4 + o.case_.size) + (4 + o.name.size)) (by rw [jb])
      have c := h2'.fst.tk (by omega)
      have d := (h2'.snd' (q := p + (4 + o.case_.size) + (4 + o.name.size) + 1) (by rw [jC])).vals hrv []
      refine ⟨by omega, by omega, ?_⟩
      rw [h4]
      refine ex_fst ?_
      · unfold opN
        rw [if_neg (by decide), if_neg (by decide), if_neg (by decide), if_pos (by decide), a]
        simp only
        rw [b]
        simp only
        rw [c]
        simp only
        rw [d]
        simp only [List.length_append, jb, jC, Nat.add_assoc]
    · rw [if_neg hr] at he; cases he
  rw [if_neg h4] at he
  by_cases h5 : o.op = 5
  · rw [if_pos h5] at he
    cases he
    have a := h.num
    refine ⟨by omega, by omega, ?_⟩
    rw [h5]
    refine ex_fst ?_
    · unfold opN
      rw [if_neg (by decide), if_neg (by decide), if_neg (by decide), if_neg (by decide), if_pos (by decide), a, jG]
  rw [if_neg h5] at he
  cases he
theorem opN_op (k : Nat) (s : Rs) : (opN bs k s).1.op = k := by
  unfold opN
  repeat (split; · simp only; omega)
  rfl
theorem decN_at {q : Req} {e : List UInt8} (h : At bs p e) (he : jq q = some e) (hl : e.length <= 1048576) : 1 <= q.op /\ q.op <= 12 /\ ∃ x, decN bs q.op.toNat ⟨p, 0⟩ = (x, true, ⟨p + e.length, 0⟩) := by
  unfold jq at he
  by_cases h1 : q.op = 1 \/ q.op = 2
  · rw [if_pos h1, opB] at he
    cases ho : vZ q.do_ with
    | none => rw [ho] at he; cases he
    | some f =>
      rw [ho] at he
      simp only [Option.map_some, Option.some.injEq] at he
      subst he
      rw [List.length_append, jC] at hl
      obtain ⟨a, b, x, hx⟩ := opN_at (h.snd' (q := p + 1) (by rw [jC])) ho (by omega)
      have c := h.fst.tk (by omega)
      refine ⟨by omega, by omega, ?_⟩
      have hop := opN_op (bs := bs) q.do_.op.toNat ⟨p + 1, 0⟩
      rw [hx] at hop
      simp only at hop
      have hA : jv bs ⟨p, 0⟩ = (x, ⟨p + 1 + f.length, 0⟩) := by rw [jv, c]; exact hx
      unfold decN
      rw [if_pos (by omega), hA]
      refine ex_fst ?_
      rw [decide_eq_true (by simp only; omega), List.length_append, jC, Nat.add_assoc]
  rw [if_neg h1] at he
  by_cases h3 : q.op = 3
  · rw [if_pos h3] at he
    cases he
    rw [jb] at hl
    have a := h.word (by omega)
    refine ⟨by omega, by omega, ?_⟩
    rw [h3]
    refine ex_fst ?_
    · unfold decN
      rw [if_neg (by decide), if_pos (by decide), a, jb]
  rw [if_neg h3] at he
  by_cases h4 : q.op = 4
  · rw [if_pos h4] at he
    cases he
    have a := h.num
    refine ⟨by omega, by omega, ?_⟩
    rw [h4]
    refine ex_fst ?_
    · unfold decN
      rw [if_neg (by decide), if_neg (by decide), if_pos (by decide), a, jG]
  rw [if_neg h4] at he
  by_cases h5 : q.op = 5 \/ q.op = 6 \/ q.op = 7 \/ q.op = 12
  · rw [if_pos h5] at he
    cases he
    refine ⟨by omega, by omega, ?_⟩
    refine ex_fst ?_
    · unfold decN
      rw [if_neg (by omega), if_neg (by omega), if_neg (by omega), if_neg (by omega), if_neg (by omega), if_neg (by omega), if_neg (by omega), decide_eq_true (by omega)]
      rfl
  rw [if_neg h5] at he
  by_cases h8 : q.op = 8
  · rw [if_pos h8] at he
    cases he
    have a := h.fst.num
    have b := (h.snd' (q := p + 8) (by rw [jG])).num
    refine ⟨by omega, by omega, ?_⟩
    rw [h8]
    refine ex_fst ?_
    · unfold decN
      rw [if_neg (by decide), if_neg (by decide), if_neg (by decide), if_pos (by decide), a]
      simp only
      rw [b, List.length_append, jG, jG, Nat.add_assoc]
  rw [if_neg h8] at he
  by_cases h9 : q.op = 9
  · rw [if_pos h9] at he
    cases he
    have a := h.fst.num
    have b := (h.snd' (q := p + 8) (by rw [jG])).num
    refine ⟨by omega, by omega, ?_⟩
    rw [h9]
    refine ex_fst ?_
    · unfold decN
      rw [if_neg (by decide), if_neg (by decide), if_neg (by decide), if_neg (by decide), if_pos (by decide), a]
      simp only
      rw [b, List.length_append, jG, jG, Nat.add_assoc]
  rw [if_neg h9] at he
  by_cases h10 : q.op = 10
  · rw [if_pos h10] at he
    cases he
    rw [List.length_append, jb] at hl
    have a := h.fst.word (by omega)
    have b := (h.snd' (q := p + (4 + q.name.size)) (by rw [jb])).num
    refine ⟨by omega, by omega, ?_⟩
    rw [h10]
    refine ex_fst ?_
    · unfold decN
      rw [if_neg (by decide), if_neg (by decide), if_neg (by decide), if_neg (by decide), if_neg (by decide), if_pos (by decide), a]
      simp only
      rw [b, List.length_append, jb, jG, Nat.add_assoc]
  rw [if_neg h10] at he
  by_cases h11 : q.op = 11
  · rw [if_pos h11] at he
    cases he
    rw [List.length_append, jb] at hl
    have a := h.fst.word (by omega)
    have h' := h.snd' (q := p + (4 + q.name.size)) (by rw [jb])
    have b := h'.fst.num
    have c := (h'.snd' (q := p + (4 + q.name.size) + 8) (by rw [jG])).num
    refine ⟨by omega, by omega, ?_⟩
    rw [h11]
    refine ex_fst ?_
    · unfold decN
      rw [if_neg (by decide), if_neg (by decide), if_neg (by decide), if_neg (by decide), if_neg (by decide), if_neg (by decide), if_pos (by decide), a]
      simp only
      rw [b]
      simp only
      rw [c]
      simp only [List.length_append, jb, jG, Nat.add_assoc]
  rw [if_neg h11] at he
  cases he
end
theorem decReq_back {bs : List UInt8} {x : Req} (h : jS bs = some x) : jy x = some bs := by
  rw [<- readReq_eq, readReq, backL] at h
  split at h
  · rename_i hc
    cases h
    exact hc.2
  · cases h
theorem decReq_at {q : Req} {b : List UInt8} (h : jy q = some b) (post : List UInt8) :
    1 <= q.op /\ q.op <= 12 /\ ∃ x, decN (b ++ post) (tkN (b ++ post) 1 ⟨0, 0⟩).1 (tkN (b ++ post) 1 ⟨0, 0⟩).2 = (x, true, ⟨b.length, 0⟩) /\ x.op = q.op := by
  have hle := encReq_le h
  unfold jy reqB at h
  cases he : jq q with
  | none => rw [he] at h; cases h
  | some e =>
    rw [he] at h
    simp only [Option.map_some, Option.bind_some] at h
    split at h
    · injection h with h
      subst h
      have hA := At.whole (be 1 q.op.toNat ++ e) post
      rw [List.length_append, jC] at hle
      obtain ⟨h1, h2, x, hx⟩ := decN_at (hA.snd' (q := 1) (by rw [jC])) he (by omega)
      have c := hA.fst.tk (by omega)
      refine ⟨h1, h2, x, ?_, ?_⟩
      · rw [c]
        simp only [Nat.zero_add]
        rw [hx, List.length_append, jC]
      · have := decN_op (bs := be 1 q.op.toNat ++ e ++ post) q.op.toNat ⟨1, 0⟩
        rw [hx] at this
        simp only at this
        omega
    · cases h
theorem encReq_read {q : Req} {b : List UInt8} (h : jy q = some b) : ∃ x, jS b = some x /\ jy x = some b /\ x.op = q.op := by
  have hle := encReq_le h
  obtain ⟨_, _, x, hx, ho⟩ := decReq_at h []
  rw [List.append_nil] at hx
  have hd : jS b = some x := by
    rw [jS, if_neg (by omega), hx, jc, if_pos ⟨rfl, by simp [jo]⟩]
  exact ⟨x, hd, decReq_back hd, ho⟩
theorem encReq_more {q : Req} {b post : List UInt8} (h : jy q = some b) (hp : post ≠ []) : jS (b ++ post) = none := by
  obtain ⟨_, _, x, hx, _⟩ := decReq_at h post
  have hl : 0 < post.length := List.length_pos_iff.2 hp
  rw [jS]
  split
  · rfl
  · rw [hx, jc, if_neg]
    rintro ⟨_, h2⟩
    rw [jo, if_pos ⟨rfl, by simp only [List.length_append]; omega⟩] at h2
    cases h2
theorem encReq_less {q : Req} {b : List UInt8} (h : jy q = some b) (n : Nat) (hn : n < b.length) : jS (b.take n) = none := by
  cases hd : jS (b.take n) with
  | none => rfl
  | some x =>
    have h1 := encReq_more (decReq_back hd) (post := b.drop n) (by intro h0; have := congrArg List.length h0; simp at this; omega)
    rw [List.take_append_drop] at h1
    obtain ⟨y, hy, _⟩ := encReq_read h
    rw [hy] at h1
    cases h1
section
variable {bs : List UInt8}
theorem Con.done {s : Rs} {e : List UInt8} (h : Con bs ⟨0, 0⟩ s e) (hd : jo bs s = 0) : bs = e := by
  have hz : s.why = 0 /\ bs.length <= s.at_ := by
    unfold jo at hd
    split at hd
    · cases hd
    · rename_i hn
      exact ⟨hd, by by_cases h2 : bs.length <= s.at_; exact h2; exact absurd ⟨hd, by omega⟩ hn⟩
  have h2 := (h hz.1).2.1
  rw [List.drop_of_length_le (i := s.at_) (by omega), List.append_nil, List.drop_zero] at h2
  exact h2
theorem done_ok {s : Rs} (hd : jo bs s = 0) : s.why = 0 := by
  unfold jo at hd
  split at hd
  · cases hd
  · exact hd
theorem rawN_con (n : Int) (s : Rs) : Con bs s (rawN bs n s).2 (rawN bs n s).1 /\ ((rawN bs n s).2.why = 0 -> 0 <= n /\ (rawN bs n s).1.length = n.toNat) := by
  unfold rawN
  by_cases h1 : s.why ≠ 0
  · rw [if_pos h1]; exact ⟨ka h1, fun hz => absurd hz h1⟩
  · rw [if_neg h1]
    by_cases h2 : n < 0 \/ ((bs.length - s.at_ : Nat) : Int) < n
    · rw [if_pos h2]; exact ⟨ka (by simp), fun hz => by simp at hz⟩
    · rw [if_neg h2]
      refine ⟨fun _ => ⟨by simpa using h1, jj bs _ _, fun _ => by simp only; omega⟩, fun _ => ⟨by omega, ?_⟩⟩
      simp only [List.length_take, List.length_drop]
      omega
theorem yG (s : Rs) : Con bs s (digN bs s).2 (digN bs s).1 := by
  have h := rawN_con (bs := bs) 32 s
  intro hz
  have hz' : (rawN bs 32 s).2.why = 0 := hz
  have h2 := (h.2 hz').2
  have e : (digN bs s).1 = (rawN bs 32 s).1 := by
    unfold digN
    rw [if_neg (by intro h0; rw [h0] at h2; simp at h2)]
  rw [e]
  exact h.1 hz'
theorem digsL_con (p : Nat) : ∀ n, p + 32 * n <= bs.length -> bs.drop p = (yF bs p n).flatten ++ bs.drop (p + 32 * n) := by
  intro n
  induction n with
  | zero => intro _; simp [yF]
  | succ n ih =>
    intro h
    have e : yF bs p (n + 1) = yF bs p n ++ [chunk bs p n] := by simp [yF, List.range_succ]
    rw [e, List.flatten_append, List.append_assoc, ih (by omega)]
    congr 1
    rw [chunk]
    simp only [List.flatten_cons, List.flatten_nil, List.append_nil]
    exact jj bs _ 32
theorem digsN_con (n : Int) (s : Rs) : Con bs s (vX bs n s).2 (vX bs n s).1.flatten /\ ((vX bs n s).2.why = 0 -> 0 <= n /\ (vX bs n s).1.length = n.toNat /\ (s.at_ <= bs.length -> Dgs (vX bs n s).1)) := by
  unfold vX
  by_cases h1 : s.why ≠ 0
  · rw [if_pos h1]; exact ⟨ka h1, fun hz => absurd hz h1⟩
  · rw [if_neg h1]
    by_cases h2 : n < 0 \/ (((bs.length - s.at_) / 32 : Nat) : Int) < n
    · rw [if_pos h2]; exact ⟨ka (by simp), fun hz => by simp at hz⟩
    · rw [if_neg h2]
      by_cases hle : s.at_ <= bs.length
      · exact ⟨fun _ => ⟨by simpa using h1, digsL_con s.at_ n.toNat (by omega), fun _ => by simp only; omega⟩, fun _ => ⟨by omega, digsL_len _ _ _, fun _ => digsL_dgs (by omega)⟩⟩
      · have h0 : n.toNat = 0 := by omega
        refine ⟨fun _ => ⟨by simpa using h1, ?_, fun h => absurd h hle⟩, fun _ => ⟨by omega, digsL_len _ _ _, fun h => absurd h hle⟩⟩
        simp only [h0, yF, List.range_zero, List.map_nil, List.flatten_nil, List.nil_append, Nat.mul_zero, Nat.add_zero]
theorem numN_con (s : Rs) : Con bs s (numN bs s).2 (be8 (numN bs s).1) := by
  unfold numN
  simp only
  rw [be8_i64 _ (by have := kE bs 8 s; omega)]
  exact kU 8 s
theorem ptkN_con (s : Rs) : Con bs s (ptkN bs s).2.2 (be8 (ptkN bs s).1) := numN_con s
theorem begunN_con {most kind : Nat} {s : Rs} (h : kt bs most kind = some s) : Con bs ⟨0, 0⟩ s (be 1 kind) /\ s.why = 0 /\ bs.length <= most := by
  unfold kt at h
  split at h
  · cases h
  · split at h
    · rename_i hk
      cases h
      have := kU (bs := bs) 1 ⟨0, 0⟩
      rw [hk.1] at this
      exact ⟨this, hk.2, by omega⟩
    · cases h
theorem wayN_back {kind most : Nat} {f : Int -> Int -> Option Nat} {x : Way} (h : (kt bs most kind).bind (wayN bs f) = some x) : wayB kind (f x.a x.b) x.a x.b x.ds = some bs := by
  cases hb : kt bs most kind with
  | none => rw [hb] at h; cases h
  | some s =>
    rw [hb] at h
    simp only [Option.bind_some] at h
    obtain ⟨hc, hw, _⟩ := begunN_con hb
    unfold wayN at h
    split at h
    · split at h
      · cases h
      · rename_i n hf
        unfold wayEnd at h
        split at h
        · cases h
        · split at h
          · rename_i hd
            cases h
            have h1 := ptkN_con (bs := bs) s
            have h2 := ptkN_con (bs := bs) (ptkN bs s).2.2
            have h3 := digsN_con (bs := bs) n (ptkN bs (ptkN bs s).2.2).2.2
            have hall := (hc.trans (h1.trans (h2.trans h3.1))).done hd
            have hl := (h3.2 (done_ok hd)).2.1
            unfold wayB
            simp only
            rw [if_pos (by rw [hf, hl, Int.toNat_natCast]), <- hall]
          · cases h
    · cases h
theorem decInc_back {x : Way} (h : decInc bs = some x) : incB x.a x.b x.ds = some bs := wayN_back h
theorem decCon_back {x : Way} (h : decCon bs = some x) : conB x.a x.b x.ds = some bs := wayN_back h
theorem pnameN_con (s : Rs) : Con bs s (pnameN bs s).2 (lp 1 (sb (pnameN bs s).1)) := by
  unfold pnameN
  simp only
  rw [sb_mk]
  have h1 := kU (bs := bs) 1 s
  have h2 := rawN_con (bs := bs) (tkN bs 1 s).1 (tkN bs 1 s).2
  intro hz
  have hl := (h2.2 hz).2
  have := (h1.trans h2.1) hz
  rw [lp, hl, Int.toNat_natCast]
  exact this
theorem idxEnd_back {nm : ByteArray} {f : Bool} {n : Int} {d : List UInt8} {s : Rs} {x : Idx} {e : List UInt8} (hc : Con bs ⟨0, 0⟩ s e) (h : idxEnd bs nm f n d s = some x) :
    x.case_ = nm /\ x.found = f /\ x.count = n /\ x.chain = d /\ idxOk x = true /\ bs = e ++ (x.bitmap ++ x.way.flatten) := by
  unfold idxEnd at h
  split at h
  · rename_i hd
    cases h
    have h1 := yG (bs := bs) s
    have h2 := digsN_con (bs := bs) (onesN (digN bs s).1) (digN bs s).2
    exact ⟨rfl, rfl, rfl, rfl, hd.2, (hc.trans (h1.trans h2.1)).done hd.1⟩
  · cases h
theorem decIdx_back {x : Idx} (h : decIdx bs = some x) : idxB x = some bs := by
  unfold decIdx at h
  cases hb : kt bs 9000 50 with
  | none => rw [hb] at h; cases h
  | some s =>
    rw [hb] at h
    simp only [Option.bind_some] at h
    obtain ⟨hc, hw, _⟩ := begunN_con hb
    have h1 := hc.trans (pnameN_con (bs := bs) s)
    have h2 := h1.trans (flagN_con (bs := bs) (pnameN bs s).2)
    unfold idxN idxMid at h
    split at h
    · rename_i hf
      split at h
      · have h3 := h2.trans ((ptkN_con (bs := bs) (kO bs (pnameN bs s).2).2).trans (yG _))
        obtain ⟨e1, e2, e3, e4, hok, hbs⟩ := idxEnd_back h3 h
        rw [idxB, if_pos hok]
        conv => rhs; rw [hbs]
        rw [vf, e1, e2, e3, e4, hf]
        simp only [if_true, List.append_assoc]
      · cases h
    · rename_i hf
      have hf' : (kO bs (pnameN bs s).2).1 = false := by simpa using hf
      obtain ⟨e1, e2, e3, e4, hok, hbs⟩ := idxEnd_back h2 h
      rw [idxB, if_pos hok]
      conv => rhs; rw [hbs]
      rw [vf, e1, e2, hf']
      simp only [Bool.false_eq_true, if_false, List.append_assoc, List.nil_append]
end
section
variable {bs : List UInt8}
theorem bytesN_con (most : Int) (s : Rs) : Con bs s (jf bs most s).2 (lp 4 (jf bs most s).1) /\ ((jf bs most s).2.why = 0 -> ((jf bs most s).1.length : Int) <= most) := by
  unfold jf
  by_cases h1 : s.why ≠ 0
  · rw [if_pos h1]; exact ⟨ka h1, fun hz => absurd hz h1⟩
  rw [if_neg h1]
  by_cases h2 : bs.length < s.at_ + 4
  · rw [if_pos h2]; exact ⟨ka (by simp), fun hz => by simp at hz⟩
  rw [if_neg h2]
  by_cases h3 : min most 2147483647 < (ofBe ((bs.drop s.at_).take 4) : Int)
  · rw [if_pos h3]; exact ⟨ka (by simp), fun hz => by simp at hz⟩
  rw [if_neg h3]
  by_cases h4 : bs.length < s.at_ + 4 + ofBe ((bs.drop s.at_).take 4)
  · rw [if_pos h4]; exact ⟨ka (by simp), fun hz => by simp at hz⟩
  rw [if_neg h4]
  have e4 := be_take bs s.at_ 4 (by omega)
  generalize ofBe ((bs.drop s.at_).take 4) = n at *
  have hl : ((bs.drop (s.at_ + 4)).take n).length = n := by simp only [List.length_take, List.length_drop]; omega
  refine ⟨fun _ => ⟨by simpa using h1, ?_, fun _ => by simp only; omega⟩, fun _ => by simp only; rw [hl]; omega⟩
  simp only
  rw [lp, hl, e4, List.append_assoc, <- jj bs (s.at_ + 4) n]
  exact jj bs s.at_ 4
theorem wordN_con (s : Rs) : Con bs s (jI bs s).2 (lp 4 (sb (jI bs s).1)) /\ ((jI bs s).2.why = 0 -> (jI bs s).1.size <= 4194304) := by
  have h := bytesN_con (bs := bs) 4194304 s
  unfold jI
  simp only
  rw [sb_mk]
  refine ⟨h.1, fun hz => ?_⟩
  have := h.2 hz
  rw [<- jF, sb_mk]
  omega
theorem wordsGo_con (n : Nat) : ∀ (s : Rs) (acc : List ByteArray), ∃ new, (kv bs n s acc).1 = acc ++ new /\ new.length = n /\ Con bs s (kv bs n s acc).2 (lps4 new) /\ ((kv bs n s acc).2.why = 0 -> okT new = true) := by
  induction n with
  | zero => intro s acc; exact ⟨[], by simp [kv], rfl, fun hz => ⟨hz, by simp [lps4, kv], fun h => h⟩, fun _ => rfl⟩
  | succ n ih =>
    intro s acc
    obtain ⟨new, h1, h2, h3, h4⟩ := ih (jI bs s).2 (acc ++ [(jI bs s).1])
    have hv := wordN_con (bs := bs) s
    refine ⟨(jI bs s).1 :: new, by rw [kv, h1]; simp, by simp [h2], ?_, fun hz => ?_⟩
    · rw [kv]
      have := hv.1.trans h3
      simpa [lps4] using this
    · rw [kv] at hz
      have hz1 : (jI bs s).2.why = 0 := (h3 hz).1
      have h4' := h4 hz
      unfold okT at h4' ⊢
      rw [List.all_cons, h4', decide_eq_true (hv.2 hz1)]
      rfl
def namesL (l : List ByteArray) : List UInt8 := be 1 l.length ++ lps4 l
theorem listedN_con (s : Rs) : Con bs s (kF bs s).2 (namesL (kF bs s).1) /\ ((kF bs s).2.why = 0 -> vO (kF bs s).1 = some (namesL (kF bs s).1)) := by
  have h1 := kU (bs := bs) 1 s
  have hlt := kE bs 1 s
  obtain ⟨new, h2, h3, h4, h5⟩ := wordsGo_con (bs := bs) (tkN bs 1 s).1 (tkN bs 1 s).2 []
  unfold kF
  rw [h2, List.nil_append]
  refine ⟨?_, fun hz => ?_⟩
  · rw [namesL, h3]
    exact h1.trans h4
  · rw [vO, if_pos ⟨by omega, h5 hz⟩]
    rfl
theorem bindsGo_con (n : Nat) : ∀ (s : Rs) (acc : List (ByteArray × Val)), ∃ new, (vD bs n s acc).1 = acc ++ new /\ new.length = n /\ Con bs s (vD bs n s acc).2 (new.flatMap yH) /\ ((vD bs n s acc).2.why = 0 -> new.all okBind = true) := by
  induction n with
  | zero => intro s acc; exact ⟨[], by simp [vD], rfl, fun hz => ⟨hz, by simp [vD], fun h => h⟩, fun _ => rfl⟩
  | succ n ih =>
    intro s acc
    obtain ⟨new, h1, h2, h3, h4⟩ := ih (jN bs (jI bs s).2).2 (acc ++ [((jI bs s).1, (jN bs (jI bs s).2).1)])
    have hv := wordN_con (bs := bs) s
    have ht := yJ (bs := bs) (jI bs s).2
    refine ⟨((jI bs s).1, (jN bs (jI bs s).2).1) :: new, by rw [vD, h1]; simp, by simp [h2], ?_, fun hz => ?_⟩
    · rw [vD, List.flatMap_cons, yH]
      exact (hv.1.trans ht.1).trans h3
    · rw [vD] at hz
      have hz1 : (jN bs (jI bs s).2).2.why = 0 := (h3 hz).1
      have hz2 : (jI bs s).2.why = 0 := (ht.1 hz1).1
      rw [List.all_cons, h4 hz, okBind, decide_eq_true ⟨hv.2 hz2, ht.2 hz1⟩]
      rfl
theorem hapsGo_con (n : Nat) : ∀ (s : Rs) (acc : List MHap), ∃ new, (vL bs n s acc).1 = acc ++ new /\ new.length = n /\ Con bs s (vL bs n s acc).2 (new.flatMap hapB) /\ ((vL bs n s acc).2.why = 0 -> okH new = true) := by
  induction n with
  | zero => intro s acc; exact ⟨[], by simp [vL], rfl, fun hz => ⟨hz, by simp [vL], fun h => h⟩, fun _ => rfl⟩
  | succ n ih =>
    intro s acc
    obtain ⟨new, h1, h2, h3, h4⟩ := ih (jI bs (tkN bs 1 s).2).2 (acc ++ [⟨(tkN bs 1 s).1, (jI bs (tkN bs 1 s).2).1⟩])
    have hk := kU (bs := bs) 1 s
    have hlt := kE bs 1 s
    have hv := wordN_con (bs := bs) (tkN bs 1 s).2
    refine ⟨⟨(tkN bs 1 s).1, (jI bs (tkN bs 1 s).2).1⟩ :: new, by rw [vL, h1]; simp, by simp [h2], ?_, fun hz => ?_⟩
    · rw [vL, List.flatMap_cons, hapB]
      simp only [Int.toNat_natCast]
      exact (hk.trans hv.1).trans h3
    · rw [vL] at hz
      have hz1 : (jI bs (tkN bs 1 s).2).2.why = 0 := (h3 hz).1
      have h4' := h4 hz
      unfold okH at h4' ⊢
      rw [List.all_cons, h4', decide_eq_true ⟨by simp only; omega, by simp only; omega, hv.2 hz1⟩]
      rfl
theorem toldN_con (s : Rs) : ∃ e, Con bs s (toldN bs s).2 e /\ ((toldN bs s).2.why = 0 -> caseB (toldN bs s).1 = some e) := by
  have h1 := wordN_con (bs := bs) s
  unfold toldN
  generalize jI bs s = t1 at *
  have h2 := numN_con (bs := bs) t1.2
  generalize numN bs t1.2 = t2 at *
  have h3 := yG (bs := bs) t2.2
  generalize digN bs t2.2 = t3 at *
  unfold toldMid
  have h4 := kU (bs := bs) 1 t3.2
  have hlt := kE bs 1 t3.2
  generalize tkN bs 1 t3.2 = t4 at *
  obtain ⟨new, e5, l5, h5, k5⟩ := bindsGo_con (bs := bs) t4.1 t4.2 []
  generalize vD bs t4.1 t4.2 [] = t5 at *
  rw [List.nil_append] at e5
  unfold toldEnd
  have h6 := listedN_con (bs := bs) t5.2
  generalize kF bs t5.2 = t6 at *
  have h7 := listedN_con (bs := bs) t6.2
  generalize kF bs t6.2 = t7 at *
  have h8 := listedN_con (bs := bs) t7.2
  generalize kF bs t7.2 = t8 at *
  refine ⟨_, h1.1.trans (h2.trans (h3.trans (h4.trans (h5.trans (h6.1.trans (h7.1.trans h8.1)))))), fun hz => ?_⟩
  have z7 := (h8.1 hz).1
  have z6 := (h7.1 z7).1
  have z5 := (h6.1 z6).1
  have z4 := (h5 z5).1
  have z3 := (h4 z4).1
  have z2 := (h3 z3).1
  have z1 := (h2 z2).1
  rw [caseB]
  simp only
  rw [if_pos ⟨h1.2 z1, by rw [e5, l5]; omega, by rw [e5]; exact k5 z5⟩, h6.2 z6, h7.2 z7, h8.2 hz, three]
  simp only [Option.bind_some, Option.map_some, caseHead, e5, l5, List.append_assoc]
theorem signsGo_con (n : Nat) : ∀ (s : Rs) (acc : List Sgn), ∃ new, (vJ bs n s acc).1 = acc ++ new /\ new.length = n /\ Con bs s (vJ bs n s acc).2 (new.flatMap yK) := by
  induction n with
  | zero => intro s acc; exact ⟨[], by simp [vJ], rfl, fun hz => ⟨hz, by simp [vJ], fun h => h⟩⟩
  | succ n ih =>
    intro s acc
    obtain ⟨new, h1, h2, h3⟩ := ih (sgnN bs s).2 (acc ++ [(sgnN bs s).1])
    have ha := yG (bs := bs) s
    have hb := yG (bs := bs) (digN bs s).2
    refine ⟨(sgnN bs s).1 :: new, by rw [vJ, h1]; simp, by simp [h2], ?_⟩
    rw [vJ, List.flatMap_cons, yK]
    exact (ha.trans hb).trans h3
theorem be8_nat (n : Nat) (h : n < 18446744073709551616) : be8 (n : Int) = be 8 n := by
  unfold be8
  rw [show ((n : Int) % 18446744073709551616).toNat = n by omega]
theorem htakeN_con {s : Rs} {hd : Hd} (h : (htakeN bs s).1 = some hd) : Con bs s (htakeN bs s).2 (headB hd) /\ headOk hd = true := by
  have h1 := kU (bs := bs) 1 s
  unfold htakeN at *
  generalize tkN bs 1 s = t1 at *
  unfold htkN at *
  have h2 := yG (bs := bs) t1.2
  generalize digN bs t1.2 = t2 at *
  have h3 := kU (bs := bs) 8 t2.2
  generalize tkN bs 8 t2.2 = t3 at *
  have h4 := yG (bs := bs) t3.2
  generalize digN bs t3.2 = t4 at *
  have h5 := yG (bs := bs) t4.2
  generalize digN bs t4.2 = t5 at *
  have h6 := kU (bs := bs) 8 t5.2
  generalize tkN bs 8 t5.2 = t6 at *
  simp only at h ⊢
  split at h
  · rename_i hc
    cases h
    refine ⟨?_, decide_eq_true ⟨by simp only; omega, by simp only; omega, by simp only; omega, by simp only; omega⟩⟩
    have := h1.trans (h2.trans (h3.trans (h4.trans (h5.trans h6))))
    rw [hc.2.1] at this
    rw [headB]
    simp only
    rw [be8_nat _ (by omega), be8_nat _ (by omega)]
    exact this
  · cases h
theorem sortS_of_rise {l : List Sgn} (h : riseK (l.map (·.key)) = true) : sortS l = l := by
  have h1 := (riseK_iff l).1 h
  exact (yB l (sortS l) (sortS_perm l).symm h1 (sortS_sorted l)).symm
theorem decNote_back {x : Hd × List Sgn} (h : ke bs = some x) : noteB x.1 x.2 = some bs := by
  unfold ke at h
  have h1 := kU (bs := bs) 1 ⟨0, 0⟩
  generalize tkN bs 1 ⟨0, 0⟩ = t1 at *
  have h2 := fun hd => htakeN_con (bs := bs) (s := t1.2) (hd := hd)
  generalize htakeN bs t1.2 = t2 at *
  unfold noteN at h
  split at h
  · cases h
  · rename_i hd he
    obtain ⟨h3, hok⟩ := h2 hd he
    have h4 := kU (bs := bs) 1 t2.2
    generalize tkN bs 1 t2.2 = t3 at *
    split at h
    · rename_i hc
      unfold noteEnd at h
      obtain ⟨new, e5, l5, h5⟩ := signsGo_con (bs := bs) t3.1 t3.2 []
      generalize vJ bs t3.1 t3.2 [] = t4 at *
      rw [List.nil_append] at e5
      split at h
      · rename_i hd5
        cases h
        rw [e5] at hd5 ⊢
        have hs := sortS_of_rise hd5.2
        have hall := (h1.trans (h3.trans (h4.trans h5))).done hd5.1
        rw [hc.1] at hall
        rw [noteB]
        simp only
        rw [hs, if_pos ⟨hok, by omega, by omega, hd5.2⟩, l5, <- hall]
      · cases h
    · cases h
end
end Go.Proofs.YtnaolhjbapgjgaaGreat
