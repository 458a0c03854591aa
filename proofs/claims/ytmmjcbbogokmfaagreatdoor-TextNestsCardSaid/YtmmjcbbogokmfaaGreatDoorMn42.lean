import Derived.Test.YtmmjcbbogokmfaaGreatDoorMn01
import Derived.Test.YtmmjcbbogokmfaaGreatDoorMn04
/- The machine over bytes step by step, plain: many steps; words, blanks and signs with any bytes behind them. -/
namespace Go.Proofs.YtmmjcbbogokmfaaGreatDoor

/-- the machine goes on from one place to another -/
inductive Goes : Mc → List UInt8 → Mc → List UInt8 → Prop
  | refl (m : Mc) (l : List UInt8) : Goes m l m l
  | step {m m1 m' : Mc} {c : UInt8} {l l' : List UInt8} : stepN m (c :: l) = .ok m1 → Goes m1 ((c :: l).drop (m1.at_ - m.at_)) m' l' → Goes m (c :: l) m' l'
theorem Goes.trans {m m1 m2 : Mc} {l l1 l2 : List UInt8} (h : Goes m l m1 l1) (k : Goes m1 l1 m2 l2) : Goes m l m2 l2 := by
  induction h with
  | refl => exact k
  | step h1 _ ih => exact .step h1 (ih k)
theorem goes_run {src : List UInt8} {m m' : Mc} {l l' : List UInt8} (h : Goes m l m' l') : src.drop m.at_ = l → m.at_ ≤ src.length → ∀ f, src.length - m.at_ + 1 ≤ f → src.drop m'.at_ = l' ∧ m'.at_ ≤ src.length ∧ ∃ g, src.length - m'.at_ + 1 ≤ g ∧ runN src f m = runN src g m' := by
  induction h with
  | refl m l => exact fun hd hl f hf => ⟨hd, hl, f, hf, rfl⟩
  | @step m m1 m' c l l' h1 _ ih =>
    intro hd hl f hf
    have hlen : src.length - m.at_ = (c :: l).length := by rw [← hd, List.length_drop]
    have hc : (c :: l).length = l.length + 1 := rfl
    have on := stepN_on h1
    obtain ⟨f, rfl⟩ : ∃ f', f = f' + 1 := ⟨f - 1, by omega⟩
    have hd1 : src.drop m1.at_ = (c :: l).drop (m1.at_ - m.at_) := by rw [← hd, List.drop_drop]; congr 1; omega
    obtain ⟨e1, e2, g, hg, e3⟩ := ih hd1 (by omega) f (by omega)
    refine ⟨e1, e2, g, hg, ?_⟩
    rw [runN, if_neg (by omega), hd, h1]
    exact e3
theorem begun_goes {src : List UInt8} {m : Mc} (h : Goes startM src m []) : begunN src = .ok m := by
  obtain ⟨e1, e2, g, hg, e⟩ := goes_run (src := src) h rfl (Nat.zero_le _) (src.length + 1) (by have : startM.at_ = 0 := rfl; omega)
  unfold begunN
  rw [e]
  have : src.length ≤ m.at_ := by
    have := congrArg List.length e1
    rw [List.length_drop, List.length_nil] at this
    omega
  cases g with
  | zero => rfl
  | succ g => rw [runN, if_pos this]
theorem begun_wrong {src : List UInt8} {m : Mc} {c : UInt8} {l : List UInt8} {k : Nat} (h : Goes startM src m (c :: l)) (hk : stepN m (c :: l) = .error k) : begunN src = .error k := by
  obtain ⟨e1, e2, g, hg, e⟩ := goes_run (src := src) h rfl (Nat.zero_le _) (src.length + 1) (by have : startM.at_ = 0 := rfl; omega)
  unfold begunN
  rw [e]
  have hlen : src.length - m.at_ = (c :: l).length := by rw [← e1, List.length_drop]
  have hc : (c :: l).length = l.length + 1 := rfl
  obtain ⟨g, rfl⟩ : ∃ g', g = g' + 1 := ⟨g - 1, by omega⟩
  rw [runN, if_neg (by omega), e1, hk]
theorem mayN_more (t : Nat) : ∀ (l m : List Nat), mayN t l = true → mayN t (l ++ m) = true
  | [], m, h => by cases h
  | n :: l, m, h => by
    rw [List.cons_append, mayN]
    rw [mayN] at h
    split at h
    · rename_i hb
      rw [if_pos hb]
    · rename_i hb
      rw [if_neg hb]
      split at h
      · rename_i he
        rw [if_pos he]
        exact mayN_more t l m h
      · cases h
theorem mayN_skips (t : Nat) : ∀ (l m : List Nat), (l.all fun n => !beginsN n t && emptyN n) = true → mayN t (l ++ m) = mayN t m
  | [], m, _ => rfl
  | n :: l, m, h => by
    rw [List.all_cons, Bool.and_eq_true, Bool.and_eq_true, Bool.not_eq_true'] at h
    rw [List.cons_append, mayN, if_neg (by rw [h.1.1]; decide), if_pos h.1.2]
    exact mayN_skips t l m h.2
theorem mayN_stop (t n : Nat) (l : List Nat) (h : beginsN n t = false) (k : emptyN n = false) : mayN t (n :: l) = false := by
  rw [mayN, if_neg (by rw [h]; decide), if_neg (by rw [k]; decide)]
theorem takeN_big {t : Nat} {l k : List Nat} (h : takeN t 30 l = some k) (m : List Nat) : takeN t ((l ++ m).length + 100) (l ++ m) = some (k ++ m) :=
  takeN_fuel t 30 _ _ _ (by omega) (takeN_more t 30 l k m h)
theorem taken_of {t : Nat} {m : Mc} {k : Nat} {s : List Nat} (h : takeN t (m.stack.length + 100) m.stack = some s) : taken t m k = .ok { m with at_ := k, stack := s } := by
  unfold taken
  rw [h]
/-- a blank -/
theorem step_blank (m : Mc) (c : UInt8) (l : List UInt8) (h : blankC c = true) : stepN m (c :: l) = .ok { m with at_ := m.at_ + 1 } := by
  rw [stepN, if_pos h]
/-- a sign of one byte, that begins none of two -/
theorem step_sign (m : Mc) (c : UInt8) (l : List UInt8) (t : Nat) (a k s : List Nat) (hb : blankC c = false) (h5 : ¬ c.toNat = 35) (h4 : ¬ c.toNat = 34) (hw : wordC c = false) (h1 : signN [c] = t) (h0 : t ≠ 0) (h2 : signN [c, 61] = 0)
    (hs : m.stack = a ++ s) (hm : mayN t a = true) (ht : takeN t 30 a = some k) : stepN m (c :: l) = .ok ⟨m.at_ + 1, k ++ s, m.fin, m.at_⟩ := by
  rw [stepN, if_neg (by rw [hb]; decide), if_neg h5, if_neg h4, if_neg (by rw [hw]; decide)]
  unfold signStep
  simp only [h1, h2]
  rw [if_pos ⟨h0, by rw [hs]; exact mayN_more t a s hm⟩, if_neg (fun e => e.1 rfl), taken_of (s := k ++ s) (by show takeN t (m.stack.length + 100) m.stack = _; rw [hs]; exact takeN_big ht s)]
/-- a sign that may not come -/
theorem step_wrong (m : Mc) (c : UInt8) (l : List UInt8) (t : Nat) (hb : blankC c = false) (h5 : ¬ c.toNat = 35) (h4 : ¬ c.toNat = 34) (hw : wordC c = false) (h1 : signN [c] = t) (h2 : signN [c, 61] = 0) (hm : mayN t m.stack = false) : stepN m (c :: l) = .error m.at_ := by
  rw [stepN, if_neg (by rw [hb]; decide), if_neg h5, if_neg h4, if_neg (by rw [hw]; decide)]
  unfold signStep
  simp only [h1, h2]
  rw [if_neg (fun e => by rw [hm] at e; exact absurd e.2 (by decide)), if_pos (.inl trivial)]
theorem takeWhile_word : ∀ (w : List UInt8) (c : UInt8) (l : List UInt8), w.all wordC = true → wordC c = false → (w ++ c :: l).takeWhile wordC = w
  | [], c, l, _, hc => by rw [List.nil_append, List.takeWhile_cons, if_neg (by rw [hc]; decide)]
  | a :: w, c, l, h, hc => by
    rw [List.all_cons, Bool.and_eq_true] at h
    rw [List.cons_append, List.takeWhile_cons, if_pos h.1, takeWhile_word w c l h.2 hc]
theorem word_byte {c : UInt8} (h : wordC c = true) : blankC c = false ∧ ¬ c.toNat = 35 ∧ ¬ c.toNat = 34 := by
  unfold wordC letC digC at h
  simp only [Bool.or_eq_true, decide_eq_true_eq] at h
  refine ⟨decide_eq_false ?_, ?_, ?_⟩ <;> omega
/-- a word with another byte behind it -/
theorem step_word (m : Mc) (x : UInt8) (w : List UInt8) (c : UInt8) (l : List UInt8) (t : Nat) (a k s : List Nat) (hw : (x :: w).all wordC = true) (hc : wordC c = false) (hp : properB (x :: w) = true) (hn : namedN (x :: w) = t)
    (hs : m.stack = a ++ s) (hm : mayN t a = true) (ht : takeN t 30 a = some k) : stepN m ((x :: w) ++ c :: l) = .ok ⟨m.at_ + (x :: w).length, k ++ s, m.fin, m.at_⟩ := by
  have hx : wordC x = true := by rw [List.all_cons, Bool.and_eq_true] at hw; exact hw.1
  obtain ⟨b1, b2, b3⟩ := word_byte hx
  rw [List.cons_append, stepN, if_neg (by rw [b1]; decide), if_neg b2, if_neg b3, if_pos hx]
  unfold wordStep
  rw [show (x :: (w ++ c :: l)).takeWhile wordC = x :: w from takeWhile_word (x :: w) c l hw hc]
  simp only [hn]
  rw [if_pos ⟨by simp only [List.length_cons, List.length_append]; omega, hp, by rw [hs]; exact mayN_more t a s hm⟩, taken_of (s := k ++ s) (by show takeN t (m.stack.length + 100) m.stack = _; rw [hs]; exact takeN_big ht s)]
/-- an integer's digit at the end of all bytes -/
theorem step_last (m : Mc) (a s : List Nat) (hs : m.stack = a ++ s) (hm : mayN 2 a = true) : stepN m [48] = .ok ⟨m.at_ + 1, m.stack, 2, m.at_⟩ := by
  rw [stepN, if_neg (by decide), if_neg (by decide), if_neg (by decide), if_pos (by decide)]
  unfold wordStep
  rw [show ([48] : List UInt8).takeWhile wordC = [48] by decide]
  simp only
  rw [if_neg (fun e => absurd e.1 (by decide))]
  unfold spellN
  have h2 : mayN 2 m.stack = true := by rw [hs]; exact mayN_more 2 a s hm
  simp only [h2]
  rw [spellGo, if_neg (by decide)]
  have hf : fitsB (mayN 1 m.stack) true (wordsN m.stack resL 0) ([] ++ [48]) = true := by
    unfold fitsB
    rw [show startsIntB ([] ++ [48]) = true by decide]
    simp
  rw [if_pos hf, spellGo]
  rfl
theorem Goes.one {m m1 m' : Mc} {l0 l l' : List UInt8} (n : Nat) (h : stepN m l0 = .ok m1) (hn : m1.at_ = m.at_ + n) (h0 : l0 ≠ []) (hl : l0.drop n = l) (k : Goes m1 l m' l') : Goes m l0 m' l' := by
  cases l0 with
  | nil => exact absurd rfl h0
  | cons c l1 => exact .step h (by rw [hn, Nat.add_sub_cancel_left, hl]; exact k)
end Go.Proofs.YtmmjcbbogokmfaaGreatDoor

/- Brackets within one another, plain: the machine, what is wanting. -/
namespace Go.Proofs.YtmmjcbbogokmfaaGreatDoor

/-- a row of rows alike -/
def reps (x : List UInt8) : Nat → List UInt8
  | 0 => []
  | n + 1 => x ++ reps x n
theorem reps_len (x : List UInt8) : ∀ n, (reps x n).length = n * x.length
  | 0 => by rw [reps, Nat.zero_mul]; rfl
  | n + 1 => by rw [reps, List.length_append, reps_len x n, Nat.succ_mul]; omega
theorem reps_snoc (x : List UInt8) : ∀ n, reps x n ++ x = x ++ reps x n
  | 0 => by rw [reps, List.nil_append, List.append_nil]
  | n + 1 => by rw [reps, List.append_assoc, reps_snoc x n]
theorem reps_add (x : List UInt8) (m : Nat) : ∀ n, reps x (n + m) = reps x n ++ reps x m
  | 0 => by rw [Nat.zero_add, reps, List.nil_append]
  | n + 1 => by rw [Nat.succ_add, reps, reps, reps_add x m n, List.append_assoc]
/-- a milestone's guard begins -/
def pre9 : List UInt8 := [116, 121, 112, 101, 32, 97, 123, 109, 105, 108, 101, 115, 116, 111, 110, 101, 32, 97, 32, 114, 101, 97, 99, 104, 101, 100, 32, 119, 104, 101, 110, 32]
def endS : List Nat := [9, 58, 5]
theorem pre_goes (l : List UInt8) : Goes startM (pre9 ++ l) ⟨32, 69 :: endS, 0, 27⟩ l := by
  have s1 := step_word startM 116 [121, 112, 101] 32 (pre9.drop 5 ++ l) 23 [23] [] [1, 4, 58, 5] (by decide) (by decide) (by decide) (by decide) rfl (by decide) (by decide)
  refine Goes.one 4 s1 rfl (List.cons_ne_nil _ _) rfl ?_
  refine Goes.one 1 (step_blank _ 32 (pre9.drop 5 ++ l) (by decide)) rfl (List.cons_ne_nil _ _) rfl ?_
  have s2 := step_word ⟨5, [1, 4, 58, 5], 0, 0⟩ 97 [] 123 (pre9.drop 7 ++ l) 1 [1] [] [4, 58, 5] (by decide) (by decide) (by decide) (by decide) rfl (by decide) (by decide)
  refine Goes.one 1 s2 rfl (List.cons_ne_nil _ _) rfl ?_
  have s3 := step_sign ⟨6, [4, 58, 5], 0, 5⟩ 123 (pre9.drop 7 ++ l) 4 [4] [] [58, 5] (by decide) (by decide) (by decide) (by decide) (by decide) (by decide) (by decide) rfl (by decide) (by decide)
  refine Goes.one 1 s3 rfl (List.cons_ne_nil _ _) rfl ?_
  have s4 := step_word ⟨7, [58, 5], 0, 6⟩ 109 [105, 108, 101, 115, 116, 111, 110, 101] 32 (pre9.drop 17 ++ l) 26 [58] [1, 63, 31, 32, 69, 9, 58] [5] (by decide) (by decide) (by decide) (by decide) rfl (by decide) (by decide)
  refine Goes.one 9 s4 rfl (List.cons_ne_nil _ _) rfl ?_
  refine Goes.one 1 (step_blank _ 32 (pre9.drop 17 ++ l) (by decide)) rfl (List.cons_ne_nil _ _) rfl ?_
  have s5 := step_word ⟨17, [1, 63, 31, 32, 69, 9, 58, 5], 0, 7⟩ 97 [] 32 (pre9.drop 19 ++ l) 1 [1] [] [63, 31, 32, 69, 9, 58, 5] (by decide) (by decide) (by decide) (by decide) rfl (by decide) (by decide)
  refine Goes.one 1 s5 rfl (List.cons_ne_nil _ _) rfl ?_
  refine Goes.one 1 (step_blank _ 32 (pre9.drop 19 ++ l) (by decide)) rfl (List.cons_ne_nil _ _) rfl ?_
  have s6 := step_word ⟨19, [63, 31, 32, 69, 9, 58, 5], 0, 17⟩ 114 [101, 97, 99, 104, 101, 100] 32 (pre9.drop 27 ++ l) 31 [63, 31] [] [32, 69, 9, 58, 5] (by decide) (by decide) (by decide) (by decide) rfl (by decide) (by decide)
  refine Goes.one 7 s6 rfl (List.cons_ne_nil _ _) rfl ?_
  refine Goes.one 1 (step_blank _ 32 (pre9.drop 27 ++ l) (by decide)) rfl (List.cons_ne_nil _ _) rfl ?_
  have s7 := step_word ⟨27, [32, 69, 9, 58, 5], 0, 19⟩ 119 [104, 101, 110] 32 l 32 [32] [] [69, 9, 58, 5] (by decide) (by decide) (by decide) (by decide) rfl (by decide) (by decide)
  refine Goes.one 4 s7 rfl (List.cons_ne_nil _ _) rfl ?_
  refine Goes.one 1 (step_blank _ 32 l (by decide)) rfl (List.cons_ne_nil _ _) rfl ?_
  exact .refl _ _
/-- a kind of bracket: its symbols, what the machine's stack holds behind n of them -/
structure Brk where
  opn : UInt8
  cls : UInt8
  o : Nat
  s : Nat
  X : Nat → Nat
  Z : Nat → List Nat
def Brk.U (b : Brk) : Nat → List Nat
  | 0 => endS
  | n + 1 => b.s :: (b.Z n ++ b.U n)
structure Brk.Ok (b : Brk) : Prop where
  ob : blankC b.opn = false ∧ ¬ b.opn.toNat = 35 ∧ ¬ b.opn.toNat = 34 ∧ wordC b.opn = false ∧ signN [b.opn] = b.o ∧ b.o ≠ 0 ∧ signN [b.opn, 61] = 0
  cb : blankC b.cls = false ∧ ¬ b.cls.toNat = 35 ∧ ¬ b.cls.toNat = 34 ∧ wordC b.cls = false ∧ signN [b.cls] = b.s ∧ b.s ≠ 0 ∧ signN [b.cls, 61] = 0
  x0 : b.X 0 = 69
  on : ∀ n, mayN b.o [b.X n] = true ∧ takeN b.o 30 [b.X n] = some (b.X (n + 1) :: b.s :: b.Z n)
  zero : ∀ n, mayN 2 [b.X n] = true ∧ takeN 2 30 [b.X n] = some (b.Z n)
  shut : ∀ n, mayN b.s (b.Z n ++ [b.s]) = true ∧ takeN b.s 30 (b.Z n ++ [b.s]) = some []
  skip : ∀ n, (b.Z n).all emptyN = true
  z0 : mayN 9 (b.Z 0 ++ [9]) = true ∧ takeN 9 30 (b.Z 0 ++ [9]) = some [] ∧ mayN b.s (b.Z 0 ++ endS) = false
  sp : emptyN b.s = false ∧ b.s < 23 ∧ ¬ b.s = 1 ∧ ¬ b.s = 2 ∧ ¬ b.s = 3 ∧ signL.getD (b.s - 4) [] = [b.cls]
def rnd : Brk := ⟨40, 41, 6, 7, fun _ => 69, fun _ => [80, 78, 76, 73, 71]⟩
def crl : Brk := ⟨123, 125, 4, 5, fun n => if n = 0 then 69 else 83, fun n => if n = 0 then [80, 78, 76, 73, 71] else [80, 78, 76, 73, 71, 84]⟩
theorem rnd_ok : rnd.Ok := ⟨by decide, by decide, rfl, fun _ => (by decide : mayN 6 [69] = true ∧ takeN 6 30 [69] = some (69 :: 7 :: [80, 78, 76, 73, 71])), fun _ => (by decide : mayN 2 [69] = true ∧ takeN 2 30 [69] = some [80, 78, 76, 73, 71]), fun _ => (by decide : mayN 7 ([80, 78, 76, 73, 71] ++ [7]) = true ∧ takeN 7 30 ([80, 78, 76, 73, 71] ++ [7]) = some []), fun _ => (by decide : ([80, 78, 76, 73, 71] : List Nat).all emptyN = true), by decide, by decide⟩
theorem crl_ok : crl.Ok := by
  have e : ∀ n, crl.X (n + 1) = 83 ∧ crl.Z (n + 1) = [80, 78, 76, 73, 71, 84] := fun n => ⟨rfl, rfl⟩
  refine ⟨by decide, by decide, rfl, fun n => ?_, fun n => ?_, fun n => ?_, fun n => ?_, by decide, by decide⟩
  all_goals
    cases n with
    | zero => decide
    | succ n =>
      first
        | (rw [(e n).1, (e (n + 1)).1, (e n).2]; decide)
        | (rw [(e n).1, (e n).2]; decide)
        | (rw [(e n).2]; decide)
theorem opens_go {b : Brk} (hb : b.Ok) : ∀ (n k p fin from_ : Nat) (l : List UInt8), ∃ fr, Goes ⟨p, b.X k :: b.U k, fin, from_⟩ (reps [b.opn] n ++ l) ⟨p + n, b.X (k + n) :: b.U (k + n), fin, fr⟩ l
  | 0, k, p, fin, from_, l => ⟨from_, .refl _ _⟩
  | n + 1, k, p, fin, from_, l => by
    obtain ⟨h1, h2, h3, h4, h5, h6, h7⟩ := hb.ob
    have s1 := step_sign ⟨p, b.X k :: b.U k, fin, from_⟩ b.opn (reps [b.opn] n ++ l) b.o [b.X k] _ (b.U k) h1 h2 h3 h4 h5 h6 h7 rfl (hb.on k).1 (hb.on k).2
    obtain ⟨fr, g⟩ := opens_go hb n (k + 1) (p + 1) fin p l
    refine ⟨fr, Goes.one (l0 := b.opn :: (reps [b.opn] n ++ l)) 1 s1 rfl (List.cons_ne_nil _ _) rfl ?_⟩
    rw [show p + (n + 1) = p + 1 + n by omega, show k + (n + 1) = k + 1 + n by omega]
    exact g
theorem zero_step {b : Brk} (hb : b.Ok) (n p fin from_ : Nat) (c : UInt8) (l : List UInt8) (hc : wordC c = false) : stepN ⟨p, b.X n :: b.U n, fin, from_⟩ (48 :: c :: l) = .ok ⟨p + 1, b.Z n ++ b.U n, fin, p⟩ :=
  step_word ⟨p, b.X n :: b.U n, fin, from_⟩ 48 [] c l 2 [b.X n] _ (b.U n) (by decide) hc (by decide) (by decide) rfl (hb.zero n).1 (hb.zero n).2
theorem shuts_go {b : Brk} (hb : b.Ok) : ∀ (m k p fin from_ : Nat) (l : List UInt8), ∃ fr, Goes ⟨p, b.Z (k + m) ++ b.U (k + m), fin, from_⟩ (reps [b.cls] m ++ l) ⟨p + m, b.Z k ++ b.U k, fin, fr⟩ l
  | 0, k, p, fin, from_, l => ⟨from_, .refl _ _⟩
  | m + 1, k, p, fin, from_, l => by
    obtain ⟨h1, h2, h3, h4, h5, h6, h7⟩ := hb.cb
    have s1 := step_sign ⟨p, b.Z (k + (m + 1)) ++ b.U (k + (m + 1)), fin, from_⟩ b.cls (reps [b.cls] m ++ l) b.s (b.Z (k + (m + 1)) ++ [b.s]) _ (b.Z (k + m) ++ b.U (k + m)) h1 h2 h3 h4 h5 h6 h7 (by
      show b.Z (k + (m + 1)) ++ b.U (k + m + 1) = _
      rw [Brk.U, List.append_assoc]
      rfl) (hb.shut _).1 (hb.shut _).2
    obtain ⟨fr, g⟩ := shuts_go hb m k (p + 1) fin p l
    refine ⟨fr, Goes.one (l0 := b.cls :: (reps [b.cls] m ++ l)) 1 s1 rfl (List.cons_ne_nil _ _) rfl ?_⟩
    rw [show p + (m + 1) = p + 1 + m by omega]
    exact g
theorem rest_skip : ∀ (l m : List Nat), l.all emptyN = true → restN (l ++ m) = restN m
  | [], m, _ => rfl
  | n :: l, m, h => by
    rw [List.all_cons, Bool.and_eq_true] at h
    show beforeN n (restN (l ++ m)) = _
    rw [rest_skip l m h.2]
    unfold beforeN
    rw [if_pos h.1]
theorem rest_U {b : Brk} (hb : b.Ok) : ∀ n, (restN (b.U n)).2 = reps [b.cls] n ++ [59, 125] ∧ (restN (b.U n)).1 = (restN (b.U n)).2
  | 0 => (by decide : (restN endS).2 = reps [0] 0 ++ [59, 125] ∧ (restN endS).1 = (restN endS).2)
  | n + 1 => by
    have hs0 := hb.cb.2.2.2.2.2.1
    obtain ⟨h1, h2, h3, h4, h5, h6⟩ := hb.sp
    have e : restN (b.U (n + 1)) = beforeN b.s (restN (b.U n)) := by
      show beforeN b.s (restN (b.Z n ++ b.U n)) = _
      rw [rest_skip _ _ (hb.skip n)]
    have hsp : spelledN b.s = [b.cls] := by
      unfold spelledN
      rw [if_neg h3, if_neg h4, if_neg h5, if_pos h2, h6]
    have hw : wordedB b.s = false := by unfold wordedB; exact decide_eq_false (by omega)
    rw [e]
    unfold beforeN
    rw [if_neg (by rw [h1]; decide), if_neg (by omega), if_neg (by omega), if_neg (by rw [hw]; decide), hsp, (rest_U hb n).1]
    exact ⟨rfl, rfl⟩
theorem tries_none (st : List Nat) : ∀ (l : List (List UInt8)) (i : Nat) (best : List UInt8), (l.all fun r => !([48] : List UInt8).isPrefixOf r) = true → triesN st [48] l i best = best
  | [], i, best, _ => rfl
  | r :: l, i, best, h => by
    rw [List.all_cons, Bool.and_eq_true, Bool.not_eq_true'] at h
    rw [triesN, if_neg (by rw [h.1]; decide)]
    exact tries_none st l _ _ h.2
/-- a digit that all bytes end in -/
theorem wordEnd_zero (st : List Nat) (hm : mayN 2 st = true) : wordEnd st [48] = (restN (withN 2 st)).1 := by
  unfold wordEnd
  simp only [tries_none st resL 0 [] (by decide)]
  rw [if_pos (by decide)]
  unfold tryN
  rw [if_pos hm, List.nil_append]
  simp
/-- opening brackets, a digit, closing ones -/
def nestB (b : Brk) (n m : Nat) : List UInt8 := pre9 ++ (reps [b.opn] n ++ (48 :: reps [b.cls] m))
theorem nest_len {b : Brk} (n m : Nat) : (nestB b n m).length = 33 + n + m := by
  unfold nestB
  rw [List.length_append, List.length_append, List.length_cons, reps_len, reps_len]
  show 32 + (n * 1 + (m * 1 + 1)) = _
  omega
/-- some closing ones are wanting -/
theorem nest_goes {b : Brk} (hb : b.Ok) (n k : Nat) : ∃ fr, Goes startM (nestB b (k + (n + 1)) (n + 1)) ⟨33 + (k + (n + 1)) + (n + 1), b.Z k ++ b.U k, 0, fr⟩ [] := by
  have h0 := pre_goes (reps [b.opn] (k + (n + 1)) ++ (48 :: reps [b.cls] (n + 1)))
  obtain ⟨f1, h1⟩ := opens_go hb (k + (n + 1)) 0 32 0 27 (48 :: reps [b.cls] (n + 1))
  rw [hb.x0, Nat.zero_add] at h1
  have s2 := zero_step hb (k + (n + 1)) (32 + (k + (n + 1))) 0 f1 b.cls (reps [b.cls] n) hb.cb.2.2.2.1
  obtain ⟨f3, h3⟩ := shuts_go hb (n + 1) k (32 + (k + (n + 1)) + 1) 0 (32 + (k + (n + 1))) []
  rw [List.append_nil] at h3
  refine ⟨f3, h0.trans (h1.trans (Goes.one (l0 := 48 :: b.cls :: reps [b.cls] n) 1 s2 rfl (List.cons_ne_nil _ _) rfl ?_))⟩
  rw [show 33 + (k + (n + 1)) + (n + 1) = 32 + (k + (n + 1)) + 1 + (n + 1) by omega]
  exact h3
/-- none is closed -/
theorem nest_goes0 {b : Brk} (hb : b.Ok) (n : Nat) : ∃ fr, Goes startM (nestB b n 0) ⟨33 + n, b.X n :: b.U n, 2, fr⟩ [] ∧ fr = 32 + n := by
  have h0 := pre_goes (reps [b.opn] n ++ [48])
  obtain ⟨f1, h1⟩ := opens_go hb n 0 32 0 27 [48]
  rw [hb.x0, Nat.zero_add] at h1
  have s2 := step_last ⟨32 + n, b.X n :: b.U n, 0, f1⟩ [b.X n] (b.U n) rfl (hb.zero n).1
  refine ⟨32 + n, h0.trans (h1.trans (Goes.one (l0 := [48]) 1 s2 rfl (List.cons_ne_nil _ _) rfl ?_)), rfl⟩
  rw [show 33 + n = 32 + n + 1 by omega]
  exact .refl _ _
theorem nest_begun {b : Brk} (hb : b.Ok) (n m : Nat) (h : m ≤ n) : ∃ mc, begunN (nestB b n m) = .ok mc ∧ mc.stack ≠ [] ∧ finishedN (nestB b n m) mc = reps [b.cls] (n - m) ++ [59, 125] := by
  have hne : ∀ k, b.U k ≠ [] := fun k => by cases k <;> simp [Brk.U, endS]
  cases m with
  | zero =>
    obtain ⟨fr, g, e⟩ := nest_goes0 hb n
    refine ⟨_, begun_goes g, by simp, ?_⟩
    subst e
    unfold finishedN
    simp only
    rw [if_neg (by decide), if_pos trivial]
    have hd : (nestB b n 0).drop (32 + n) = [48] := by
      unfold nestB
      rw [← List.append_assoc, List.drop_append_of_le_length (by rw [List.length_append, reps_len]; show 32 + n ≤ 32 + n * 1; omega), List.drop_of_length_le (by rw [List.length_append, reps_len]; show 32 + n * 1 ≤ 32 + n; omega)]
      rfl
    rw [hd, wordEnd_zero (b.X n :: b.U n) (mayN_more 2 [b.X n] (b.U n) (hb.zero n).1)]
    have hw : withN 2 (b.X n :: b.U n) = b.Z n ++ b.U n := by
      unfold withN
      rw [show b.X n :: b.U n = [b.X n] ++ b.U n from rfl, takeN_big (hb.zero n).2 (b.U n)]
      rfl
    rw [hw, rest_skip _ _ (hb.skip n), (rest_U hb n).2, (rest_U hb n).1, Nat.sub_zero]
  | succ m =>
    obtain ⟨k, rfl⟩ : ∃ k, n = k + (m + 1) := ⟨n - (m + 1), by omega⟩
    obtain ⟨fr, g⟩ := nest_goes hb m k
    refine ⟨_, begun_goes g, by simp [hne], ?_⟩
    unfold finishedN
    simp only
    rw [if_neg (by decide), if_neg (by decide), if_neg (by decide), if_neg (by decide), if_neg (by decide), if_neg (by decide), if_neg (by decide), rest_skip _ _ (hb.skip k), (rest_U hb k).1, Nat.add_sub_cancel]
/-- a closing one too many -/
theorem nest_wrong {b : Brk} (hb : b.Ok) (n m : Nat) (h : n < m) : begunN (nestB b n m) = .error (33 + n + n) := by
  obtain ⟨j, rfl⟩ : ∃ j, m = n + (j + 1) := ⟨m - n - 1, by omega⟩
  obtain ⟨h1, h2, h3, h4, h5, h6, h7⟩ := hb.cb
  have h0 := pre_goes (reps [b.opn] n ++ (48 :: reps [b.cls] (n + (j + 1))))
  obtain ⟨f1, g1⟩ := opens_go hb n 0 32 0 27 (48 :: reps [b.cls] (n + (j + 1)))
  rw [hb.x0, Nat.zero_add] at g1
  have e : reps [b.cls] (n + (j + 1)) = b.cls :: reps [b.cls] (n + j) := rfl
  have s2 := zero_step hb n (32 + n) 0 f1 b.cls (reps [b.cls] (n + j)) h4
  obtain ⟨f3, g3⟩ := shuts_go hb n 0 (32 + n + 1) 0 (32 + n) (b.cls :: reps [b.cls] j)
  rw [Nat.zero_add, show reps [b.cls] n ++ b.cls :: reps [b.cls] j = reps [b.cls] (n + (j + 1)) from (reps_add [b.cls] (j + 1) n).symm] at g3
  have g := h0.trans (g1.trans (Goes.one (l0 := 48 :: b.cls :: reps [b.cls] (n + j)) 1 s2 rfl (by simp) (by rw [e]; rfl) g3))
  have s4 := step_wrong ⟨32 + n + 1 + n, b.Z 0 ++ b.U 0, 0, f3⟩ b.cls (reps [b.cls] j) b.s h1 h2 h3 h4 h5 h7 hb.z0.2.2
  rw [show 33 + n + n = 32 + n + 1 + n by omega]
  exact begun_wrong g s4
end Go.Proofs.YtmmjcbbogokmfaaGreatDoor

/- Brackets, minuses, nots within one another, plain: the whole text is a type's. -/
namespace Go.Proofs.YtmmjcbbogokmfaaGreatDoor

def endT : List UInt8 := [59, 125]
theorem end_goes (z : List Nat) (p fr : Nat) (hm : mayN 9 (z ++ [9]) = true) (ht : takeN 9 30 (z ++ [9]) = some []) : ∃ f2, Goes ⟨p, z ++ endS, 0, fr⟩ endT ⟨p + 2, [], 0, f2⟩ [] := by
  have s1 := step_sign ⟨p, z ++ endS, 0, fr⟩ 59 [125] 9 (z ++ [9]) [] [58, 5] (by decide) (by decide) (by decide) (by decide) (by decide) (by decide) (by decide) (by rw [List.append_assoc]; rfl) hm ht
  have s2 := step_sign ⟨p + 1, [58, 5], 0, p⟩ 125 [] 5 [58, 5] [] [] (by decide) (by decide) (by decide) (by decide) (by decide) (by decide) (by decide) rfl (by decide) (by decide)
  exact ⟨p + 1, Goes.one (l0 := endT) 1 s1 rfl (List.cons_ne_nil _ _) rfl (Goes.one (l0 := [125]) 1 s2 rfl (List.cons_ne_nil _ _) rfl (.refl _ _))⟩
theorem nest_ok {b : Brk} (hb : b.Ok) (n : Nat) : ∃ mc, begunN (nestB b n n ++ endT) = .ok mc ∧ mc.stack = [] := by
  have h0 := pre_goes (reps [b.opn] n ++ (48 :: (reps [b.cls] n ++ endT)))
  have e0 : nestB b n n ++ endT = pre9 ++ (reps [b.opn] n ++ (48 :: (reps [b.cls] n ++ endT))) := by unfold nestB; simp only [List.append_assoc, List.cons_append]
  rw [e0]
  obtain ⟨f1, g1⟩ := opens_go hb n 0 32 0 27 (48 :: (reps [b.cls] n ++ endT))
  rw [hb.x0, Nat.zero_add] at g1
  obtain ⟨c, l, e, hc⟩ : ∃ c l, reps [b.cls] n ++ endT = c :: l ∧ wordC c = false := by
    cases n with
    | zero => exact ⟨59, [125], rfl, by decide⟩
    | succ n => exact ⟨b.cls, reps [b.cls] n ++ endT, rfl, hb.cb.2.2.2.1⟩
  have s2 := zero_step hb n (32 + n) 0 f1 c l hc
  obtain ⟨f3, g3⟩ := shuts_go hb n 0 (32 + n + 1) 0 (32 + n) endT
  rw [Nat.zero_add] at g3
  obtain ⟨f4, g4⟩ := end_goes (b.Z 0) (32 + n + 1 + n) f3 hb.z0.1 hb.z0.2.1
  rw [e] at g3
  have g := h0.trans (g1.trans (by rw [e]; exact Goes.one (l0 := 48 :: c :: l) 1 s2 rfl (List.cons_ne_nil _ _) rfl (g3.trans g4)))
  exact ⟨_, begun_goes g, rfl⟩
/-- a kind of operator ahead of its part: its bytes, its symbol, what the machine's stack holds -/
structure Pfx where
  w : List UInt8
  x : Nat
  z : List Nat
  y : List Nat
structure Pfx.Ok (b : Pfx) : Prop where
  first : ∀ p l, ∃ fr, Goes ⟨p, 69 :: endS, 0, 27⟩ (b.w ++ l) ⟨p + b.w.length, b.x :: (b.z ++ endS), 0, fr⟩ l
  more : ∀ p fr l, ∃ f2, Goes ⟨p, b.x :: (b.z ++ endS), 0, fr⟩ (b.w ++ l) ⟨p + b.w.length, b.x :: (b.z ++ endS), 0, f2⟩ l
  zero : mayN 2 [b.x] = true ∧ takeN 2 30 [b.x] = some b.y
  yz : b.y ++ b.z = [80, 78, 76, 73, 71]
def minus : Pfx := ⟨[45], 81, [80, 78, 76, 73, 71], []⟩
def nots : Pfx := ⟨[110, 111, 116, 32], 74, [73, 71], [80, 78, 76]⟩
theorem minus_ok : minus.Ok := by
  refine ⟨fun p l => ⟨p, ?_⟩, fun p fr l => ⟨p, ?_⟩, by decide, rfl⟩
  · have s1 := step_sign ⟨p, 69 :: endS, 0, 27⟩ 45 l 19 [69] [81, 80, 78, 76, 73, 71] endS (by decide) (by decide) (by decide) (by decide) (by decide) (by decide) (by decide) rfl (by decide) (by decide)
    exact Goes.one (l0 := 45 :: l) 1 s1 rfl (List.cons_ne_nil _ _) rfl (.refl _ _)
  · have s1 := step_sign ⟨p, 81 :: ([80, 78, 76, 73, 71] ++ endS), 0, fr⟩ 45 l 19 [81] [81] ([80, 78, 76, 73, 71] ++ endS) (by decide) (by decide) (by decide) (by decide) (by decide) (by decide) (by decide) rfl (by decide) (by decide)
    exact Goes.one (l0 := 45 :: l) 1 s1 rfl (List.cons_ne_nil _ _) rfl (.refl _ _)
theorem nots_ok : nots.Ok := by
  refine ⟨fun p l => ⟨p, ?_⟩, fun p fr l => ⟨p, ?_⟩, by decide, rfl⟩
  · have s1 := step_word ⟨p, 69 :: endS, 0, 27⟩ 110 [111, 116] 32 l 45 [69] [74, 73, 71] endS (by decide) (by decide) (by decide) (by decide) rfl (by decide) (by decide)
    exact Goes.one (l0 := 110 :: 111 :: 116 :: 32 :: l) 3 s1 rfl (List.cons_ne_nil _ _) rfl (Goes.one (l0 := 32 :: l) 1 (step_blank _ 32 l (by decide)) rfl (List.cons_ne_nil _ _) rfl (.refl _ _))
  · have s1 := step_word ⟨p, 74 :: ([73, 71] ++ endS), 0, fr⟩ 110 [111, 116] 32 l 45 [74] [74] ([73, 71] ++ endS) (by decide) (by decide) (by decide) (by decide) rfl (by decide) (by decide)
    exact Goes.one (l0 := 110 :: 111 :: 116 :: 32 :: l) 3 s1 rfl (List.cons_ne_nil _ _) rfl (Goes.one (l0 := 32 :: l) 1 (step_blank _ 32 l (by decide)) rfl (List.cons_ne_nil _ _) rfl (.refl _ _))
def nestP (b : Pfx) (n : Nat) : List UInt8 := pre9 ++ (reps b.w n ++ [48])
theorem nestP_len (b : Pfx) (n : Nat) : (nestP b n).length = 33 + n * b.w.length := by
  unfold nestP
  rw [List.length_append, List.length_append, reps_len]
  show 32 + (n * b.w.length + 1) = _
  omega
theorem more_go {b : Pfx} (hb : b.Ok) : ∀ (n p fr : Nat) (l : List UInt8), ∃ f2, Goes ⟨p, b.x :: (b.z ++ endS), 0, fr⟩ (reps b.w n ++ l) ⟨p + n * b.w.length, b.x :: (b.z ++ endS), 0, f2⟩ l
  | 0, p, fr, l => ⟨fr, by rw [Nat.zero_mul]; exact .refl _ _⟩
  | n + 1, p, fr, l => by
    obtain ⟨f1, g1⟩ := hb.more p fr (reps b.w n ++ l)
    obtain ⟨f2, g2⟩ := more_go hb n (p + b.w.length) f1 l
    refine ⟨f2, ?_⟩
    rw [reps, List.append_assoc, show p + (n + 1) * b.w.length = p + b.w.length + n * b.w.length by rw [Nat.succ_mul]; omega]
    exact g1.trans g2
/-- the machine ahead of the digit -/
theorem pfx_go {b : Pfx} (hb : b.Ok) (n : Nat) (l : List UInt8) : ∃ fr a y, mayN 2 [a] = true ∧ takeN 2 30 [a] = some y ∧ (∃ z, y ++ z = [80, 78, 76, 73, 71] ∧ Goes startM (pre9 ++ (reps b.w n ++ l)) ⟨32 + n * b.w.length, a :: (z ++ endS), 0, fr⟩ l) := by
  have h0 := pre_goes (reps b.w n ++ l)
  cases n with
  | zero => exact ⟨27, 69, [80, 78, 76, 73, 71], by decide, by decide, [], rfl, by rw [Nat.zero_mul]; exact h0⟩
  | succ n =>
    obtain ⟨f1, g1⟩ := hb.first 32 (reps b.w n ++ l)
    obtain ⟨f2, g2⟩ := more_go hb n (32 + b.w.length) f1 l
    refine ⟨f2, b.x, b.y, hb.zero.1, hb.zero.2, b.z, hb.yz, ?_⟩
    rw [show 32 + (n + 1) * b.w.length = 32 + b.w.length + n * b.w.length by rw [Nat.succ_mul]; omega]
    refine h0.trans ?_
    rw [reps, List.append_assoc]
    exact g1.trans g2
theorem nestP_begun {b : Pfx} (hb : b.Ok) (n : Nat) : ∃ mc, begunN (nestP b n) = .ok mc ∧ mc.stack ≠ [] ∧ finishedN (nestP b n) mc = endT := by
  obtain ⟨fr, a, y, hm, ht, z, hz, g⟩ := pfx_go hb n [48]
  have s2 := step_last ⟨32 + n * b.w.length, a :: (z ++ endS), 0, fr⟩ [a] (z ++ endS) rfl hm
  have g2 := g.trans (Goes.one (l0 := [48]) 1 s2 rfl (List.cons_ne_nil _ _) rfl (.refl _ _))
  refine ⟨_, begun_goes g2, by simp, ?_⟩
  unfold finishedN
  simp only
  rw [if_neg (by decide), if_pos trivial]
  have hd : (nestP b n).drop (32 + n * b.w.length) = [48] := by
    unfold nestP
    rw [← List.append_assoc, List.drop_append_of_le_length (by rw [List.length_append, reps_len]; exact Nat.le_refl _), List.drop_of_length_le (by rw [List.length_append, reps_len]; exact Nat.le_refl _)]
    rfl
  rw [hd, wordEnd_zero (a :: (z ++ endS)) (mayN_more 2 [a] (z ++ endS) hm)]
  have hw : withN 2 (a :: (z ++ endS)) = [80, 78, 76, 73, 71] ++ endS := by
    unfold withN
    rw [show a :: (z ++ endS) = [a] ++ (z ++ endS) from rfl, takeN_big ht (z ++ endS), ← hz, List.append_assoc]
    rfl
  rw [hw]
  decide
theorem nestP_ok {b : Pfx} (hb : b.Ok) (n : Nat) : ∃ mc, begunN (nestP b n ++ endT) = .ok mc ∧ mc.stack = [] := by
  have e0 : nestP b n ++ endT = pre9 ++ (reps b.w n ++ (48 :: endT)) := by unfold nestP; simp only [List.append_assoc, List.cons_append, List.nil_append]
  rw [e0]
  obtain ⟨fr, a, y, hm, ht, z, hz, g⟩ := pfx_go hb n (48 :: endT)
  have s2 := step_word ⟨32 + n * b.w.length, a :: (z ++ endS), 0, fr⟩ 48 [] 59 [125] 2 [a] y (z ++ endS) (by decide) (by decide) (by decide) (by decide) rfl hm ht
  obtain ⟨f4, g4⟩ := end_goes [80, 78, 76, 73, 71] (32 + n * b.w.length + 1) (32 + n * b.w.length) (by decide) (by decide)
  rw [← hz, List.append_assoc] at g4
  exact ⟨_, begun_goes (g.trans (Goes.one (l0 := 48 :: endT) 1 s2 rfl (List.cons_ne_nil _ _) rfl g4)), rfl⟩
end Go.Proofs.YtmmjcbbogokmfaaGreatDoor
