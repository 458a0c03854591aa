import Derived.Test.YtmmjcbbogokmfaaGreatDoorMf01
import Derived.Test.YtmmjcbbogokmfaaGreatDoorMf06
set_option maxRecDepth 100000
set_option maxHeartbeats 25600000
namespace Go.Proofs.YtmmjcbbogokmfaaGreatDoor
theorem runB_app : ∀ (p q : List UInt8) (b : Bs) (k : Nat), runB b (p ++ q) k = match runB b p k with
    | .error j => .error j
    | .ok b' => runB b' q (k + p.length)
  | [], q, b, k => rfl
  | c :: p, q, b, k => by
    rw [List.cons_append, runB, runB]
    cases kx b c with
    | none => rfl
    | some b' =>
      simp only
      rw [runB_app p q b' (k + 1), List.length_cons, show k + 1 + p.length = k + (p.length + 1) by omega]
theorem runB_at : ∀ (l : List UInt8) (b b' : Bs) (k j : Nat), runB b l k = .ok b' -> runB b l j = .ok b'
  | [], b, b', k, j, h => h
  | c :: l, b, b', k, j, h => by
    rw [runB] at h ⊢
    cases hs : kx b c with
    | none => rw [hs] at h; cases h
    | some b1 =>
      rw [hs] at h
      exact runB_at l b1 b' (k + 1) (j + 1) h
theorem runB_err : ∀ (l : List UInt8) (b : Bs) (k j : Nat), runB b l k = .error j -> k <= j /\ j < k + l.length /\ (∃ b', runB b (l.take (j - k)) k = .ok b') /\ runB b (l.take (j - k + 1)) k = .error j
  | [], b, k, j, h => by cases h
  | c :: l, b, k, j, h => by
    rw [runB] at h
    cases hs : kx b c with
    | none =>
      rw [hs] at h
      injection h with h
      subst h
      refine ⟨Nat.le_refl _, by rw [List.length_cons]; omega, ⟨b, ?_⟩, ?_⟩
      · rw [Nat.sub_self, List.take_zero]
        rfl
      · rw [Nat.sub_self, List.take_succ_cons, runB, hs]
    | some b1 =>
      rw [hs] at h
      obtain ⟨h1, h2, ⟨b', h3⟩, h4⟩ := runB_err l b1 (k + 1) j h
      refine ⟨by omega, by rw [List.length_cons]; omega, ⟨b', ?_⟩, ?_⟩
      · rw [show j - k = (j - (k + 1)) + 1 by omega, List.take_succ_cons, runB, hs]
        exact h3
      · rw [show j - k = (j - (k + 1)) + 1 by omega, List.take_succ_cons, runB, hs]
        exact h4
theorem begun_same (src : List UInt8) : match jq src with
    | .error k => runB startB src 0 = .error k
    | .ok m => ∃ b, runB startB src 0 = .ok b /\ Rel src m b :=
  run_same src (src.length + 1) startM (by show src.length + 1 <= src.length + 1 + 0; omega) (Nat.zero_le _) (by decide) rfl
theorem begun_err {src : List UInt8} {k : Nat} : jq src = .error k ↔ runB startB src 0 = .error k := by
  have h := begun_same src
  cases hb : jq src with
  | error j =>
    rw [hb] at h
    constructor
    · intro e; rw [h]; injection e with e; rw [e]
    · intro e; rw [h] at e; injection e with e; rw [e]
  | ok m =>
    rw [hb] at h
    obtain ⟨b, h, _⟩ := h
    constructor
    · intro e; cases e
    · intro e; rw [h] at e; cases e
theorem begun_ok {src : List UInt8} {m : Mc} (hb : jq src = .ok m) : ∃ b, runB startB src 0 = .ok b /\ Rel src m b := by
  have h := begun_same src
  rw [hb] at h
  exact h
theorem begun_of {src : List UInt8} {b : Bs} (hb : runB startB src 0 = .ok b) : ∃ m, jq src = .ok m /\ Rel src m b := by
  have h := begun_same src
  cases hm : jq src with
  | error j => rw [hm] at h; rw [h] at hb; cases hb
  | ok m =>
    rw [hm] at h
    obtain ⟨b', h, hr⟩ := h
    rw [h] at hb
    injection hb with hb
    subst hb
    exact ⟨m, rfl, hr⟩
def accB (b : Bs) : Prop := b.st = [] /\ (b.md = .btw \/ b.md = .com)
theorem may_ne {t : Nat} {st : List Nat} (h : mayN t st = true) : st ≠ [] := fun e => by rw [e] at h; cases h
theorem fits_ne {st : List Nat} {w : List UInt8} (h : yO st w = true) : st ≠ [] := fun e => by
  rw [e] at h
  have h1 : kI [] resL 0 = [] := by decide
  unfold yO at h
  rw [h1] at h
  cases h
theorem Rel.acc {src : List UInt8} {m : Mc} {b : Bs} (h : Rel src m b) : m.stack = [] ↔ accB b := by
  cases h with
  | btw h => exact ⟨fun e => ⟨e, .inl rfl⟩, fun e => e.1⟩
  | com h => exact ⟨fun e => ⟨e, .inr rfl⟩, fun e => e.1⟩
  | wrd h1 h2 h3 => exact ⟨fun e => absurd e (fits_ne h3), fun e => absurd e.1 (fits_ne h3)⟩
  | one h1 h2 h3 h4 h5 => exact ⟨fun e => absurd e h5, fun e => absurd e.1 (may_ne h3.2)⟩
  | two h1 h2 h3 h4 => exact ⟨fun e => absurd e (may_ne h3.2), fun e => absurd e.1 (may_ne h3.2)⟩
  | txt h1 h2 h3 h4 => exact ⟨fun e => absurd e (may_ne h4), fun e => absurd e.1 (may_ne h4)⟩
def finS (b : Bs) : List UInt8 := match b.md with
  | .btw => (jS b.st).2
  | .com => let e := (jS b.st).2; if e = [] then [] else 10 :: e
  | .wrd w => ky b.st w
  | .sgn c => if yM b.st [c] then (jS (jc (jV [c]) b.st)).2 else 61 :: (jS (jc (jV [c, 61]) b.st)).2
  | .txt e => (if e = 4 then [34] else if e = 5 then [34, 34] else if e = 6 then [48, 48, 34] else [48, 34]) ++ (jS (jc 3 b.st)).2
theorem Rel.fin_ {src : List UInt8} {m : Mc} {b : Bs} (h : Rel src m b) : kM src m = finS b := by
  unfold kM finS
  cases h with
  | btw h => simp only [h]; rfl
  | com h => simp only [h]; rfl
  | wrd h1 h2 h3 => simp only [h1, h2]; rfl
  | one h1 h2 h3 h4 h5 =>
    simp only [h1]
    rw [if_pos h3, h4]
    rfl
  | two h1 h2 h3 h4 =>
    simp only [h1, h2]
    rw [if_neg h4]
    rfl
  | txt h1 h2 h3 h4 =>
    subst h1
    have h5 : m.fin = 4 \/ m.fin = 5 \/ m.fin = 6 \/ m.fin = 7 := by omega
    rcases h5 with h5 | h5 | h5 | h5 <;> (simp only [h5]; rfl)
def reps (x : List UInt8) : Nat -> List UInt8
  | 0 => []
  | n + 1 => x ++ reps x n
theorem reps_len (x : List UInt8) : ∀ n, (reps x n).length = n * x.length
  | 0 => by rw [reps, Nat.zero_mul]; rfl
  | n + 1 => by rw [reps, List.length_append, reps_len x n, Nat.succ_mul]; omega
theorem reps_snoc (x : List UInt8) : ∀ n, reps x n ++ x = x ++ reps x n
  | 0 => by rw [reps, List.nil_append, List.append_nil]
  | n + 1 => by rw [reps, List.append_assoc, reps_snoc x n]
theorem reps_add (x : List UInt8) (m : Nat) : ∀ n, reps x (n + m) = reps x n ++ reps x m
  | 0 => by rw [Nat.zero_add, reps, List.nil_append]
  | n + 1 => by rw [Nat.succ_add, reps, reps, reps_add x m n, List.append_assoc]
def pre9 : List UInt8 := [116, 121, 112, 101, 32, 97, 123, 109, 105, 108, 101, 115, 116, 111, 110, 101, 32, 97, 32, 114, 101, 97, 99, 104, 101, 100, 32, 119, 104, 101, 110, 32]
def endS : List Nat := [9, 58, 5]
theorem pre_goes (l : List UInt8) : Goes startM (pre9 ++ l) ⟨32, 69 :: endS, 0, 27⟩ l := by
  have s1 := vo startM 116 [121, 112, 101] 32 (pre9.drop 5 ++ l) 23 [23] [] [1, 4, 58, 5] (by decide) (by decide) (by decide) (by decide) rfl (by decide) (by decide)
  refine Goes.one 4 s1 rfl (List.cons_ne_nil _ _) rfl ?_
  refine Goes.one 1 (yJ _ 32 (pre9.drop 5 ++ l) (by decide)) rfl (List.cons_ne_nil _ _) rfl ?_
  have s2 := vo ⟨5, [1, 4, 58, 5], 0, 0⟩ 97 [] 123 (pre9.drop 7 ++ l) 1 [1] [] [4, 58, 5] (by decide) (by decide) (by decide) (by decide) rfl (by decide) (by decide)
  refine Goes.one 1 s2 rfl (List.cons_ne_nil _ _) rfl ?_
  have s3 := step_sign ⟨6, [4, 58, 5], 0, 5⟩ 123 (pre9.drop 7 ++ l) 4 [4] [] [58, 5] (by decide) (by decide) (by decide) (by decide) (by decide) (by decide) (by decide) rfl (by decide) (by decide)
  refine Goes.one 1 s3 rfl (List.cons_ne_nil _ _) rfl ?_
  have s4 := vo ⟨7, [58, 5], 0, 6⟩ 109 [105, 108, 101, 115, 116, 111, 110, 101] 32 (pre9.drop 17 ++ l) 26 [58] [1, 63, 31, 32, 69, 9, 58] [5] (by decide) (by decide) (by decide) (by decide) rfl (by decide) (by decide)
  refine Goes.one 9 s4 rfl (List.cons_ne_nil _ _) rfl ?_
  refine Goes.one 1 (yJ _ 32 (pre9.drop 17 ++ l) (by decide)) rfl (List.cons_ne_nil _ _) rfl ?_
  have s5 := vo ⟨17, [1, 63, 31, 32, 69, 9, 58, 5], 0, 7⟩ 97 [] 32 (pre9.drop 19 ++ l) 1 [1] [] [63, 31, 32, 69, 9, 58, 5] (by decide) (by decide) (by decide) (by decide) rfl (by decide) (by decide)
  refine Goes.one 1 s5 rfl (List.cons_ne_nil _ _) rfl ?_
  refine Goes.one 1 (yJ _ 32 (pre9.drop 19 ++ l) (by decide)) rfl (List.cons_ne_nil _ _) rfl ?_
  have s6 := vo ⟨19, [63, 31, 32, 69, 9, 58, 5], 0, 17⟩ 114 [101, 97, 99, 104, 101, 100] 32 (pre9.drop 27 ++ l) 31 [63, 31] [] [32, 69, 9, 58, 5] (by decide) (by decide) (by decide) (by decide) rfl (by decide) (by decide)
  refine Goes.one 7 s6 rfl (List.cons_ne_nil _ _) rfl ?_
  refine Goes.one 1 (yJ _ 32 (pre9.drop 27 ++ l) (by decide)) rfl (List.cons_ne_nil _ _) rfl ?_
  have s7 := vo ⟨27, [32, 69, 9, 58, 5], 0, 19⟩ 119 [104, 101, 110] 32 l 32 [32] [] [69, 9, 58, 5] (by decide) (by decide) (by decide) (by decide) rfl (by decide) (by decide)
  refine Goes.one 4 s7 rfl (List.cons_ne_nil _ _) rfl ?_
  refine Goes.one 1 (yJ _ 32 l (by decide)) rfl (List.cons_ne_nil _ _) rfl ?_
  exact .refl _ _
structure Brk where
  opn : UInt8
  cls : UInt8
  o : Nat
  s : Nat
  X : Nat -> Nat
  Z : Nat -> List Nat
def Brk.U (b : Brk) : Nat -> List Nat
  | 0 => endS
  | n + 1 => b.s :: (b.Z n ++ b.U n)
structure Brk.Ok (b : Brk) : Prop where
  ob : kO b.opn = false /\ ¬ b.opn.toNat = 35 /\ ¬ b.opn.toNat = 34 /\ jH b.opn = false /\ jV [b.opn] = b.o /\ b.o ≠ 0 /\ jV [b.opn, 61] = 0
  cb : kO b.cls = false /\ ¬ b.cls.toNat = 35 /\ ¬ b.cls.toNat = 34 /\ jH b.cls = false /\ jV [b.cls] = b.s /\ b.s ≠ 0 /\ jV [b.cls, 61] = 0
  x0 : b.X 0 = 69
  on : ∀ n, mayN b.o [b.X n] = true /\ jl b.o 30 [b.X n] = some (b.X (n + 1) :: b.s :: b.Z n)
  zero : ∀ n, mayN 2 [b.X n] = true /\ jl 2 30 [b.X n] = some (b.Z n)
  shut : ∀ n, mayN b.s (b.Z n ++ [b.s]) = true /\ jl b.s 30 (b.Z n ++ [b.s]) = some []
  skip : ∀ n, (b.Z n).all jf = true
  z0 : mayN 9 (b.Z 0 ++ [9]) = true /\ jl 9 30 (b.Z 0 ++ [9]) = some [] /\ mayN b.s (b.Z 0 ++ endS) = false
  sp : jf b.s = false /\ b.s < 23 /\ ¬ b.s = 1 /\ ¬ b.s = 2 /\ ¬ b.s = 3 /\ signL.getD (b.s - 4) [] = [b.cls]
def rnd : Brk := ⟨40, 41, 6, 7, fun _ => 69, fun _ => [80, 78, 76, 73, 71]⟩
def crl : Brk := ⟨123, 125, 4, 5, fun n => if n = 0 then 69 else 83, fun n => if n = 0 then [80, 78, 76, 73, 71] else [80, 78, 76, 73, 71, 84]⟩
theorem rnd_ok : rnd.Ok := ⟨by decide, by decide, rfl, fun _ => (by decide : mayN 6 [69] = true /\ jl 6 30 [69] = some (69 :: 7 :: [80, 78, 76, 73, 71])), fun _ => (by decide : mayN 2 [69] = true /\ jl 2 30 [69] = some [80, 78, 76, 73, 71]), fun _ => (by decide : mayN 7 ([80, 78, 76, 73, 71] ++ [7]) = true /\ jl 7 30 ([80, 78, 76, 73, 71] ++ [7]) = some []), fun _ => (by decide : ([80, 78, 76, 73, 71] : List Nat).all jf = true), by decide, by decide⟩
theorem crl_ok : crl.Ok := by
  have e : ∀ n, crl.X (n + 1) = 83 /\ crl.Z (n + 1) = [80, 78, 76, 73, 71, 84] := fun n => ⟨rfl, rfl⟩
  refine ⟨by decide, by decide, rfl, fun n => ?_, fun n => ?_, fun n => ?_, fun n => ?_, by decide, by decide⟩
  all_goals
    cases n with
    | zero => decide
    | succ n =>
      first
        | (rw [(e n).1, (e (n + 1)).1, (e n).2]; decide)
        | (rw [(e n).1, (e n).2]; decide)
        | (rw [(e n).2]; decide)
theorem opens_go {b : Brk} (hb : b.Ok) : ∀ (n k p fin from_ : Nat) (l : List UInt8), ∃ fr, Goes ⟨p, b.X k :: b.U k, fin, from_⟩ (reps [b.opn] n ++ l) ⟨p + n, b.X (k + n) :: b.U (k + n), fin, fr⟩ l
  | 0, k, p, fin, from_, l => ⟨from_, .refl _ _⟩
  | n + 1, k, p, fin, from_, l => by
    obtain ⟨h1, h2, h3, h4, h5, h6, h7⟩ := hb.ob
    have s1 := step_sign ⟨p, b.X k :: b.U k, fin, from_⟩ b.opn (reps [b.opn] n ++ l) b.o [b.X k] _ (b.U k) h1 h2 h3 h4 h5 h6 h7 rfl (hb.on k).1 (hb.on k).2
    obtain ⟨fr, g⟩ := opens_go hb n (k + 1) (p + 1) fin p l
    refine ⟨fr, Goes.one (l0 := b.opn :: (reps [b.opn] n ++ l)) 1 s1 rfl (List.cons_ne_nil _ _) rfl ?_⟩
    rw [show p + (n + 1) = p + 1 + n by omega, show k + (n + 1) = k + 1 + n by omega]
    exact g
theorem zero_step {b : Brk} (hb : b.Ok) (n p fin from_ : Nat) (c : UInt8) (l : List UInt8) (hc : jH c = false) : kR ⟨p, b.X n :: b.U n, fin, from_⟩ (48 :: c :: l) = .ok ⟨p + 1, b.Z n ++ b.U n, fin, p⟩ :=
  vo ⟨p, b.X n :: b.U n, fin, from_⟩ 48 [] c l 2 [b.X n] _ (b.U n) (by decide) hc (by decide) (by decide) rfl (hb.zero n).1 (hb.zero n).2
theorem shuts_go {b : Brk} (hb : b.Ok) : ∀ (m k p fin from_ : Nat) (l : List UInt8), ∃ fr, Goes ⟨p, b.Z (k + m) ++ b.U (k + m), fin, from_⟩ (reps [b.cls] m ++ l) ⟨p + m, b.Z k ++ b.U k, fin, fr⟩ l
  | 0, k, p, fin, from_, l => ⟨from_, .refl _ _⟩
  | m + 1, k, p, fin, from_, l => by
    obtain ⟨h1, h2, h3, h4, h5, h6, h7⟩ := hb.cb
    have s1 := step_sign ⟨p, b.Z (k + (m + 1)) ++ b.U (k + (m + 1)), fin, from_⟩ b.cls (reps [b.cls] m ++ l) b.s (b.Z (k + (m + 1)) ++ [b.s]) _ (b.Z (k + m) ++ b.U (k + m)) h1 h2 h3 h4 h5 h6 h7 (by
      show b.Z (k + (m + 1)) ++ b.U (k + m + 1) = _
      rw [Brk.U, List.append_assoc]
      rfl) (hb.shut _).1 (hb.shut _).2
    obtain ⟨fr, g⟩ := shuts_go hb m k (p + 1) fin p l
    refine ⟨fr, Goes.one (l0 := b.cls :: (reps [b.cls] m ++ l)) 1 s1 rfl (List.cons_ne_nil _ _) rfl ?_⟩
    rw [show p + (m + 1) = p + 1 + m by omega]
    exact g
theorem yL : ∀ (l m : List Nat), l.all jf = true -> jS (l ++ m) = jS m
  | [], m, _ => rfl
  | n :: l, m, h => by
    rw [List.all_cons, Bool.and_eq_true] at h
    show kN n (jS (l ++ m)) = _
    rw [yL l m h.2]
    unfold kN
    rw [if_pos h.1]
theorem rest_U {b : Brk} (hb : b.Ok) : ∀ n, (jS (b.U n)).2 = reps [b.cls] n ++ [59, 125] /\ (jS (b.U n)).1 = (jS (b.U n)).2
  | 0 => (by decide : (jS endS).2 = reps [0] 0 ++ [59, 125] /\ (jS endS).1 = (jS endS).2)
  | n + 1 => by
    have hs0 := hb.cb.2.2.2.2.2.1
    obtain ⟨h1, h2, h3, h4, h5, h6⟩ := hb.sp
    have e : jS (b.U (n + 1)) = kN b.s (jS (b.U n)) := by
      show kN b.s (jS (b.Z n ++ b.U n)) = _
      rw [yL _ _ (hb.skip n)]
    have hsp : jO b.s = [b.cls] := by
      unfold jO
      rw [if_neg h3, if_neg h4, if_neg h5, if_pos h2, h6]
    have hw : wordedB b.s = false := by unfold wordedB; exact decide_eq_false (by omega)
    rw [e]
    unfold kN
    rw [if_neg (by rw [h1]; decide), if_neg (by omega), if_neg (by omega), if_neg (by rw [hw]; decide), hsp, (rest_U hb n).1]
    exact ⟨rfl, rfl⟩
theorem tries_none (st : List Nat) : ∀ (l : List (List UInt8)) (i : Nat) (best : List UInt8), (l.all fun r => !([48] : List UInt8).isPrefixOf r) = true -> ki st [48] l i best = best
  | [], i, best, _ => rfl
  | r :: l, i, best, h => by
    rw [List.all_cons, Bool.and_eq_true, Bool.not_eq_true'] at h
    rw [ki, if_neg (by rw [h.1]; decide)]
    exact tries_none st l _ _ h.2
theorem wordEnd_zero (st : List Nat) (hm : mayN 2 st = true) : ky st [48] = (jS (jc 2 st)).1 := by
  unfold ky
  simp only [tries_none st resL 0 [] (by decide)]
  rw [if_pos (by decide)]
  unfold tryN
  rw [if_pos hm, List.nil_append]
  simp
def nestB (b : Brk) (n m : Nat) : List UInt8 := pre9 ++ (reps [b.opn] n ++ (48 :: reps [b.cls] m))
theorem nest_len {b : Brk} (n m : Nat) : (nestB b n m).length = 33 + n + m := by
  unfold nestB
  rw [List.length_append, List.length_append, List.length_cons, reps_len, reps_len]
  show 32 + (n * 1 + (m * 1 + 1)) = _
  omega
theorem nest_goes {b : Brk} (hb : b.Ok) (n k : Nat) : ∃ fr, Goes startM (nestB b (k + (n + 1)) (n + 1)) ⟨33 + (k + (n + 1)) + (n + 1), b.Z k ++ b.U k, 0, fr⟩ [] := by
  have h0 := pre_goes (reps [b.opn] (k + (n + 1)) ++ (48 :: reps [b.cls] (n + 1)))
  obtain ⟨f1, h1⟩ := opens_go hb (k + (n + 1)) 0 32 0 27 (48 :: reps [b.cls] (n + 1))
  rw [hb.x0, Nat.zero_add] at h1
  have s2 := zero_step hb (k + (n + 1)) (32 + (k + (n + 1))) 0 f1 b.cls (reps [b.cls] n) hb.cb.2.2.2.1
  obtain ⟨f3, h3⟩ := shuts_go hb (n + 1) k (32 + (k + (n + 1)) + 1) 0 (32 + (k + (n + 1))) []
  rw [List.append_nil] at h3
  refine ⟨f3, h0.trans (h1.trans (Goes.one (l0 := 48 :: b.cls :: reps [b.cls] n) 1 s2 rfl (List.cons_ne_nil _ _) rfl ?_))⟩
  rw [show 33 + (k + (n + 1)) + (n + 1) = 32 + (k + (n + 1)) + 1 + (n + 1) by omega]
  exact h3
theorem nest_goes0 {b : Brk} (hb : b.Ok) (n : Nat) : ∃ fr, Goes startM (nestB b n 0) ⟨33 + n, b.X n :: b.U n, 2, fr⟩ [] /\ fr = 32 + n := by
  have h0 := pre_goes (reps [b.opn] n ++ [48])
  obtain ⟨f1, h1⟩ := opens_go hb n 0 32 0 27 [48]
  rw [hb.x0, Nat.zero_add] at h1
  have s2 := step_last ⟨32 + n, b.X n :: b.U n, 0, f1⟩ [b.X n] (b.U n) rfl (hb.zero n).1
  refine ⟨32 + n, h0.trans (h1.trans (Goes.one (l0 := [48]) 1 s2 rfl (List.cons_ne_nil _ _) rfl ?_)), rfl⟩
  rw [show 33 + n = 32 + n + 1 by omega]
  exact .refl _ _
theorem nest_begun {b : Brk} (hb : b.Ok) (n m : Nat) (h : m <= n) : ∃ mc, jq (nestB b n m) = .ok mc /\ mc.stack ≠ [] /\ kM (nestB b n m) mc = reps [b.cls] (n - m) ++ [59, 125] := by
  have hne : ∀ k, b.U k ≠ [] := fun k => by cases k <;> simp [Brk.U, endS]
  cases m with
  | zero =>
    obtain ⟨fr, g, e⟩ := nest_goes0 hb n
    refine ⟨_, begun_goes g, by simp, ?_⟩
    subst e
    unfold kM
    simp only
    rw [if_neg (by decide), if_pos trivial]
    have hd : (nestB b n 0).drop (32 + n) = [48] := by
      unfold nestB
      rw [<- List.append_assoc, List.drop_append_of_le_length (by rw [List.length_append, reps_len]; show 32 + n <= 32 + n * 1; omega), List.drop_of_length_le (by rw [List.length_append, reps_len]; show 32 + n * 1 <= 32 + n; omega)]
      rfl
    rw [hd, wordEnd_zero (b.X n :: b.U n) (yN 2 [b.X n] (b.U n) (hb.zero n).1)]
    have hw : jc 2 (b.X n :: b.U n) = b.Z n ++ b.U n := by
      unfold jc
      rw [show b.X n :: b.U n = [b.X n] ++ b.U n from rfl, takeN_big (hb.zero n).2 (b.U n)]
      rfl
    rw [hw, yL _ _ (hb.skip n), (rest_U hb n).2, (rest_U hb n).1, Nat.sub_zero]
  | succ m =>
    obtain ⟨k, rfl⟩ : ∃ k, n = k + (m + 1) := ⟨n - (m + 1), by omega⟩
    obtain ⟨fr, g⟩ := nest_goes hb m k
    refine ⟨_, begun_goes g, by simp [hne], ?_⟩
    unfold kM
    simp only
    rw [if_neg (by decide), if_neg (by decide), if_neg (by decide), if_neg (by decide), if_neg (by decide), if_neg (by decide), if_neg (by decide), yL _ _ (hb.skip k), (rest_U hb k).1, Nat.add_sub_cancel]
theorem nest_wrong {b : Brk} (hb : b.Ok) (n m : Nat) (h : n < m) : jq (nestB b n m) = .error (33 + n + n) := by
  obtain ⟨j, rfl⟩ : ∃ j, m = n + (j + 1) := ⟨m - n - 1, by omega⟩
  obtain ⟨h1, h2, h3, h4, h5, h6, h7⟩ := hb.cb
  have h0 := pre_goes (reps [b.opn] n ++ (48 :: reps [b.cls] (n + (j + 1))))
  obtain ⟨f1, g1⟩ := opens_go hb n 0 32 0 27 (48 :: reps [b.cls] (n + (j + 1)))
  rw [hb.x0, Nat.zero_add] at g1
  have e : reps [b.cls] (n + (j + 1)) = b.cls :: reps [b.cls] (n + j) := rfl
  have s2 := zero_step hb n (32 + n) 0 f1 b.cls (reps [b.cls] (n + j)) h4
  obtain ⟨f3, g3⟩ := shuts_go hb n 0 (32 + n + 1) 0 (32 + n) (b.cls :: reps [b.cls] j)
  rw [Nat.zero_add, show reps [b.cls] n ++ b.cls :: reps [b.cls] j = reps [b.cls] (n + (j + 1)) from (reps_add [b.cls] (j + 1) n).symm] at g3
  have g := h0.trans (g1.trans (Goes.one (l0 := 48 :: b.cls :: reps [b.cls] (n + j)) 1 s2 rfl (by simp) (by rw [e]; rfl) g3))
  have s4 := step_wrong ⟨32 + n + 1 + n, b.Z 0 ++ b.U 0, 0, f3⟩ b.cls (reps [b.cls] j) b.s h1 h2 h3 h4 h5 h7 hb.z0.2.2
  rw [show 33 + n + n = 32 + n + 1 + n by omega]
  exact begun_wrong g s4
def vw : List Nat -> Option Nat
  | [] => none
  | n :: l => if jf n = true then vw l else some n
def kq (m : Nat) : List Nat := if m < 58 then [m] else if m = 60 then [34] else [2, 3]
def opsB (t : Nat) : Bool := decide (t = 43 \/ t = 44 \/ (12 <= t /\ t <= 22) \/ t = 28)
def contB (n t : Nat) : Bool :=
  if n = 58 then decide (24 <= t /\ t <= 27)
  else if n = 59 then decide (t = 39)
  else if n = 61 then decide (t = 12) || opsB t
  else if n = 62 then decide (t = 32) || opsB t
  else if n = 63 then decide (t = 28)
  else if n = 64 then decide (t = 29)
  else if n = 65 then decide (t = 30)
  else if n = 66 then decide (t = 1 \/ t = 8)
  else if n = 67 then decide (t = 8)
  else if n = 68 then decide (t = 1 \/ t = 33)
  else if n = 83 then jD 69 t || decide (t = 8) || opsB t
  else if n = 84 then decide (t = 8) || opsB t
  else decide (69 <= n) && opsB t
def termOk (n : Nat) : Bool := decide (n = 1 \/ (4 <= n /\ n <= 11) \/ (23 <= n /\ n < 85))
def sepB (n : Nat) (o : Option Nat) : Bool := match o with
  | none => true
  | some m => (kq m).all fun t => !contB n t
def wellB : List Nat -> Bool
  | [] => true
  | n :: l => termOk n && sepB n (vw l) && wellB l
def tailB (st : List Nat) : Bool := decide (st = []) || decide (st.getLastD 0 = 5)
structure Inv (st : List Nat) : Prop where
  ok : okSt st = true
  well : wellB st = true
  tail : tailB st = true
theorem headNE_app : ∀ (k l : List Nat), vw (k ++ l) = match vw k with | some m => some m | none => vw l
  | [], l => rfl
  | n :: k, l => by
    rw [List.cons_append, vw, vw]
    by_cases h : jf n = true
    · rw [if_pos h, if_pos h]; exact headNE_app k l
    · rw [if_neg h, if_neg h]
theorem well_suffix : ∀ (a b : List Nat), wellB (a ++ b) = true -> wellB b = true
  | [], b, h => h
  | n :: a, b, h => by
    rw [List.cons_append, wellB, Bool.and_eq_true] at h
    exact well_suffix a b h.2
def okK (n : Nat) : List Nat -> Bool
  | [] => true
  | x :: r => termOk x && (match vw r with
    | some m => sepB x (some m)
    | none => (List.range 58).all fun t => !contB x t || contB n t) && okK n r
theorem firsts_lt {m : Nat} : ∀ t ∈ kq m, t < 58 := by
  intro t h
  unfold kq at h
  split at h
  · rw [List.mem_singleton] at h; omega
  · split at h
    · rw [List.mem_singleton] at h; omega
    · simp only [List.mem_cons, List.not_mem_nil, or_false] at h; omega
theorem well_app (n : Nat) (l : List Nat) (hl : wellB l = true) (hs : sepB n (vw l) = true) : ∀ k, okK n k = true -> wellB (k ++ l) = true
  | [], _ => hl
  | x :: r, h => by
    rw [okK, Bool.and_eq_true, Bool.and_eq_true] at h
    obtain ⟨⟨h1, h2⟩, h3⟩ := h
    rw [List.cons_append, wellB, h1, well_app n l hl hs r h3, Bool.and_true, Bool.true_and, headNE_app]
    cases hr : vw r with
    | some m => rw [hr] at h2; exact h2
    | none =>
      rw [hr] at h2
      simp only at h2 ⊢
      cases ho : vw l with
      | none => rfl
      | some m =>
        rw [ho] at hs
        unfold sepB at hs ⊢
        simp only at hs ⊢
        refine List.all_eq_true.2 fun t ht => ?_
        have h4 := List.all_eq_true.1 hs t ht
        have h5 := List.all_eq_true.1 h2 t (List.mem_range.2 (firsts_lt t ht))
        cases hc : contB x t with
        | false => rfl
        | true =>
          rw [hc, Bool.not_true, Bool.false_or] at h5
          rw [h5] at h4
          exact h4
def wellGrow (n t : Nat) : Bool := !jD n t || (match jl t 30 [n] with | some k => okK n k | none => true)
theorem wellGrow_all : ∀ n : Fin 85, ∀ t : Fin 58, wellGrow n.val t.val = true := by decide +kernel
theorem lastD_app (a : List Nat) {b : List Nat} (hb : b ≠ []) : (a ++ b).getLastD 0 = b.getLastD 0 := by
  rw [List.getLastD_eq_getLast?, List.getLastD_eq_getLast?, List.getLast?_append, List.getLast?_eq_some_getLast hb]
  rfl
theorem tail_app {a b : List Nat} (h : tailB (a ++ b) = true) (hb : b ≠ []) : tailB b = true := by
  unfold tailB at h ⊢
  rw [Bool.or_eq_true] at h ⊢
  rcases h with h | h
  · exact absurd (List.append_eq_nil_iff.1 (of_decide_eq_true h)).2 hb
  · rw [lastD_app a hb] at h
    exact .inr h
theorem tail_cons {k b : List Nat} (h : tailB b = true) (hb : b ≠ []) : tailB (k ++ b) = true := by
  unfold tailB at h ⊢
  rw [Bool.or_eq_true] at h ⊢
  rcases h with h | h
  · exact absurd (of_decide_eq_true h) hb
  · rw [lastD_app k hb]
    exact .inr h
def lastGrow (n t : Nat) : Bool := !jD n t || decide (n ≠ 5) || decide (t = 5)
theorem Inv.take {st : List Nat} (h : Inv st) {t : Nat} (ht : t < 58) (hm : mayN t st = true) : Inv (jc t st) := by
  obtain ⟨e, n, l, k, hst, he, hb, h85, hk, hst'⟩ := vf ht hm (vl ht hm)
  have hw := h.well
  rw [hst] at hw
  have hw2 := well_suffix e _ hw
  rw [wellB, Bool.and_eq_true, Bool.and_eq_true] at hw2
  have hg := wellGrow_all ⟨n, h85⟩ ⟨t, ht⟩
  simp only [wellGrow, hb, Bool.not_true, Bool.false_or, hk] at hg
  refine ⟨ok_with ht h.ok hm, by rw [hst']; exact well_app n l hw2.2 hw2.1.2 k hg, ?_⟩
  rw [hst']
  have htl := h.tail
  rw [hst] at htl
  by_cases hl : l = []
  · subst hl
    have h5 : n = 5 := by
      have := tail_app (a := e) htl (by simp)
      unfold tailB at this
      rw [Bool.or_eq_true] at this
      rcases this with e | e
      · exact absurd (of_decide_eq_true e) (by simp)
      · exact of_decide_eq_true e
    subst h5
    have : t = 5 := (begins_term (by decide) hb).symm
    subst this
    have h0 : jl 5 30 [5] = some [] := by decide
    rw [h0] at hk
    rw [<- Option.some.inj hk]
    rfl
  · have := tail_app (a := e ++ [n]) (b := l) (by rw [List.append_assoc]; exact htl) hl
    exact tail_cons this hl
theorem Inv.start : Inv [23, 1, 4, 58, 5] := ⟨by decide, by decide, by decide⟩
theorem split_ne : ∀ (st : List Nat), wellB st = true -> st ≠ [] -> tailB st = true -> ∃ e m l, st = e ++ m :: l /\ (e.all jf) = true /\ jf m = false /\ (∀ x ∈ e, ∀ t ∈ kq m, contB x t = false)
  | [], _, h, _ => absurd rfl h
  | n :: l, hw, _, ht => by
    by_cases he : jf n = true
    · have hl : l ≠ [] := fun e => by
        subst e
        unfold tailB at ht
        rw [Bool.or_eq_true] at ht
        rcases ht with e | e
        · exact absurd (of_decide_eq_true e) (by simp)
        · have e5 : n = 5 := of_decide_eq_true e
          rw [e5] at he
          cases he
      rw [wellB, Bool.and_eq_true, Bool.and_eq_true] at hw
      obtain ⟨e, m, l2, h1, h2, h3, h4⟩ := split_ne l hw.2 hl (tail_app (a := [n]) ht hl)
      refine ⟨n :: e, m, l2, by rw [h1]; rfl, by rw [List.all_cons, he, h2]; rfl, h3, fun x hx t hm => ?_⟩
      rcases List.mem_cons.1 hx with rfl | hx
      · have hs := hw.1.2
        have hh : vw l = some m := by
          rw [h1, headNE_app]
          have : ∀ e : List Nat, e.all jf = true -> vw e = none := by
            intro e
            induction e with
            | nil => exact fun _ => rfl
            | cons y e ih =>
              intro h
              rw [List.all_cons, Bool.and_eq_true] at h
              rw [vw, if_pos h.1]
              exact ih h.2
          rw [this e h2, vw, if_neg (by rw [h3]; decide)]
        rw [hh] at hs
        have := List.all_eq_true.1 hs t hm
        simpa using this
      · exact h4 x hx t hm
    · exact ⟨[], n, l, rfl, rfl, by simpa using he, fun x hx => by cases hx⟩
def beginsCont (n t : Nat) : Bool := !jf n || !jD n t || contB n t
theorem beginsCont_all : ∀ n : Fin 85, ∀ t : Fin 58, beginsCont n.val t.val = true := by decide +kernel
theorem no_begin {x t : Nat} (ht : t < 58) (he : jf x = true) (hc : contB x t = false) : jD x t = false := by
  cases hb : jD x t with
  | false => rfl
  | true =>
    have h := beginsCont_all ⟨x, begins_lt ht hb⟩ ⟨t, ht⟩
    simp only [beginsCont, he, hb, hc, Bool.not_true, Bool.or_false] at h
    cases h
theorem with_shape {t n : Nat} {e l k : List Nat} (ht : t < 58) (he : ∀ x ∈ e, jf x = true /\ jD x t = false) (hb : jD n t = true) (hk : jl t 30 [n] = some k) : mayN t (e ++ n :: l) = true /\ jc t (e ++ n :: l) = k ++ l := by
  have hm : mayN t (e ++ n :: l) = true := by
    rw [mayN_skips t e (n :: l) (List.all_eq_true.2 fun x hx => by rw [(he x hx).1, (he x hx).2]; rfl), mayN, if_pos hb]
  refine ⟨hm, ?_⟩
  have hs : ∀ (e : List Nat), (∀ x ∈ e, jf x = true /\ jD x t = false) -> jl t (e.length + 30) (e ++ n :: l) = some (k ++ l) := by
    intro e
    induction e with
    | nil => exact fun _ => vH t 30 _ _ _ (by omega) (vg t 30 [n] k l hk)
    | cons x e ih =>
      intro h
      have hx := h x List.mem_cons_self
      have hge := empty_ge x hx.1
      rw [List.cons_append, List.length_cons, show e.length + 1 + 30 = (e.length + 30) + 1 by omega, jl, if_neg (by omega), skip_rule x t hx.2, List.nil_append]
      exact ih fun y hy => h y (List.mem_cons_of_mem _ hy)
  exact takeN_uniq (vl ht hm) (hs e he)
end Go.Proofs.YtmmjcbbogokmfaaGreatDoor
