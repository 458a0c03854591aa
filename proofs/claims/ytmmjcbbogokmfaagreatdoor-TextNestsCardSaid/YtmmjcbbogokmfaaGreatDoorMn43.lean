import Derived.Test.YtmmjcbbogokmfaaGreatDoorMn01
import Derived.Test.YtmmjcbbogokmfaaGreatDoorMn42
/- Brackets, minuses, nots within one another, plain: the reader's expression. -/
namespace Go.Proofs.YtmmjcbbogokmfaaGreatDoor

theorem drop_lt {src : List UInt8} {p : Nat} {c : UInt8} {l : List UInt8} (h : src.drop p = c :: l) : p < src.length := by
  have := congrArg List.length h
  rw [List.length_drop, List.length_cons] at this
  omega
theorem drop_more {src : List UInt8} {p : Nat} {l : List UInt8} (n : Nat) (h : src.drop p = l) : src.drop (p + n) = l.drop n := by
  rw [← h, List.drop_drop]
theorem nx_blank {src : List UInt8} {r : Rdr} {c : UInt8} {l : List UInt8} (h : src.drop r.at_ = c :: l) (hb : blankC c = true) : nextN src r = nextN src { r with at_ := r.at_ + 1 } := by
  unfold nextN
  have h1 : src.drop (r.at_ + 1) = l := by rw [drop_more 1 h]; rfl
  have e : r.at_ + (skipLen false l + 1) = r.at_ + 1 + skipLen false l := by omega
  simp only [h, h1]
  rw [skipLen, if_pos hb, e]
theorem nx_sign {src : List UInt8} {r : Rdr} {c : UInt8} {l : List UInt8} (h : src.drop r.at_ = c :: l) (hb : blankC c = false) (h5 : ¬ c.toNat = 35) (h4 : ¬ c.toNat = 34) (hw : wordC c = false) (h2 : signN [c, 61] = 0) :
    nextN src r = some { r with at_ := r.at_ + 1, from_ := r.at_, t := signN [c] } := by
  unfold nextN
  have hl := drop_lt h
  have hs : skipLen false (c :: l) = 0 := by rw [skipLen, if_neg (by rw [hb]; decide), if_neg h5]
  simp only [h, hs, Nat.add_zero]
  rw [if_neg (by omega), lexN, if_neg (by rw [hw]; decide), if_neg h4, if_neg (fun e => e.2 h2)]
  rfl
theorem nx_word {src : List UInt8} {r : Rdr} {x : UInt8} {w : List UInt8} {c : UInt8} {l : List UInt8} (h : src.drop r.at_ = (x :: w) ++ c :: l) (hw : (x :: w).all wordC = true) (hc : wordC c = false) :
    nextN src r = some { r with at_ := r.at_ + (x :: w).length, from_ := r.at_, t := namedN (x :: w) } := by
  unfold nextN
  have hl := drop_lt (c := x) (l := w ++ c :: l) h
  have hx : wordC x = true := by rw [List.all_cons, Bool.and_eq_true] at hw; exact hw.1
  obtain ⟨b1, b2, b3⟩ := word_byte hx
  have hs : skipLen false ((x :: w) ++ c :: l) = 0 := by rw [List.cons_append, skipLen, if_neg (by rw [b1]; decide), if_neg b2]
  simp only [h, hs, Nat.add_zero]
  rw [if_neg (by omega), List.cons_append, lexN, if_pos hx]
  rw [show (x :: (w ++ c :: l)).takeWhile wordC = x :: w from takeWhile_word (x :: w) c l hw hc]
  rfl
theorem nx_end {src : List UInt8} {r : Rdr} (h : src.drop r.at_ = []) : nextN src r = some { r with at_ := r.at_, from_ := r.at_ } := by
  unfold nextN
  have : src.length ≤ r.at_ := by
    have := congrArg List.length h
    rw [List.length_drop, List.length_nil] at this
    omega
  have hs : skipLen false [] = 0 := by rw [skipLen]
  simp only [h, hs, Nat.add_zero]
  rw [if_pos this]
theorem lexeme_of {src : List UInt8} {p n t o : Nat} {tr : Tre} {l : List UInt8} (h : src.drop p = l) : lexeme src ⟨p + n, p, t, o, tr⟩ = l.take n := by
  unfold lexeme
  simp only
  rw [List.drop_take, h, Nat.add_sub_cancel_left]
/-- a symbol that no expression goes on with -/
structure Ends (t : Nat) : Prop where
  r43 : rowOp 43 t = 0
  r44 : rowOp 44 t = 0
  r18 : rowOp 18 t = 0
  r20 : rowOp 20 t = 0
  cmp : ¬ (12 ≤ t ∧ t ≤ 17)
  isIn : ¬ t = 28
theorem ends5 : Ends 5 := ⟨by decide, by decide, by decide, by decide, by decide, by decide⟩
theorem ends7 : Ends 7 := ⟨by decide, by decide, by decide, by decide, by decide, by decide⟩
theorem ends9 : Ends 9 := ⟨by decide, by decide, by decide, by decide, by decide, by decide⟩
section
variable {src : List UInt8} {r r' : Rdr} {f : Nat} {root : Int}
theorem up_more {level : Nat} (h : rowOp level r'.t = 0) : exN src (f + 1) (.more level root) r' = some (root, [], r') := by
  rw [exN, if_pos h]
theorem up_45 (h : exN src f .unary r = some (root, [], r')) (he : Ends r'.t) (hn : r.t ≠ 45) : exN src (f + 4) (.row 45) r = some (root, [], r') := by
  have h19 : exN src (f + 1) (.row 19) r = some (root, [], r') := by
    rw [exN, if_neg (by decide), if_neg (by decide)]
    exact h
  have h20 : exN src (f + 2) (.row 20) r = some (root, [], r') := by
    rw [exN, if_neg (by decide), if_pos (by decide), show beneath 20 = 19 by decide, h19]
    exact up_more he.r20
  have h18 : exN src (f + 3) (.row 18) r = some (root, [], r') := by
    rw [exN, if_neg (by decide), if_pos (by decide), show beneath 18 = 20 by decide, h20]
    exact up_more he.r18
  rw [exN, if_pos rfl, if_neg hn, h18]
  simp only [Option.bind_some]
  rw [if_neg he.cmp, if_neg he.isIn]
theorem up_expr (h : exN src f (.row 45) r = some (root, [], r')) (he : Ends r'.t) (hn : r.t ≠ 40) : exN src (f + 3) .expr r = some (root, [], r') := by
  have h44 : exN src (f + 1) (.row 44) r = some (root, [], r') := by
    rw [exN, if_neg (by decide), if_pos (by decide), show beneath 44 = 45 by decide, h]
    cases f with
    | zero => rw [exN] at h; cases h
    | succ f => exact up_more he.r44
  have h43 : exN src (f + 2) (.row 43) r = some (root, [], r') := by
    rw [exN, if_neg (by decide), if_pos (by decide), show beneath 43 = 44 by decide, h44]
    exact up_more he.r43
  rw [exN, if_pos hn]
  exact h43
end
/-- what an expression leaves: so many nodes more, the symbol behind it -/
structure Left (src : List UInt8) (r : Rdr) (k : Nat) (t : Nat) (q : List UInt8) (r' : Rdr) : Prop where
  t_ : r'.t = t
  at_ : src.drop r'.at_ = q
  order : r'.order = r.order
  nodes : r'.tree.nodes.length = r.tree.nodes.length + k
  ats : r'.tree.ats.length = r.tree.ats.length + k
  miles : r'.tree.miles = r.tree.miles
theorem node_left {src : List UInt8} {r r1 : Rdr} {k t : Nat} {q : List UInt8} (h : Left src r k t q r1) (n : Nd) (a : Nat) (h1 : r.tree.nodes.length + k < 1000000) (h2 : r.tree.ats.length + k < 1000000) : ∃ r', nodeN n a r1 = some (((r.tree.nodes.length + k : Nat) : Int), r') ∧ Left src r (k + 1) t q r' := by
  unfold nodeN
  rw [if_pos (by rw [h.nodes, h.ats]; exact ⟨h1, h2⟩), h.nodes]
  exact ⟨_, rfl, h.t_, h.at_, h.order, by simp only [List.length_append, h.nodes]; rfl, by simp only [List.length_append, h.ats]; rfl, h.miles⟩
theorem Left.next {src : List UInt8} {r r1 : Rdr} {k t : Nat} {c : UInt8} {q : List UInt8} (h : Left src r k t (c :: q) r1) (hb : blankC c = false) (h5 : ¬ c.toNat = 35) (h4 : ¬ c.toNat = 34) (hw : wordC c = false) (h2 : signN [c, 61] = 0) : ∃ r', nextN src r1 = some r' ∧ Left src r k (signN [c]) q r' :=
  ⟨_, nx_sign h.at_ hb h5 h4 hw h2, rfl, by show src.drop (r1.at_ + 1) = q; rw [drop_more 1 h.at_]; rfl, h.order, h.nodes, h.ats, h.miles⟩
/-- a sign with nothing of a word's, none of two bytes -/
structure SignC (c : UInt8) : Prop where
  b : blankC c = false
  h5 : ¬ c.toNat = 35
  h4 : ¬ c.toNat = 34
  w : wordC c = false
  two : signN [c, 61] = 0
/-- the digit -/
theorem unary_zero {src : List UInt8} {r : Rdr} {c : UInt8} {q : List UInt8} (f : Nat) (ht : r.t = 2) (hx : lexeme src r = [48]) (h : src.drop r.at_ = c :: q) (hc : SignC c) (h1 : r.tree.nodes.length < 1000000) (h2 : r.tree.ats.length < 1000000) :
    ∃ r', exN src (f + 1) .unary r = some ((r.tree.nodes.length : Int), [], r') ∧ Left src r 1 (signN [c]) q r' := by
  have h0 : Left src r 0 (signN [c]) q { r with at_ := r.at_ + 1, from_ := r.at_, t := signN [c] } := ⟨rfl, by show src.drop (r.at_ + 1) = q; rw [drop_more 1 h]; rfl, rfl, rfl, rfl, rfl⟩
  have hl : literalNd 2 [48] = some ⟨1, ⟨#[]⟩, 1, 0, ⟨#[]⟩, [], []⟩ := rfl
  obtain ⟨r', e, hL⟩ := node_left h0 ⟨1, ⟨#[]⟩, 1, 0, ⟨#[]⟩, [], []⟩ r.from_ h1 h2
  refine ⟨r', ?_, hL⟩
  rw [exN, if_neg (by omega), if_pos (by rw [ht]; decide), hx, ht, hl, nx_sign h hc.b hc.h5 hc.h4 hc.w hc.two]
  simp only [Option.bind_some]
  rw [e]
  rfl
/-- the reader ahead of d brackets, the digit, what closes them -/
def Start (b : Brk) (src : List UInt8) (d : Nat) (r : Rdr) (c : UInt8) (q : List UInt8) : Prop := match d with
  | 0 => r.t = 2 ∧ lexeme src r = [48] ∧ src.drop r.at_ = c :: q
  | d + 1 => r.t = b.o ∧ src.drop r.at_ = reps [b.opn] d ++ (48 :: (reps [b.cls] (d + 1) ++ c :: q))
theorem start_of {b : Brk} (hb : b.Ok) {src : List UInt8} {d : Nat} {r : Rdr} {c : UInt8} {q : List UInt8} (hc : SignC c) (h : src.drop r.at_ = reps [b.opn] d ++ (48 :: (reps [b.cls] d ++ c :: q))) :
    ∃ r1, nextN src r = some r1 ∧ Start b src d r1 c q ∧ r1.order = r.order ∧ r1.tree = r.tree := by
  cases d with
  | zero =>
    have hd : src.drop r.at_ = [48] ++ c :: q := h
    refine ⟨_, nx_word hd (by decide) hc.w, ⟨(by decide : namedN [48] = 2), ?_, ?_⟩, rfl, rfl⟩
    · rw [show ({ r with at_ := r.at_ + ([48] : List UInt8).length, from_ := r.at_, t := namedN [48] } : Rdr) = ⟨r.at_ + 1, r.at_, namedN [48], r.order, r.tree⟩ from rfl, lexeme_of hd]
      rfl
    · show src.drop (r.at_ + 1) = c :: q
      rw [drop_more 1 hd]
      rfl
  | succ d =>
    obtain ⟨h1, h2, h3, h4, h5, h6, h7⟩ := hb.ob
    have hd : src.drop r.at_ = b.opn :: (reps [b.opn] d ++ (48 :: (reps [b.cls] (d + 1) ++ c :: q))) := h
    refine ⟨_, nx_sign hd h1 h2 h3 h4 h7, ⟨h5, ?_⟩, rfl, rfl⟩
    show src.drop (r.at_ + 1) = _
    rw [drop_more 1 hd]
    rfl
theorem start_next {b : Brk} (hb : b.Ok) {src : List UInt8} {d : Nat} {r : Rdr} {c : UInt8} {q : List UInt8} (h : Start b src (d + 1) r c q) (hcl : SignC b.cls) : ∃ r1, nextN src r = some r1 ∧ Start b src d r1 b.cls (c :: q) ∧ r1.order = r.order ∧ r1.tree = r.tree := by
  refine start_of hb hcl ?_
  rw [h.2]
  show reps [b.opn] d ++ (48 :: (([b.cls] ++ reps [b.cls] d) ++ c :: q)) = _
  rw [← reps_snoc, List.append_assoc]
  rfl
end Go.Proofs.YtmmjcbbogokmfaaGreatDoor

/- Brackets, minuses, nots within one another, plain: the reader reads each kind. -/
namespace Go.Proofs.YtmmjcbbogokmfaaGreatDoor

theorem sc41 : SignC 41 := ⟨by decide, by decide, by decide, by decide, by decide⟩
theorem sc125 : SignC 125 := ⟨by decide, by decide, by decide, by decide, by decide⟩
theorem sc59 : SignC 59 := ⟨by decide, by decide, by decide, by decide, by decide⟩
theorem Left.of_tree {src : List UInt8} {r r1 r2 : Rdr} {k t : Nat} {q : List UInt8} (h : Left src r1 k t q r2) (ho : r1.order = r.order) (e : r1.tree = r.tree) : Left src r k t q r2 :=
  ⟨h.t_, h.at_, h.order.trans ho, by rw [h.nodes, e], by rw [h.ats, e], by rw [h.miles, e]⟩
section
variable {src : List UInt8}
/-- round ones -/
theorem rnd_expr : ∀ (d : Nat) (r : Rdr) (c : UInt8) (q : List UInt8), Start rnd src d r c q → SignC c → Ends (signN [c]) → r.tree.nodes.length < 1000000 → r.tree.ats.length < 1000000 →
    ∃ r', exN src (8 * d + 8) .expr r = some ((r.tree.nodes.length : Int), [], r') ∧ Left src r 1 (signN [c]) q r'
  | 0, r, c, q, h, hc, he, h1, h2 => by
    obtain ⟨ht, hx, hd⟩ := h
    obtain ⟨r', e, hL⟩ := unary_zero 0 ht hx hd hc h1 h2
    exact ⟨r', up_expr (up_45 e (by rw [hL.t_]; exact he) (by omega)) (by rw [hL.t_]; exact he) (by omega), hL⟩
  | d + 1, r, c, q, h, hc, he, h1, h2 => by
    have ht : r.t = 6 := h.1
    obtain ⟨r1, n1, hs, ho, et⟩ := start_next rnd_ok h sc41
    obtain ⟨r2, e2, hL⟩ := rnd_expr d r1 41 (c :: q) hs sc41 ends7 (by rw [et]; exact h1) (by rw [et]; exact h2)
    obtain ⟨r3, n3, hL3⟩ := (hL.of_tree ho et).next hc.b hc.h5 hc.h4 hc.w hc.two
    have hu : exN src (8 * d + 9) .unary r = some ((r.tree.nodes.length : Int), [], r3) := by
      rw [exN, if_neg (by omega), if_neg (by rw [ht]; decide), if_pos ht, n1]
      simp only [Option.bind_some]
      rw [e2]
      simp only [Option.bind_some]
      rw [n3, et]
      rfl
    exact ⟨r3, up_expr (up_45 hu (by rw [hL3.t_]; exact he) (by omega)) (by rw [hL3.t_]; exact he) (by omega), hL3⟩
/-- braces -/
theorem crl_expr : ∀ (d : Nat) (r : Rdr) (c : UInt8) (q : List UInt8), Start crl src d r c q → SignC c → Ends (signN [c]) → r.tree.nodes.length + d < 1000000 → r.tree.ats.length + d < 1000000 →
    ∃ r', exN src (9 * d + 8) .expr r = some (((r.tree.nodes.length + d : Nat) : Int), [], r') ∧ Left src r (d + 1) (signN [c]) q r'
  | 0, r, c, q, h, hc, he, h1, h2 => by
    obtain ⟨ht, hx, hd⟩ := h
    obtain ⟨r', e, hL⟩ := unary_zero 0 ht hx hd hc h1 h2
    exact ⟨r', up_expr (up_45 e (by rw [hL.t_]; exact he) (by omega)) (by rw [hL.t_]; exact he) (by omega), hL⟩
  | d + 1, r, c, q, h, hc, he, h1, h2 => by
    have ht : r.t = 4 := h.1
    obtain ⟨r1, n1, hs, ho, et⟩ := start_next crl_ok h sc125
    have ht1 : ¬ r1.t = 5 ∧ ¬ r1.t = 8 := by
      cases d with
      | zero => have : r1.t = 2 := hs.1; omega
      | succ d => have : r1.t = 4 := hs.1; omega
    obtain ⟨r2, e2, hL⟩ := crl_expr d r1 125 (c :: q) hs sc125 ends5 (by rw [et]; omega) (by rw [et]; omega)
    obtain ⟨r3, n3, hL3⟩ := (hL.of_tree ho et).next hc.b hc.h5 hc.h4 hc.w hc.two
    have hl2 : exN src (9 * d + 8) (.list 5 [((r1.tree.nodes.length + d : Nat) : Int)]) r2 = some (0, [((r1.tree.nodes.length + d : Nat) : Int)], r3) := by
      rw [exN, if_pos (show r2.t = 5 from hL.t_), n3]
      rfl
    have hl : exN src (9 * d + 9) (.list 5 []) r1 = some (0, [((r1.tree.nodes.length + d : Nat) : Int)], r3) := by
      rw [exN, if_neg ht1.1, if_pos (by decide)]
      unfold skipN
      rw [if_neg ht1.2]
      simp only [Option.bind_some]
      rw [e2]
      simp only [Option.bind_some, List.nil_append]
      exact hl2
    obtain ⟨r4, n4, hL4⟩ := node_left hL3 (bareNd 6 [((r1.tree.nodes.length + d : Nat) : Int)]) r.from_ (by omega) (by omega)
    have hu : exN src (9 * d + 10) .unary r = some (((r.tree.nodes.length + (d + 1) : Nat) : Int), [], r4) := by
      rw [exN, if_neg (by omega), if_neg (by rw [ht]; decide), if_neg (by omega), if_pos ht, n1]
      simp only [Option.bind_some]
      rw [hl]
      simp only [Option.bind_some]
      rw [n4]
      rfl
    exact ⟨r4, up_expr (up_45 hu (by rw [hL4.t_]; exact he) (by omega)) (by rw [hL4.t_]; exact he) (by omega), hL4⟩
/-- the reader ahead of d operators and the digit -/
def StartP (w sp : List UInt8) (t : Nat) (src : List UInt8) (d : Nat) (r : Rdr) (c : UInt8) (q : List UInt8) : Prop := match d with
  | 0 => r.t = 2 ∧ lexeme src r = [48] ∧ src.drop r.at_ = c :: q
  | d + 1 => r.t = t ∧ src.drop r.at_ = sp ++ (reps w d ++ (48 :: c :: q))
theorem startm_of {d : Nat} {r : Rdr} {c : UInt8} {q : List UInt8} (hc : SignC c) (h : src.drop r.at_ = reps [45] d ++ (48 :: c :: q)) : ∃ r1, nextN src r = some r1 ∧ StartP [45] [] 19 src d r1 c q ∧ r1.order = r.order ∧ r1.tree = r.tree := by
  cases d with
  | zero =>
    have hd : src.drop r.at_ = [48] ++ c :: q := h
    refine ⟨_, nx_word hd (by decide) hc.w, ⟨(by decide : namedN [48] = 2), ?_, ?_⟩, rfl, rfl⟩
    · rw [show ({ r with at_ := r.at_ + ([48] : List UInt8).length, from_ := r.at_, t := namedN [48] } : Rdr) = ⟨r.at_ + 1, r.at_, namedN [48], r.order, r.tree⟩ from rfl, lexeme_of hd]
      rfl
    · show src.drop (r.at_ + 1) = c :: q
      rw [drop_more 1 hd]
      rfl
  | succ d =>
    have hd : src.drop r.at_ = 45 :: (reps [45] d ++ (48 :: c :: q)) := h
    refine ⟨_, nx_sign hd (by decide) (by decide) (by decide) (by decide) (by decide), ⟨(by decide : signN [45] = 19), ?_⟩, rfl, rfl⟩
    show src.drop (r.at_ + 1) = _
    rw [drop_more 1 hd]
    rfl
theorem minus_unary : ∀ (d : Nat) (r : Rdr) (c : UInt8) (q : List UInt8), StartP [45] [] 19 src d r c q → SignC c → r.tree.nodes.length + d < 1000000 → r.tree.ats.length + d < 1000000 →
    ∃ r', exN src (d + 1) .unary r = some (((r.tree.nodes.length + d : Nat) : Int), [], r') ∧ Left src r (d + 1) (signN [c]) q r'
  | 0, r, c, q, h, hc, h1, h2 => unary_zero 0 h.1 h.2.1 h.2.2 hc h1 h2
  | d + 1, r, c, q, h, hc, h1, h2 => by
    obtain ⟨r1, n1, hs, ho, et⟩ := startm_of hc h.2
    obtain ⟨r2, e2, hL⟩ := minus_unary d r1 c q hs hc (by rw [et]; omega) (by rw [et]; omega)
    obtain ⟨r4, n4, hL4⟩ := node_left (hL.of_tree ho et) (bareNd 7 [((r1.tree.nodes.length + d : Nat) : Int)]) r.from_ (by omega) (by omega)
    refine ⟨r4, ?_, hL4⟩
    rw [exN, if_pos h.1, n1]
    simp only [Option.bind_some]
    rw [e2]
    simp only [Option.bind_some]
    rw [n4]
    rfl
theorem minus_expr (d : Nat) (r : Rdr) (c : UInt8) (q : List UInt8) (h : StartP [45] [] 19 src d r c q) (hc : SignC c) (he : Ends (signN [c])) (h1 : r.tree.nodes.length + d < 1000000) (h2 : r.tree.ats.length + d < 1000000) :
    ∃ r', exN src (d + 8) .expr r = some (((r.tree.nodes.length + d : Nat) : Int), [], r') ∧ Left src r (d + 1) (signN [c]) q r' := by
  obtain ⟨r', e, hL⟩ := minus_unary d r c q h hc h1 h2
  have ht : r.t = 2 ∨ r.t = 19 := by
    cases d with
    | zero => exact .inl h.1
    | succ d => exact .inr h.1
  exact ⟨r', up_expr (up_45 e (by rw [hL.t_]; exact he) (by omega)) (by rw [hL.t_]; exact he) (by omega), hL⟩
theorem startn_of {d : Nat} {r : Rdr} {c : UInt8} {q : List UInt8} (hc : SignC c) (h : src.drop r.at_ = reps [110, 111, 116, 32] d ++ (48 :: c :: q)) : ∃ r1, nextN src r = some r1 ∧ StartP [110, 111, 116, 32] [32] 45 src d r1 c q ∧ r1.order = r.order ∧ r1.tree = r.tree := by
  cases d with
  | zero =>
    have hd : src.drop r.at_ = [48] ++ c :: q := h
    refine ⟨_, nx_word hd (by decide) hc.w, ⟨(by decide : namedN [48] = 2), ?_, ?_⟩, rfl, rfl⟩
    · rw [show ({ r with at_ := r.at_ + ([48] : List UInt8).length, from_ := r.at_, t := namedN [48] } : Rdr) = ⟨r.at_ + 1, r.at_, namedN [48], r.order, r.tree⟩ from rfl, lexeme_of hd]
      rfl
    · show src.drop (r.at_ + 1) = c :: q
      rw [drop_more 1 hd]
      rfl
  | succ d =>
    have hd : src.drop r.at_ = [110, 111, 116] ++ 32 :: (reps [110, 111, 116, 32] d ++ (48 :: c :: q)) := h
    refine ⟨_, nx_word hd (by decide) (by decide), ⟨(by decide : namedN [110, 111, 116] = 45), ?_⟩, rfl, rfl⟩
    show src.drop (r.at_ + 3) = _
    rw [drop_more 3 hd]
    rfl
theorem nots_row : ∀ (d : Nat) (r : Rdr) (c : UInt8) (q : List UInt8), StartP [110, 111, 116, 32] [32] 45 src d r c q → SignC c → Ends (signN [c]) → r.tree.nodes.length + d < 1000000 → r.tree.ats.length + d < 1000000 →
    ∃ r', exN src (d + 5) (.row 45) r = some (((r.tree.nodes.length + d : Nat) : Int), [], r') ∧ Left src r (d + 1) (signN [c]) q r'
  | 0, r, c, q, h, hc, he, h1, h2 => by
    obtain ⟨ht, hx, hd⟩ := h
    obtain ⟨r', e, hL⟩ := unary_zero 0 ht hx hd hc h1 h2
    exact ⟨r', up_45 e (by rw [hL.t_]; exact he) (by omega), hL⟩
  | d + 1, r, c, q, h, hc, he, h1, h2 => by
    obtain ⟨r1, n1, hs, ho, et⟩ := startn_of (r := { r with at_ := r.at_ + 1 }) hc (by show src.drop (r.at_ + 1) = _; rw [drop_more 1 h.2]; rfl)
    rw [← nx_blank h.2 (by decide)] at n1
    obtain ⟨r2, e2, hL⟩ := nots_row d r1 c q hs hc he (by rw [et]; show r.tree.nodes.length + d < _; omega) (by rw [et]; show r.tree.ats.length + d < _; omega)
    obtain ⟨r4, n4, hL4⟩ := node_left (hL.of_tree (r := r) ho et) (bareNd 8 [((r1.tree.nodes.length + d : Nat) : Int)]) r.from_ (by omega) (by omega)
    refine ⟨r4, ?_, hL4⟩
    rw [exN, if_pos rfl, if_pos h.1, n1]
    simp only [Option.bind_some]
    rw [e2]
    simp only [Option.bind_some]
    rw [n4]
    rfl
theorem nots_expr (d : Nat) (r : Rdr) (c : UInt8) (q : List UInt8) (h : StartP [110, 111, 116, 32] [32] 45 src d r c q) (hc : SignC c) (he : Ends (signN [c])) (h1 : r.tree.nodes.length + d < 1000000) (h2 : r.tree.ats.length + d < 1000000) :
    ∃ r', exN src (d + 8) .expr r = some (((r.tree.nodes.length + d : Nat) : Int), [], r') ∧ Left src r (d + 1) (signN [c]) q r' := by
  obtain ⟨r', e, hL⟩ := nots_row d r c q h hc he h1 h2
  have ht : r.t = 2 ∨ r.t = 45 := by
    cases d with
    | zero => exact .inl h.1
    | succ d => exact .inr h.1
  exact ⟨r', up_expr e (by rw [hL.t_]; exact he) (by omega), hL⟩
end
/-- what the whole text is read as -/
theorem read_guard (T : List UInt8) (f k : Nat) (hf : 0 < f) (HE : ∀ r : Rdr, (pre9 ++ T).drop r.at_ = T → r.tree.nodes = [] → r.tree.ats = [] → ∃ r1 r', nextN (pre9 ++ T) r = some r1 ∧ exN (pre9 ++ T) f .expr r1 = some ((k : Int), [], r') ∧ Left (pre9 ++ T) r (k + 1) 9 [125] r') :
    ∃ R, readN (pre9 ++ T) (f + 1) = some R ∧ R.tree.nodes.length = k + 1 ∧ R.tree.miles.map (·.when_) = [(k : Int)] := by
  obtain ⟨f, rfl⟩ : ∃ g, f = g + 1 := ⟨f - 1, by omega⟩
  have n1 : nextN (pre9 ++ T) ⟨0, 0, 0, 0, Tre.none_⟩ = some ⟨4, 0, 23, 0, Tre.none_⟩ := nx_word (r := ⟨0, 0, 0, 0, Tre.none_⟩) (x := 116) (w := [121, 112, 101]) (c := 32) (l := pre9.drop 5 ++ T) rfl (by decide) (by decide)
  have n2 : nextN (pre9 ++ T) ⟨4, 0, 23, 0, Tre.none_⟩ = some ⟨6, 5, 1, 0, Tre.none_⟩ := (nx_blank (r := ⟨4, 0, 23, 0, Tre.none_⟩) (c := 32) (l := pre9.drop 5 ++ T) rfl (by decide)).trans (nx_word (r := ⟨5, 0, 23, 0, Tre.none_⟩) (x := 97) (w := []) (c := 123) (l := pre9.drop 7 ++ T) rfl (by decide) (by decide))
  have n3 : nextN (pre9 ++ T) ⟨6, 5, 1, 0, Tre.none_⟩ = some ⟨7, 6, 4, 0, Tre.none_⟩ := nx_sign (r := ⟨6, 5, 1, 0, Tre.none_⟩) (c := 123) (l := pre9.drop 7 ++ T) rfl (by decide) (by decide) (by decide) (by decide) (by decide)
  have n4 : nextN (pre9 ++ T) ⟨7, 6, 4, 0, Tre.none_⟩ = some ⟨16, 7, 26, 0, Tre.none_⟩ := nx_word (r := ⟨7, 6, 4, 0, Tre.none_⟩) (x := 109) (w := [105, 108, 101, 115, 116, 111, 110, 101]) (c := 32) (l := pre9.drop 17 ++ T) rfl (by decide) (by decide)
  have m1 : nameN (pre9 ++ T) ⟨6, 5, 1, 0, Tre.none_⟩ = some (⟨(lexeme (pre9 ++ T) ⟨6, 5, 1, 0, Tre.none_⟩).toArray⟩, 5, ⟨7, 6, 4, 0, Tre.none_⟩) := by unfold nameN; rw [n3]; rfl
  generalize hname : (⟨(lexeme (pre9 ++ T) ⟨6, 5, 1, 0, Tre.none_⟩).toArray⟩ : ByteArray) = nm at m1
  clear hname
  generalize ht0 : ({ Tre.none_ with name := nm, at_ := 5 } : Tre) = t0
  have e1 : t0.nodes = [] := by rw [← ht0]; rfl
  have e2 : t0.ats = [] := by rw [← ht0]; rfl
  have e3 : t0.miles = [] := by rw [← ht0]; rfl
  have n5 : nextN (pre9 ++ T) ⟨16, 7, 26, 0, t0⟩ = some ⟨18, 17, 1, 0, t0⟩ := (nx_blank (r := ⟨16, 7, 26, 0, t0⟩) (c := 32) (l := pre9.drop 17 ++ T) rfl (by decide)).trans (nx_word (r := ⟨17, 7, 26, 0, t0⟩) (x := 97) (w := []) (c := 32) (l := pre9.drop 19 ++ T) rfl (by decide) (by decide))
  have n6 : nextN (pre9 ++ T) ⟨18, 17, 1, 0, t0⟩ = some ⟨26, 19, 31, 0, t0⟩ := (nx_blank (r := ⟨18, 17, 1, 0, t0⟩) (c := 32) (l := pre9.drop 19 ++ T) rfl (by decide)).trans (nx_word (r := ⟨19, 17, 1, 0, t0⟩) (x := 114) (w := [101, 97, 99, 104, 101, 100]) (c := 32) (l := pre9.drop 27 ++ T) rfl (by decide) (by decide))
  have m2 : nameN (pre9 ++ T) ⟨18, 17, 1, 0, t0⟩ = some (⟨(lexeme (pre9 ++ T) ⟨18, 17, 1, 0, t0⟩).toArray⟩, 17, ⟨26, 19, 31, 0, t0⟩) := by unfold nameN; rw [n6]; rfl
  generalize (⟨(lexeme (pre9 ++ T) ⟨18, 17, 1, 0, t0⟩).toArray⟩ : ByteArray) = nm2 at m2
  have d1 : declN (pre9 ++ T) ⟨16, 7, 26, 0, t0⟩ = some (nm2, 17, 0, ⟨26, 19, 31, 1, t0⟩) := by
    unfold declN
    rw [n5]
    simp only [Option.bind_some]
    rw [m2]
    rfl
  have n7 : nextN (pre9 ++ T) ⟨26, 19, 31, 1, t0⟩ = some ⟨31, 27, 32, 1, t0⟩ := (nx_blank (r := ⟨26, 19, 31, 1, t0⟩) (c := 32) (l := pre9.drop 27 ++ T) rfl (by decide)).trans (nx_word (r := ⟨27, 19, 31, 1, t0⟩) (x := 119) (w := [104, 101, 110]) (c := 32) (l := T) rfl (by decide) (by decide))
  have n8 : nextN (pre9 ++ T) ⟨31, 27, 32, 1, t0⟩ = nextN (pre9 ++ T) ⟨32, 27, 32, 1, t0⟩ := nx_blank (r := ⟨31, 27, 32, 1, t0⟩) (c := 32) (l := T) rfl (by decide)
  obtain ⟨r1, r2, h1, h2, hL⟩ := HE ⟨32, 27, 32, 1, t0⟩ rfl e1 e2
  rw [← n8] at h1
  obtain ⟨r3, h3, hL3⟩ := hL.next sc125.b sc125.h5 sc125.h4 sc125.w sc125.two
  have g1 : guardN (pre9 ++ T) (f + 1) 31 ⟨26, 19, 31, 1, t0⟩ = some ((k : Int), r2) := by
    unfold guardN
    rw [if_neg (fun e => e rfl), n7]
    simp only [Option.bind_some]
    rw [if_neg (by decide), h1]
    simp only [Option.bind_some]
    unfold exprN
    rw [h2]
    rfl
  have g2 : ruledN (pre9 ++ T) (f + 1) 31 ⟨26, 19, 31, 1, t0⟩ = some ((k : Int), r3) := by
    unfold ruledN
    rw [g1]
    simp only [Option.bind_some]
    rw [if_pos (Int.natCast_nonneg k), h3]
    rfl
  have hm : r3.tree.miles.length < 1000000 := by rw [hL3.miles]; show t0.miles.length < _; rw [e3]; decide
  have g3 : mileN (pre9 ++ T) (f + 1) ⟨16, 7, 26, 0, t0⟩ = some { r3 with tree := { r3.tree with miles := r3.tree.miles ++ [⟨nm2, 17, 0, ⟨#[]⟩, 0, (k : Int)⟩] } } := by
    unfold mileN
    rw [d1]
    simp only [Option.bind_some]
    unfold inN
    rw [if_neg (by decide : ¬ (31 = 28))]
    simp only [Option.bind_some]
    rw [g2]
    simp only [Option.bind_some]
    rw [if_pos hm]
  refine ⟨{ r3 with tree := { r3.tree with miles := r3.tree.miles ++ [⟨nm2, 17, 0, ⟨#[]⟩, 0, (k : Int)⟩] } }, ?_, ?_, ?_⟩
  · unfold readN
    rw [n1]
    simp only [Option.bind_some]
    rw [n2]
    simp only [Option.bind_some]
    rw [m1]
    simp only [Option.bind_some]
    rw [n4]
    simp only [Option.bind_some]
    rw [show ({ (⟨16, 7, 26, 0, Tre.none_⟩ : Rdr) with tree := { (⟨16, 7, 26, 0, Tre.none_⟩ : Rdr).tree with name := nm, at_ := 5 } } : Rdr) = ⟨16, 7, 26, 0, t0⟩ by rw [← ht0]]
    rw [declsN, if_neg (by decide : ¬ (26 = 24)), if_neg (by decide : ¬ (26 = 25)), if_pos rfl, g3]
    simp only [Option.bind_some]
    have h5 : r3.t = 5 := hL3.t_
    rw [declsN, if_neg (by show ¬ r3.t = 24; omega), if_neg (by show ¬ r3.t = 25; omega), if_neg (by show ¬ r3.t = 26; omega), if_neg (by show ¬ r3.t = 27; omega)]
  · show r3.tree.nodes.length = k + 1
    rw [hL3.nodes]
    show t0.nodes.length + (k + 1) = k + 1
    rw [e1, List.length_nil, Nat.zero_add]
  · show (r3.tree.miles ++ [_]).map _ = _
    rw [hL3.miles]
    show (t0.miles ++ [_]).map _ = _
    rw [e3]
    rfl
theorem read_rnd (n : Nat) : ∃ R, readN (nestB rnd n n ++ endT) (8 * n + 9) = some R ∧ R.tree.nodes.length = 0 + 1 ∧ R.tree.miles.map (·.when_) = [((0 : Nat) : Int)] := by
  have e0 : nestB rnd n n ++ endT = pre9 ++ (reps [40] n ++ (48 :: (reps [41] n ++ endT))) := by unfold nestB; simp only [List.append_assoc, List.cons_append]; rfl
  rw [e0]
  refine read_guard _ (8 * n + 8) 0 (by omega) (fun r hd e1 e2 => ?_)
  obtain ⟨r1, h1, hs, ho, et⟩ := start_of rnd_ok (d := n) (c := 59) (q := [125]) sc59 hd
  obtain ⟨r', h2, hL⟩ := rnd_expr n r1 59 [125] hs sc59 ends9 (by rw [et, e1]; decide) (by rw [et, e2]; decide)
  refine ⟨r1, r', h1, ?_, hL.of_tree ho et⟩
  rw [h2, et, e1]
  rfl
theorem read_crl (n : Nat) (hn : n < 500000) : ∃ R, readN (nestB crl n n ++ endT) (9 * n + 9) = some R ∧ R.tree.nodes.length = n + 1 ∧ R.tree.miles.map (·.when_) = [(n : Int)] := by
  have e0 : nestB crl n n ++ endT = pre9 ++ (reps [123] n ++ (48 :: (reps [125] n ++ endT))) := by unfold nestB; simp only [List.append_assoc, List.cons_append]; rfl
  rw [e0]
  refine read_guard _ (9 * n + 8) n (by omega) (fun r hd e1 e2 => ?_)
  obtain ⟨r1, h1, hs, ho, et⟩ := start_of crl_ok (d := n) (c := 59) (q := [125]) sc59 hd
  obtain ⟨r', h2, hL⟩ := crl_expr n r1 59 [125] hs sc59 ends9 (by rw [et, e1, List.length_nil]; omega) (by rw [et, e2, List.length_nil]; omega)
  refine ⟨r1, r', h1, ?_, hL.of_tree ho et⟩
  rw [h2, et, e1, List.length_nil, Nat.zero_add]
theorem read_minus (n : Nat) (hn : n < 500000) : ∃ R, readN (nestP minus n ++ endT) (n + 9) = some R ∧ R.tree.nodes.length = n + 1 ∧ R.tree.miles.map (·.when_) = [(n : Int)] := by
  have e0 : nestP minus n ++ endT = pre9 ++ (reps [45] n ++ (48 :: endT)) := by unfold nestP; simp only [List.append_assoc, List.cons_append, List.nil_append]; rfl
  rw [e0]
  refine read_guard _ (n + 8) n (by omega) (fun r hd e1 e2 => ?_)
  obtain ⟨r1, h1, hs, ho, et⟩ := startm_of (d := n) (c := 59) (q := [125]) sc59 hd
  obtain ⟨r', h2, hL⟩ := minus_expr n r1 59 [125] hs sc59 ends9 (by rw [et, e1, List.length_nil]; omega) (by rw [et, e2, List.length_nil]; omega)
  refine ⟨r1, r', h1, ?_, hL.of_tree ho et⟩
  rw [h2, et, e1, List.length_nil, Nat.zero_add]
theorem read_nots (n : Nat) (hn : n < 500000) : ∃ R, readN (nestP nots n ++ endT) (n + 9) = some R ∧ R.tree.nodes.length = n + 1 ∧ R.tree.miles.map (·.when_) = [(n : Int)] := by
  have e0 : nestP nots n ++ endT = pre9 ++ (reps [110, 111, 116, 32] n ++ (48 :: endT)) := by unfold nestP; simp only [List.append_assoc, List.cons_append, List.nil_append]; rfl
  rw [e0]
  refine read_guard _ (n + 8) n (by omega) (fun r hd e1 e2 => ?_)
  obtain ⟨r1, h1, hs, ho, et⟩ := startn_of (d := n) (c := 59) (q := [125]) sc59 hd
  obtain ⟨r', h2, hL⟩ := nots_expr n r1 59 [125] hs sc59 ends9 (by rw [et, e1, List.length_nil]; omega) (by rw [et, e2, List.length_nil]; omega)
  refine ⟨r1, r', h1, ?_, hL.of_tree ho et⟩
  rw [h2, et, e1, List.length_nil, Nat.zero_add]
end Go.Proofs.YtmmjcbbogokmfaaGreatDoor
