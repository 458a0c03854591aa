import Derived.Test.YtmmjcbbogokmfaaGreatDoorMt21
import Derived.Test.YtmmjcbbogokmfaaGreatDoorMt22
import Derived.Test.YtmmjcbbogokmfaaGreatDoorMt23
import Derived.Test.YtmmjcbbogokmfaaGreatDoorMt24
set_option maxRecDepth 100000
set_option maxHeartbeats 25600000
namespace Go.Proofs.YtmmjcbbogokmfaaGreatDoor
open Go.RowKit
theorem level_cases (op : Int) : (jV op = 0 /\ op = 23) \/ (jV op = 1 /\ op = 10) \/ (jV op = 2 /\ op = 9) \/ (jV op = 3 /\ op = 8) \/ (jV op = 4 /\ 11 <= op /\ op <= 17) \/ (jV op = 5 /\ 18 <= op /\ op <= 19) \/ (jV op = 6 /\ 20 <= op /\ op <= 22) \/ (jV op = 7 /\ op = 7) \/ (jV op = 8 /\ (op < 7 \/ 23 < op)) := by
  unfold jV
  by_cases h1 : op = 23
  · rw [if_pos h1]; exact .inl ⟨rfl, h1⟩
  rw [if_neg h1]
  by_cases h2 : op = 10
  · rw [if_pos h2]; exact .inr (.inl ⟨rfl, h2⟩)
  rw [if_neg h2]
  by_cases h3 : op = 9
  · rw [if_pos h3]; exact .inr (.inr (.inl ⟨rfl, h3⟩))
  rw [if_neg h3]
  by_cases h4 : op = 8
  · rw [if_pos h4]; exact .inr (.inr (.inr (.inl ⟨rfl, h4⟩)))
  rw [if_neg h4]
  by_cases h5 : 11 <= op /\ op <= 17
  · rw [if_pos h5]; exact .inr (.inr (.inr (.inr (.inl ⟨rfl, h5⟩))))
  rw [if_neg h5]
  by_cases h6 : op = 18 \/ op = 19
  · rw [if_pos h6]; exact .inr (.inr (.inr (.inr (.inr (.inl ⟨rfl, by omega, by omega⟩)))))
  rw [if_neg h6]
  by_cases h7 : 20 <= op /\ op <= 22
  · rw [if_pos h7]; exact .inr (.inr (.inr (.inr (.inr (.inr (.inl ⟨rfl, h7⟩))))))
  rw [if_neg h7]
  by_cases h8 : op = 7
  · rw [if_pos h8]; exact .inr (.inr (.inr (.inr (.inr (.inr (.inr (.inl ⟨rfl, h8⟩)))))))
  rw [if_neg h8]
  exact .inr (.inr (.inr (.inr (.inr (.inr (.inr (.inr ⟨rfl, by omega⟩)))))))
def bodyP (nodes : List Nd) (f : Nat) (n : Nd) (b0 : List UInt8) : Option (List UInt8) :=
  let own := jV n.op
  let two (l r : Nat) (w : List UInt8) : Option (List UInt8) := match n.kids with
    | k :: q :: _ => (exprP nodes f k l b0).bind fun b1 => exprP nodes f q r (putB b1 w)
    | _ => none
  let one : Option (List UInt8) := match n.kids with
    | k :: _ => exprP nodes f k own (putB b0 (jE n.op))
    | _ => none
  if own = 0 then (match n.kids with
      | a :: c :: d :: _ => (exprP nodes f a 0 (putB b0 [105, 102])).bind fun b1 => (exprP nodes f c 0 (putB b1 [116, 104, 101, 110])).bind fun b2 => exprP nodes f d 0 (putB b2 [101, 108, 115, 101])
      | _ => none)
    else if own = 1 \/ own = 2 \/ own = 5 \/ own = 6 then two own (own + 1) (jE n.op)
    else if own = 3 \/ own = 7 then one
    else if own = 4 then two 5 5 (jE n.op)
    else atomP nodes f n b0
theorem exprP_inv {ns : List Nd} {f : Nat} {root : Int} {least : Nat} {b l' : List UInt8} (h : exprP ns (f + 1) root least b = some l') : ∃ r : Nat, root = (r : Int) /\ ∃ n, ns[r]? = some n /\ ∃ b1, bodyP ns f n (opens (jV n.op) least b) = some b1 /\ shuts (jV n.op) least b1 = l' := by
  rw [exprP] at h
  by_cases hr : root < 0
  · rw [if_pos hr] at h; cases h
  rw [if_neg hr] at h
  cases hn : ns[root.toNat]? with
  | none => rw [hn] at h; cases h
  | some n =>
    rw [hn] at h
    obtain ⟨b1, h1, e⟩ := Option.map_eq_some_iff.1 h
    exact ⟨root.toNat, by omega, n, hn, b1, h1, e⟩
theorem yM {ns : List Nd} {f : Nat} {root : Int} {least : Nat} {b l' : List UInt8} (h : exprP ns f root least b = some l') : 0 <= root := by
  cases f with
  | zero => rw [exprP] at h; cases h
  | succ f =>
    obtain ⟨r, e, -⟩ := exprP_inv h
    omega
theorem right_op {n : Nd} (h : jB n = true) : 1 <= n.op /\ n.op <= 33 := by
  rcases Int.lt_or_le n.op 1 with h1 | h1
  · exfalso
    unfold jB at h
    rw [if_neg (by omega), if_neg (by omega), if_neg (by omega), if_neg (by omega), if_neg (by omega), if_neg (by omega), if_neg (by omega), if_neg (by omega), decide_eq_false (p := 1 <= n.op /\ n.op < 34) (by omega)] at h
    simp at h
  · rcases Int.lt_or_le n.op 34 with h2 | h2
    · exact ⟨h1, by omega⟩
    · exfalso
      unfold jB at h
      rw [if_neg (by omega), if_neg (by omega), if_neg (by omega), if_neg (by omega), if_neg (by omega), if_neg (by omega), if_neg (by omega), if_neg (by omega), decide_eq_false (p := 1 <= n.op /\ n.op < 34) (by omega)] at h
      simp at h
theorem right_bool {n : Nd} (h : jB n = true) (h2 : n.op = 2) : n.vn = 0 \/ n.vn = 1 := by
  unfold jB at h
  rw [if_neg (by omega), if_pos h2] at h
  simp only [Bool.and_eq_true, decide_eq_true_eq] at h
  exact h.1.1.1.1.2
def AtomsOk (w : World) (t : Tre) (s : Sl) : Prop := ∀ (W : World) (next : Nat) (l : List UInt8) (B : Option Addr) (bc : Nat) (x : MNd), x.n ∈ t.nodes -> x.n.op = 1 \/ x.n.op = 3 -> Pr w t s next l B bc W -> ∀ (f : Nat) (l' : List UInt8), atomP t.nodes f x.n l = some l' -> l'.length <= LIMP ->
  Calls Tryz.prog 193 #[.pointer (some ⟨w.heap.size, 0, none⟩), .agg (ndC x).toArray] W (PrR w t s next l' W)
theorem atom_all (w W : World) (hg : Sg w) (h80 : 8 <= w.heap.size) (t : Tre) (s : Sl) (AT : AtomsOk w t s) (f : Nat) (PX : PxAll w t s f) (next : Nat) (l l' : List UInt8) (B : Option Addr) (bc : Nat) (h : Pr w t s next l B bc W) (x : MNd) (hm : x.n ∈ t.nodes) (hr : jB x.n = true) (h8 : x.n.op < 7 \/ 23 < x.n.op) (hrd : Rd w 1 x.A x.n.kids.length (x.n.kids.map iv)) (hn : x.n.kids.length <= 1000000000) (hk : atomP t.nodes f x.n l = some l') (hl : l'.length <= LIMP) :
    Calls Tryz.prog 193 #[.pointer (some ⟨w.heap.size, 0, none⟩), .agg (ndC x).toArray] W (PrR w t s next l' W) := by
  have h1 := right_op hr
  rcases Int.lt_or_le 23 x.n.op with hb | hb
  · exact atom_call w W hg h80 t s f PX next l l' B bc h x (by omega) hrd hn hk hl
  · have : x.n.op = 1 \/ x.n.op = 2 \/ x.n.op = 3 \/ x.n.op = 4 \/ x.n.op = 5 \/ x.n.op = 6 := by omega
    rcases this with e | e | e | e | e | e
    · exact AT W next l B bc x hm (.inl e) h f l' hk hl
    · rcases right_bool hr e with e2 | e2
      · exact atomw2b w W (h.sg hg h80) t s f next l l' B bc h x e e2 hk hl
      · exact atomw2a w W (h.sg hg h80) t s f next l l' B bc h x e e2 hk hl
    · exact AT W next l B bc x hm (.inr e) h f l' hk hl
    · exact atomw4 w W t s f next l l' B bc h x e hk hl
    · exact atomw5 w W t s f next l l' B bc h x e hk hl
    · exact atom_set w W t s f PX next l l' B bc h x e hrd hn hk hl
theorem vU {a c : Nat} (h : c <= a) (b : List UInt8) : opens a c b = b /\ shuts a c b = b := by
  unfold opens shuts
  rw [if_neg (by omega), if_neg (by omega)]
  exact ⟨rfl, rfl⟩
theorem vz {a c : Nat} (h : a < c) (b : List UInt8) : opens a c b = putB b [40] /\ shuts a c b = putB b [41] := by
  unfold opens shuts
  rw [if_pos h, if_pos h]
  exact ⟨rfl, rfl⟩
theorem bodyP_if {ns : List Nd} {f : Nat} {n : Nd} {b0 b1 : List UInt8} (hl : jV n.op = 0) (h : bodyP ns f n b0 = some b1) : ∃ k q z tl la lb, n.kids = k :: q :: z :: tl /\ exprP ns f k 0 (putB b0 [105, 102]) = some la /\ exprP ns f q 0 (putB la [116, 104, 101, 110]) = some lb /\ exprP ns f z 0 (putB lb [101, 108, 115, 101]) = some b1 := by
  unfold bodyP at h
  simp only [hl, if_true] at h
  rcases hk : n.kids with _ | ⟨k, _ | ⟨q, _ | ⟨z, tl⟩⟩⟩
  · rw [hk] at h; cases h
  · rw [hk] at h; cases h
  · rw [hk] at h; cases h
  · rw [hk] at h
    obtain ⟨la, h1, h⟩ := Option.bind_eq_some_iff.1 h
    obtain ⟨lb, h2, h⟩ := Option.bind_eq_some_iff.1 h
    exact ⟨k, q, z, tl, la, lb, rfl, h1, h2, h⟩
theorem bodyP_two {ns : List Nd} {f : Nat} {n : Nd} {b0 b1 : List UInt8} {own : Nat} (hl : jV n.op = own) (ho : own = 1 \/ own = 2 \/ own = 5 \/ own = 6) (h : bodyP ns f n b0 = some b1) : ∃ k q tl lm, n.kids = k :: q :: tl /\ exprP ns f k own b0 = some lm /\ exprP ns f q (own + 1) (putB lm (jE n.op)) = some b1 := by
  unfold bodyP at h
  simp only [hl] at h
  rw [if_neg (by omega), if_pos ho] at h
  rcases hk : n.kids with _ | ⟨k, _ | ⟨q, tl⟩⟩
  · rw [hk] at h; cases h
  · rw [hk] at h; cases h
  · rw [hk] at h
    obtain ⟨lm, h1, h⟩ := Option.bind_eq_some_iff.1 h
    exact ⟨k, q, tl, lm, rfl, h1, h⟩
theorem bodyP_one {ns : List Nd} {f : Nat} {n : Nd} {b0 b1 : List UInt8} {own : Nat} (hl : jV n.op = own) (ho : own = 3 \/ own = 7) (h : bodyP ns f n b0 = some b1) : ∃ k tl, n.kids = k :: tl /\ exprP ns f k own (putB b0 (jE n.op)) = some b1 := by
  unfold bodyP at h
  simp only [hl] at h
  rw [if_neg (by omega), if_neg (by omega), if_pos ho] at h
  rcases hk : n.kids with _ | ⟨k, tl⟩
  · rw [hk] at h; cases h
  · rw [hk] at h
    exact ⟨k, tl, rfl, h⟩
theorem bodyP_four {ns : List Nd} {f : Nat} {n : Nd} {b0 b1 : List UInt8} (hl : jV n.op = 4) (h : bodyP ns f n b0 = some b1) : ∃ k q tl lm, n.kids = k :: q :: tl /\ exprP ns f k 5 b0 = some lm /\ exprP ns f q 5 (putB lm (jE n.op)) = some b1 := by
  unfold bodyP at h
  simp only [hl] at h
  rw [if_neg (by omega), if_neg (by omega), if_neg (by omega), if_pos trivial] at h
  rcases hk : n.kids with _ | ⟨k, _ | ⟨q, tl⟩⟩
  · rw [hk] at h; cases h
  · rw [hk] at h; cases h
  · rw [hk] at h
    obtain ⟨lm, h1, h⟩ := Option.bind_eq_some_iff.1 h
    exact ⟨k, q, tl, lm, rfl, h1, h⟩
theorem bodyP_atom {ns : List Nd} {f : Nat} {n : Nd} {b0 b1 : List UInt8} (hl : jV n.op = 8) (h : bodyP ns f n b0 = some b1) : atomP ns f n b0 = some b1 := by
  unfold bodyP at h
  simp only [hl] at h
  rw [if_neg (by omega), if_neg (by omega), if_neg (by omega), if_neg (by omega)] at h
  exact h
theorem expr_two (w W : World) (hg : Sg w) (h80 : 8 <= w.heap.size) (t : Tre) (s : Sl) (ns : List MNd) (TN : TrN w t s ns) (f : Nat) (PX : PxAll w t s f) (next : Nat) (l l' : List UInt8) (B : Option Addr) (bc : Nat) (h : Pr w t s next l B bc W) (root least : Nat) (hle : least <= 8) (n : Nd) (hn : t.nodes[root]? = some n) (own own1 : Nat) (hv : jV n.op = own) (hw : own = 1 /\ own1 = 2 \/ own = 2 /\ own1 = 3 \/ own = 5 /\ own1 = 6 \/ own = 6 /\ own1 = 7) (hop : 7 <= n.op /\ n.op <= 33 /\ n.op ≠ 23)
    (b1 : List UInt8) (hb : bodyP t.nodes f n (opens (jV n.op) least l) = some b1) (hs : shuts (jV n.op) least b1 = l') (hl : l'.length <= LIMP) :
    Calls Tryz.prog 156 #[.pointer (some ⟨w.heap.size, 0, none⟩), iv (root : Int), iv (least : Int)] W (PrR w t s next l' W) := by
  rw [hv] at hb hs
  obtain ⟨k, q, tl, lm, hkk, h1, h2⟩ := bodyP_two hv (by omega) hb
  rw [show own + 1 = own1 by omega] at h2
  rcases Nat.lt_or_ge own least with e | e
  · rw [(vz e _).1] at h1
    rw [(vz e _).2] at hs
    subst hs
    exact ex_twob w W hg h80 t s ns TN f PX next l B bc h root least own own1 n hn hv hw e hle hop k q tl hkk lm _ h1 h2 hl
  · rw [(vU e _).1] at h1
    rw [(vU e _).2] at hs
    subst hs
    exact ex_twoa w W hg h80 t s ns TN f PX next l B bc h root least own own1 n hn hv hw e hop k q tl hkk lm _ h1 h2 hl
theorem expr_one (w W : World) (hg : Sg w) (h80 : 8 <= w.heap.size) (t : Tre) (s : Sl) (ns : List MNd) (TN : TrN w t s ns) (f : Nat) (PX : PxAll w t s f) (next : Nat) (l l' : List UInt8) (B : Option Addr) (bc : Nat) (h : Pr w t s next l B bc W) (root least : Nat) (hle : least <= 8) (n : Nd) (hn : t.nodes[root]? = some n) (own : Nat) (hv : jV n.op = own) (hw : own = 3 \/ own = 7) (hop : n.op = 8 \/ n.op = 7)
    (b1 : List UInt8) (hb : bodyP t.nodes f n (opens (jV n.op) least l) = some b1) (hs : shuts (jV n.op) least b1 = l') (hl : l'.length <= LIMP) :
    Calls Tryz.prog 156 #[.pointer (some ⟨w.heap.size, 0, none⟩), iv (root : Int), iv (least : Int)] W (PrR w t s next l' W) := by
  rw [hv] at hb hs
  obtain ⟨k, tl, hkk, h1⟩ := bodyP_one hv hw hb
  rcases Nat.lt_or_ge own least with e | e
  · rw [(vz e _).1] at h1
    rw [(vz e _).2] at hs
    subst hs
    exact ex_oneb w W hg h80 t s ns TN f PX next l B bc h root least own n hn hv hw e hle hop k tl hkk _ h1 hl
  · rw [(vU e _).1] at h1
    rw [(vU e _).2] at hs
    subst hs
    exact ex_one w W hg h80 t s ns TN f PX next l B bc h root least own n hn hv hw e hop k tl hkk _ h1 hl
theorem px_all (w : World) (hg : Sg w) (h80 : 8 <= w.heap.size) (t : Tre) (s : Sl) (ns : List MNd) (TN : TrN w t s ns) (OK : ∀ n ∈ t.nodes, jB n = true) (AT : AtomsOk w t s) : ∀ f, PxAll w t s f := by
  intro f
  induction f with
  | zero => exact ⟨fun W next l l' B bc root least h hle hk hl => by rw [exprP] at hk; cases hk⟩
  | succ f PX =>
    refine ⟨fun W next l l' B bc root least h hle hk hl => ?_⟩
    obtain ⟨r, rfl, n, hn, b1, hb, hs⟩ := exprP_inv hk
    have hm := List.mem_of_getElem? hn
    have hr := OK n hm
    rcases level_cases n.op with ⟨hv, ho⟩ | ⟨hv, ho⟩ | ⟨hv, ho⟩ | ⟨hv, ho⟩ | ⟨hv, ho⟩ | ⟨hv, ho⟩ | ⟨hv, ho⟩ | ⟨hv, ho⟩ | ⟨hv, ho⟩
    · rw [hv] at hb hs
      obtain ⟨k, q, z, tl, la, lb, hkk, h1, h2, h3⟩ := bodyP_if hv hb
      rcases Nat.eq_zero_or_pos least with e | e
      · rw [(vU (Nat.le_of_eq e) _).1] at h1
        rw [(vU (Nat.le_of_eq e) _).2] at hs
        subst hs
        exact ex_ifa w W t s ns TN f PX next l B bc h r least n hn hv e k q z tl hkk (yM h1) (yM h2) (yM h3) la lb _ h1 h2 h3 hl
      · rw [(vz e _).1] at h1
        rw [(vz e _).2] at hs
        subst hs
        exact ex_ifb w W t s ns TN f PX next l B bc h r least n hn hv e hle k q z tl hkk (yM h1) (yM h2) (yM h3) la lb _ h1 h2 h3 hl
    · exact expr_two w W hg h80 t s ns TN f PX next l l' B bc h r least hle n hn 1 2 hv (by decide) (by omega) b1 hb hs hl
    · exact expr_two w W hg h80 t s ns TN f PX next l l' B bc h r least hle n hn 2 3 hv (by decide) (by omega) b1 hb hs hl
    · exact expr_one w W hg h80 t s ns TN f PX next l l' B bc h r least hle n hn 3 hv (by decide) (by omega) b1 hb hs hl
    · rw [hv] at hb hs
      obtain ⟨k, q, tl, lm, hkk, h1, h2⟩ := bodyP_four hv hb
      rcases Nat.lt_or_ge 4 least with e | e
      · rw [(vz e _).1] at h1
        rw [(vz e _).2] at hs
        subst hs
        exact ex_fourb w W hg h80 t s ns TN f PX next l B bc h r least n hn hv e hle (by omega) k q tl hkk lm _ h1 h2 hl
      · rw [(vU e _).1] at h1
        rw [(vU e _).2] at hs
        subst hs
        exact ex_foura w W hg h80 t s ns TN f PX next l B bc h r least n hn hv e (by omega) k q tl hkk lm _ h1 h2 hl
    · exact expr_two w W hg h80 t s ns TN f PX next l l' B bc h r least hle n hn 5 6 hv (by decide) (by omega) b1 hb hs hl
    · exact expr_two w W hg h80 t s ns TN f PX next l l' B bc h r least hle n hn 6 7 hv (by decide) (by omega) b1 hb hs hl
    · exact expr_one w W hg h80 t s ns TN f PX next l l' B bc h r least hle n hn 7 hv (by decide) (by omega) b1 hb hs hl
    · rw [hv] at hb hs
      rw [(vU hle _).1] at hb
      rw [(vU hle _).2] at hs
      subst hs
      have ha := bodyP_atom hv hb
      refine ex_atom w W t s ns TN next l B bc h r least hle n hn hv b1 (fun W1 x e hrd hkn hp => ?_)
      subst e
      exact atom_all w W1 hg h80 t s AT f PX next l b1 B bc hp x hm hr ho hrd hkn ha hl
theorem right4 (w : World) (x : MNd) (h : x.n.op = 4) : Calls Tryz.prog 22 #[.agg (ndC x).toArray] w fun e w' => e = .returned (.bool (jB x.n)) /\ Old w w' := by
  obtain ⟨⟨op, name, vk, vn, vt, vs, kids⟩, A, c, vA, vc⟩ := x
  simp only at h
  subst h
  have hem := jw name
  rcases stages (vk = 0) (vn = 0) vt vs kids 0 with a | ⟨a, b⟩ | ⟨a, b, d⟩ | ⟨a, b, d, e⟩ | ⟨a, b, d, e, f⟩ | ⟨a, b, d, e, f⟩
  · have a2 := bnt a
    have hy : jB ⟨4, name, vk, vn, vt, vs, kids⟩ = false := by simp_all [jB]
    simp only [hy]
    clear hy hem
    unfold ndC iv
    simp only
    go_enter Tryz.func22, Tryz.ntmps22
    go_wp2
    all_goals
      go_ret
      exact ⟨rfl, by first | exact ((Kp.refl _ _).alloc _) | exact ((Kp.refl _ _).alloc _).alloc _ | exact (((Kp.refl _ _).alloc _).alloc _).alloc _⟩
  · have a2 := bnf a
    have b2 := bnt b
    have hy : jB ⟨4, name, vk, vn, vt, vs, kids⟩ = false := by simp_all [jB]
    simp only [hy]
    clear hy hem
    unfold ndC iv
    simp only
    go_enter Tryz.func22, Tryz.ntmps22
    go_wp2
    all_goals
      go_ret
      exact ⟨rfl, by first | exact ((Kp.refl _ _).alloc _) | exact ((Kp.refl _ _).alloc _).alloc _ | exact (((Kp.refl _ _).alloc _).alloc _).alloc _⟩
  · have a2 := bnf a
    have b2 := bnf b
    have hy : jB ⟨4, name, vk, vn, vt, vs, kids⟩ = false := by simp_all [jB, tl_size]
    simp only [hy]
    clear hy hem
    unfold ndC iv
    simp only
    go_enter Tryz.func22, Tryz.ntmps22
    go_wp2
    all_goals
      go_ret
      exact ⟨rfl, by first | exact ((Kp.refl _ _).alloc _) | exact ((Kp.refl _ _).alloc _).alloc _ | exact (((Kp.refl _ _).alloc _).alloc _).alloc _⟩
  · have a2 := bnf a
    have b2 := bnf b
    have hy : jB ⟨4, name, vk, vn, vt, vs, kids⟩ = false := by simp_all [jB, tl_size, List.length_pos_iff]
    simp only [hy]
    clear hy hem
    unfold ndC iv
    simp only
    go_enter Tryz.func22, Tryz.ntmps22
    go_wp2
    all_goals
      go_ret
      exact ⟨rfl, by first | exact ((Kp.refl _ _).alloc _) | exact ((Kp.refl _ _).alloc _).alloc _ | exact (((Kp.refl _ _).alloc _).alloc _).alloc _⟩
  · have a2 := bnf a
    have b2 := bnf b
    subst e
    have f1 : (kids.length : Int) ≠ 0 := bne_iff_ne.1 f
    have f2 : ¬ kids.length = 0 := fun e => f1 (by omega)
    clear f1
    have hy : jB ⟨4, name, vk, vn, vt, [], kids⟩ = false := by simp_all [jB, tl_size]
    simp only [hy]
    clear hy hem
    unfold ndC iv
    simp only
    go_enter Tryz.func22, Tryz.ntmps22
    go_wp2
    all_goals
      go_ret
      exact ⟨rfl, by first | exact ((Kp.refl _ _).alloc _) | exact ((Kp.refl _ _).alloc _).alloc _ | exact (((Kp.refl _ _).alloc _).alloc _).alloc _⟩
  · have a2 := bnf a
    have b2 := bnf b
    subst e
    have f1 : (kids.length : Int) = 0 := by simpa using f
    have f2 : kids.length = 0 := by omega
    have hy : jB ⟨4, name, vk, vn, vt, [], kids⟩ = name.toList.isEmpty := by simp_all [jB, tl_size]
    simp only [hy]
    clear hy hem
    unfold ndC iv
    simp only
    go_enter Tryz.func22, Tryz.ntmps22
    go_wp2
    go_ret
    exact ⟨rfl, by first | exact ((Kp.refl _ _).alloc _) | exact ((Kp.refl _ _).alloc _).alloc _ | exact (((Kp.refl _ _).alloc _).alloc _).alloc _⟩
theorem right29 (w : World) (x : MNd) (h : x.n.op = 29) : Calls Tryz.prog 22 #[.agg (ndC x).toArray] w fun e w' => e = .returned (.bool (jB x.n)) /\ Old w w' := by
  obtain ⟨⟨op, name, vk, vn, vt, vs, kids⟩, A, c, vA, vc⟩ := x
  simp only at h
  subst h
  have hem := jw name
  rcases stages (vk = 0) (vn = 0) vt vs kids 0 with a | ⟨a, b⟩ | ⟨a, b, d⟩ | ⟨a, b, d, e⟩ | ⟨a, b, d, e, f⟩ | ⟨a, b, d, e, f⟩
  · have a2 := bnt a
    have hy : jB ⟨29, name, vk, vn, vt, vs, kids⟩ = false := by simp_all [jB]
    simp only [hy]
    clear hy hem
    unfold ndC iv
    simp only
    go_enter Tryz.func22, Tryz.ntmps22
    go_wp2
    all_goals
      go_ret
      exact ⟨rfl, by first | exact ((Kp.refl _ _).alloc _) | exact ((Kp.refl _ _).alloc _).alloc _ | exact (((Kp.refl _ _).alloc _).alloc _).alloc _⟩
  · have a2 := bnf a
    have b2 := bnt b
    have hy : jB ⟨29, name, vk, vn, vt, vs, kids⟩ = false := by simp_all [jB]
    simp only [hy]
    clear hy hem
    unfold ndC iv
    simp only
    go_enter Tryz.func22, Tryz.ntmps22
    go_wp2
    all_goals
      go_ret
      exact ⟨rfl, by first | exact ((Kp.refl _ _).alloc _) | exact ((Kp.refl _ _).alloc _).alloc _ | exact (((Kp.refl _ _).alloc _).alloc _).alloc _⟩
  · have a2 := bnf a
    have b2 := bnf b
    have hy : jB ⟨29, name, vk, vn, vt, vs, kids⟩ = false := by simp_all [jB, tl_size]
    simp only [hy]
    clear hy hem
    unfold ndC iv
    simp only
    go_enter Tryz.func22, Tryz.ntmps22
    go_wp2
    all_goals
      go_ret
      exact ⟨rfl, by first | exact ((Kp.refl _ _).alloc _) | exact ((Kp.refl _ _).alloc _).alloc _ | exact (((Kp.refl _ _).alloc _).alloc _).alloc _⟩
  · have a2 := bnf a
    have b2 := bnf b
    have hy : jB ⟨29, name, vk, vn, vt, vs, kids⟩ = false := by simp_all [jB, tl_size, List.length_pos_iff]
    simp only [hy]
    clear hy hem
    unfold ndC iv
    simp only
    go_enter Tryz.func22, Tryz.ntmps22
    go_wp2
    all_goals
      go_ret
      exact ⟨rfl, by first | exact ((Kp.refl _ _).alloc _) | exact ((Kp.refl _ _).alloc _).alloc _ | exact (((Kp.refl _ _).alloc _).alloc _).alloc _⟩
  · have a2 := bnf a
    have b2 := bnf b
    subst e
    have f1 : (kids.length : Int) ≠ 0 := bne_iff_ne.1 f
    have f2 : ¬ kids.length = 0 := fun e => f1 (by omega)
    clear f1
    have hy : jB ⟨29, name, vk, vn, vt, [], kids⟩ = false := by simp_all [jB, tl_size]
    simp only [hy]
    clear hy hem
    unfold ndC iv
    simp only
    go_enter Tryz.func22, Tryz.ntmps22
    go_wp2
    all_goals
      go_ret
      exact ⟨rfl, by first | exact ((Kp.refl _ _).alloc _) | exact ((Kp.refl _ _).alloc _).alloc _ | exact (((Kp.refl _ _).alloc _).alloc _).alloc _⟩
  · have a2 := bnf a
    have b2 := bnf b
    subst e
    have f1 : (kids.length : Int) = 0 := by simpa using f
    have f2 : kids.length = 0 := by omega
    have hy : jB ⟨29, name, vk, vn, vt, [], kids⟩ = name.toList.isEmpty := by simp_all [jB, tl_size]
    simp only [hy]
    clear hy hem
    unfold ndC iv
    simp only
    go_enter Tryz.func22, Tryz.ntmps22
    go_wp2
    go_ret
    exact ⟨rfl, by first | exact ((Kp.refl _ _).alloc _) | exact ((Kp.refl _ _).alloc _).alloc _ | exact (((Kp.refl _ _).alloc _).alloc _).alloc _⟩
theorem right30 (w : World) (x : MNd) (h : x.n.op = 30) : Calls Tryz.prog 22 #[.agg (ndC x).toArray] w fun e w' => e = .returned (.bool (jB x.n)) /\ Old w w' := by
  obtain ⟨⟨op, name, vk, vn, vt, vs, kids⟩, A, c, vA, vc⟩ := x
  simp only at h
  subst h
  have hem := jw name
  rcases stages (vk = 0) (vn = 0) vt vs kids 0 with a | ⟨a, b⟩ | ⟨a, b, d⟩ | ⟨a, b, d, e⟩ | ⟨a, b, d, e, f⟩ | ⟨a, b, d, e, f⟩
  · have a2 := bnt a
    have hy : jB ⟨30, name, vk, vn, vt, vs, kids⟩ = false := by simp_all [jB]
    simp only [hy]
    clear hy hem
    unfold ndC iv
    simp only
    go_enter Tryz.func22, Tryz.ntmps22
    go_wp2
    all_goals
      go_ret
      exact ⟨rfl, by first | exact ((Kp.refl _ _).alloc _) | exact ((Kp.refl _ _).alloc _).alloc _ | exact (((Kp.refl _ _).alloc _).alloc _).alloc _⟩
  · have a2 := bnf a
    have b2 := bnt b
    have hy : jB ⟨30, name, vk, vn, vt, vs, kids⟩ = false := by simp_all [jB]
    simp only [hy]
    clear hy hem
    unfold ndC iv
    simp only
    go_enter Tryz.func22, Tryz.ntmps22
    go_wp2
    all_goals
      go_ret
      exact ⟨rfl, by first | exact ((Kp.refl _ _).alloc _) | exact ((Kp.refl _ _).alloc _).alloc _ | exact (((Kp.refl _ _).alloc _).alloc _).alloc _⟩
  · have a2 := bnf a
    have b2 := bnf b
    have hy : jB ⟨30, name, vk, vn, vt, vs, kids⟩ = false := by simp_all [jB, tl_size]
    simp only [hy]
    clear hy hem
    unfold ndC iv
    simp only
    go_enter Tryz.func22, Tryz.ntmps22
    go_wp2
    all_goals
      go_ret
      exact ⟨rfl, by first | exact ((Kp.refl _ _).alloc _) | exact ((Kp.refl _ _).alloc _).alloc _ | exact (((Kp.refl _ _).alloc _).alloc _).alloc _⟩
  · have a2 := bnf a
    have b2 := bnf b
    have hy : jB ⟨30, name, vk, vn, vt, vs, kids⟩ = false := by simp_all [jB, tl_size, List.length_pos_iff]
    simp only [hy]
    clear hy hem
    unfold ndC iv
    simp only
    go_enter Tryz.func22, Tryz.ntmps22
    go_wp2
    all_goals
      go_ret
      exact ⟨rfl, by first | exact ((Kp.refl _ _).alloc _) | exact ((Kp.refl _ _).alloc _).alloc _ | exact (((Kp.refl _ _).alloc _).alloc _).alloc _⟩
  · have a2 := bnf a
    have b2 := bnf b
    subst e
    have f1 : (kids.length : Int) ≠ 0 := bne_iff_ne.1 f
    have f2 : ¬ kids.length = 0 := fun e => f1 (by omega)
    clear f1
    have hy : jB ⟨30, name, vk, vn, vt, [], kids⟩ = false := by simp_all [jB, tl_size]
    simp only [hy]
    clear hy hem
    unfold ndC iv
    simp only
    go_enter Tryz.func22, Tryz.ntmps22
    go_wp2
    all_goals
      go_ret
      exact ⟨rfl, by first | exact ((Kp.refl _ _).alloc _) | exact ((Kp.refl _ _).alloc _).alloc _ | exact (((Kp.refl _ _).alloc _).alloc _).alloc _⟩
  · have a2 := bnf a
    have b2 := bnf b
    subst e
    have f1 : (kids.length : Int) = 0 := by simpa using f
    have f2 : kids.length = 0 := by omega
    have hy : jB ⟨30, name, vk, vn, vt, [], kids⟩ = name.toList.isEmpty := by simp_all [jB, tl_size]
    simp only [hy]
    clear hy hem
    unfold ndC iv
    simp only
    go_enter Tryz.func22, Tryz.ntmps22
    go_wp2
    go_ret
    exact ⟨rfl, by first | exact ((Kp.refl _ _).alloc _) | exact ((Kp.refl _ _).alloc _).alloc _ | exact (((Kp.refl _ _).alloc _).alloc _).alloc _⟩
theorem right8 (w : World) (x : MNd) (h : x.n.op = 8) : Calls Tryz.prog 22 #[.agg (ndC x).toArray] w fun e w' => e = .returned (.bool (jB x.n)) /\ Old w w' := by
  obtain ⟨⟨op, name, vk, vn, vt, vs, kids⟩, A, c, vA, vc⟩ := x
  simp only at h
  subst h
  have hem := jw name
  rcases stages (vk = 0) (vn = 0) vt vs kids 1 with a | ⟨a, b⟩ | ⟨a, b, d⟩ | ⟨a, b, d, e⟩ | ⟨a, b, d, e, f⟩ | ⟨a, b, d, e, f⟩
  · have a2 := bnt a
    have hy : jB ⟨8, name, vk, vn, vt, vs, kids⟩ = false := by simp_all [jB]
    simp only [hy]
    clear hy hem
    unfold ndC iv
    simp only
    go_enter Tryz.func22, Tryz.ntmps22
    go_wp2
    all_goals
      go_ret
      exact ⟨rfl, by first | exact ((Kp.refl _ _).alloc _) | exact ((Kp.refl _ _).alloc _).alloc _ | exact (((Kp.refl _ _).alloc _).alloc _).alloc _⟩
  · have a2 := bnf a
    have b2 := bnt b
    have hy : jB ⟨8, name, vk, vn, vt, vs, kids⟩ = false := by simp_all [jB]
    simp only [hy]
    clear hy hem
    unfold ndC iv
    simp only
    go_enter Tryz.func22, Tryz.ntmps22
    go_wp2
    all_goals
      go_ret
      exact ⟨rfl, by first | exact ((Kp.refl _ _).alloc _) | exact ((Kp.refl _ _).alloc _).alloc _ | exact (((Kp.refl _ _).alloc _).alloc _).alloc _⟩
  · have a2 := bnf a
    have b2 := bnf b
    have hy : jB ⟨8, name, vk, vn, vt, vs, kids⟩ = false := by simp_all [jB, tl_size]
    simp only [hy]
    clear hy hem
    unfold ndC iv
    simp only
    go_enter Tryz.func22, Tryz.ntmps22
    go_wp2
    all_goals
      go_ret
      exact ⟨rfl, by first | exact ((Kp.refl _ _).alloc _) | exact ((Kp.refl _ _).alloc _).alloc _ | exact (((Kp.refl _ _).alloc _).alloc _).alloc _⟩
  · have a2 := bnf a
    have b2 := bnf b
    have hy : jB ⟨8, name, vk, vn, vt, vs, kids⟩ = false := by simp_all [jB, tl_size, List.length_pos_iff]
    simp only [hy]
    clear hy hem
    unfold ndC iv
    simp only
    go_enter Tryz.func22, Tryz.ntmps22
    go_wp2
    all_goals
      go_ret
      exact ⟨rfl, by first | exact ((Kp.refl _ _).alloc _) | exact ((Kp.refl _ _).alloc _).alloc _ | exact (((Kp.refl _ _).alloc _).alloc _).alloc _⟩
  · have a2 := bnf a
    have b2 := bnf b
    subst e
    have f1 : (kids.length : Int) ≠ 1 := bne_iff_ne.1 f
    have f2 : ¬ kids.length = 1 := fun e => f1 (by omega)
    clear f1
    have hy : jB ⟨8, name, vk, vn, vt, [], kids⟩ = false := by simp_all [jB, tl_size]
    simp only [hy]
    clear hy hem
    unfold ndC iv
    simp only
    go_enter Tryz.func22, Tryz.ntmps22
    go_wp2
    all_goals
      go_ret
      exact ⟨rfl, by first | exact ((Kp.refl _ _).alloc _) | exact ((Kp.refl _ _).alloc _).alloc _ | exact (((Kp.refl _ _).alloc _).alloc _).alloc _⟩
  · have a2 := bnf a
    have b2 := bnf b
    subst e
    have f1 : (kids.length : Int) = 1 := by simpa using f
    have f2 : kids.length = 1 := by omega
    have hy : jB ⟨8, name, vk, vn, vt, [], kids⟩ = name.toList.isEmpty := by simp_all [jB, tl_size]
    simp only [hy]
    clear hy hem
    unfold ndC iv
    simp only
    go_enter Tryz.func22, Tryz.ntmps22
    go_wp2
    go_ret
    exact ⟨rfl, by first | exact ((Kp.refl _ _).alloc _) | exact ((Kp.refl _ _).alloc _).alloc _ | exact (((Kp.refl _ _).alloc _).alloc _).alloc _⟩
theorem right27 (w : World) (x : MNd) (h : x.n.op = 27) : Calls Tryz.prog 22 #[.agg (ndC x).toArray] w fun e w' => e = .returned (.bool (jB x.n)) /\ Old w w' := by
  obtain ⟨⟨op, name, vk, vn, vt, vs, kids⟩, A, c, vA, vc⟩ := x
  simp only at h
  subst h
  have hem := jw name
  rcases stages (vk = 0) (vn = 0) vt vs kids 1 with a | ⟨a, b⟩ | ⟨a, b, d⟩ | ⟨a, b, d, e⟩ | ⟨a, b, d, e, f⟩ | ⟨a, b, d, e, f⟩
  · have a2 := bnt a
    have hy : jB ⟨27, name, vk, vn, vt, vs, kids⟩ = false := by simp_all [jB]
    simp only [hy]
    clear hy hem
    unfold ndC iv
    simp only
    go_enter Tryz.func22, Tryz.ntmps22
    go_wp2
    all_goals
      go_ret
      exact ⟨rfl, by first | exact ((Kp.refl _ _).alloc _) | exact ((Kp.refl _ _).alloc _).alloc _ | exact (((Kp.refl _ _).alloc _).alloc _).alloc _⟩
  · have a2 := bnf a
    have b2 := bnt b
    have hy : jB ⟨27, name, vk, vn, vt, vs, kids⟩ = false := by simp_all [jB]
    simp only [hy]
    clear hy hem
    unfold ndC iv
    simp only
    go_enter Tryz.func22, Tryz.ntmps22
    go_wp2
    all_goals
      go_ret
      exact ⟨rfl, by first | exact ((Kp.refl _ _).alloc _) | exact ((Kp.refl _ _).alloc _).alloc _ | exact (((Kp.refl _ _).alloc _).alloc _).alloc _⟩
  · have a2 := bnf a
    have b2 := bnf b
    have hy : jB ⟨27, name, vk, vn, vt, vs, kids⟩ = false := by simp_all [jB, tl_size]
    simp only [hy]
    clear hy hem
    unfold ndC iv
    simp only
    go_enter Tryz.func22, Tryz.ntmps22
    go_wp2
    all_goals
      go_ret
      exact ⟨rfl, by first | exact ((Kp.refl _ _).alloc _) | exact ((Kp.refl _ _).alloc _).alloc _ | exact (((Kp.refl _ _).alloc _).alloc _).alloc _⟩
  · have a2 := bnf a
    have b2 := bnf b
    have hy : jB ⟨27, name, vk, vn, vt, vs, kids⟩ = false := by simp_all [jB, tl_size, List.length_pos_iff]
    simp only [hy]
    clear hy hem
    unfold ndC iv
    simp only
    go_enter Tryz.func22, Tryz.ntmps22
    go_wp2
    all_goals
      go_ret
      exact ⟨rfl, by first | exact ((Kp.refl _ _).alloc _) | exact ((Kp.refl _ _).alloc _).alloc _ | exact (((Kp.refl _ _).alloc _).alloc _).alloc _⟩
  · have a2 := bnf a
    have b2 := bnf b
    subst e
    have f1 : (kids.length : Int) ≠ 1 := bne_iff_ne.1 f
    have f2 : ¬ kids.length = 1 := fun e => f1 (by omega)
    clear f1
    have hy : jB ⟨27, name, vk, vn, vt, [], kids⟩ = false := by simp_all [jB, tl_size]
    simp only [hy]
    clear hy hem
    unfold ndC iv
    simp only
    go_enter Tryz.func22, Tryz.ntmps22
    go_wp2
    all_goals
      go_ret
      exact ⟨rfl, by first | exact ((Kp.refl _ _).alloc _) | exact ((Kp.refl _ _).alloc _).alloc _ | exact (((Kp.refl _ _).alloc _).alloc _).alloc _⟩
  · have a2 := bnf a
    have b2 := bnf b
    subst e
    have f1 : (kids.length : Int) = 1 := by simpa using f
    have f2 : kids.length = 1 := by omega
    have hy : jB ⟨27, name, vk, vn, vt, [], kids⟩ = name.toList.isEmpty := by simp_all [jB, tl_size]
    simp only [hy]
    clear hy hem
    unfold ndC iv
    simp only
    go_enter Tryz.func22, Tryz.ntmps22
    go_wp2
    go_ret
    exact ⟨rfl, by first | exact ((Kp.refl _ _).alloc _) | exact ((Kp.refl _ _).alloc _).alloc _ | exact (((Kp.refl _ _).alloc _).alloc _).alloc _⟩
end Go.Proofs.YtmmjcbbogokmfaaGreatDoor
