import Derived.Test.YtmmjcbbogokmfaaGreatDoorMt01
import Derived.Test.YtmmjcbbogokmfaaGreatDoorMt02
import Derived.Test.YtmmjcbbogokmfaaGreatDoorMt19
set_option maxRecDepth 100000
set_option maxHeartbeats 25600000
namespace Go.Proofs.YtmmjcbbogokmfaaGreatDoor
def tb (s : ByteArray) : List UInt8 := s.data.toList
def vJ (s : ByteArray) : Bool := jq (tb s)
def jB (n : Nd) : Bool :=
  if n.op = 1 then decide (n.vk = 1 /\ 0 <= n.vn) && decide (n.vt.size = 0) && decide (n.vs = []) && decide (n.kids.length = 0) && decide (n.name.size = 0)
  else if n.op = 2 then decide (n.vk = 2 /\ (n.vn = 0 \/ n.vn = 1)) && decide (n.vt.size = 0) && decide (n.vs = []) && decide (n.kids.length = 0) && decide (n.name.size = 0)
  else if n.op = 3 then decide (n.vk = 3 /\ n.vn = 0) && decide (n.vs = []) && decide (n.kids.length = 0) && decide (n.name.size = 0)
  else decide (n.vk = 0 /\ n.vn = 0) && decide (n.vt.size = 0) && decide (n.vs = []) &&
    (if n.op = 4 \/ n.op = 29 \/ n.op = 30 then decide (n.kids.length = 0) && decide (n.name.size = 0)
     else if n.op = 5 \/ n.op = 24 \/ n.op = 25 \/ n.op = 26 then decide (n.kids.length = 0) && vJ n.name
     else if n.op = 6 then decide (n.name.size = 0)
     else if n.op = 7 \/ n.op = 8 \/ n.op = 27 then decide (n.kids.length = 1) && decide (n.name.size = 0)
     else if n.op = 23 then decide (n.kids.length = 3) && decide (n.name.size = 0)
     else decide (1 <= n.op /\ n.op < 34) && decide (n.kids.length = 2) && decide (n.name.size = 0))
structure LayP where
  l : List (Int × Int)
  last : Int
  ok : Bool
def layN (fam : Int) (i : Nat) (order : Int) (s : LayP) : LayP :=
  let last := if i = 0 then -1 else s.last
  if order <= last \/ (s.l.length : Int) <= order \/ s.l.getD order.toNat (0, 0) ≠ (0, 0) then ⟨s.l, last, false⟩
  else ⟨s.l.set order.toNat (fam, (i : Int)), order, s.ok⟩
def kI (fam : Int) : List Int -> Nat -> LayP -> LayP
  | [], _, s => s
  | o :: l, i, s => kI fam l (i + 1) (layN fam i o s)
def Tre.count (t : Tre) : Nat := t.attrs.length + t.stages.length + t.miles.length + t.steps.length
def laidN (t : Tre) : LayP :=
  kI 4 (t.steps.map Stp.order) 0 (kI 3 (t.miles.map Mil.order) 0 (kI 2 (t.stages.map Stg.order) 0 (kI 1 (t.attrs.map Atr.order) 0 ⟨List.replicate t.count (0, 0), -1, true⟩)))
def yI (nodes : List Nd) : Nat -> Int -> Nat -> Option Nat
  | 0, _, _ => none
  | f + 1, root, next =>
    if root < 0 \/ (nodes.length : Int) <= root then none
    else match nodes[root.toNat]? with
      | none => none
      | some n => if jB n = false then none
        else (n.kids.foldl (fun (s : Option Nat) k => s.bind fun nx => if root <= k then none else yI nodes f k nx) (some next)).bind fun nx => if root = (nx : Int) then some (nx + 1) else none
def putB (b w : List UInt8) : List UInt8 := (if b = [] \/ b.getLastD 0 = 10 then b else b ++ [32]) ++ w
def jp (b : List UInt8) (ws : List (List UInt8)) : List UInt8 := ws.foldl putB b
def jV (op : Int) : Nat :=
  if op = 23 then 0 else if op = 10 then 1 else if op = 9 then 2 else if op = 8 then 3 else if 11 <= op /\ op <= 17 then 4 else if op = 18 \/ op = 19 then 5 else if 20 <= op /\ op <= 22 then 6 else if op = 7 then 7 else 8
def jE (op : Int) : List UInt8 :=
  if 11 <= op /\ op <= 16 then signL.getD (op.toNat - 3) []
  else if 20 <= op /\ op <= 22 then signL.getD (op.toNat - 4) []
  else if 29 <= op /\ op <= 33 then resL.getD (op.toNat + 1) []
  else if op = 8 then [110, 111, 116] else if op = 9 then [97, 110, 100] else if op = 10 then [111, 114] else if op = 17 then [105, 110] else if op = 18 then [43] else if op = 7 \/ op = 19 then [45]
  else if op = 24 then [104, 97, 115] else if op = 25 then [111, 112, 101, 110] else if op = 26 then [114, 101, 97, 99, 104, 101, 100] else if op = 27 then [115, 105, 122, 101] else [106, 111, 105, 110]
def hexD (n : Nat) : UInt8 := UInt8.ofNat (if n < 10 then 48 + n else 87 + n)
def quoteC (c : UInt8) : List UInt8 :=
  if c.toNat = 34 \/ c.toNat = 92 then [92, c] else if c.toNat = 10 then [92, 110] else if c.toNat = 9 then [92, 116]
  else if c.toNat < 32 \/ 126 < c.toNat then [92, 120, hexD (c.toNat / 16), hexD (c.toNat % 16)] else [c]
def quotedB (s : List UInt8) : List UInt8 := 34 :: (s.flatMap quoteC ++ [34])
def decB : Nat -> Nat -> List UInt8
  | 0, _ => []
  | f + 1, n => if n < 10 then [UInt8.ofNat (48 + n)] else decB f (n / 10) ++ [UInt8.ofNat (48 + n % 10)]
def numB (n : Int) : List UInt8 := decB 20 n.toNat
def opens (own least : Nat) (b : List UInt8) : List UInt8 := if own < least then putB b [40] else b
def shuts (own least : Nat) (b : List UInt8) : List UInt8 := if own < least then putB b [41] else b
def exprP (nodes : List Nd) : Nat -> Int -> Nat -> List UInt8 -> Option (List UInt8)
  | 0, _, _, _ => none
  | f + 1, root, least, b =>
    if root < 0 then none
    else match nodes[root.toNat]? with
      | none => none
      | some n =>
        let own := jV n.op
        let b0 := opens own least b
        let two (l r : Nat) (w : List UInt8) : Option (List UInt8) := match n.kids with
          | k :: q :: _ => (exprP nodes f k l b0).bind fun b1 => exprP nodes f q r (putB b1 w)
          | _ => none
        let one : Option (List UInt8) := match n.kids with
          | k :: _ => exprP nodes f k own (putB b0 (jE n.op))
          | _ => none
        (if own = 0 then (match n.kids with
            | a :: c :: d :: _ => (exprP nodes f a 0 (putB b0 [105, 102])).bind fun b1 => (exprP nodes f c 0 (putB b1 [116, 104, 101, 110])).bind fun b2 => exprP nodes f d 0 (putB b2 [101, 108, 115, 101])
            | _ => none)
          else if own = 1 \/ own = 2 \/ own = 5 \/ own = 6 then two own (own + 1) (jE n.op)
          else if own = 3 \/ own = 7 then one
          else if own = 4 then two 5 5 (jE n.op)
          else if n.op = 1 then some (putB b0 (numB n.vn))
          else if n.op = 2 then some (putB b0 (if n.vn = 1 then [116, 114, 117, 101] else [102, 97, 108, 115, 101]))
          else if n.op = 3 then some (putB b0 (quotedB (tb n.vt)))
          else if n.op = 5 then some (putB b0 (tb n.name))
          else if n.op = 4 then some (putB b0 [110, 111, 116, 104, 105, 110, 103])
          else if n.op = 6 then (listP (exprP nodes f) n.kids 0 (putB b0 [123])).map fun b1 => putB b1 [125]
          else (listP (exprP nodes f) n.kids 0 (let b1 := putB (putB b0 (jE n.op)) [40]; if n.name.size = 0 then b1 else putB b1 (tb n.name))).map fun b1 => putB b1 [41]).map (shuts own least)
where
  listP (g : Int -> Nat -> List UInt8 -> Option (List UInt8)) : List Int -> Nat -> List UInt8 -> Option (List UInt8)
    | [], _, b => some b
    | k :: l, i, b => (g k 0 (if 0 < i then putB b [44] else b)).bind fun b1 => listP g l (i + 1) b1
def vT (nodes : List Nd) (root : Int) (next : Nat) : Option Nat := if root = -1 then some next else yI nodes (nodes.length + 1) root next
def inOneB (s : ByteArray) : Bool := decide (s.size = 0) || vJ s
def basedB (k : Int) : Bool := decide (1 <= k /\ k <= 5)
def rightA (ns : List Nd) (a : Atr) (nx : Nat) : Option Nat := if vJ a.name = true /\ basedB a.kind = true then (vT ns a.dflt nx).bind (vT ns a.when_) else none
def rightG (ns : List Nd) (s : Stg) (nx : Nat) : Option Nat := if vJ s.name = true /\ inOneB s.in_ = true then (vT ns s.opens nx).bind (vT ns s.closes) else none
def rightM (ns : List Nd) (m : Mil) (nx : Nat) : Option Nat := if vJ m.name = true /\ inOneB m.in_ = true then yI ns (ns.length + 1) m.when_ nx else none
def rightE (ns : List Nd) : List Eff -> Nat -> Option Nat
  | [], nx => some nx
  | e :: l, nx => if vJ e.name = true then (vT ns e.worth nx).bind (rightE ns l) else none
def rightS (ns : List Nd) (s : Stp) (nx : Nat) : Option Nat :=
  if vJ s.name = true /\ inOneB s.in_ = true /\ s.params.all (fun p => vJ p.name && basedB p.kind) = true then (vT ns s.when_ nx).bind (rightE ns s.effects) else none
def rightD (t : Tre) (d : Int × Int) (nx : Nat) : Option Nat :=
  if d.1 = 1 then (t.attrs[d.2.toNat]?).bind fun a => rightA t.nodes a nx
  else if d.1 = 2 then (t.stages[d.2.toNat]?).bind fun a => rightG t.nodes a nx
  else if d.1 = 3 then (t.miles[d.2.toNat]?).bind fun a => rightM t.nodes a nx
  else (t.steps[d.2.toNat]?).bind fun a => rightS t.nodes a nx
def rightAll (t : Tre) : List (Int × Int) -> Nat -> Option Nat
  | [], nx => some nx
  | d :: l, nx => (rightD t d nx).bind (rightAll t l)
def kindW (k : Int) : List UInt8 := resL.getD (k.toNat + 10) []
def exP (ns : List Nd) (root : Int) (b : List UInt8) : Option (List UInt8) := exprP ns (ns.length + 1) root 0 b
def ruledP (ns : List Nd) (root : Int) (ws : List (List UInt8)) (b : List UInt8) : Option (List UInt8) := if 0 <= root then exP ns root (jp b ws) else some b
def inP (s : ByteArray) (b : List UInt8) : List UInt8 := if s.size = 0 then b else jp b [[105, 110], tb s]
def declA (ns : List Nd) (a : Atr) (b : List UInt8) : Option (List UInt8) :=
  let b1 := jp b [[97, 116, 116, 114, 105, 98, 117, 116, 101], tb a.name, [58]]
  let b2 := if a.opt = true then putB b1 [111, 112, 116, 105, 111, 110, 97, 108] else b1
  (ruledP ns a.dflt [[61]] (putB b2 (kindW a.kind))).bind fun b3 => (ruledP ns a.when_ [[119, 104, 101, 110]] b3).map fun b4 => putB b4 [59]
def ruleP (ns : List Nd) (root : Int) (w : List UInt8) (b : List UInt8) : Option (List UInt8) := if 0 <= root then (ruledP ns root [w, [119, 104, 101, 110]] b).map fun b1 => putB b1 [59] else some b
def declG (ns : List Nd) (s : Stg) (b : List UInt8) : Option (List UInt8) :=
  (ruleP ns s.opens [111, 112, 101, 110, 115] (putB (inP s.in_ (jp b [[115, 116, 97, 103, 101], tb s.name])) [123])).bind fun b1 => (ruleP ns s.closes [99, 108, 111, 115, 101, 115] b1).map fun b2 => putB b2 [125]
def declM (ns : List Nd) (m : Mil) (b : List UInt8) : Option (List UInt8) :=
  (ruledP ns m.when_ [[114, 101, 97, 99, 104, 101, 100], [119, 104, 101, 110]] (inP m.in_ (jp b [[109, 105, 108, 101, 115, 116, 111, 110, 101], tb m.name]))).map fun b1 => putB b1 [59]
def paramsP : List Prm -> Nat -> List UInt8 -> List UInt8
  | [], _, b => b
  | p :: l, i, b => paramsP l (i + 1) (jp (if 0 < i then putB b [44] else b) [tb p.name, [58], kindW p.kind])
def effectsP (ns : List Nd) : List Eff -> List UInt8 -> Option (List UInt8)
  | [], b => some b
  | e :: l, b => (if e.worth < 0 then some (jp b [[114, 101, 111, 112, 101, 110], tb e.name]) else ruledP ns e.worth [tb e.name, [58, 61]] b).bind fun b1 => effectsP ns l (putB b1 [59])
def declS (ns : List Nd) (s : Stp) (b : List UInt8) : Option (List UInt8) :=
  (ruledP ns s.when_ [[119, 104, 101, 110]] (inP s.in_ (putB (paramsP s.params 0 (jp b [[115, 116, 101, 112], tb s.name, [40]])) [41]))).bind fun b1 => (effectsP ns s.effects (putB b1 [123])).map fun b2 => putB b2 [125]
def declP (t : Tre) (d : Int × Int) (b : List UInt8) : Option (List UInt8) :=
  (if d.1 = 1 then (t.attrs[d.2.toNat]?).bind fun a => declA t.nodes a b
  else if d.1 = 2 then (t.stages[d.2.toNat]?).bind fun a => declG t.nodes a b
  else if d.1 = 3 then (t.miles[d.2.toNat]?).bind fun a => declM t.nodes a b
  else (t.steps[d.2.toNat]?).bind fun a => declS t.nodes a b).map (· ++ [10])
def declsP (t : Tre) : List (Int × Int) -> List UInt8 -> Option (List UInt8)
  | [], b => some b
  | d :: l, b => (declP t d b).bind (declsP t l)
def fitT (t : Tre) : Bool := (laidN t).ok && vJ t.name && decide (rightAll t (laidN t).l 0 = some t.nodes.length)
def bytesP (t : Tre) : Option (List UInt8) := (declsP t (laidN t).l (jp [] [[116, 121, 112, 101], tb t.name, [123]] ++ [10])).map (· ++ [125, 10])
def printN (t : Tre) : Option (List UInt8) := if fitT t = true then bytesP t else none
open Go.RowKit
def fromB (k : Nat) : Nat -> Prop := fun b => k <= b
def ptC (t : Tre) (s : Sl) (next : Nat) (B : Option Addr) (n bc : Nat) : List Value := jl t s ++ [Value.int .i64 (next : Int), Value.slice B n bc]
structure Pr (w : World) (t : Tre) (s : Sl) (next : Nat) (l : List UInt8) (B : Option Addr) (bc : Nat) (W : World) : Prop where
  box : Blk W w.heap.size 129 (ptC t s next B l.length bc).toArray
  own : W.ownsRow w.heap.size 5 1 (.slice B l.length bc) l.length (l.map bv)
  kp : Kp (fromB w.heap.size) w W
structure FrP (W W' : World) : Prop where
  size : W.heap.size <= W'.heap.size
  blk : ∀ (q : Nat) (T : TypeId) (cs : Array Value), T ≠ 129 -> T ≠ 5 -> Blk W q T cs -> Blk W' q T cs
theorem FrP.refl (W : World) : FrP W W := ⟨Nat.le_refl _, fun _ _ _ _ _ h => h⟩
theorem FrP.trans {W W1 W2 : World} (h : FrP W W1) (k : FrP W1 W2) : FrP W W2 := ⟨Nat.le_trans h.size k.size, fun q T cs a b h1 => k.blk q T cs a b (h.blk q T cs a b h1)⟩
theorem FrP.of_old {W W1 : World} (h : Old W W1) : FrP W W1 := ⟨h.size, fun _ _ _ _ _ h1 => h1.old h⟩
def PrR (w : World) (t : Tre) (s : Sl) (next : Nat) (l : List UInt8) (W : World) (e : Ending) (W' : World) : Prop := e = .returned (.tuple #[]) /\ ∃ B bc, Pr w t s next l B bc W' /\ FrP W W'
theorem PrR.of {w W W1 W' : World} {t : Tre} {s : Sl} {next : Nat} {l : List UInt8} {e : Ending} (f : FrP W W1) (h : PrR w t s next l W1 e W') : PrR w t s next l W e W' := ⟨h.1, h.2.elim fun B h2 => h2.elim fun bc h3 => ⟨B, bc, h3.1, f.trans h3.2⟩⟩
section
variable {w W W1 W2 : World} {t : Tre} {s : Sl} {next : Nat} {l : List UInt8} {B : Option Addr} {bc : Nat}
theorem Pr.old (h : Pr w t s next l B bc W) (ho : Old W W1) : Pr w t s next l B bc W1 := ⟨h.box.old ho, jX h.own ho (fun _ _ e => e), h.kp.old ho⟩
theorem Pr.drewN (h : Pr w t s next l B bc W) (n : Nat) : Pr w t s next l B bc (W.drewN n) := h.old ((Kp.refl _ _).drewN n)
theorem Pr.c8 (h : Pr w t s next l B bc W) : W.cell? ⟨w.heap.size, 8, none⟩ = some (.int .i64 (next : Int)) := h.box.at_ 8 rfl
theorem Pr.c9 (h : Pr w t s next l B bc W) : W.cell? ⟨w.heap.size, 9, none⟩ = some (.slice B l.length bc) := h.box.at_ 9 rfl
theorem Pr.c6 (h : Pr w t s next l B bc W) : W.cell? ⟨w.heap.size, 6, none⟩ = some (.slice s.nA t.nodes.length s.nc) := h.box.at_ 6 rfl
theorem Pr.z (h : Pr w t s next l B bc W) (i : Nat) : W.frozen? ⟨w.heap.size, i, none⟩ = false := h.box.frozen i
theorem Pr.sg (h : Pr w t s next l B bc W) (hg : Sg w) (h8 : 8 <= w.heap.size) : Sg W := hg.kp h.kp (fun e : w.heap.size <= 0 => by omega) (fun e : w.heap.size <= 2 => by omega)
theorem Pr.grow (h : Pr w t s next l B bc W) (ho : Old W W1) {B' : Option Addr} {c' : Nat} {l' : List UInt8} (hg : W1.grownBy W2 (B.map (·.block))) (hown : W2.ownsRow w.heap.size 5 1 (.slice B' l'.length c') l'.length (l'.map bv)) :
    Blk W2 w.heap.size 129 (ptC t s next B l.length bc).toArray /\ Pr w t s next l' B' c' (W2.setCell ⟨w.heap.size, 9, none⟩ (.slice B' l'.length c')) /\ FrP W (W2.setCell ⟨w.heap.size, 9, none⟩ (.slice B' l'.length c')) := by
  have hne : B.map (·.block) ≠ some w.heap.size := by rw [<- jC]; exact jM h.own h.box (by decide)
  have hk2 : Kp (fun b => B.map (·.block) = some b) W W2 := Kp.grown (ho.mono (fun _ _ e => e.elim)) hg (fun _ e _ => e)
  have hb2 := h.box.kp hk2 hne
  have hk3 : Kp (fun k => k = w.heap.size) W2 (W2.setCell ⟨w.heap.size, 9, none⟩ (.slice B' l'.length c')) := (Kp.refl (fun k => k = w.heap.size) W2).setCell (p := ⟨w.heap.size, 9, none⟩) (fun _ => rfl) _
  have hb3 := (Blk.set_ hb2 9 (.slice B' l'.length c'))
  rw [List.setIfInBounds_toArray] at hb3
  refine ⟨hb2, ⟨hb3, jX hown hk3 (fun k e e2 => jM hown hb2 (by decide) (by rw [e]; exact congrArg some e2)), (h.kp.trans hk2 (fun b hb e => ?_)).trans hk3 (fun b hb e => ?_)⟩, ⟨Nat.le_trans hk2.size hk3.size, fun q T cs h1 h2 hq => ?_⟩⟩
  · exact (own_ge h.own e).1
  · show w.heap.size <= b
    have : b = w.heap.size := e
    omega
  · have hq2 : Blk W2 q T cs := hq.kp hk2 (fun e => jM h.own hq (fun e2 => h2 e2.symm) (by rw [jC]; exact e))
    exact hq2.kp hk3 (fun e => Blk.ne_ hq2 hb2 h1 e)
end
theorem jT (b x : List UInt8) : b.length <= (putB b x).length /\ x.length <= (putB b x).length := by
  unfold putB
  split
  · simp only [List.length_append]; omega
  · simp only [List.length_append, List.length_singleton]; omega
theorem kq (ws : List (List UInt8)) : ∀ b, b.length <= (jp b ws).length := by
  induction ws with
  | nil => exact fun b => Nat.le_refl _
  | cons x l ih => exact fun b => Nat.le_trans (jT b x).1 (ih _)
theorem putB_snoc (l2 : List UInt8) (z : UInt8) (x : List UInt8) : putB (l2 ++ [z]) x = (if z.toNat = 10 then l2 ++ [z] else l2 ++ [z] ++ [32]) ++ x := by
  unfold putB
  rw [List.getLastD_concat]
  by_cases h10 : z.toNat = 10
  · rw [if_pos h10, if_pos (.inr (UInt8.toNat_inj.1 h10))]
  · rw [if_neg h10, if_neg (fun e => e.elim (fun e => by simp at e) (fun e => h10 (by rw [e]; rfl)))]
theorem put_bound (l2 : List UInt8) (z : UInt8) (x : ByteArray) (h : ((if z.toNat = 10 then l2 ++ [z] else l2 ++ [z] ++ [32]) ++ sb x).length <= 10000000000000) : (l2 ++ [z]).length + x.size <= 10000000000000 /\ (¬ z.toNat = 10 -> (l2 ++ [z]).length + 1 + x.size <= 10000000000000) := by
  rw [List.length_append, jA] at h
  split at h
  · rename_i h1
    exact ⟨h, fun e => absurd h1 e⟩
  · rw [List.length_append, List.length_singleton] at h
    exact ⟨by omega, fun _ => h⟩
theorem lim_max : 10000000000000 <= maxLen := by unfold maxLen; omega
theorem lim_47 : 10000000000000 <= 140737488355328 := by omega
theorem bne_nat10 {n : Nat} (h : ¬ n = 10) : ((n : Int) != 10) = true := by rw [bne, beq_eq_false_iff_ne.2 (show (n : Int) ≠ 10 by omega)]; rfl
theorem wrap_pred (m : Nat) (h : m + 1 <= 10000000000000) : (0 : Int) < (m : Int) + 1 /\ IntKind.i64.wrap ((m : Int) + 1 - 1) = (m : Int) /\ RowKit.wrap64 (m : Int) = (m : Int) /\ (0 : Int) <= (m : Int) /\ (m : Int).toNat = m := by
  refine ⟨by omega, ?_, IntWalk.wrap64_in _ (by omega), by omega, by omega⟩
  rw [show (m : Int) + 1 - 1 = (m : Int) by omega]
  exact IntWalk.i64_in _ (by omega)
def LIMP : Nat := 10000000000000
theorem Tryz.infoU8 : (Tryz.prog.info? 5).map (fun i => (i.zero, i.size, i.bytes)) = some (some (.int .u8 0), 1, 1) := by kernel_rfl
theorem both_of_wp {P : Program} {f : FuncId} {fn : Func} {c : Code} {args : Array Value} {w : World} {R : Ending -> World -> Prop} (hf : P.funcs[f]? = some fn) (hb : fn.body = some c)
    (h : c.wp P (bodyPost P fn R) { tmps := args ++ Array.replicate (fn.ntmps - args.size) undef, defers := [] } w) : Calls P f args w R /\ ∀ u, CallsD P f args u w (fun e u' w' => u' = u /\ R e w') :=
  ⟨calls_of_wp hf hb h, fun _ => callsD_of_wp hf hb h⟩
theorem put_both (w W : World) (t : Tre) (s : Sl) (next : Nat) (l : List UInt8) (B : Option Addr) (bc : Nat) (h : Pr w t s next l B bc W) (q : Nat) (ws : List ByteArray) (hq : Blk W q 9 (ws.map sv).toArray) (hl : (jp l (ws.map sb)).length <= LIMP) (hws : ws.length <= 1000) :
    Calls Tryz.prog 53 #[.pointer (some ⟨w.heap.size, 0, none⟩), .slice (some ⟨q, 0, none⟩) ws.length ws.length] W (PrR w t s next (jp l (ws.map sb)) W) /\
    ∀ u, CallsD Tryz.prog 53 #[.pointer (some ⟨w.heap.size, 0, none⟩), .slice (some ⟨q, 0, none⟩) ws.length ws.length] u W (fun e u' w' => u' = u /\ PrR w t s next (jp l (ws.map sb)) W e w') := by
  obtain ⟨i0, hi, hz0, hz1, hz2⟩ := info_parts Tryz.infoU8
  have H0 := jJ0 h
  have HQ := jJ0 hq
  have HL := jJ0 hl
  clear h hq hl
  refine both_of_wp Tryz.func53 rfl ?_
  simp only [Tryz.ntmps53, List.size_toArray, List.length_cons, List.length_nil, Nat.reduceAdd, Nat.reduceSub, Array.replicate_succ, Array.replicate_zero, List.push_toArray, List.append_toArray, List.nil_append, List.cons_append]
  go_wp2
  go_loopw [9] (fun i wr => ∃ (j : Nat) (l1 : List UInt8) (B1 : Option Addr) (c1 : Nat), j <= ws.length /\ i = .int .i64 (j : Int) /\ jp l (ws.map sb) = jp l1 ((ws.drop j).map sb) /\ Pr w t s next l1 B1 c1 wr /\ FrP W wr) (fun i _ => ws.length - (intOf i).toNat)
  case atStart => exact ⟨0, l, B, bc, Nat.zero_le _, rfl, rfl, H0.out, FrP.refl _⟩
  case round =>
    clear H0
    obtain ⟨j, l1, B1, c1, hj, rfl, heq, hp, hf⟩ := hrel
    have Hp := jJ0 hp
    have Hf := jJ0 hf
    have Heq := jJ0 heq
    by_cases hlt : j < ws.length
    · have hx : (ws.map sv)[j]? = some (.string ws[j]) := by rw [List.getElem?_map, List.getElem?_eq_getElem hlt]; rfl
      have hqj := (hf.blk _ _ _ (by decide) (by decide) HQ.out).at_ j (v := .string ws[j]) (by rw [List.getElem?_toArray]; exact hx)
      have hd : ws.drop j = ws[j] :: ws.drop (j + 1) := List.drop_eq_getElem_cons hlt
      rw [hd, List.map_cons] at heq
      have HE := jJ0 (show jp l (ws.map sb) = jp (putB l1 (sb ws[j])) ((ws.drop (j + 1)).map sb) from heq)
      have hlen : (putB l1 (sb ws[j])).length <= LIMP := by have := kq ((ws.drop (j + 1)).map sb) (putB l1 (sb ws[j])); rw [<- HE.out] at this; exact Nat.le_trans this HL.out
      generalize ws[j] = x at *
      have hc9 := hp.c9
      have hz9 := hp.z 9
      have b1 : (0 : Int) <= (j : Int) := by omega
      have b2 : (j : Int).toNat = j := by omega
      have b3 : (j : Int) < (ws.length : Int) := by omega
      have b4 : IntKind.i64.wrap ((j : Int) + 1) = (j : Int) + 1 := IntWalk.i64_in _ (by omega)
      have hbase : w.heap.size <= wr.heap.size := hp.kp.size
      unfold LIMP at hlen
      clear hf heq hx hd
      rcases List.eq_nil_or_concat l1 with rfl | ⟨l2, z, rfl⟩
      · have hpt : putB [] (sb x) = sb x := by unfold putB; rw [if_pos (.inl rfl)]; rfl
        rw [hpt] at HE hlen
        have H63 := jJ0 (show 0 + x.size <= maxLen by rw [jA] at hlen; unfold maxLen; omega)
        have H47 := jJ0 (show 0 + x.size <= 140737488355328 by rw [jA] at hlen; omega)
        have hc9 : wr.cell? ⟨w.heap.size, 9, none⟩ = some (.slice B1 0 c1) := hp.c9
        have HOw := jJ0 (show wr.ownsRow w.heap.size 5 1 (.slice B1 0 c1) 0 [] from hp.own)
        clear hp hpt hlen
        go_wp2_with (first | (at_builtin; refine kO _ rfl (.tmp 44) (.tmp 45) 33 9 rfl w.heap.size 5 i0 Tryz.underlying33 Tryz.underlying9 hi hz0 hz1 hz2 (.slice B1 0 c1) 0 [] rfl HOw.out x rfl H63.out H47.out hbase ?_; intro B2 c2 w2 hown hgrow hat; rw [jC] at hgrow; rw [Nat.zero_add, List.nil_append, <- jA] at hown; have HG := Hp.out.grow (Kp.refl NoX _) hgrow hown; have hc9 := HG.1.at_ 9 (v := .slice B1 0 c1) rfl; have hz9 := HG.1.frozen 9; have HN := jJ0 HG.2; clear hown hgrow hat HG) | fail)
        rw [jA] at HN
        exact ⟨⟨j + 1, sb x, B2, c2, by omega, by rw [show ((j + 1 : Nat) : Int) = (j : Int) + 1 by omega], HE.out, HN.out.1, Hf.out.trans HN.out.2⟩, by simp only [intOf]; omega⟩
      · rw [List.concat_eq_append] at hp Hp Heq HE hlen
        clear hc9
        have hlen1 : (l2 ++ [z]).length = l2.length + 1 := by rw [List.length_append]; rfl
        have hc9m := hp.c9
        have hown1 := hp.own
        rw [hlen1] at hc9m hown1
        obtain ⟨b, o, u, hB, hu, hcz⟩ := (Rd.of_own hown1).at_ (k := l2.length) (Nat.lt_succ_self _)
        have hu2 : bv z = u := by
          rw [List.getElem?_map, List.getElem?_append_right (Nat.le_refl _), Nat.sub_self] at hu
          injection hu
        subst hu2
        subst hB
        unfold bv at hcz
        have HOw := jJ0 hown1
        have hpt := putB_snoc l2 z (sb x)
        have hbd : l2.length + 1 <= 10000000000000 := by have := (jT (l2 ++ [z]) (sb x)).1; rw [hlen1] at this; omega
        rw [hpt] at HE hlen
        obtain ⟨g1, -, -, g4, g5⟩ := wrap_pred l2.length hbd
        clear hp hpt hown1 hu Heq
        have hln : (l2 ++ [z]).length + x.size <= 10000000000000 /\ (¬ z.toNat = 10 -> (l2 ++ [z]).length + 1 + x.size <= 10000000000000) := put_bound l2 z x hlen
        rw [hlen1] at hln
        clear hlen hlen1
        by_cases h10 : z.toNat = 10
        · rw [if_pos h10] at HE
          have e10 : ((z.toNat : Int) != 10) = false := by rw [h10]; rfl
          have H63 := jJ0 (show l2.length + 1 + x.size <= maxLen from Nat.le_trans hln.1 lim_max)
          have H47 := jJ0 (show l2.length + 1 + x.size <= 140737488355328 from Nat.le_trans hln.1 lim_47)
          have HLn := jJ0 (show l2.length + 1 + x.size = ((l2 ++ [z]) ++ sb x).length by simp only [List.length_append, List.length_singleton, jA])
          clear h10 hln
          go_wp2_with (first | (at_builtin; refine kO _ rfl (.tmp 44) (.tmp 45) 33 9 rfl w.heap.size 5 i0 Tryz.underlying33 Tryz.underlying9 hi hz0 hz1 hz2 (.slice (some ⟨b, o, none⟩) (l2.length + 1) c1) (l2.length + 1) ((l2 ++ [z]).map bv) rfl HOw.out x rfl H63.out H47.out hbase ?_; intro B2 c2 w2 hown hgrow hat; rw [jC] at hgrow; rw [<- List.map_append, HLn.out] at hown; have HG := Hp.out.grow (Kp.refl NoX _) hgrow hown; have hc9 := HG.1.at_ 9 rfl; have hz9 := HG.1.frozen 9; have HN := jJ0 HG.2; clear hown hgrow hat HG) | fail)
          rw [<- HLn.out] at HN
          exact ⟨⟨j + 1, (l2 ++ [z]) ++ sb x, B2, c2, by omega, by rw [show ((j + 1 : Nat) : Int) = (j : Int) + 1 by omega], HE.out, HN.out.1, Hf.out.trans HN.out.2⟩, by simp only [intOf]; omega⟩
        · rw [if_neg h10] at HE
          have hl2 := hln.2 h10
          have e10 : ((z.toNat : Int) != 10) = true := bne_nat10 h10
          have J63 := jJ0 (show l2.length + 1 + 1 <= maxLen from Nat.le_trans (Nat.le_trans (Nat.le_add_right _ _) hl2) lim_max)
          have J47 := jJ0 (show (l2.length + 1 + 1) * 1 <= 140737488355328 from by rw [Nat.mul_one]; exact Nat.le_trans (Nat.le_trans (Nat.le_add_right _ _) hl2) lim_47)
          have H63 := jJ0 (show l2.length + 1 + 1 + x.size <= maxLen from Nat.le_trans hl2 lim_max)
          have H47 := jJ0 (show l2.length + 1 + 1 + x.size <= 140737488355328 from Nat.le_trans hl2 lim_47)
          have HL0 := jJ0 (show l2.length + 1 + 1 = ((l2 ++ [z]) ++ [32]).length by simp only [List.length_append, List.length_singleton])
          have HLn := jJ0 (show l2.length + 1 + 1 + x.size = (((l2 ++ [z]) ++ [32]) ++ sb x).length by simp only [List.length_append, List.length_singleton, jA])
          clear h10 hln
          go_wp2_with (first | (at_builtin; refine kO _ rfl (.tmp 44) (.tmp 45) 33 9 rfl w.heap.size 5 i0 Tryz.underlying33 Tryz.underlying9 hi hz0 hz1 hz2 (.slice B2 (l2.length + 1 + 1) c2) (l2.length + 1 + 1) (((l2 ++ [z]) ++ [32]).map bv) rfl HOw2.out x rfl H63.out H47.out hb2 ?_; intro B3 c3 w3 hown hgrow hat; rw [jC] at hgrow; rw [<- List.map_append, HLn.out] at hown; have HG := HN1.out.1.grow (Kp.refl NoX _) hgrow hown; have hc9 := HG.1.at_ 9 rfl; have hz9 := HG.1.frozen 9; have HN2 := jJ0 HG.2; clear hown hgrow hat HG) | (at_builtin; refine jF _ rfl (.tmp 35) (.tmp 36) 33 rfl w.heap.size 5 i0 (.int .u8 0) 1 1 Tryz.underlying33 hi hz0 hz1 hz2 rfl (by decide) (.slice (some ⟨b, o, none⟩) (l2.length + 1) c1) (l2.length + 1) ((l2 ++ [z]).map bv) rfl (jX HOw.out ((Kp.refl NoX _).alloc _) (fun _ _ e => e)) _ 1 1 [bv 32] rfl (Rd.one_new _ _ _) (kL _ rfl) J63.out J47.out (Nat.le_trans hbase ((Kp.refl NoX _).alloc _).size) ?_; intro B2 c2 w2 hown hgrow hat; rw [jC] at hgrow; rw [show (l2 ++ [z]).map bv ++ [bv 32] = ((l2 ++ [z]) ++ [32]).map bv by rw [List.map_append (l₂ := [32])]; rfl, HL0.out] at hown; have HG := Hp.out.grow ((Kp.refl NoX _).alloc _) hgrow hown; have hc9 := HG.1.at_ 9 rfl; have hz9 := HG.1.frozen 9; have HN1 := jJ0 HG.2; clear hown hgrow hat HG; rw [<- HL0.out] at HN1; have d9 := HN1.out.1.c9; rw [<- HL0.out] at d9; have y9 := HN1.out.1.z 9; have HOw2 := jJ0 HN1.out.1.own; rw [<- HL0.out] at HOw2; have hb2 := HN1.out.1.kp.size) | fail)
          rw [<- HLn.out] at HN2
          exact ⟨⟨j + 1, ((l2 ++ [z]) ++ [32]) ++ sb x, B3, c3, by omega, by rw [show ((j + 1 : Nat) : Int) = (j : Int) + 1 by omega], HE.out, HN2.out.1, (Hf.out.trans HN1.out.2).trans HN2.out.2⟩, by simp only [intOf]; omega⟩
    · obtain rfl : j = ws.length := by omega
      have HF := jJ0 (show jp l (ws.map sb) = l1 by rw [heq, List.drop_length]; rfl)
      clear hp hf heq
      go_wp2
      go_end0
      rw [HF.out]
      exact ⟨rfl, B1, c1, Hp.out, Hf.out⟩
theorem put_any (w W : World) (t : Tre) (s : Sl) (next : Nat) (l : List UInt8) (B : Option Addr) (bc : Nat) (h : Pr w t s next l B bc W) (q : Nat) (ws : List ByteArray) (hq : Blk W q 9 (ws.map sv).toArray) (hl : (jp l (ws.map sb)).length <= LIMP) (hws : ws.length <= 1000) :
    Calls Tryz.prog 53 #[.pointer (some ⟨w.heap.size, 0, none⟩), .slice (some ⟨q, 0, none⟩) ws.length ws.length] W (PrR w t s next (jp l (ws.map sb)) W) :=
  (put_both w W t s next l B bc h q ws hq hl hws).1
theorem put_d (w W : World) (t : Tre) (s : Sl) (next : Nat) (l : List UInt8) (B : Option Addr) (bc : Nat) (h : Pr w t s next l B bc W) (q : Nat) (ws : List ByteArray) (hq : Blk W q 9 (ws.map sv).toArray) (hl : (jp l (ws.map sb)).length <= LIMP) (hws : ws.length <= 1000) (u : FrameMode) :
    CallsD Tryz.prog 53 #[.pointer (some ⟨w.heap.size, 0, none⟩), .slice (some ⟨q, 0, none⟩) ws.length ws.length] u W (fun e u' w' => u' = u /\ PrR w t s next (jp l (ws.map sb)) W e w') :=
  (put_both w W t s next l B bc h q ws hq hl hws).2 u
end Go.Proofs.YtmmjcbbogokmfaaGreatDoor
