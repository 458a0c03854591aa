import Derived.Test.YtmmjcbbogokmfaaGreatDoorMg01
import Derived.Test.YtmmjcbbogokmfaaGreatDoorMg15
/- Contract of the reader's node; a node written over. -/
namespace Go.Proofs.YtmmjcbbogokmfaaGreatDoor
open Go.RowKit

/-- an expression's outcome: a value is told, the tree has grown -/
def Ex (w : World) (g : Nat) (src : ByteArray) (s : Sl) (r' : Rdr) (v : Value) (e : Ending) (w' : World) : Prop := e = .returned v ∧ ∃ s', St w' g src r' s' ∧ Fr g s s' w w'
theorem Ex.of {w w1 w' : World} {g : Nat} {src : ByteArray} {s s1 : Sl} {r' : Rdr} {v : Value} {e : Ending} (f : Fr g s s1 w w1) (h : Ex w1 g src s1 r' v e w') : Ex w g src s r' v e w' :=
  ⟨h.1, h.2.elim fun s' hs => ⟨s', hs.1, f.trans hs.2⟩⟩
theorem Sc.ex {w w' : World} {g : Nat} {src : ByteArray} {s : Sl} {r' : Rdr} {v : Value} {e : Ending} (h : Sc w g src s r' v e w') : Ex w g src s r' v e w' := ⟨h.1, s, h.2⟩
/-- the last node, and those ahead of it -/
theorem St.last {w : World} {g : Nat} {src : ByteArray} {r : Rdr} {s : Sl} (h : St w g src r s) {L : List Nd} {m : Nd} (hl : r.tree.nodes = L ++ [m]) :
    ∃ ns x ps, x.n = m ∧ ns.map (·.n) = L ∧ TRows w (AX g s) r.tree s (ns ++ [x]) ps := by
  obtain ⟨ns, ps, hR⟩ := h.rows
  have hn := hR.ne
  rw [hl] at hn
  obtain ⟨n1, n2, rfl, h1, h2⟩ := List.map_eq_append_iff.1 hn
  obtain ⟨x, l, rfl, h3, h4⟩ := List.map_eq_cons_iff.1 h2
  rw [List.map_eq_nil_iff.1 h4] at hR
  exact ⟨n1, x, ps, h3, h1, hR⟩
/-- the last node is another one -/
theorem St.turn {w w' : World} {g : Nat} {src : ByteArray} {r : Rdr} {s : Sl} (h : St w g src r s) {ns : List MNd} {x x' : MNd} {ps : List MSt} (hR : TRows w (AX g s) r.tree s (ns ++ [x]) ps)
    (hk : Kp (fun b => s.nA.map (·.block) = some b) w w') (ho : w'.ownsRow 8 46 7 (.slice s.nA r.tree.nodes.length s.nc) r.tree.nodes.length (ns.flatMap ndC ++ ndC x')) (hx : OkN w (AX g s) x') :
    St w' g src { r with tree := { r.tree with nodes := ns.map (·.n) ++ [x'.n] } } s ∧ Fr g s s w w' := by
  have hf : Fr g s s w w' := ⟨hk.mono (fun b _ e => by first | exact .inl e | exact .inr (.inl e) | exact .inr (.inr (.inl e)) | exact .inr (.inr (.inr (.inl e))) | exact .inr (.inr (.inr (.inr (.inl e)))) | exact .inr (.inr (.inr (.inr (.inr (.inl e))))) | exact .inr (.inr (.inr (.inr (.inr (.inr (e))))))), fun _ _ e => e, rfl⟩
  have hlen : (ns.map (·.n) ++ [x'.n]).length = r.tree.nodes.length := by rw [← hR.ne]; simp
  have hgne : s.nA.map (·.block) ≠ some g := by rw [← ownBlock_slice]; exact own_blk_ne hR.rN h.box (by decide)
  have K : ∀ {e : TypeId} {z : Nat} {v : Value} {n : Nat} {xs : List Value}, w.ownsRow 8 e z v n xs → e ≠ 46 → w'.ownsRow 8 e z v n xs := fun ho hne =>
    own_kp ho hk (fun k e e' => own_own_ne ho hR.rN hne k e (by rw [ownBlock_slice]; exact e'))
  refine ⟨⟨h.sgf hf, h.g8, h.small, ?_, ⟨ns ++ [x'], ps, ?_⟩, h.from_, h.at_, h.t58, fun b hz => Nat.lt_of_lt_of_le (h.zlt b hz) hk.size, h.z8, h.zno⟩, hf⟩
  · have hb := h.box.kp hk hgne
    unfold Rb at hb ⊢
    simp only [rdC, treeC, hlen] at hb ⊢
    exact hb
  · constructor
    case rA => exact K hR.rA (by decide)
    case rG => exact K hR.rG (by decide)
    case rM => exact K hR.rM (by decide)
    case rP => exact K hR.rP (by decide)
    case rO => exact K hR.rO (by decide)
    case rN =>
      simp only [hlen, List.flatMap_append, List.flatMap_singleton]
      exact ho
    case pe => exact hR.pe
    case ne => simp
    case po => exact fun y hy => (hR.po y hy).fr hf
    case no => exact fun y hy => (List.mem_append.1 hy).elim (fun hy => (hR.no y (List.mem_append.2 (.inl hy))).fr hf) (fun hy => by rw [List.mem_singleton.1 hy]; exact hx.fr hf)
theorem one_node (x : MNd) : ∀ u ∈ ndC x, u.oneCell' = true := by
  intro u hu
  simp only [ndC, iv, List.mem_cons, List.mem_nil_iff, or_false] at hu
  rcases hu with rfl | rfl | rfl | rfl | rfl | rfl | rfl <;> rfl
theorem Rd.one_at (w : World) (t : TypeId) (u : Value) {n : Nat} (hn : n = w.heap.size) : Rd (w.alloc (.cells #[u] t)) 1 (some ⟨n, 0, none⟩) 1 [u] := hn ▸ Rd.one_new w t u
theorem St.eight {w : World} {g : Nat} {src : ByteArray} {r : Rdr} {s : Sl} (h : St w g src r s) : 8 ≤ w.heap.size := by have := h.lt; have := h.g8; omega
theorem St.pastA {w w1 w2 : World} {g : Nat} {src : ByteArray} {r : Rdr} {s : Sl} {ns : List MNd} {ps : List MSt} (hs : St w g src r s) (h : TRows w (AX g s) r.tree s ns ps) (h1 : Old w w1) (hgr : w1.grownBy w2 (s.aA.map (·.block))) : Rb w2 g src r (treeC r.tree s) :=
  (hs.box.old h1).kp (kp_row hgr) (by rw [← ownBlock_slice]; exact own_blk_ne h.rA hs.box (by decide))
theorem St.pastG {w w1 w2 : World} {g : Nat} {src : ByteArray} {r : Rdr} {s : Sl} {ns : List MNd} {ps : List MSt} (hs : St w g src r s) (h : TRows w (AX g s) r.tree s ns ps) (h1 : Old w w1) (hgr : w1.grownBy w2 (s.gA.map (·.block))) : Rb w2 g src r (treeC r.tree s) :=
  (hs.box.old h1).kp (kp_row hgr) (by rw [← ownBlock_slice]; exact own_blk_ne h.rG hs.box (by decide))
theorem St.pastM {w w1 w2 : World} {g : Nat} {src : ByteArray} {r : Rdr} {s : Sl} {ns : List MNd} {ps : List MSt} (hs : St w g src r s) (h : TRows w (AX g s) r.tree s ns ps) (h1 : Old w w1) (hgr : w1.grownBy w2 (s.mA.map (·.block))) : Rb w2 g src r (treeC r.tree s) :=
  (hs.box.old h1).kp (kp_row hgr) (by rw [← ownBlock_slice]; exact own_blk_ne h.rM hs.box (by decide))
theorem St.pastP {w w1 w2 : World} {g : Nat} {src : ByteArray} {r : Rdr} {s : Sl} {ns : List MNd} {ps : List MSt} (hs : St w g src r s) (h : TRows w (AX g s) r.tree s ns ps) (h1 : Old w w1) (hgr : w1.grownBy w2 (s.pA.map (·.block))) : Rb w2 g src r (treeC r.tree s) :=
  (hs.box.old h1).kp (kp_row hgr) (by rw [← ownBlock_slice]; exact own_blk_ne h.rP hs.box (by decide))
theorem St.pastN {w w1 w2 : World} {g : Nat} {src : ByteArray} {r : Rdr} {s : Sl} {ns : List MNd} {ps : List MSt} (hs : St w g src r s) (h : TRows w (AX g s) r.tree s ns ps) (h1 : Old w w1) (hgr : w1.grownBy w2 (s.nA.map (·.block))) : Rb w2 g src r (treeC r.tree s) :=
  (hs.box.old h1).kp (kp_row hgr) (by rw [← ownBlock_slice]; exact own_blk_ne h.rN hs.box (by decide))
theorem St.pastO {w w1 w2 : World} {g : Nat} {src : ByteArray} {r : Rdr} {s : Sl} {ns : List MNd} {ps : List MSt} (hs : St w g src r s) (h : TRows w (AX g s) r.tree s ns ps) (h1 : Old w w1) (hgr : w1.grownBy w2 (s.oA.map (·.block))) : Rb w2 g src r (treeC r.tree s) :=
  (hs.box.old h1).kp (kp_row hgr) (by rw [← ownBlock_slice]; exact own_blk_ne h.rO hs.box (by decide))
/-- where a node is laid down, its rows stand -/
def bareM (op : Int) (kids : List Int) (A : Option Addr) (c : Nat) : MNd := ⟨bareNd op kids, A, c, none, 0⟩
set_option maxRecDepth 100000 in
set_option maxHeartbeats 3200000 in
theorem node_any (w : World) (g : Nat) (src : ByteArray) (r r' : Rdr) (s : Sl) (op x : Int) (at_ : Nat) (A : Option Addr) (c : Nat) (kids : List Int) (h : St w g src r s) (hr : Rd w 1 A kids.length (kids.map iv)) (ha : Av (AX g s) kids.length A)
    (hn : nodeN (bareNd op kids) at_ r = some (x, r')) :
    Calls Tryz.prog 201 #[.pointer (some ⟨g, 0, none⟩), iv op, iv (at_ : Int), .slice A kids.length c] w (Ex w g src s r' (iv x)) := by
  unfold nodeN at hn
  split at hn
  case isFalse => cases hn
  rename_i hlt
  injection hn with hn
  injection hn with e1 e2
  subst e1 e2
  obtain ⟨ns, ps, hR⟩ := h.rows
  have HS := Lib.hid h
  have HR := Lib.hid hR
  have HOk := Lib.hid (show OkN w (AX g s) (bareM op kids A c) from ⟨hr, ha, Rd.none_, fun h0 => absurd h0 (Nat.lt_irrefl 0)⟩)
  have hc11 : w.cell? ⟨g, 11, none⟩ = some (.slice s.nA r.tree.nodes.length s.nc) := Blk.at_ h.box 11 rfl
  have HO := Lib.hid ((Kp.refl NoX w).alloc (.cells (ndC (bareM op kids A c)).toArray 46))
  have H8 := Lib.hid (show 8 ≤ w.heap.size by have := h.lt; have := h.g8; omega)
  obtain ⟨i0, hi, hz0, hz1, hz2⟩ := info_parts Tryz.infoNode
  obtain ⟨i1, hj, hy0, hy1, hy2⟩ := info_parts Tryz.infoInt
  have H63 := Lib.hid (show r.tree.nodes.length + 1 ≤ maxLen by unfold maxLen; omega)
  have H47 := Lib.hid (show (r.tree.nodes.length + 1) * 104 ≤ 140737488355328 by omega)
  have J63 := Lib.hid (show r.tree.ats.length + 1 ≤ maxLen by unfold maxLen; omega)
  have J47 := Lib.hid (show (r.tree.ats.length + 1) * 8 ≤ 140737488355328 by omega)
  have q1 : IntKind.i64.wrap ((r.tree.nodes.length : Int) + 1 - 1) = (r.tree.nodes.length : Int) := by rw [show (r.tree.nodes.length : Int) + 1 - 1 = (r.tree.nodes.length : Int) by omega]; exact IntWalk.i64_in _ (by omega)
  have q2 : RowKit.wrap64 (r.tree.nodes.length : Int) = (r.tree.nodes.length : Int) := IntWalk.wrap64_in _ (by omega)
  clear h hR hr ha hlt
  unfold iv
  go_enter Tryz.func201, Tryz.ntmps201
  go_wp2_with (first | (at_builtin; refine wpList_append_any _ rfl (.tmp 14) (.tmp 18) 26 rfl 8 46 i0 _ 7 104 Tryz.underlying26 hi hz0 hz1 hz2 rfl (by decide) (.slice s.nA r.tree.nodes.length s.nc) r.tree.nodes.length (ns.flatMap ndC) rfl (own_kp HR.out.rN HO.out (fun _ _ e => e)) _ 1 1 (ndC (bareM op kids A c)) rfl (Rd.row_new _ _ 7 1 _ rfl) (one_node _) H63.out H47.out (Nat.le_trans H8.out HO.out.size) ?_; intro A1 c1 w2 hown hgrow hat; rw [ownBlock_slice] at hgrow hat; have hb2 := HS.out.pastN HR.out HO.out hgrow; have hc11 : w2.cell? ⟨g, 11, none⟩ = some (.slice s.nA r.tree.nodes.length s.nc) := Blk.at_ hb2 11 rfl; have hz11 := hb2.z 11; have hc12 : w2.cell? ⟨g, 12, none⟩ = some (.slice s.oA r.tree.ats.length s.oc) := Blk.at_ hb2 12 rfl; have hz12 := hb2.z 12; have H1 := Lib.hid (HS.out.growN HR.out (bareM op kids A c) HOk.out HO.out hgrow hat hown); obtain ⟨ns2, ps2, hR2⟩ := H1.out.1.rows; have HR2 := Lib.hid hR2; clear hb2 hown hgrow hat hR2) | (at_builtin; refine wpList_append_any _ rfl (.tmp 28) (.tmp 30) 27 rfl 8 3 i1 _ 1 8 Tryz.underlying27 hj hy0 hy1 hy2 rfl (by decide) (.slice s.oA r.tree.ats.length s.oc) r.tree.ats.length (r.tree.ats.flatMap oC) rfl (own_kp HR2.out.rO ((Kp.refl NoX _).alloc _) (fun _ _ e => e)) _ 1 1 _ rfl (Rd.one_at _ _ _ (by simp [World.setCell])) (one_value _ rfl) J63.out J47.out (Nat.le_trans H1.out.1.eight ((Kp.refl NoX _).alloc _).size) ?_; intro A2 c2 w5 hown hgrow hat; rw [ownBlock_slice] at hgrow hat; have hb5 := H1.out.1.pastO HR2.out ((Kp.refl NoX _).alloc _) hgrow; have hc11 := Blk.at_ hb5 11 (v := .slice A1 (r.tree.nodes ++ [(bareM op kids A c).n]).length c1) rfl; rw [List.length_append, List.length_singleton] at hc11; have hc12 : w5.cell? ⟨g, 12, none⟩ = some (.slice s.oA r.tree.ats.length s.oc) := Blk.at_ hb5 12 rfl; have hz12 := hb5.z 12; have H2 := Lib.hid (H1.out.1.growO HR2.out (at_ : Int) True.intro ((Kp.refl NoX _).alloc _) hgrow hat hown); clear hb5 hown hgrow hat) | fail)
  go_ret
  exact ⟨rfl, _, H2.out.1, H1.out.2.trans H2.out.2⟩
end Go.Proofs.YtmmjcbbogokmfaaGreatDoor

/- Right and Print, plain: what the program's printer writes. -/
namespace Go.Proofs.YtmmjcbbogokmfaaGreatDoor

/-- a text's bytes -/
def tb (s : ByteArray) : List UInt8 := s.data.toList
def legalT (s : ByteArray) : Bool := legalB (tb s)
/-- is a node right by itself? -/
def rightN (n : Nd) : Bool :=
  if n.op = 1 then decide (n.vk = 1 ∧ 0 ≤ n.vn) && decide (n.vt.size = 0) && decide (n.vs = []) && decide (n.kids.length = 0) && decide (n.name.size = 0)
  else if n.op = 2 then decide (n.vk = 2 ∧ (n.vn = 0 ∨ n.vn = 1)) && decide (n.vt.size = 0) && decide (n.vs = []) && decide (n.kids.length = 0) && decide (n.name.size = 0)
  else if n.op = 3 then decide (n.vk = 3 ∧ n.vn = 0) && decide (n.vs = []) && decide (n.kids.length = 0) && decide (n.name.size = 0)
  else decide (n.vk = 0 ∧ n.vn = 0) && decide (n.vt.size = 0) && decide (n.vs = []) &&
    (if n.op = 4 ∨ n.op = 29 ∨ n.op = 30 then decide (n.kids.length = 0) && decide (n.name.size = 0)
     else if n.op = 5 ∨ n.op = 24 ∨ n.op = 25 ∨ n.op = 26 then decide (n.kids.length = 0) && legalT n.name
     else if n.op = 6 then decide (n.name.size = 0)
     else if n.op = 7 ∨ n.op = 8 ∨ n.op = 27 then decide (n.kids.length = 1) && decide (n.name.size = 0)
     else if n.op = 23 then decide (n.kids.length = 3) && decide (n.name.size = 0)
     else decide (1 ≤ n.op ∧ n.op < 34) && decide (n.kids.length = 2) && decide (n.name.size = 0))
/-- a place of each declaration, by their Orders: the row so far, the last one's place, all right so far -/
structure LayP where
  l : List (Int × Int)
  last : Int
  ok : Bool
def layN (fam : Int) (i : Nat) (order : Int) (s : LayP) : LayP :=
  let last := if i = 0 then -1 else s.last
  if order ≤ last ∨ (s.l.length : Int) ≤ order ∨ s.l.getD order.toNat (0, 0) ≠ (0, 0) then ⟨s.l, last, false⟩
  else ⟨s.l.set order.toNat (fam, (i : Int)), order, s.ok⟩
def layAll (fam : Int) : List Int → Nat → LayP → LayP
  | [], _, s => s
  | o :: l, i, s => layAll fam l (i + 1) (layN fam i o s)
def Tre.count (t : Tre) : Nat := t.attrs.length + t.stages.length + t.miles.length + t.steps.length
def laidN (t : Tre) : LayP :=
  layAll 4 (t.steps.map Stp.order) 0 (layAll 3 (t.miles.map Mil.order) 0 (layAll 2 (t.stages.map Stg.order) 0 (layAll 1 (t.attrs.map Atr.order) 0 ⟨List.replicate t.count (0, 0), -1, true⟩)))
/-- are a node and what is beneath it the nodes that come next? none: no; some: the next one's place -/
def treeN (nodes : List Nd) : Nat → Int → Nat → Option Nat
  | 0, _, _ => none
  | f + 1, root, next =>
    if root < 0 ∨ (nodes.length : Int) ≤ root then none
    else match nodes[root.toNat]? with
      | none => none
      | some n => if rightN n = false then none
        else (n.kids.foldl (fun (s : Option Nat) k => s.bind fun nx => if root ≤ k then none else treeN nodes f k nx) (some next)).bind fun nx => if root = (nx : Int) then some (nx + 1) else none
/-- lexemes on a line -/
def putB (b w : List UInt8) : List UInt8 := (if b = [] ∨ b.getLastD 0 = 10 then b else b ++ [32]) ++ w
def putsB (b : List UInt8) (ws : List (List UInt8)) : List UInt8 := ws.foldl putB b
/-- how tightly an operator binds -/
def levelN (op : Int) : Nat :=
  if op = 23 then 0 else if op = 10 then 1 else if op = 9 then 2 else if op = 8 then 3 else if 11 ≤ op ∧ op ≤ 17 then 4 else if op = 18 ∨ op = 19 then 5 else if 20 ≤ op ∧ op ≤ 22 then 6 else if op = 7 then 7 else 8
def spelledOp (op : Int) : List UInt8 :=
  if 11 ≤ op ∧ op ≤ 16 then signL.getD (op.toNat - 3) []
  else if 20 ≤ op ∧ op ≤ 22 then signL.getD (op.toNat - 4) []
  else if 29 ≤ op ∧ op ≤ 33 then resL.getD (op.toNat + 1) []
  else if op = 8 then [110, 111, 116] else if op = 9 then [97, 110, 100] else if op = 10 then [111, 114] else if op = 17 then [105, 110] else if op = 18 then [43] else if op = 7 ∨ op = 19 then [45]
  else if op = 24 then [104, 97, 115] else if op = 25 then [111, 112, 101, 110] else if op = 26 then [114, 101, 97, 99, 104, 101, 100] else if op = 27 then [115, 105, 122, 101] else [106, 111, 105, 110]
def hexD (n : Nat) : UInt8 := UInt8.ofNat (if n < 10 then 48 + n else 87 + n)
def quoteC (c : UInt8) : List UInt8 :=
  if c.toNat = 34 ∨ c.toNat = 92 then [92, c] else if c.toNat = 10 then [92, 110] else if c.toNat = 9 then [92, 116]
  else if c.toNat < 32 ∨ 126 < c.toNat then [92, 120, hexD (c.toNat / 16), hexD (c.toNat % 16)] else [c]
def quotedB (s : List UInt8) : List UInt8 := 34 :: (s.flatMap quoteC ++ [34])
def decB : Nat → Nat → List UInt8
  | 0, _ => []
  | f + 1, n => if n < 10 then [UInt8.ofNat (48 + n)] else decB f (n / 10) ++ [UInt8.ofNat (48 + n % 10)]
def numB (n : Int) : List UInt8 := decB 20 n.toNat
def opens (own least : Nat) (b : List UInt8) : List UInt8 := if own < least then putB b [40] else b
def shuts (own least : Nat) (b : List UInt8) : List UInt8 := if own < least then putB b [41] else b
/-- an expression's bytes behind b; none: a place that is none -/
def exprP (nodes : List Nd) : Nat → Int → Nat → List UInt8 → Option (List UInt8)
  | 0, _, _, _ => none
  | f + 1, root, least, b =>
    if root < 0 then none
    else match nodes[root.toNat]? with
      | none => none
      | some n =>
        let own := levelN n.op
        let b0 := opens own least b
        let two (l r : Nat) (w : List UInt8) : Option (List UInt8) := match n.kids with
          | k :: q :: _ => (exprP nodes f k l b0).bind fun b1 => exprP nodes f q r (putB b1 w)
          | _ => none
        let one : Option (List UInt8) := match n.kids with
          | k :: _ => exprP nodes f k own (putB b0 (spelledOp n.op))
          | _ => none
        (if own = 0 then (match n.kids with
            | a :: c :: d :: _ => (exprP nodes f a 0 (putB b0 [105, 102])).bind fun b1 => (exprP nodes f c 0 (putB b1 [116, 104, 101, 110])).bind fun b2 => exprP nodes f d 0 (putB b2 [101, 108, 115, 101])
            | _ => none)
          else if own = 1 ∨ own = 2 ∨ own = 5 ∨ own = 6 then two own (own + 1) (spelledOp n.op)
          else if own = 3 ∨ own = 7 then one
          else if own = 4 then two 5 5 (spelledOp n.op)
          else if n.op = 1 then some (putB b0 (numB n.vn))
          else if n.op = 2 then some (putB b0 (if n.vn = 1 then [116, 114, 117, 101] else [102, 97, 108, 115, 101]))
          else if n.op = 3 then some (putB b0 (quotedB (tb n.vt)))
          else if n.op = 5 then some (putB b0 (tb n.name))
          else if n.op = 4 then some (putB b0 [110, 111, 116, 104, 105, 110, 103])
          else if n.op = 6 then (listP (exprP nodes f) n.kids 0 (putB b0 [123])).map fun b1 => putB b1 [125]
          else (listP (exprP nodes f) n.kids 0 (let b1 := putB (putB b0 (spelledOp n.op)) [40]; if n.name.size = 0 then b1 else putB b1 (tb n.name))).map fun b1 => putB b1 [41]).map (shuts own least)
where
  listP (g : Int → Nat → List UInt8 → Option (List UInt8)) : List Int → Nat → List UInt8 → Option (List UInt8)
    | [], _, b => some b
    | k :: l, i, b => (g k 0 (if 0 < i then putB b [44] else b)).bind fun b1 => listP g l (i + 1) b1
def perhapsN (nodes : List Nd) (root : Int) (next : Nat) : Option Nat := if root = -1 then some next else treeN nodes (nodes.length + 1) root next
def inOneB (s : ByteArray) : Bool := decide (s.size = 0) || legalT s
def basedB (k : Int) : Bool := decide (1 ≤ k ∧ k ≤ 5)
def rightA (ns : List Nd) (a : Atr) (nx : Nat) : Option Nat := if legalT a.name = true ∧ basedB a.kind = true then (perhapsN ns a.dflt nx).bind (perhapsN ns a.when_) else none
def rightG (ns : List Nd) (s : Stg) (nx : Nat) : Option Nat := if legalT s.name = true ∧ inOneB s.in_ = true then (perhapsN ns s.opens nx).bind (perhapsN ns s.closes) else none
def rightM (ns : List Nd) (m : Mil) (nx : Nat) : Option Nat := if legalT m.name = true ∧ inOneB m.in_ = true then treeN ns (ns.length + 1) m.when_ nx else none
def rightE (ns : List Nd) : List Eff → Nat → Option Nat
  | [], nx => some nx
  | e :: l, nx => if legalT e.name = true then (perhapsN ns e.worth nx).bind (rightE ns l) else none
def rightS (ns : List Nd) (s : Stp) (nx : Nat) : Option Nat :=
  if legalT s.name = true ∧ inOneB s.in_ = true ∧ s.params.all (fun p => legalT p.name && basedB p.kind) = true then (perhapsN ns s.when_ nx).bind (rightE ns s.effects) else none
def rightD (t : Tre) (d : Int × Int) (nx : Nat) : Option Nat :=
  if d.1 = 1 then (t.attrs[d.2.toNat]?).bind fun a => rightA t.nodes a nx
  else if d.1 = 2 then (t.stages[d.2.toNat]?).bind fun a => rightG t.nodes a nx
  else if d.1 = 3 then (t.miles[d.2.toNat]?).bind fun a => rightM t.nodes a nx
  else (t.steps[d.2.toNat]?).bind fun a => rightS t.nodes a nx
def rightAll (t : Tre) : List (Int × Int) → Nat → Option Nat
  | [], nx => some nx
  | d :: l, nx => (rightD t d nx).bind (rightAll t l)
def kindW (k : Int) : List UInt8 := resL.getD (k.toNat + 10) []
def exP (ns : List Nd) (root : Int) (b : List UInt8) : Option (List UInt8) := exprP ns (ns.length + 1) root 0 b
def ruledP (ns : List Nd) (root : Int) (ws : List (List UInt8)) (b : List UInt8) : Option (List UInt8) := if 0 ≤ root then exP ns root (putsB b ws) else some b
def inP (s : ByteArray) (b : List UInt8) : List UInt8 := if s.size = 0 then b else putsB b [[105, 110], tb s]
def declA (ns : List Nd) (a : Atr) (b : List UInt8) : Option (List UInt8) :=
  let b1 := putsB b [[97, 116, 116, 114, 105, 98, 117, 116, 101], tb a.name, [58]]
  let b2 := if a.opt = true then putB b1 [111, 112, 116, 105, 111, 110, 97, 108] else b1
  (ruledP ns a.dflt [[61]] (putB b2 (kindW a.kind))).bind fun b3 => (ruledP ns a.when_ [[119, 104, 101, 110]] b3).map fun b4 => putB b4 [59]
def ruleP (ns : List Nd) (root : Int) (w : List UInt8) (b : List UInt8) : Option (List UInt8) := if 0 ≤ root then (ruledP ns root [w, [119, 104, 101, 110]] b).map fun b1 => putB b1 [59] else some b
def declG (ns : List Nd) (s : Stg) (b : List UInt8) : Option (List UInt8) :=
  (ruleP ns s.opens [111, 112, 101, 110, 115] (putB (inP s.in_ (putsB b [[115, 116, 97, 103, 101], tb s.name])) [123])).bind fun b1 => (ruleP ns s.closes [99, 108, 111, 115, 101, 115] b1).map fun b2 => putB b2 [125]
def declM (ns : List Nd) (m : Mil) (b : List UInt8) : Option (List UInt8) :=
  (ruledP ns m.when_ [[114, 101, 97, 99, 104, 101, 100], [119, 104, 101, 110]] (inP m.in_ (putsB b [[109, 105, 108, 101, 115, 116, 111, 110, 101], tb m.name]))).map fun b1 => putB b1 [59]
def paramsP : List Prm → Nat → List UInt8 → List UInt8
  | [], _, b => b
  | p :: l, i, b => paramsP l (i + 1) (putsB (if 0 < i then putB b [44] else b) [tb p.name, [58], kindW p.kind])
def effectsP (ns : List Nd) : List Eff → List UInt8 → Option (List UInt8)
  | [], b => some b
  | e :: l, b => (if e.worth < 0 then some (putsB b [[114, 101, 111, 112, 101, 110], tb e.name]) else ruledP ns e.worth [tb e.name, [58, 61]] b).bind fun b1 => effectsP ns l (putB b1 [59])
def declS (ns : List Nd) (s : Stp) (b : List UInt8) : Option (List UInt8) :=
  (ruledP ns s.when_ [[119, 104, 101, 110]] (inP s.in_ (putB (paramsP s.params 0 (putsB b [[115, 116, 101, 112], tb s.name, [40]])) [41]))).bind fun b1 => (effectsP ns s.effects (putB b1 [123])).map fun b2 => putB b2 [125]
def declP (t : Tre) (d : Int × Int) (b : List UInt8) : Option (List UInt8) :=
  (if d.1 = 1 then (t.attrs[d.2.toNat]?).bind fun a => declA t.nodes a b
  else if d.1 = 2 then (t.stages[d.2.toNat]?).bind fun a => declG t.nodes a b
  else if d.1 = 3 then (t.miles[d.2.toNat]?).bind fun a => declM t.nodes a b
  else (t.steps[d.2.toNat]?).bind fun a => declS t.nodes a b).map (· ++ [10])
def declsP (t : Tre) : List (Int × Int) → List UInt8 → Option (List UInt8)
  | [], b => some b
  | d :: l, b => (declP t d b).bind (declsP t l)
/-- are all declarations right, and the nodes all there? -/
def fitT (t : Tre) : Bool := (laidN t).ok && legalT t.name && decide (rightAll t (laidN t).l 0 = some t.nodes.length)
def bytesP (t : Tre) : Option (List UInt8) := (declsP t (laidN t).l (putsB [] [[116, 121, 112, 101], tb t.name, [123]] ++ [10])).map (· ++ [125, 10])
/-- Print; none: the tree is none of a text -/
def printN (t : Tre) : Option (List UInt8) := if fitT t = true then bytesP t else none
end Go.Proofs.YtmmjcbbogokmfaaGreatDoor
