import Derived.Test.YtmmjcbbogokmfaaGreatDoorMt16
set_option maxRecDepth 100000
set_option maxHeartbeats 25600000
namespace Go.Proofs.YtmmjcbbogokmfaaGreatDoor
open Go.RowKit
def iv (i : Int) : Value := .int .i64 i
structure MNd where
  n : Nd
  A : Option Addr
  c : Nat
  vA : Option Addr
  vc : Nat
structure MSt where
  s : Stp
  pA : Option Addr
  pc : Nat
  eA : Option Addr
  ec : Nat
def ndC (x : MNd) : List Value := [iv x.n.op, .string x.n.name, iv x.n.vk, iv x.n.vn, .string x.n.vt, .slice x.vA x.n.vs.length x.vc, .slice x.A x.n.kids.length x.c]
def prC (p : Prm) : List Value := [.string p.name, iv p.at_, iv p.kind]
def efC (p : Eff) : List Value := [.string p.name, iv p.at_, iv p.worth]
def stC (x : MSt) : List Value := [.string x.s.name, iv x.s.at_, iv x.s.order, .slice x.pA x.s.params.length x.pc, .string x.s.in_, iv x.s.inAt, iv x.s.when_, .slice x.eA x.s.effects.length x.ec]
def atC (a : Atr) : List Value := [.string a.name, iv a.at_, iv a.order, iv a.kind, .bool a.opt, iv a.dflt, iv a.when_]
def sgC (a : Stg) : List Value := [.string a.name, iv a.at_, iv a.order, .string a.in_, iv a.inAt, iv a.opens, iv a.closes]
def miC (a : Mil) : List Value := [.string a.name, iv a.at_, iv a.order, .string a.in_, iv a.inAt, iv a.when_]
def oC (x : Int) : List Value := [iv x]
structure Sl where
  aA : Option Addr
  ac : Nat
  gA : Option Addr
  gc : Nat
  mA : Option Addr
  mc : Nat
  pA : Option Addr
  pc : Nat
  nA : Option Addr
  nc : Nat
  oA : Option Addr
  oc : Nat
  z : Nat -> Prop
def jl (t : Tre) (s : Sl) : List Value := [.string t.name, iv t.at_, .slice s.aA t.attrs.length s.ac, .slice s.gA t.stages.length s.gc, .slice s.mA t.miles.length s.mc, .slice s.pA t.steps.length s.pc, .slice s.nA t.nodes.length s.nc, .slice s.oA t.ats.length s.oc]
def OX (g : Nat) (s : Sl) : Nat -> Prop := fun b => b = g \/ s.aA.map (·.block) = some b \/ s.gA.map (·.block) = some b \/ s.mA.map (·.block) = some b \/ s.pA.map (·.block) = some b \/ s.nA.map (·.block) = some b \/ s.oA.map (·.block) = some b
def AX (g : Nat) (s : Sl) : Nat -> Prop := fun b => OX g s b \/ s.z b
structure Fr (g : Nat) (s s' : Sl) (w w' : World) : Prop where
  kp : Kp (OX g s) w w'
  own : ∀ b, b < w.heap.size -> OX g s' b -> OX g s b
  z : s'.z = s.z
theorem Fr.refl (g : Nat) (s : Sl) (w : World) : Fr g s s w w := ⟨Kp.refl _ _, fun _ _ h => h, rfl⟩
theorem Fr.trans {g : Nat} {s s1 s2 : Sl} {w w1 w2 : World} (h : Fr g s s1 w w1) (k : Fr g s1 s2 w1 w2) : Fr g s s2 w w2 :=
  ⟨h.kp.trans k.kp h.own, fun b hb e => h.own b hb (k.own b (Nat.lt_of_lt_of_le hb h.kp.size) e), k.z.trans h.z⟩
theorem Fr.of_g {g : Nat} (s : Sl) {w w' : World} (h : Kp (GX g) w w') : Fr g s s w w' := ⟨h.mono (fun _ _ e => .inl e), fun _ _ h => h, rfl⟩
theorem Fr.of_old {g : Nat} (s : Sl) {w w' : World} (h : Old w w') : Fr g s s w w' := ⟨h.mono (fun _ _ e => e.elim), fun _ _ h => h, rfl⟩
theorem fr_rd {g : Nat} {s s' : Sl} {w w' : World} {z n : Nat} {A : Option Addr} {xs : List Value} (h : Rd w z A n xs) (ha : Av (AX g s) n A) (hz : 0 < z) (f : Fr g s s' w w') : Rd w' z A n xs /\ Av (AX g s') n A :=
  ⟨h.kp f.kp (fun hn ad ea hx => ha hn ad ea (.inl hx)), fun hn ad ea hx => ha hn ad ea (hx.elim (fun e => .inl (f.own _ (h.lt hz hn ea) e)) (fun e => .inr (by rw [<- f.z]; exact e)))⟩
structure OkN (w : World) (X : Nat -> Prop) (x : MNd) : Prop where
  kids : Rd w 1 x.A x.n.kids.length (x.n.kids.map iv)
  kav : Av X x.n.kids.length x.A
  vs : Rd w 1 x.vA x.n.vs.length (x.n.vs.map sv)
  vav : Av X x.n.vs.length x.vA
structure OkP (w : World) (X : Nat -> Prop) (x : MSt) : Prop where
  ps : Rd w 3 x.pA x.s.params.length (x.s.params.flatMap prC)
  pav : Av X x.s.params.length x.pA
  es : Rd w 3 x.eA x.s.effects.length (x.s.effects.flatMap efC)
  eav : Av X x.s.effects.length x.eA
def OkA (_ : World) (_ : Nat -> Prop) (_ : Atr) : Prop := True
def OkG (_ : World) (_ : Nat -> Prop) (_ : Stg) : Prop := True
def OkM (_ : World) (_ : Nat -> Prop) (_ : Mil) : Prop := True
def OkO (_ : World) (_ : Nat -> Prop) (_ : Int) : Prop := True
theorem OkN.fr {g : Nat} {s s' : Sl} {w w' : World} {x : MNd} (h : OkN w (AX g s) x) (f : Fr g s s' w w') : OkN w' (AX g s') x :=
  ⟨(fr_rd h.kids h.kav (by decide) f).1, (fr_rd h.kids h.kav (by decide) f).2, (fr_rd h.vs h.vav (by decide) f).1, (fr_rd h.vs h.vav (by decide) f).2⟩
theorem OkP.fr {g : Nat} {s s' : Sl} {w w' : World} {x : MSt} (h : OkP w (AX g s) x) (f : Fr g s s' w w') : OkP w' (AX g s') x :=
  ⟨(fr_rd h.ps h.pav (by decide) f).1, (fr_rd h.ps h.pav (by decide) f).2, (fr_rd h.es h.eav (by decide) f).1, (fr_rd h.es h.eav (by decide) f).2⟩
structure TRows (w : World) (X : Nat -> Prop) (t : Tre) (s : Sl) (ns : List MNd) (ps : List MSt) : Prop where
  rA : w.ownsRow 8 114 7 (.slice s.aA t.attrs.length s.ac) t.attrs.length (t.attrs.flatMap atC)
  rG : w.ownsRow 8 117 7 (.slice s.gA t.stages.length s.gc) t.stages.length (t.stages.flatMap sgC)
  rM : w.ownsRow 8 64 6 (.slice s.mA t.miles.length s.mc) t.miles.length (t.miles.flatMap miC)
  rP : w.ownsRow 8 111 8 (.slice s.pA t.steps.length s.pc) t.steps.length (ps.flatMap stC)
  rN : w.ownsRow 8 46 7 (.slice s.nA t.nodes.length s.nc) t.nodes.length (ns.flatMap ndC)
  rO : w.ownsRow 8 3 1 (.slice s.oA t.ats.length s.oc) t.ats.length (t.ats.flatMap oC)
  pe : ps.map (·.s) = t.steps
  ne : ns.map (·.n) = t.nodes
  po : ∀ x ∈ ps, OkP w X x
  no : ∀ x ∈ ns, OkN w X x
structure St (w : World) (g : Nat) (src : ByteArray) (r : Rdr) (s : Sl) : Prop where
  sg : Sg w
  g8 : 8 <= g
  small : src.size <= 1000000
  box : Rb w g src r (jl r.tree s)
  rows : ∃ ns ps, TRows w (AX g s) r.tree s ns ps
  from_ : r.from_ <= r.at_
  at_ : r.at_ <= src.size
  t58 : r.t < 58
  zlt : ∀ b, s.z b -> b < w.heap.size
  z8 : ∀ b, s.z b -> ¬ b < 8
  zno : ∀ b, OX g s b -> ¬ s.z b
theorem kz {w : World} {b1 b2 : Nat} {e1 e2 : TypeId} {z1 z2 : Nat} {v1 v2 : Value} {n1 n2 : Nat} {x1 x2 : List Value} (h1 : w.ownsRow b1 e1 z1 v1 n1 x1) (h2 : w.ownsRow b2 e2 z2 v2 n2 x2) (hne : e1 ≠ e2) :
    ∀ k, v1.ownBlock = some k -> v2.ownBlock ≠ some k := by
  intro k hk
  rcases h1.2 with ⟨rfl, _⟩ | ⟨g', cap, cur, rfl, _, hh, _⟩
  · cases hk
  · have : g' = k := by simpa [Value.ownBlock] using hk
    subst this
    exact jM (t := e1) h2 hh (fun e => hne e.symm)
section
variable {w w' w1 w2 : World} {g : Nat} {src : ByteArray} {r r' : Rdr} {s s' : Sl} {ns : List MNd} {ps : List MSt} {t : Tre}
theorem TRows.keep (h : TRows w (AX g s) t s ns ps) {cs : Array Value} (hb : Blk w g 165 cs) (hk : Kp (GX g) w w') : TRows w' (AX g s) t s ns ps := by
  have f : Fr g s s w w' := Fr.of_g s hk
  have K : ∀ {e : TypeId} {z : Nat} {v : Value} {n : Nat} {xs : List Value}, w.ownsRow 8 e z v n xs -> e ≠ 165 -> w'.ownsRow 8 e z v n xs := fun ho hne =>
    jX ho hk (fun k e e' => jM ho hb hne (by rw [e]; exact congrArg some e'))
  exact ⟨K h.rA (by decide), K h.rG (by decide), K h.rM (by decide), K h.rP (by decide), K h.rN (by decide), K h.rO (by decide), h.pe, h.ne, fun x hx => (h.po x hx).fr f, fun x hx => (h.no x hx).fr f⟩
theorem TRows.ox8 (h : TRows w (AX g s) t s ns ps) (hg : 8 <= g) (b : Nat) (hb : OX g s b) : 8 <= b /\ (b = g \/ b < w.heap.size) := by
  have K : ∀ {e : TypeId} {z : Nat} {A : Option Addr} {c n : Nat} {xs : List Value}, w.ownsRow 8 e z (.slice A n c) n xs -> A.map (·.block) = some b -> 8 <= b /\ (b = g \/ b < w.heap.size) := fun ho e =>
    have := ho.lt b (by rw [jC]; exact e)
    ⟨this.1, .inr this.2⟩
  rcases hb with e | e | e | e | e | e | e
  · exact ⟨by omega, .inl e⟩
  · exact K h.rA e
  · exact K h.rG e
  · exact K h.rM e
  · exact K h.rP e
  · exact K h.rN e
  · exact K h.rO e
theorem St.ox8 (h : St w g src r s) (b : Nat) (hb : OX g s b) : 8 <= b /\ b < w.heap.size := by
  obtain ⟨ns, ps, hR⟩ := h.rows
  have h1 := hR.ox8 h.g8 b hb
  have h2 := h.box.lt
  exact ⟨h1.1, h1.2.elim (fun e => by omega) id⟩
theorem St.sgf (h : St w g src r s) (f : Fr g s s' w w') : Sg w' := h.sg.kp f.kp (fun e => by have := (h.ox8 _ e).1; omega) (fun e => by have := (h.ox8 _ e).1; omega)
theorem St.scan (h : St w g src r s) (hb : Rb w' g src r' (jl r.tree s)) (ht : r'.tree = r.tree) (hk : Kp (GX g) w w') (h1 : r'.from_ <= r'.at_) (h2 : r'.at_ <= src.size) (h3 : r'.t < 58) : St w' g src r' s /\ Fr g s s w w' := by
  obtain ⟨ns, ps, hR⟩ := h.rows
  exact ⟨⟨h.sgf (Fr.of_g s hk), h.g8, h.small, by rw [ht]; exact hb, ⟨ns, ps, by rw [ht]; exact hR.keep h.box hk⟩, h1, h2, h3, fun b hz => Nat.lt_of_lt_of_le (h.zlt b hz) hk.size, h.z8, h.zno⟩, Fr.of_g s hk⟩
theorem St.old (h : St w g src r s) (ho : Old w w') : St w' g src r s := (h.scan (h.box.old ho) rfl (ho.mono (fun _ _ e => e.elim)) h.from_ h.at_ h.t58).1
theorem St.drewN (h : St w g src r s) (n : Nat) : St (w.drewN n) g src r s := h.old ((Kp.refl _ _).drewN n)
theorem St.lt (h : St w g src r s) : g < w.heap.size := h.box.lt
theorem St.zgrow (h : St w g src r s) {Y : Nat -> Prop} (hk : Kp Y w w') (hY : ∀ b, Y b -> s.z b) (Z : Nat -> Prop) (hZ : ∀ b, Z b -> (s.z b \/ w.heap.size <= b) /\ b < w'.heap.size) : St w' g src r { s with z := Z } := by
  obtain ⟨ns, ps, hR⟩ := h.rows
  have hno : ∀ b, OX g s b -> ¬ Y b := fun b hx hy => h.zno b hx (hY b hy)
  have hR0 := fun {z n : Nat} {A : Option Addr} {xs : List Value} (hr : Rd w z A n xs) (hz : 0 < z) (ha : Av (AX g s) n A) =>
    (show Rd w' z A n xs /\ Av (AX g { s with z := Z }) n A from ⟨hr.kp hk (fun hn ad ea hy => ha hn ad ea (.inr (hY _ hy))), fun hn ad ea hx => hx.elim (fun e => ha hn ad ea (.inl e)) (fun e => (hZ _ e).1.elim (fun e => ha hn ad ea (.inr e)) (fun e => by have := hr.lt hz hn ea; omega))⟩)
  have K : ∀ {e : TypeId} {z : Nat} {A : Option Addr} {c n : Nat} {xs : List Value}, w.ownsRow 8 e z (.slice A n c) n xs -> (∀ b, A.map (·.block) = some b -> OX g s b) -> w'.ownsRow 8 e z (.slice A n c) n xs := fun ho hin =>
    jX ho hk (fun b e => hno b (hin b (by rw [<- jC]; exact e)))
  refine ⟨h.sg.kp hk (fun e => ?_) (fun e => ?_), h.g8, h.small, h.box.kp hk (hno _ (.inl rfl)), ⟨ns, ps, ?_⟩, h.from_, h.at_, h.t58, fun b hz => (hZ b hz).2, fun b hz => (hZ b hz).1.elim (h.z8 b) (fun e => by have := h.lt; have := h.g8; omega), fun b hx hz => (hZ b hz).1.elim (h.zno b hx) (fun e => by have := (h.ox8 b hx).2; omega)⟩
  · exact h.z8 _ (hY _ e) (by decide)
  · exact h.z8 _ (hY _ e) (by decide)
  · exact ⟨K hR.rA (fun b e => .inr (.inl e)), K hR.rG (fun b e => .inr (.inr (.inl e))), K hR.rM (fun b e => .inr (.inr (.inr (.inl e)))), K hR.rP (fun b e => .inr (.inr (.inr (.inr (.inl e))))), K hR.rN (fun b e => .inr (.inr (.inr (.inr (.inr (.inl e)))))), K hR.rO (fun b e => .inr (.inr (.inr (.inr (.inr (.inr e)))))), hR.pe, hR.ne,
      fun x hx => ⟨(hR0 (hR.po x hx).ps (by decide) (hR.po x hx).pav).1, (hR0 (hR.po x hx).ps (by decide) (hR.po x hx).pav).2, (hR0 (hR.po x hx).es (by decide) (hR.po x hx).eav).1, (hR0 (hR.po x hx).es (by decide) (hR.po x hx).eav).2⟩,
      fun x hx => ⟨(hR0 (hR.no x hx).kids (by decide) (hR.no x hx).kav).1, (hR0 (hR.no x hx).kids (by decide) (hR.no x hx).kav).2, (hR0 (hR.no x hx).vs (by decide) (hR.no x hx).vav).1, (hR0 (hR.no x hx).vs (by decide) (hR.no x hx).vav).2⟩⟩
theorem TRows.growA (hb : Rb w g src r (jl r.tree s)) (h : TRows w (AX g s) r.tree s ns ps) (x : Atr) (_hx : OkA w (AX g s) x) (h1 : Old w w1) {A' : Option Addr} {c' : Nat} (hgr : w1.grownBy w2 (s.aA.map (·.block)))
    (hA : A'.map (·.block) = s.aA.map (·.block) \/ A'.map (·.block) = some w1.heap.size) (ho : w2.ownsRow 8 114 7 (.slice A' (r.tree.attrs.length + 1) c') (r.tree.attrs.length + 1) (r.tree.attrs.flatMap atC ++ atC x)) :
    Rb (w2.setCell ⟨g, 7, none⟩ (.slice A' (r.tree.attrs.length + 1) c')) g src { r with tree := { r.tree with attrs := r.tree.attrs ++ [x] } } (jl { r.tree with attrs := r.tree.attrs ++ [x] } { s with aA := A', ac := c' }) /\
    TRows (w2.setCell ⟨g, 7, none⟩ (.slice A' (r.tree.attrs.length + 1) c')) (AX g { s with aA := A', ac := c' }) { r.tree with attrs := r.tree.attrs ++ [x] } { s with aA := A', ac := c' } ns ps /\
    Fr g s { s with aA := A', ac := c' } w (w2.setCell ⟨g, 7, none⟩ (.slice A' (r.tree.attrs.length + 1) c')) := by
  have hgne : s.aA.map (·.block) ≠ some g := by rw [<- jC]; exact jM h.rA hb (by decide)
  have hb2 : Rb w2 g src r (jl r.tree s) := (hb.old h1).kp (Kp.grown (Kp.refl (fun b => s.aA.map (·.block) = some b) w1) hgr (fun _ e _ => e)) hgne
  have hk2 : Kp (fun b => s.aA.map (·.block) = some b) w w2 := Kp.grown (h1.mono (fun _ _ e => e.elim)) hgr (fun _ e _ => e)
  have hk3 : Kp (GX g) w2 (w2.setCell ⟨g, 7, none⟩ (.slice A' (r.tree.attrs.length + 1) c')) := (Kp.refl (GX g) _).setCell (p := ⟨g, 7, none⟩) (fun _ => rfl) _
  have hf : Fr g s { s with aA := A', ac := c' } w (w2.setCell ⟨g, 7, none⟩ (.slice A' (r.tree.attrs.length + 1) c')) := by
    refine ⟨(hk2.mono (fun b _ e => by first | exact .inl e | exact .inr (.inl e) | exact .inr (.inr (.inl e)) | exact .inr (.inr (.inr (.inl e))) | exact .inr (.inr (.inr (.inr (.inl e)))) | exact .inr (.inr (.inr (.inr (.inr (.inl e))))) | exact .inr (.inr (.inr (.inr (.inr (.inr (e)))))))).trans hk3 (fun b _ e => .inl e), fun b hlt hx => ?_, rfl⟩
    have hnew : A'.map (·.block) = some b -> s.aA.map (·.block) = some b := fun e => by
      rcases hA with hA | hA
      · rw [<- hA]; exact e
      · rw [hA] at e; injection e with e; have := h1.size; omega
    unfold OX at hx ⊢
    simp only at hx
    rcases hx with e | e | e | e | e | e | e
    all_goals first | (first | exact .inl e | exact .inr (.inl e) | exact .inr (.inr (.inl e)) | exact .inr (.inr (.inr (.inl e))) | exact .inr (.inr (.inr (.inr (.inl e)))) | exact .inr (.inr (.inr (.inr (.inr (.inl e))))) | exact .inr (.inr (.inr (.inr (.inr (.inr (e))))))) | (have e2 := hnew e; first | exact .inl e2 | exact .inr (.inl e2) | exact .inr (.inr (.inl e2)) | exact .inr (.inr (.inr (.inl e2))) | exact .inr (.inr (.inr (.inr (.inl e2)))) | exact .inr (.inr (.inr (.inr (.inr (.inl e2))))) | exact .inr (.inr (.inr (.inr (.inr (.inr (e2)))))))
  have K : ∀ {e : TypeId} {z : Nat} {v : Value} {n : Nat} {xs : List Value}, w.ownsRow 8 e z v n xs -> e ≠ 165 -> e ≠ 114 -> (w2.setCell ⟨g, 7, none⟩ (.slice A' (r.tree.attrs.length + 1) c')).ownsRow 8 e z v n xs := fun ho hne hne2 =>
    jX (jX ho hk2 (fun k e e' => kz ho h.rA hne2 k e (by rw [jC]; exact e'))) hk3 (fun k e e' => jM ho hb hne (by rw [e]; exact congrArg some e'))
  have HO : (w2.setCell ⟨g, 7, none⟩ (.slice A' (r.tree.attrs.length + 1) c')).ownsRow 8 114 7 (.slice A' (r.tree.attrs ++ [x]).length c') (r.tree.attrs ++ [x]).length ((r.tree.attrs ++ [x]).flatMap atC) := by
    rw [List.length_append, List.length_singleton, List.flatMap_append, List.flatMap_singleton]
    exact jX ho hk3 (fun k e e' => jM ho hb2 (by decide) (by rw [e]; exact congrArg some e'))
  refine ⟨?_, ?_, hf⟩
  · have := Blk.set_ hb2 7 (.slice A' (r.tree.attrs.length + 1) c')
    unfold Rb
    simpa [rdC, jl] using this
  · constructor
    case rA => first | exact HO | exact K h.rA (by decide) (by decide)
    case rG => first | exact HO | exact K h.rG (by decide) (by decide)
    case rM => first | exact HO | exact K h.rM (by decide) (by decide)
    case rP => first | exact HO | exact K h.rP (by decide) (by decide)
    case rN => first | exact HO | exact K h.rN (by decide) (by decide)
    case rO => first | exact HO | exact K h.rO (by decide) (by decide)
    case pe => first | exact h.pe | (rw [List.map_append, h.pe]; rfl)
    case ne => first | exact h.ne | (rw [List.map_append, h.ne]; rfl)
    case po => first | exact fun y hy => (h.po y hy).fr hf | exact fun y hy => (List.mem_append.1 hy).elim (fun hy => (h.po y hy).fr hf) (fun hy => by rw [List.mem_singleton.1 hy]; exact _hx.fr hf)
    case no => first | exact fun y hy => (h.no y hy).fr hf | exact fun y hy => (List.mem_append.1 hy).elim (fun hy => (h.no y hy).fr hf) (fun hy => by rw [List.mem_singleton.1 hy]; exact _hx.fr hf)
theorem St.growA (hs : St w g src r s) (h : TRows w (AX g s) r.tree s ns ps) (x : Atr) (hx : OkA w (AX g s) x) (h1 : Old w w1) {A' : Option Addr} {c' : Nat} (hgr : w1.grownBy w2 (s.aA.map (·.block)))
    (hA : A'.map (·.block) = s.aA.map (·.block) \/ A'.map (·.block) = some w1.heap.size) (ho : w2.ownsRow 8 114 7 (.slice A' (r.tree.attrs.length + 1) c') (r.tree.attrs.length + 1) (r.tree.attrs.flatMap atC ++ atC x)) :
    St (w2.setCell ⟨g, 7, none⟩ (.slice A' (r.tree.attrs.length + 1) c')) g src { r with tree := { r.tree with attrs := r.tree.attrs ++ [x] } } { s with aA := A', ac := c' } /\
    Fr g s { s with aA := A', ac := c' } w (w2.setCell ⟨g, 7, none⟩ (.slice A' (r.tree.attrs.length + 1) c')) := by
  obtain ⟨h1, h2, h3⟩ := TRows.growA hs.box h x hx h1 hgr hA ho
  exact ⟨⟨hs.sgf h3, hs.g8, hs.small, h1, ⟨_, _, h2⟩, hs.from_, hs.at_, hs.t58, fun b hz => Nat.lt_of_lt_of_le (hs.zlt b hz) h3.kp.size, hs.z8, fun b hx hz => hs.zno b (h3.own b (hs.zlt b hz) hx) hz⟩, h3⟩
theorem TRows.growG (hb : Rb w g src r (jl r.tree s)) (h : TRows w (AX g s) r.tree s ns ps) (x : Stg) (_hx : OkG w (AX g s) x) (h1 : Old w w1) {A' : Option Addr} {c' : Nat} (hgr : w1.grownBy w2 (s.gA.map (·.block)))
    (hA : A'.map (·.block) = s.gA.map (·.block) \/ A'.map (·.block) = some w1.heap.size) (ho : w2.ownsRow 8 117 7 (.slice A' (r.tree.stages.length + 1) c') (r.tree.stages.length + 1) (r.tree.stages.flatMap sgC ++ sgC x)) :
    Rb (w2.setCell ⟨g, 8, none⟩ (.slice A' (r.tree.stages.length + 1) c')) g src { r with tree := { r.tree with stages := r.tree.stages ++ [x] } } (jl { r.tree with stages := r.tree.stages ++ [x] } { s with gA := A', gc := c' }) /\
    TRows (w2.setCell ⟨g, 8, none⟩ (.slice A' (r.tree.stages.length + 1) c')) (AX g { s with gA := A', gc := c' }) { r.tree with stages := r.tree.stages ++ [x] } { s with gA := A', gc := c' } ns ps /\
    Fr g s { s with gA := A', gc := c' } w (w2.setCell ⟨g, 8, none⟩ (.slice A' (r.tree.stages.length + 1) c')) := by
  have hgne : s.gA.map (·.block) ≠ some g := by rw [<- jC]; exact jM h.rG hb (by decide)
  have hb2 : Rb w2 g src r (jl r.tree s) := (hb.old h1).kp (Kp.grown (Kp.refl (fun b => s.gA.map (·.block) = some b) w1) hgr (fun _ e _ => e)) hgne
  have hk2 : Kp (fun b => s.gA.map (·.block) = some b) w w2 := Kp.grown (h1.mono (fun _ _ e => e.elim)) hgr (fun _ e _ => e)
  have hk3 : Kp (GX g) w2 (w2.setCell ⟨g, 8, none⟩ (.slice A' (r.tree.stages.length + 1) c')) := (Kp.refl (GX g) _).setCell (p := ⟨g, 8, none⟩) (fun _ => rfl) _
  have hf : Fr g s { s with gA := A', gc := c' } w (w2.setCell ⟨g, 8, none⟩ (.slice A' (r.tree.stages.length + 1) c')) := by
    refine ⟨(hk2.mono (fun b _ e => by first | exact .inl e | exact .inr (.inl e) | exact .inr (.inr (.inl e)) | exact .inr (.inr (.inr (.inl e))) | exact .inr (.inr (.inr (.inr (.inl e)))) | exact .inr (.inr (.inr (.inr (.inr (.inl e))))) | exact .inr (.inr (.inr (.inr (.inr (.inr (e)))))))).trans hk3 (fun b _ e => .inl e), fun b hlt hx => ?_, rfl⟩
    have hnew : A'.map (·.block) = some b -> s.gA.map (·.block) = some b := fun e => by
      rcases hA with hA | hA
      · rw [<- hA]; exact e
      · rw [hA] at e; injection e with e; have := h1.size; omega
    unfold OX at hx ⊢
    simp only at hx
    rcases hx with e | e | e | e | e | e | e
    all_goals first | (first | exact .inl e | exact .inr (.inl e) | exact .inr (.inr (.inl e)) | exact .inr (.inr (.inr (.inl e))) | exact .inr (.inr (.inr (.inr (.inl e)))) | exact .inr (.inr (.inr (.inr (.inr (.inl e))))) | exact .inr (.inr (.inr (.inr (.inr (.inr (e))))))) | (have e2 := hnew e; first | exact .inl e2 | exact .inr (.inl e2) | exact .inr (.inr (.inl e2)) | exact .inr (.inr (.inr (.inl e2))) | exact .inr (.inr (.inr (.inr (.inl e2)))) | exact .inr (.inr (.inr (.inr (.inr (.inl e2))))) | exact .inr (.inr (.inr (.inr (.inr (.inr (e2)))))))
  have K : ∀ {e : TypeId} {z : Nat} {v : Value} {n : Nat} {xs : List Value}, w.ownsRow 8 e z v n xs -> e ≠ 165 -> e ≠ 117 -> (w2.setCell ⟨g, 8, none⟩ (.slice A' (r.tree.stages.length + 1) c')).ownsRow 8 e z v n xs := fun ho hne hne2 =>
    jX (jX ho hk2 (fun k e e' => kz ho h.rG hne2 k e (by rw [jC]; exact e'))) hk3 (fun k e e' => jM ho hb hne (by rw [e]; exact congrArg some e'))
  have HO : (w2.setCell ⟨g, 8, none⟩ (.slice A' (r.tree.stages.length + 1) c')).ownsRow 8 117 7 (.slice A' (r.tree.stages ++ [x]).length c') (r.tree.stages ++ [x]).length ((r.tree.stages ++ [x]).flatMap sgC) := by
    rw [List.length_append, List.length_singleton, List.flatMap_append, List.flatMap_singleton]
    exact jX ho hk3 (fun k e e' => jM ho hb2 (by decide) (by rw [e]; exact congrArg some e'))
  refine ⟨?_, ?_, hf⟩
  · have := Blk.set_ hb2 8 (.slice A' (r.tree.stages.length + 1) c')
    unfold Rb
    simpa [rdC, jl] using this
  · constructor
    case rA => first | exact HO | exact K h.rA (by decide) (by decide)
    case rG => first | exact HO | exact K h.rG (by decide) (by decide)
    case rM => first | exact HO | exact K h.rM (by decide) (by decide)
    case rP => first | exact HO | exact K h.rP (by decide) (by decide)
    case rN => first | exact HO | exact K h.rN (by decide) (by decide)
    case rO => first | exact HO | exact K h.rO (by decide) (by decide)
    case pe => first | exact h.pe | (rw [List.map_append, h.pe]; rfl)
    case ne => first | exact h.ne | (rw [List.map_append, h.ne]; rfl)
    case po => first | exact fun y hy => (h.po y hy).fr hf | exact fun y hy => (List.mem_append.1 hy).elim (fun hy => (h.po y hy).fr hf) (fun hy => by rw [List.mem_singleton.1 hy]; exact _hx.fr hf)
    case no => first | exact fun y hy => (h.no y hy).fr hf | exact fun y hy => (List.mem_append.1 hy).elim (fun hy => (h.no y hy).fr hf) (fun hy => by rw [List.mem_singleton.1 hy]; exact _hx.fr hf)
theorem St.growG (hs : St w g src r s) (h : TRows w (AX g s) r.tree s ns ps) (x : Stg) (hx : OkG w (AX g s) x) (h1 : Old w w1) {A' : Option Addr} {c' : Nat} (hgr : w1.grownBy w2 (s.gA.map (·.block)))
    (hA : A'.map (·.block) = s.gA.map (·.block) \/ A'.map (·.block) = some w1.heap.size) (ho : w2.ownsRow 8 117 7 (.slice A' (r.tree.stages.length + 1) c') (r.tree.stages.length + 1) (r.tree.stages.flatMap sgC ++ sgC x)) :
    St (w2.setCell ⟨g, 8, none⟩ (.slice A' (r.tree.stages.length + 1) c')) g src { r with tree := { r.tree with stages := r.tree.stages ++ [x] } } { s with gA := A', gc := c' } /\
    Fr g s { s with gA := A', gc := c' } w (w2.setCell ⟨g, 8, none⟩ (.slice A' (r.tree.stages.length + 1) c')) := by
  obtain ⟨h1, h2, h3⟩ := TRows.growG hs.box h x hx h1 hgr hA ho
  exact ⟨⟨hs.sgf h3, hs.g8, hs.small, h1, ⟨_, _, h2⟩, hs.from_, hs.at_, hs.t58, fun b hz => Nat.lt_of_lt_of_le (hs.zlt b hz) h3.kp.size, hs.z8, fun b hx hz => hs.zno b (h3.own b (hs.zlt b hz) hx) hz⟩, h3⟩
theorem TRows.growM (hb : Rb w g src r (jl r.tree s)) (h : TRows w (AX g s) r.tree s ns ps) (x : Mil) (_hx : OkM w (AX g s) x) (h1 : Old w w1) {A' : Option Addr} {c' : Nat} (hgr : w1.grownBy w2 (s.mA.map (·.block)))
    (hA : A'.map (·.block) = s.mA.map (·.block) \/ A'.map (·.block) = some w1.heap.size) (ho : w2.ownsRow 8 64 6 (.slice A' (r.tree.miles.length + 1) c') (r.tree.miles.length + 1) (r.tree.miles.flatMap miC ++ miC x)) :
    Rb (w2.setCell ⟨g, 9, none⟩ (.slice A' (r.tree.miles.length + 1) c')) g src { r with tree := { r.tree with miles := r.tree.miles ++ [x] } } (jl { r.tree with miles := r.tree.miles ++ [x] } { s with mA := A', mc := c' }) /\
    TRows (w2.setCell ⟨g, 9, none⟩ (.slice A' (r.tree.miles.length + 1) c')) (AX g { s with mA := A', mc := c' }) { r.tree with miles := r.tree.miles ++ [x] } { s with mA := A', mc := c' } ns ps /\
    Fr g s { s with mA := A', mc := c' } w (w2.setCell ⟨g, 9, none⟩ (.slice A' (r.tree.miles.length + 1) c')) := by
  have hgne : s.mA.map (·.block) ≠ some g := by rw [<- jC]; exact jM h.rM hb (by decide)
  have hb2 : Rb w2 g src r (jl r.tree s) := (hb.old h1).kp (Kp.grown (Kp.refl (fun b => s.mA.map (·.block) = some b) w1) hgr (fun _ e _ => e)) hgne
  have hk2 : Kp (fun b => s.mA.map (·.block) = some b) w w2 := Kp.grown (h1.mono (fun _ _ e => e.elim)) hgr (fun _ e _ => e)
  have hk3 : Kp (GX g) w2 (w2.setCell ⟨g, 9, none⟩ (.slice A' (r.tree.miles.length + 1) c')) := (Kp.refl (GX g) _).setCell (p := ⟨g, 9, none⟩) (fun _ => rfl) _
  have hf : Fr g s { s with mA := A', mc := c' } w (w2.setCell ⟨g, 9, none⟩ (.slice A' (r.tree.miles.length + 1) c')) := by
    refine ⟨(hk2.mono (fun b _ e => by first | exact .inl e | exact .inr (.inl e) | exact .inr (.inr (.inl e)) | exact .inr (.inr (.inr (.inl e))) | exact .inr (.inr (.inr (.inr (.inl e)))) | exact .inr (.inr (.inr (.inr (.inr (.inl e))))) | exact .inr (.inr (.inr (.inr (.inr (.inr (e)))))))).trans hk3 (fun b _ e => .inl e), fun b hlt hx => ?_, rfl⟩
    have hnew : A'.map (·.block) = some b -> s.mA.map (·.block) = some b := fun e => by
      rcases hA with hA | hA
      · rw [<- hA]; exact e
      · rw [hA] at e; injection e with e; have := h1.size; omega
    unfold OX at hx ⊢
    simp only at hx
    rcases hx with e | e | e | e | e | e | e
    all_goals first | (first | exact .inl e | exact .inr (.inl e) | exact .inr (.inr (.inl e)) | exact .inr (.inr (.inr (.inl e))) | exact .inr (.inr (.inr (.inr (.inl e)))) | exact .inr (.inr (.inr (.inr (.inr (.inl e))))) | exact .inr (.inr (.inr (.inr (.inr (.inr (e))))))) | (have e2 := hnew e; first | exact .inl e2 | exact .inr (.inl e2) | exact .inr (.inr (.inl e2)) | exact .inr (.inr (.inr (.inl e2))) | exact .inr (.inr (.inr (.inr (.inl e2)))) | exact .inr (.inr (.inr (.inr (.inr (.inl e2))))) | exact .inr (.inr (.inr (.inr (.inr (.inr (e2)))))))
  have K : ∀ {e : TypeId} {z : Nat} {v : Value} {n : Nat} {xs : List Value}, w.ownsRow 8 e z v n xs -> e ≠ 165 -> e ≠ 64 -> (w2.setCell ⟨g, 9, none⟩ (.slice A' (r.tree.miles.length + 1) c')).ownsRow 8 e z v n xs := fun ho hne hne2 =>
    jX (jX ho hk2 (fun k e e' => kz ho h.rM hne2 k e (by rw [jC]; exact e'))) hk3 (fun k e e' => jM ho hb hne (by rw [e]; exact congrArg some e'))
  have HO : (w2.setCell ⟨g, 9, none⟩ (.slice A' (r.tree.miles.length + 1) c')).ownsRow 8 64 6 (.slice A' (r.tree.miles ++ [x]).length c') (r.tree.miles ++ [x]).length ((r.tree.miles ++ [x]).flatMap miC) := by
    rw [List.length_append, List.length_singleton, List.flatMap_append, List.flatMap_singleton]
    exact jX ho hk3 (fun k e e' => jM ho hb2 (by decide) (by rw [e]; exact congrArg some e'))
  refine ⟨?_, ?_, hf⟩
  · have := Blk.set_ hb2 9 (.slice A' (r.tree.miles.length + 1) c')
    unfold Rb
    simpa [rdC, jl] using this
  · constructor
    case rA => first | exact HO | exact K h.rA (by decide) (by decide)
    case rG => first | exact HO | exact K h.rG (by decide) (by decide)
    case rM => first | exact HO | exact K h.rM (by decide) (by decide)
    case rP => first | exact HO | exact K h.rP (by decide) (by decide)
    case rN => first | exact HO | exact K h.rN (by decide) (by decide)
    case rO => first | exact HO | exact K h.rO (by decide) (by decide)
    case pe => first | exact h.pe | (rw [List.map_append, h.pe]; rfl)
    case ne => first | exact h.ne | (rw [List.map_append, h.ne]; rfl)
    case po => first | exact fun y hy => (h.po y hy).fr hf | exact fun y hy => (List.mem_append.1 hy).elim (fun hy => (h.po y hy).fr hf) (fun hy => by rw [List.mem_singleton.1 hy]; exact _hx.fr hf)
    case no => first | exact fun y hy => (h.no y hy).fr hf | exact fun y hy => (List.mem_append.1 hy).elim (fun hy => (h.no y hy).fr hf) (fun hy => by rw [List.mem_singleton.1 hy]; exact _hx.fr hf)
theorem St.growM (hs : St w g src r s) (h : TRows w (AX g s) r.tree s ns ps) (x : Mil) (hx : OkM w (AX g s) x) (h1 : Old w w1) {A' : Option Addr} {c' : Nat} (hgr : w1.grownBy w2 (s.mA.map (·.block)))
    (hA : A'.map (·.block) = s.mA.map (·.block) \/ A'.map (·.block) = some w1.heap.size) (ho : w2.ownsRow 8 64 6 (.slice A' (r.tree.miles.length + 1) c') (r.tree.miles.length + 1) (r.tree.miles.flatMap miC ++ miC x)) :
    St (w2.setCell ⟨g, 9, none⟩ (.slice A' (r.tree.miles.length + 1) c')) g src { r with tree := { r.tree with miles := r.tree.miles ++ [x] } } { s with mA := A', mc := c' } /\
    Fr g s { s with mA := A', mc := c' } w (w2.setCell ⟨g, 9, none⟩ (.slice A' (r.tree.miles.length + 1) c')) := by
  obtain ⟨h1, h2, h3⟩ := TRows.growM hs.box h x hx h1 hgr hA ho
  exact ⟨⟨hs.sgf h3, hs.g8, hs.small, h1, ⟨_, _, h2⟩, hs.from_, hs.at_, hs.t58, fun b hz => Nat.lt_of_lt_of_le (hs.zlt b hz) h3.kp.size, hs.z8, fun b hx hz => hs.zno b (h3.own b (hs.zlt b hz) hx) hz⟩, h3⟩
theorem TRows.growP (hb : Rb w g src r (jl r.tree s)) (h : TRows w (AX g s) r.tree s ns ps) (x : MSt) (_hx : OkP w (AX g s) x) (h1 : Old w w1) {A' : Option Addr} {c' : Nat} (hgr : w1.grownBy w2 (s.pA.map (·.block)))
    (hA : A'.map (·.block) = s.pA.map (·.block) \/ A'.map (·.block) = some w1.heap.size) (ho : w2.ownsRow 8 111 8 (.slice A' (r.tree.steps.length + 1) c') (r.tree.steps.length + 1) (ps.flatMap stC ++ stC x)) :
    Rb (w2.setCell ⟨g, 10, none⟩ (.slice A' (r.tree.steps.length + 1) c')) g src { r with tree := { r.tree with steps := r.tree.steps ++ [x.s] } } (jl { r.tree with steps := r.tree.steps ++ [x.s] } { s with pA := A', pc := c' }) /\
    TRows (w2.setCell ⟨g, 10, none⟩ (.slice A' (r.tree.steps.length + 1) c')) (AX g { s with pA := A', pc := c' }) { r.tree with steps := r.tree.steps ++ [x.s] } { s with pA := A', pc := c' } ns (ps++[x]) /\
    Fr g s { s with pA := A', pc := c' } w (w2.setCell ⟨g, 10, none⟩ (.slice A' (r.tree.steps.length + 1) c')) := by
  have hgne : s.pA.map (·.block) ≠ some g := by rw [<- jC]; exact jM h.rP hb (by decide)
  have hb2 : Rb w2 g src r (jl r.tree s) := (hb.old h1).kp (Kp.grown (Kp.refl (fun b => s.pA.map (·.block) = some b) w1) hgr (fun _ e _ => e)) hgne
  have hk2 : Kp (fun b => s.pA.map (·.block) = some b) w w2 := Kp.grown (h1.mono (fun _ _ e => e.elim)) hgr (fun _ e _ => e)
  have hk3 : Kp (GX g) w2 (w2.setCell ⟨g, 10, none⟩ (.slice A' (r.tree.steps.length + 1) c')) := (Kp.refl (GX g) _).setCell (p := ⟨g, 10, none⟩) (fun _ => rfl) _
  have hf : Fr g s { s with pA := A', pc := c' } w (w2.setCell ⟨g, 10, none⟩ (.slice A' (r.tree.steps.length + 1) c')) := by
    refine ⟨(hk2.mono (fun b _ e => by first | exact .inl e | exact .inr (.inl e) | exact .inr (.inr (.inl e)) | exact .inr (.inr (.inr (.inl e))) | exact .inr (.inr (.inr (.inr (.inl e)))) | exact .inr (.inr (.inr (.inr (.inr (.inl e))))) | exact .inr (.inr (.inr (.inr (.inr (.inr (e)))))))).trans hk3 (fun b _ e => .inl e), fun b hlt hx => ?_, rfl⟩
    have hnew : A'.map (·.block) = some b -> s.pA.map (·.block) = some b := fun e => by
      rcases hA with hA | hA
      · rw [<- hA]; exact e
      · rw [hA] at e; injection e with e; have := h1.size; omega
    unfold OX at hx ⊢
    simp only at hx
    rcases hx with e | e | e | e | e | e | e
    all_goals first | (first | exact .inl e | exact .inr (.inl e) | exact .inr (.inr (.inl e)) | exact .inr (.inr (.inr (.inl e))) | exact .inr (.inr (.inr (.inr (.inl e)))) | exact .inr (.inr (.inr (.inr (.inr (.inl e))))) | exact .inr (.inr (.inr (.inr (.inr (.inr (e))))))) | (have e2 := hnew e; first | exact .inl e2 | exact .inr (.inl e2) | exact .inr (.inr (.inl e2)) | exact .inr (.inr (.inr (.inl e2))) | exact .inr (.inr (.inr (.inr (.inl e2)))) | exact .inr (.inr (.inr (.inr (.inr (.inl e2))))) | exact .inr (.inr (.inr (.inr (.inr (.inr (e2)))))))
  have K : ∀ {e : TypeId} {z : Nat} {v : Value} {n : Nat} {xs : List Value}, w.ownsRow 8 e z v n xs -> e ≠ 165 -> e ≠ 111 -> (w2.setCell ⟨g, 10, none⟩ (.slice A' (r.tree.steps.length + 1) c')).ownsRow 8 e z v n xs := fun ho hne hne2 =>
    jX (jX ho hk2 (fun k e e' => kz ho h.rP hne2 k e (by rw [jC]; exact e'))) hk3 (fun k e e' => jM ho hb hne (by rw [e]; exact congrArg some e'))
  have HO : (w2.setCell ⟨g, 10, none⟩ (.slice A' (r.tree.steps.length + 1) c')).ownsRow 8 111 8 (.slice A' (r.tree.steps ++ [x.s]).length c') (r.tree.steps ++ [x.s]).length ((ps ++ [x]).flatMap stC) := by
    rw [List.length_append, List.length_singleton, List.flatMap_append, List.flatMap_singleton]
    exact jX ho hk3 (fun k e e' => jM ho hb2 (by decide) (by rw [e]; exact congrArg some e'))
  refine ⟨?_, ?_, hf⟩
  · have := Blk.set_ hb2 10 (.slice A' (r.tree.steps.length + 1) c')
    unfold Rb
    simpa [rdC, jl] using this
  · constructor
    case rA => first | exact HO | exact K h.rA (by decide) (by decide)
    case rG => first | exact HO | exact K h.rG (by decide) (by decide)
    case rM => first | exact HO | exact K h.rM (by decide) (by decide)
    case rP => first | exact HO | exact K h.rP (by decide) (by decide)
    case rN => first | exact HO | exact K h.rN (by decide) (by decide)
    case rO => first | exact HO | exact K h.rO (by decide) (by decide)
    case pe => first | exact h.pe | (rw [List.map_append, h.pe]; rfl)
    case ne => first | exact h.ne | (rw [List.map_append, h.ne]; rfl)
    case po => first | exact fun y hy => (h.po y hy).fr hf | exact fun y hy => (List.mem_append.1 hy).elim (fun hy => (h.po y hy).fr hf) (fun hy => by rw [List.mem_singleton.1 hy]; exact _hx.fr hf)
    case no => first | exact fun y hy => (h.no y hy).fr hf | exact fun y hy => (List.mem_append.1 hy).elim (fun hy => (h.no y hy).fr hf) (fun hy => by rw [List.mem_singleton.1 hy]; exact _hx.fr hf)
theorem St.growP (hs : St w g src r s) (h : TRows w (AX g s) r.tree s ns ps) (x : MSt) (hx : OkP w (AX g s) x) (h1 : Old w w1) {A' : Option Addr} {c' : Nat} (hgr : w1.grownBy w2 (s.pA.map (·.block)))
    (hA : A'.map (·.block) = s.pA.map (·.block) \/ A'.map (·.block) = some w1.heap.size) (ho : w2.ownsRow 8 111 8 (.slice A' (r.tree.steps.length + 1) c') (r.tree.steps.length + 1) (ps.flatMap stC ++ stC x)) :
    St (w2.setCell ⟨g, 10, none⟩ (.slice A' (r.tree.steps.length + 1) c')) g src { r with tree := { r.tree with steps := r.tree.steps ++ [x.s] } } { s with pA := A', pc := c' } /\
    Fr g s { s with pA := A', pc := c' } w (w2.setCell ⟨g, 10, none⟩ (.slice A' (r.tree.steps.length + 1) c')) := by
  obtain ⟨h1, h2, h3⟩ := TRows.growP hs.box h x hx h1 hgr hA ho
  exact ⟨⟨hs.sgf h3, hs.g8, hs.small, h1, ⟨_, _, h2⟩, hs.from_, hs.at_, hs.t58, fun b hz => Nat.lt_of_lt_of_le (hs.zlt b hz) h3.kp.size, hs.z8, fun b hx hz => hs.zno b (h3.own b (hs.zlt b hz) hx) hz⟩, h3⟩
theorem TRows.growN (hb : Rb w g src r (jl r.tree s)) (h : TRows w (AX g s) r.tree s ns ps) (x : MNd) (_hx : OkN w (AX g s) x) (h1 : Old w w1) {A' : Option Addr} {c' : Nat} (hgr : w1.grownBy w2 (s.nA.map (·.block)))
    (hA : A'.map (·.block) = s.nA.map (·.block) \/ A'.map (·.block) = some w1.heap.size) (ho : w2.ownsRow 8 46 7 (.slice A' (r.tree.nodes.length + 1) c') (r.tree.nodes.length + 1) (ns.flatMap ndC ++ ndC x)) :
    Rb (w2.setCell ⟨g, 11, none⟩ (.slice A' (r.tree.nodes.length + 1) c')) g src { r with tree := { r.tree with nodes := r.tree.nodes ++ [x.n] } } (jl { r.tree with nodes := r.tree.nodes ++ [x.n] } { s with nA := A', nc := c' }) /\
    TRows (w2.setCell ⟨g, 11, none⟩ (.slice A' (r.tree.nodes.length + 1) c')) (AX g { s with nA := A', nc := c' }) { r.tree with nodes := r.tree.nodes ++ [x.n] } { s with nA := A', nc := c' } (ns++[x]) ps /\
    Fr g s { s with nA := A', nc := c' } w (w2.setCell ⟨g, 11, none⟩ (.slice A' (r.tree.nodes.length + 1) c')) := by
  have hgne : s.nA.map (·.block) ≠ some g := by rw [<- jC]; exact jM h.rN hb (by decide)
  have hb2 : Rb w2 g src r (jl r.tree s) := (hb.old h1).kp (Kp.grown (Kp.refl (fun b => s.nA.map (·.block) = some b) w1) hgr (fun _ e _ => e)) hgne
  have hk2 : Kp (fun b => s.nA.map (·.block) = some b) w w2 := Kp.grown (h1.mono (fun _ _ e => e.elim)) hgr (fun _ e _ => e)
  have hk3 : Kp (GX g) w2 (w2.setCell ⟨g, 11, none⟩ (.slice A' (r.tree.nodes.length + 1) c')) := (Kp.refl (GX g) _).setCell (p := ⟨g, 11, none⟩) (fun _ => rfl) _
  have hf : Fr g s { s with nA := A', nc := c' } w (w2.setCell ⟨g, 11, none⟩ (.slice A' (r.tree.nodes.length + 1) c')) := by
    refine ⟨(hk2.mono (fun b _ e => by first | exact .inl e | exact .inr (.inl e) | exact .inr (.inr (.inl e)) | exact .inr (.inr (.inr (.inl e))) | exact .inr (.inr (.inr (.inr (.inl e)))) | exact .inr (.inr (.inr (.inr (.inr (.inl e))))) | exact .inr (.inr (.inr (.inr (.inr (.inr (e)))))))).trans hk3 (fun b _ e => .inl e), fun b hlt hx => ?_, rfl⟩
    have hnew : A'.map (·.block) = some b -> s.nA.map (·.block) = some b := fun e => by
      rcases hA with hA | hA
      · rw [<- hA]; exact e
      · rw [hA] at e; injection e with e; have := h1.size; omega
    unfold OX at hx ⊢
    simp only at hx
    rcases hx with e | e | e | e | e | e | e
    all_goals first | (first | exact .inl e | exact .inr (.inl e) | exact .inr (.inr (.inl e)) | exact .inr (.inr (.inr (.inl e))) | exact .inr (.inr (.inr (.inr (.inl e)))) | exact .inr (.inr (.inr (.inr (.inr (.inl e))))) | exact .inr (.inr (.inr (.inr (.inr (.inr (e))))))) | (have e2 := hnew e; first | exact .inl e2 | exact .inr (.inl e2) | exact .inr (.inr (.inl e2)) | exact .inr (.inr (.inr (.inl e2))) | exact .inr (.inr (.inr (.inr (.inl e2)))) | exact .inr (.inr (.inr (.inr (.inr (.inl e2))))) | exact .inr (.inr (.inr (.inr (.inr (.inr (e2)))))))
  have K : ∀ {e : TypeId} {z : Nat} {v : Value} {n : Nat} {xs : List Value}, w.ownsRow 8 e z v n xs -> e ≠ 165 -> e ≠ 46 -> (w2.setCell ⟨g, 11, none⟩ (.slice A' (r.tree.nodes.length + 1) c')).ownsRow 8 e z v n xs := fun ho hne hne2 =>
    jX (jX ho hk2 (fun k e e' => kz ho h.rN hne2 k e (by rw [jC]; exact e'))) hk3 (fun k e e' => jM ho hb hne (by rw [e]; exact congrArg some e'))
  have HO : (w2.setCell ⟨g, 11, none⟩ (.slice A' (r.tree.nodes.length + 1) c')).ownsRow 8 46 7 (.slice A' (r.tree.nodes ++ [x.n]).length c') (r.tree.nodes ++ [x.n]).length ((ns ++ [x]).flatMap ndC) := by
    rw [List.length_append, List.length_singleton, List.flatMap_append, List.flatMap_singleton]
    exact jX ho hk3 (fun k e e' => jM ho hb2 (by decide) (by rw [e]; exact congrArg some e'))
  refine ⟨?_, ?_, hf⟩
  · have := Blk.set_ hb2 11 (.slice A' (r.tree.nodes.length + 1) c')
    unfold Rb
    simpa [rdC, jl] using this
  · constructor
    case rA => first | exact HO | exact K h.rA (by decide) (by decide)
    case rG => first | exact HO | exact K h.rG (by decide) (by decide)
    case rM => first | exact HO | exact K h.rM (by decide) (by decide)
    case rP => first | exact HO | exact K h.rP (by decide) (by decide)
    case rN => first | exact HO | exact K h.rN (by decide) (by decide)
    case rO => first | exact HO | exact K h.rO (by decide) (by decide)
    case pe => first | exact h.pe | (rw [List.map_append, h.pe]; rfl)
    case ne => first | exact h.ne | (rw [List.map_append, h.ne]; rfl)
    case po => first | exact fun y hy => (h.po y hy).fr hf | exact fun y hy => (List.mem_append.1 hy).elim (fun hy => (h.po y hy).fr hf) (fun hy => by rw [List.mem_singleton.1 hy]; exact _hx.fr hf)
    case no => first | exact fun y hy => (h.no y hy).fr hf | exact fun y hy => (List.mem_append.1 hy).elim (fun hy => (h.no y hy).fr hf) (fun hy => by rw [List.mem_singleton.1 hy]; exact _hx.fr hf)
theorem St.growN (hs : St w g src r s) (h : TRows w (AX g s) r.tree s ns ps) (x : MNd) (hx : OkN w (AX g s) x) (h1 : Old w w1) {A' : Option Addr} {c' : Nat} (hgr : w1.grownBy w2 (s.nA.map (·.block)))
    (hA : A'.map (·.block) = s.nA.map (·.block) \/ A'.map (·.block) = some w1.heap.size) (ho : w2.ownsRow 8 46 7 (.slice A' (r.tree.nodes.length + 1) c') (r.tree.nodes.length + 1) (ns.flatMap ndC ++ ndC x)) :
    St (w2.setCell ⟨g, 11, none⟩ (.slice A' (r.tree.nodes.length + 1) c')) g src { r with tree := { r.tree with nodes := r.tree.nodes ++ [x.n] } } { s with nA := A', nc := c' } /\
    Fr g s { s with nA := A', nc := c' } w (w2.setCell ⟨g, 11, none⟩ (.slice A' (r.tree.nodes.length + 1) c')) := by
  obtain ⟨h1, h2, h3⟩ := TRows.growN hs.box h x hx h1 hgr hA ho
  exact ⟨⟨hs.sgf h3, hs.g8, hs.small, h1, ⟨_, _, h2⟩, hs.from_, hs.at_, hs.t58, fun b hz => Nat.lt_of_lt_of_le (hs.zlt b hz) h3.kp.size, hs.z8, fun b hx hz => hs.zno b (h3.own b (hs.zlt b hz) hx) hz⟩, h3⟩
theorem TRows.growO (hb : Rb w g src r (jl r.tree s)) (h : TRows w (AX g s) r.tree s ns ps) (x : Int) (_hx : OkO w (AX g s) x) (h1 : Old w w1) {A' : Option Addr} {c' : Nat} (hgr : w1.grownBy w2 (s.oA.map (·.block)))
    (hA : A'.map (·.block) = s.oA.map (·.block) \/ A'.map (·.block) = some w1.heap.size) (ho : w2.ownsRow 8 3 1 (.slice A' (r.tree.ats.length + 1) c') (r.tree.ats.length + 1) (r.tree.ats.flatMap oC ++ oC x)) :
    Rb (w2.setCell ⟨g, 12, none⟩ (.slice A' (r.tree.ats.length + 1) c')) g src { r with tree := { r.tree with ats := r.tree.ats ++ [x] } } (jl { r.tree with ats := r.tree.ats ++ [x] } { s with oA := A', oc := c' }) /\
    TRows (w2.setCell ⟨g, 12, none⟩ (.slice A' (r.tree.ats.length + 1) c')) (AX g { s with oA := A', oc := c' }) { r.tree with ats := r.tree.ats ++ [x] } { s with oA := A', oc := c' } ns ps /\
    Fr g s { s with oA := A', oc := c' } w (w2.setCell ⟨g, 12, none⟩ (.slice A' (r.tree.ats.length + 1) c')) := by
  have hgne : s.oA.map (·.block) ≠ some g := by rw [<- jC]; exact jM h.rO hb (by decide)
  have hb2 : Rb w2 g src r (jl r.tree s) := (hb.old h1).kp (Kp.grown (Kp.refl (fun b => s.oA.map (·.block) = some b) w1) hgr (fun _ e _ => e)) hgne
  have hk2 : Kp (fun b => s.oA.map (·.block) = some b) w w2 := Kp.grown (h1.mono (fun _ _ e => e.elim)) hgr (fun _ e _ => e)
  have hk3 : Kp (GX g) w2 (w2.setCell ⟨g, 12, none⟩ (.slice A' (r.tree.ats.length + 1) c')) := (Kp.refl (GX g) _).setCell (p := ⟨g, 12, none⟩) (fun _ => rfl) _
  have hf : Fr g s { s with oA := A', oc := c' } w (w2.setCell ⟨g, 12, none⟩ (.slice A' (r.tree.ats.length + 1) c')) := by
    refine ⟨(hk2.mono (fun b _ e => by first | exact .inl e | exact .inr (.inl e) | exact .inr (.inr (.inl e)) | exact .inr (.inr (.inr (.inl e))) | exact .inr (.inr (.inr (.inr (.inl e)))) | exact .inr (.inr (.inr (.inr (.inr (.inl e))))) | exact .inr (.inr (.inr (.inr (.inr (.inr (e)))))))).trans hk3 (fun b _ e => .inl e), fun b hlt hx => ?_, rfl⟩
    have hnew : A'.map (·.block) = some b -> s.oA.map (·.block) = some b := fun e => by
      rcases hA with hA | hA
      · rw [<- hA]; exact e
      · rw [hA] at e; injection e with e; have := h1.size; omega
    unfold OX at hx ⊢
    simp only at hx
    rcases hx with e | e | e | e | e | e | e
    all_goals first | (first | exact .inl e | exact .inr (.inl e) | exact .inr (.inr (.inl e)) | exact .inr (.inr (.inr (.inl e))) | exact .inr (.inr (.inr (.inr (.inl e)))) | exact .inr (.inr (.inr (.inr (.inr (.inl e))))) | exact .inr (.inr (.inr (.inr (.inr (.inr (e))))))) | (have e2 := hnew e; first | exact .inl e2 | exact .inr (.inl e2) | exact .inr (.inr (.inl e2)) | exact .inr (.inr (.inr (.inl e2))) | exact .inr (.inr (.inr (.inr (.inl e2)))) | exact .inr (.inr (.inr (.inr (.inr (.inl e2))))) | exact .inr (.inr (.inr (.inr (.inr (.inr (e2)))))))
  have K : ∀ {e : TypeId} {z : Nat} {v : Value} {n : Nat} {xs : List Value}, w.ownsRow 8 e z v n xs -> e ≠ 165 -> e ≠ 3 -> (w2.setCell ⟨g, 12, none⟩ (.slice A' (r.tree.ats.length + 1) c')).ownsRow 8 e z v n xs := fun ho hne hne2 =>
    jX (jX ho hk2 (fun k e e' => kz ho h.rO hne2 k e (by rw [jC]; exact e'))) hk3 (fun k e e' => jM ho hb hne (by rw [e]; exact congrArg some e'))
  have HO : (w2.setCell ⟨g, 12, none⟩ (.slice A' (r.tree.ats.length + 1) c')).ownsRow 8 3 1 (.slice A' (r.tree.ats ++ [x]).length c') (r.tree.ats ++ [x]).length ((r.tree.ats ++ [x]).flatMap oC) := by
    rw [List.length_append, List.length_singleton, List.flatMap_append, List.flatMap_singleton]
    exact jX ho hk3 (fun k e e' => jM ho hb2 (by decide) (by rw [e]; exact congrArg some e'))
  refine ⟨?_, ?_, hf⟩
  · have := Blk.set_ hb2 12 (.slice A' (r.tree.ats.length + 1) c')
    unfold Rb
    simpa [rdC, jl] using this
  · constructor
    case rA => first | exact HO | exact K h.rA (by decide) (by decide)
    case rG => first | exact HO | exact K h.rG (by decide) (by decide)
    case rM => first | exact HO | exact K h.rM (by decide) (by decide)
    case rP => first | exact HO | exact K h.rP (by decide) (by decide)
    case rN => first | exact HO | exact K h.rN (by decide) (by decide)
    case rO => first | exact HO | exact K h.rO (by decide) (by decide)
    case pe => first | exact h.pe | (rw [List.map_append, h.pe]; rfl)
    case ne => first | exact h.ne | (rw [List.map_append, h.ne]; rfl)
    case po => first | exact fun y hy => (h.po y hy).fr hf | exact fun y hy => (List.mem_append.1 hy).elim (fun hy => (h.po y hy).fr hf) (fun hy => by rw [List.mem_singleton.1 hy]; exact _hx.fr hf)
    case no => first | exact fun y hy => (h.no y hy).fr hf | exact fun y hy => (List.mem_append.1 hy).elim (fun hy => (h.no y hy).fr hf) (fun hy => by rw [List.mem_singleton.1 hy]; exact _hx.fr hf)
theorem St.growO (hs : St w g src r s) (h : TRows w (AX g s) r.tree s ns ps) (x : Int) (hx : OkO w (AX g s) x) (h1 : Old w w1) {A' : Option Addr} {c' : Nat} (hgr : w1.grownBy w2 (s.oA.map (·.block)))
    (hA : A'.map (·.block) = s.oA.map (·.block) \/ A'.map (·.block) = some w1.heap.size) (ho : w2.ownsRow 8 3 1 (.slice A' (r.tree.ats.length + 1) c') (r.tree.ats.length + 1) (r.tree.ats.flatMap oC ++ oC x)) :
    St (w2.setCell ⟨g, 12, none⟩ (.slice A' (r.tree.ats.length + 1) c')) g src { r with tree := { r.tree with ats := r.tree.ats ++ [x] } } { s with oA := A', oc := c' } /\
    Fr g s { s with oA := A', oc := c' } w (w2.setCell ⟨g, 12, none⟩ (.slice A' (r.tree.ats.length + 1) c')) := by
  obtain ⟨h1, h2, h3⟩ := TRows.growO hs.box h x hx h1 hgr hA ho
  exact ⟨⟨hs.sgf h3, hs.g8, hs.small, h1, ⟨_, _, h2⟩, hs.from_, hs.at_, hs.t58, fun b hz => Nat.lt_of_lt_of_le (hs.zlt b hz) h3.kp.size, hs.z8, fun b hx hz => hs.zno b (h3.own b (hs.zlt b hz) hx) hz⟩, h3⟩
end
end Go.Proofs.YtmmjcbbogokmfaaGreatDoor
