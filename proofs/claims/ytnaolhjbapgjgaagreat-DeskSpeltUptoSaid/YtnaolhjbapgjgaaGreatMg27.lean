import Derived.Test.YtnaolhjbapgjgaaGreatMg18
import Derived.Test.YtnaolhjbapgjgaaGreatMg19
import Derived.Test.YtnaolhjbapgjgaaGreatMg20
import Derived.Test.YtnaolhjbapgjgaaGreatMg22
import Derived.Test.YtnaolhjbapgjgaaGreatMg25
set_option maxRecDepth 100000
set_option maxHeartbeats 3200000
namespace Go.Proofs.YtnaolhjbapgjgaaGreat
open Go.RowKit
theorem kQ {w : World} {b b' : Nat} {e e' : TypeId} {s s' n n' c c' : Nat} {A A' : Option Addr} {xs xs' : List Value} (h : w.ownsRow b e s (.slice A n c) n xs) (h' : w.ownsRow b' e' s' (.slice A' n' c') n' xs') (hne : e ≠ e') {k : Nat} (hk : A.map (·.block) = some k) : A'.map (·.block) ≠ some k := by
  intro hk'
  rcases h.2 with ⟨h1, _⟩ | ⟨g1, cap1, cur1, h1, _, hg1, _⟩
  · injection h1 with h1; subst h1; cases hk
  · rcases h'.2 with ⟨h2, _⟩ | ⟨g2, cap2, cur2, h2, _, hg2, _⟩
    · injection h2 with h2; subst h2; cases hk'
    · injection h1 with h1
      injection h2 with h2
      subst h1 h2
      injection hk with hk
      injection hk' with hk'
      simp only at hk hk'
      subst hk hk'
      rw [hg1] at hg2
      injection hg2 with hg2
      injection hg2 with _ hg2
      exact hne hg2
theorem kj {w w' : World} {b : Nat} {e : TypeId} {s n c : Nat} {A : Option Addr} {xs : List Value} {row : Option Nat} (h : w.ownsRow b e s (.slice A n c) n xs) (hg : w.grownBy w' row) (hr : ∀ k, A.map (·.block) = some k -> row ≠ some k) : w'.ownsRow b e s (.slice A n c) n xs :=
  vr h ((Kp.refl (fun k => row = some k) w).grown hg (fun k e _ => e)) (fun k e => by rw [jH] at e; exact hr k e)
structure Own4 (base : Nat) (wr : World) (wA : Option Addr) (wn wC : Nat) (wx : List Value) (nA : Option Addr) (nn nC : Nat) (nx : List Value) (eA : Option Addr) (en eC : Nat) (ex : List Value) (pA : Option Addr) (pn pC : Nat) (px : List Value) : Prop where
  w : wr.ownsRow base 40 32 (.slice wA wn wC) wn wx
  n : wr.ownsRow base 3 1 (.slice nA nn nC) nn nx
  e : wr.ownsRow base 22 1 (.slice eA en eC) en ex
  p : wr.ownsRow base 51 3 (.slice pA pn pC) pn px
section
variable {base : Nat} {wr w' : World} {wA : Option Addr} {wn wC : Nat} {wx : List Value} {nA : Option Addr} {nn nC : Nat} {nx : List Value} {eA : Option Addr} {en eC : Nat} {ex : List Value} {pA : Option Addr} {pn pC : Nat} {px : List Value}
theorem Own4.kp {X : Nat -> Prop} (h : Own4 base wr wA wn wC wx nA nn nC nx eA en eC ex pA pn pC px) (hk : Kp X wr w') (hX : ∀ b, base <= b -> ¬ X b) : Own4 base w' wA wn wC wx nA nn nC nx eA en eC ex pA pn pC px :=
  ⟨vr h.w hk (fun k e => hX k (ja h.w (by rw [<- jH]; exact e)).1), vr h.n hk (fun k e => hX k (ja h.n (by rw [<- jH]; exact e)).1), vr h.e hk (fun k e => hX k (ja h.e (by rw [<- jH]; exact e)).1), vr h.p hk (fun k e => hX k (ja h.p (by rw [<- jH]; exact e)).1)⟩
theorem Own4.old (h : Own4 base wr wA wn wC wx nA nn nC nx eA en eC ex pA pn pC px) (hk : Old wr w') : Own4 base w' wA wn wC wx nA nn nC nx eA en eC ex pA pn pC px := h.kp hk (fun _ _ f => f)
theorem Own4.growW {wA' : Option Addr} {wn' wC' : Nat} {wx' : List Value} (h : Own4 base wr wA wn wC wx nA nn nC nx eA en eC ex pA pn pC px) (hg : wr.grownBy w' (wA.map (·.block))) (ho : w'.ownsRow base 40 32 (.slice wA' wn' wC') wn' wx') : Own4 base w' wA' wn' wC' wx' nA nn nC nx eA en eC ex pA pn pC px :=
  ⟨ho, kj h.n hg (fun k e e' => kQ h.n h.w (by decide) e e'), kj h.e hg (fun k e e' => kQ h.e h.w (by decide) e e'), kj h.p hg (fun k e e' => kQ h.p h.w (by decide) e e')⟩
theorem Own4.growN {nA' : Option Addr} {nn' nC' : Nat} {nx' : List Value} (h : Own4 base wr wA wn wC wx nA nn nC nx eA en eC ex pA pn pC px) (hg : wr.grownBy w' (nA.map (·.block))) (ho : w'.ownsRow base 3 1 (.slice nA' nn' nC') nn' nx') : Own4 base w' wA wn wC wx nA' nn' nC' nx' eA en eC ex pA pn pC px :=
  ⟨kj h.w hg (fun k e e' => kQ h.w h.n (by decide) e e'), ho, kj h.e hg (fun k e e' => kQ h.e h.n (by decide) e e'), kj h.p hg (fun k e e' => kQ h.p h.n (by decide) e e')⟩
theorem Own4.growE {eA' : Option Addr} {en' eC' : Nat} {ex' : List Value} (h : Own4 base wr wA wn wC wx nA nn nC nx eA en eC ex pA pn pC px) (hg : wr.grownBy w' (eA.map (·.block))) (ho : w'.ownsRow base 22 1 (.slice eA' en' eC') en' ex') : Own4 base w' wA wn wC wx nA nn nC nx eA' en' eC' ex' pA pn pC px :=
  ⟨kj h.w hg (fun k e e' => kQ h.w h.e (by decide) e e'), kj h.n hg (fun k e e' => kQ h.n h.e (by decide) e e'), ho, kj h.p hg (fun k e e' => kQ h.p h.e (by decide) e e')⟩
theorem Own4.growP {pA' : Option Addr} {pn' pC' : Nat} {px' : List Value} (h : Own4 base wr wA wn wC wx nA nn nC nx eA en eC ex pA pn pC px) (hg : wr.grownBy w' (pA.map (·.block))) (ho : w'.ownsRow base 51 3 (.slice pA' pn' pC') pn' px') : Own4 base w' wA wn wC wx nA nn nC nx eA en eC ex pA' pn' pC' px' :=
  ⟨kj h.w hg (fun k e e' => kQ h.w h.p (by decide) e e'), kj h.n hg (fun k e e' => kQ h.n h.p (by decide) e e'), kj h.e hg (fun k e e' => kQ h.e h.p (by decide) e e'), ho⟩
end
def rowsX (I : Nat) (wA nA eA pA : Option Addr) : Nat -> Prop := fun b => b <= I \/ wA.map (·.block) = some b \/ nA.map (·.block) = some b \/ eA.map (·.block) = some b \/ pA.map (·.block) = some b
theorem Part.Ok.turn {w w' : World} {X X' Y : Nat -> Prop} {p : Part} (h : p.Ok w X) (hk : Kp Y w w') (hyx : ∀ b, b < w.heap.size -> Y b -> X b) (hx : ∀ b, b < w.heap.size -> X' b -> X b) : p.Ok w' X' :=
  ⟨h.rd.kp hk (fun hn ad e hy => h.av hn ad e (hyx _ (h.rd.lt (by decide) hn e) hy)), fun hn ad e hy => h.av hn ad e (hx _ (h.rd.lt (by decide) hn e) hy), h.big⟩
def zeroPieL : List Value := [.string ⟨#[]⟩, .int .i64 0, .int .u8 0, .int .u8 0, .int .u8 0, .int .u8 0, .int .u8 0, .int .u8 0, .int .u8 0, .int .u8 0, .int .u8 0, .int .u8 0, .int .u8 0, .int .u8 0, .int .u8 0, .int .u8 0, .int .u8 0, .int .u8 0, .int .u8 0, .int .u8 0, .int .u8 0, .int .u8 0, .int .u8 0, .int .u8 0, .int .u8 0, .int .u8 0, .int .u8 0, .int .u8 0, .int .u8 0, .int .u8 0, .int .u8 0, .int .u8 0, .int .u8 0, .int .u8 0, .slice none 0 0, .slice none 0 0]
def pieC (nm : ByteArray) (first : Int) (before : List UInt8) (eA : Option Addr) (en eC : Nat) (pA : Option Addr) (pn pC : Nat) : List Value := [.string nm, .int .i64 first] ++ (jB before ++ [.slice eA en eC, .slice pA pn pC])
theorem pieC_len {nm : ByteArray} {first : Int} {before : List UInt8} {eA : Option Addr} {en eC : Nat} {pA : Option Addr} {pn pC : Nat} (h : before.length = 32) : (pieC nm first before eA en eC pA pn pC).length = 36 := by simp [pieC, jD, h]
theorem Blk.pieE {w : World} {I : Nat} {nm : ByteArray} {first : Int} {before : List UInt8} {eA : Option Addr} {en eC : Nat} {pA : Option Addr} {pn pC : Nat} (h : Blk w I 61 (pieC nm first before eA en eC pA pn pC).toArray) (hb : before.length = 32) (A' : Option Addr) (n' c' : Nat) :
    Blk (w.setCell ⟨I, 34, none⟩ (.slice A' n' c')) I 61 (pieC nm first before A' n' c' pA pn pC).toArray := by
  have := Blk.setCells (pre := [.string nm, .int .i64 first] ++ jB before) (mid := [.slice eA en eC]) (post := [.slice pA pn pC]) (by simpa [pieC] using h) [.slice A' n' c'] rfl
  rw [List.length_append, jD, hb] at this
  have e : w.setCells I 34 [.slice A' n' c'] = w.setCell ⟨I, 34, none⟩ (.slice A' n' c') := rfl
  simp only [List.length_cons, List.length_nil, Nat.reduceAdd, e] at this
  simpa [pieC] using this
theorem Blk.pieP {w : World} {I : Nat} {nm : ByteArray} {first : Int} {before : List UInt8} {eA : Option Addr} {en eC : Nat} {pA : Option Addr} {pn pC : Nat} (h : Blk w I 61 (pieC nm first before eA en eC pA pn pC).toArray) (hb : before.length = 32) (A' : Option Addr) (n' c' : Nat) :
    Blk (w.setCell ⟨I, 35, none⟩ (.slice A' n' c')) I 61 (pieC nm first before eA en eC A' n' c').toArray := by
  have := Blk.setCells (pre := [.string nm, .int .i64 first] ++ (jB before ++ [.slice eA en eC])) (mid := [.slice pA pn pC]) (post := []) (by simpa [pieC] using h) [.slice A' n' c'] rfl
  rw [List.length_append, List.length_append, jD, hb] at this
  have e : w.setCells I 35 [.slice A' n' c'] = w.setCell ⟨I, 35, none⟩ (.slice A' n' c') := rfl
  simp only [List.length_cons, List.length_nil, Nat.reduceAdd, e] at this
  simpa [pieC] using this
def vz : Nat -> List Way -> List Nat
  | _, [] => []
  | low, p :: ps => (low + p.ds.length) :: vz (low + p.ds.length) ps
def jk (ps : List Way) : List (List UInt8) := ps.flatMap Way.ds
def bareP (p : Way) : List Value := [.int .i64 p.a, .int .i64 p.b, .slice none 0 0]
theorem endsOf_snoc : ∀ (ps : List Way) (low : Nat) (p : Way), vz low (ps ++ [p]) = vz low ps ++ [low + (jk ps).length + p.ds.length]
  | [], low, p => by simp [vz, jk]
  | q :: ps, low, p => by
    simp only [List.cons_append, vz, endsOf_snoc ps, List.cons.injEq, true_and, List.append_cancel_left_eq, and_true]
    simp only [jk, List.flatMap_cons, List.length_append]
    omega
theorem yI : ∀ (ps : List Way) (low : Nat), (vz low ps).length = ps.length
  | [], _ => rfl
  | _ :: ps, _ => by simp [vz, yI ps]
structure PieLoop (w : World) (g I : Nat) (bs : List UInt8) (nm : ByteArray) (first : Int) (before : List UInt8) (evs : List Part) (wx : List (List UInt8)) (ends : List Nat) (prs : List Way) (wA : Option Addr) (wC : Nat) (nA : Option Addr) (nC : Nat) (eA : Option Addr) (eC : Nat) (pA : Option Addr) (pC : Nat) (s : Rs) (wr : World) : Prop where
  st : DecR 61 zeroPieL w g bs s wr
  blk : Blk wr I 61 (pieC nm first before eA evs.length eC pA prs.length pC).toArray
  own : Own4 (I + 1) wr wA wx.length wC (wx.flatMap jB) nA ends.length nC (ends.map fun (n : Nat) => .int .i64 (n : Int)) eA evs.length eC (evs.map Part.sl) pA prs.length pC (prs.flatMap bareP)
  ev : ∀ p ∈ evs, p.Ok wr (rowsX I wA nA eA pA)
  lt : g < I
  bef : before.length = 32
section
variable {w : World} {g I : Nat} {bs : List UInt8} {nm : ByteArray} {first : Int} {before : List UInt8} {evs : List Part} {wx : List (List UInt8)} {ends : List Nat} {prs : List Way} {wA : Option Addr} {wC : Nat} {nA : Option Addr} {nC : Nat} {eA : Option Addr} {eC : Nat} {pA : Option Addr} {pC : Nat} {s s' : Rs} {wr w' : World}
theorem PieLoop.step (h : PieLoop w g I bs nm first before evs wx ends prs wA wC nA nC eA eC pA pC s wr) (hr : Rr w' g bs s') (hk : Kp (RX g) wr w') : PieLoop w g I bs nm first before evs wx ends prs wA wC nA nC eA eC pA pC s' w' :=
  ⟨h.st.step hr hk, h.blk.kp hk (fun e => by have : I = g := e; have := h.lt; omega), h.own.kp hk (fun b hb e => by have : b = g := e; have := h.lt; omega),
    fun p hp => (h.ev p hp).turn hk (fun b _ e => .inl (by have : b = g := e; have := h.lt; omega)) (fun _ _ e => e), h.lt, h.bef⟩
theorem PieLoop.old (h : PieLoop w g I bs nm first before evs wx ends prs wA wC nA nC eA eC pA pC s wr) (hk : Old wr w') : PieLoop w g I bs nm first before evs wx ends prs wA wC nA nC eA eC pA pC s w' :=
  ⟨h.st.still hk, h.blk.old hk, h.own.old hk, fun p hp => (h.ev p hp).turn hk (fun _ _ f => f.elim) (fun _ _ e => e), h.lt, h.bef⟩
theorem vI {row : Option Nat} (hg : wr.grownBy w' row) : Kp (fun b => row = some b) wr w' := (Kp.refl _ wr).grown hg (fun _ e _ => e)
theorem row_at {A A' : Option Addr} {b : Nat} (ha : A'.map (·.block) = A.map (·.block) \/ A'.map (·.block) = some wr.heap.size) (hb : b < wr.heap.size) (e : A'.map (·.block) = some b) : A.map (·.block) = some b := by
  rcases ha with ha | ha
  · rw [<- ha]; exact e
  · rw [ha] at e; injection e with e; omega
theorem PieLoop.growW {wA' : Option Addr} {wC' : Nat} {wx' : List (List UInt8)} (h : PieLoop w g I bs nm first before evs wx ends prs wA wC nA nC eA eC pA pC s wr) (hg : wr.grownBy w' (wA.map (·.block))) (ha : wA'.map (·.block) = wA.map (·.block) \/ wA'.map (·.block) = some wr.heap.size)
    (ho : w'.ownsRow (I + 1) 40 32 (.slice wA' wx'.length wC') wx'.length (wx'.flatMap jB)) : PieLoop w g I bs nm first before evs wx' ends prs wA' wC' nA nC eA eC pA pC s w' :=
  ⟨h.st.put (vI hg) (fun b e => by have := (ja h.own.w e).1; have := h.lt; omega), h.blk.kp (vI hg) (fun e => by have := (ja h.own.w e).1; omega), h.own.growW hg ho,
    fun p hp => (h.ev p hp).turn (vI hg) (fun _ _ e => .inr (.inl e)) (fun b hb e => by
      rcases e with e | e | e
      · exact .inl e
      · exact .inr (.inl (row_at ha hb e))
      · exact .inr (.inr e)), h.lt, h.bef⟩
theorem PieLoop.growN {nA' : Option Addr} {nC' : Nat} {ends' : List Nat} (h : PieLoop w g I bs nm first before evs wx ends prs wA wC nA nC eA eC pA pC s wr) (hg : wr.grownBy w' (nA.map (·.block))) (ha : nA'.map (·.block) = nA.map (·.block) \/ nA'.map (·.block) = some wr.heap.size)
    (ho : w'.ownsRow (I + 1) 3 1 (.slice nA' ends'.length nC') ends'.length (ends'.map fun (n : Nat) => .int .i64 (n : Int))) : PieLoop w g I bs nm first before evs wx ends' prs wA wC nA' nC' eA eC pA pC s w' :=
  ⟨h.st.put (vI hg) (fun b e => by have := (ja h.own.n e).1; have := h.lt; omega), h.blk.kp (vI hg) (fun e => by have := (ja h.own.n e).1; omega), h.own.growN hg ho,
    fun p hp => (h.ev p hp).turn (vI hg) (fun _ _ e => .inr (.inr (.inl e))) (fun b hb e => by
      rcases e with e | e | e | e
      · exact .inl e
      · exact .inr (.inl e)
      · exact .inr (.inr (.inl (row_at ha hb e)))
      · exact .inr (.inr (.inr e))), h.lt, h.bef⟩
theorem Own4.set {base I : Nat} {wn nn en pn : Nat} {x1 x2 x3 x4 : List Value} (h : Own4 base wr wA wn wC x1 nA nn nC x2 eA en eC x3 pA pn pC x4) (hI : I < base) (i : Nat) (v : Value) : Own4 base (wr.setCell ⟨I, i, none⟩ v) wA wn wC x1 nA nn nC x2 eA en eC x3 pA pn pC x4 :=
  h.kp ((Kp.refl (fun k => k = I) wr).setCell (p := ⟨I, i, none⟩) (fun _ => rfl) v) (fun b hb e => by omega)
theorem PieLoop.growE {eA' : Option Addr} {eC' : Nat} {p : Part} (h : PieLoop w g I bs nm first before evs wx ends prs wA wC nA nC eA eC pA pC s wr) (hg : wr.grownBy w' (eA.map (·.block))) (ha : eA'.map (·.block) = eA.map (·.block) \/ eA'.map (·.block) = some wr.heap.size)
    (ho : w'.ownsRow (I + 1) 22 1 (.slice eA' (evs.length + 1) eC') (evs.length + 1) ((evs ++ [p]).map Part.sl)) (hp : p.Ok wr (rowsX I wA nA eA pA)) : PieLoop w g I bs nm first before (evs ++ [p]) wx ends prs wA wC nA nC eA' eC' pA pC s (w'.setCell ⟨I, 34, none⟩ (.slice eA' (evs.length + 1) eC')) := by
  have hl : (evs ++ [p]).length = evs.length + 1 := by simp
  have k1 : Kp (fun b => b <= I \/ eA.map (·.block) = some b) wr (w'.setCell ⟨I, 34, none⟩ (.slice eA' (evs.length + 1) eC')) := ((vI hg).mono (fun b _ e => .inr e)).setCell (p := ⟨I, 34, none⟩) (fun _ => .inl (Nat.le_refl _)) _
  refine ⟨?_, ?_, ?_, ?_, h.lt, h.bef⟩
  · exact (h.st.put (vI hg) (fun b e => by have := (ja h.own.e e).1; have := h.lt; omega)).put ((Kp.refl (fun k => k = I) w').setCell (p := ⟨I, 34, none⟩) (fun _ => rfl) _) (fun b e => by have := h.lt; omega)
  · rw [hl]
    exact (h.blk.kp (vI hg) (fun e => by have := (ja h.own.e e).1; omega)).pieE h.bef eA' (evs.length + 1) eC'
  · rw [hl]
    exact (h.own.growE hg ho).set (by omega) 34 _
  · intro q hq
    have hh : q.Ok wr (rowsX I wA nA eA pA) := by
      rcases List.mem_append.1 hq with hq | hq
      · exact h.ev q hq
      · rw [List.mem_singleton.1 hq]; exact hp
    exact hh.turn k1 (fun b _ e => by
      rcases e with e | e
      · exact .inl e
      · exact .inr (.inr (.inr (.inl e)))) (fun b hb e => by
      rcases e with e | e | e | e | e
      · exact .inl e
      · exact .inr (.inl e)
      · exact .inr (.inr (.inl e))
      · exact .inr (.inr (.inr (.inl (row_at ha hb e))))
      · exact .inr (.inr (.inr (.inr e))))
theorem PieLoop.growP {pA' : Option Addr} {pC' : Nat} {p : Way} (h : PieLoop w g I bs nm first before evs wx ends prs wA wC nA nC eA eC pA pC s wr) (hg : wr.grownBy w' (pA.map (·.block))) (ha : pA'.map (·.block) = pA.map (·.block) \/ pA'.map (·.block) = some wr.heap.size)
    (ho : w'.ownsRow (I + 1) 51 3 (.slice pA' (prs.length + 1) pC') (prs.length + 1) ((prs ++ [p]).flatMap bareP)) : PieLoop w g I bs nm first before evs wx ends (prs ++ [p]) wA wC nA nC eA eC pA' pC' s (w'.setCell ⟨I, 35, none⟩ (.slice pA' (prs.length + 1) pC')) := by
  have hl : (prs ++ [p]).length = prs.length + 1 := by simp
  have k1 : Kp (fun b => b <= I \/ pA.map (·.block) = some b) wr (w'.setCell ⟨I, 35, none⟩ (.slice pA' (prs.length + 1) pC')) := ((vI hg).mono (fun b _ e => .inr e)).setCell (p := ⟨I, 35, none⟩) (fun _ => .inl (Nat.le_refl _)) _
  refine ⟨?_, ?_, ?_, ?_, h.lt, h.bef⟩
  · exact (h.st.put (vI hg) (fun b e => by have := (ja h.own.p e).1; have := h.lt; omega)).put ((Kp.refl (fun k => k = I) w').setCell (p := ⟨I, 35, none⟩) (fun _ => rfl) _) (fun b e => by have := h.lt; omega)
  · rw [hl]
    exact (h.blk.kp (vI hg) (fun e => by have := (ja h.own.p e).1; omega)).pieP h.bef pA' (prs.length + 1) pC'
  · rw [hl]
    exact (h.own.growP hg ho).set (by omega) 35 _
  · intro q hq
    exact (h.ev q hq).turn k1 (fun b _ e => by
      rcases e with e | e
      · exact .inl e
      · exact .inr (.inr (.inr (.inr e)))) (fun b hb e => by
      rcases e with e | e | e | e | e
      · exact .inl e
      · exact .inr (.inl e)
      · exact .inr (.inr (.inl e))
      · exact .inr (.inr (.inr (.inl e)))
      · exact .inr (.inr (.inr (.inr (row_at ha hb e)))))
end
section
variable {w w' : World} {X X' Y : Nat -> Prop}
theorem Rd.turn {s n : Nat} {A : Option Addr} {xs : List Value} (hr : Rd w s A n xs) (hs : 0 < s) (ha : Av X n A) (hk : Kp Y w w') (hyx : ∀ b, b < w.heap.size -> Y b -> X b) : Rd w' s A n xs :=
  hr.kp hk (fun hn ad e hy => ha hn ad e (hyx _ (hr.lt hs hn e) hy))
theorem Av.turn {s n : Nat} {A : Option Addr} {xs : List Value} (ha : Av X n A) (hr : Rd w s A n xs) (hs : 0 < s) (hx : ∀ b, b < w.heap.size -> X' b -> X b) : Av X' n A :=
  fun hn ad e hy => ha hn ad e (hx _ (hr.lt hs hn e) hy)
theorem MVal.Ok.turn {m : MVal} (h : m.Ok w X) (hk : Kp Y w w') (hyx : ∀ b, b < w.heap.size -> Y b -> X b) (hx : ∀ b, b < w.heap.size -> X' b -> X b) : m.Ok w' X' :=
  ⟨h.rd.turn (by decide) h.av hk hyx, h.av.turn h.rd (by decide) hx, h.cap, h.big⟩
theorem MTexts.Ok.turn {m : MTexts} (h : m.Ok w X) (hk : Kp Y w w') (hyx : ∀ b, b < w.heap.size -> Y b -> X b) (hx : ∀ b, b < w.heap.size -> X' b -> X b) : m.Ok w' X' :=
  ⟨h.rd.turn (by decide) h.av hk hyx, h.av.turn h.rd (by decide) hx, h.cap, h.small, h.big⟩
theorem MBind.Ok.turn {m : MBind} (h : m.Ok w X) (hk : Kp Y w w') (hyx : ∀ b, b < w.heap.size -> Y b -> X b) (hx : ∀ b, b < w.heap.size -> X' b -> X b) : m.Ok w' X' :=
  ⟨h.v.turn hk hyx hx, h.small⟩
theorem MCase.Ok.turn {m : MCase} (h : m.Ok w X) (hk : Kp Y w w') (hyx : ∀ b, b < w.heap.size -> Y b -> X b) (hx : ∀ b, b < w.heap.size -> X' b -> X b) : m.Ok w' X' :=
  ⟨h.chain, fun v hv => (h.values v hv).turn hk hyx hx, h.rdV.turn (by decide) h.avV hk hyx, h.avV.turn h.rdV (by decide) hx, h.open_.turn hk hyx hx, h.closed.turn hk hyx hx, h.reached.turn hk hyx hx, h.big⟩
theorem MNote.Ok.turn {m : MNote} (h : m.Ok w X) (hk : Kp Y w w') (hyx : ∀ b, b < w.heap.size -> Y b -> X b) (hx : ∀ b, b < w.heap.size -> X' b -> X b) : m.Ok w' X' :=
  ⟨h.head, h.rd.turn (by decide) h.av hk hyx, h.av.turn h.rd (by decide) hx, h.big⟩
theorem MWay.Ok.turn {m : MWay} (h : m.Ok w X) (hk : Kp Y w w') (hyx : ∀ b, b < w.heap.size -> Y b -> X b) (hx : ∀ b, b < w.heap.size -> X' b -> X b) : m.Ok w' X' :=
  ⟨h.dgs, h.rd.turn (by decide) h.av hk hyx, h.av.turn h.rd (by decide) hx, h.big⟩
theorem MPiece.Ok.turn {m : MPiece} (h : m.Ok w X) (hk : Kp Y w w') (hyx : ∀ b, b < w.heap.size -> Y b -> X b) (hx : ∀ b, b < w.heap.size -> X' b -> X b) : m.Ok w' X' :=
  ⟨h.before, fun p hp => (h.evs p hp).turn hk hyx hx, h.rdE.turn (by decide) h.avE hk hyx, h.avE.turn h.rdE (by decide) hx, fun p hp => (h.pfs p hp).turn hk hyx hx, h.rdP.turn (by decide) h.avP hk hyx, h.avP.turn h.rdP (by decide) hx, h.big⟩
theorem MReply.Ok.turn {m : MReply} (h : m.Ok w X) (hk : Kp Y w w') (hyx : ∀ b, b < w.heap.size -> Y b -> X b) (hx : ∀ b, b < w.heap.size -> X' b -> X b) : m.Ok w' X' :=
  ⟨h.rdH.turn (by decide) h.avH hk hyx, h.avH.turn h.rdH (by decide) hx, h.bigH, h.case_.turn hk hyx hx, h.raw.turn hk hyx hx, h.note.turn hk hyx hx, h.hd, h.inc.turn hk hyx hx, h.con.turn hk hyx hx, h.idx, h.rdI.turn (by decide) h.avI hk hyx, h.avI.turn h.rdI (by decide) hx, h.pie.turn hk hyx hx⟩
end
def RepPost (w : World) (o : Option (List UInt8)) (e : Ending) (w' : World) : Prop :=
  (∃ l A c, o = some l /\ l.length <= 4194304 /\ e = .returned (.tuple #[.slice A l.length c, .int .i64 0]) /\ Rd w' 1 A l.length (l.map bv) /\ Av (fun k => k < w.heap.size) l.length A /\ l.length <= c /\ Old w w') \/
  (o = none /\ e = .returned (.tuple #[.slice none 0 0, .int .i64 240]) /\ Old w w')
theorem encrep_far (w : World) (op : Int) (cs : List Value) (er : Int) (h0 : cs[0]? = some (.int .i64 er)) (hno : ¬ (1 <= op /\ op <= 12 /\ 0 <= er /\ er <= 65535)) :
    Calls Tryz.prog 7 #[.int .i64 op, .agg cs.toArray] w (RepPost w none) := by
  have hb := Blk.new w 63 cs.toArray
  have hc := hb.at_ 0 (by rw [List.getElem?_toArray]; exact h0)
  have Ho := jJ0 ((Kp.refl NoX w).alloc (.cells cs.toArray 63))
  clear hb h0
  by_cases h1 : 1 <= op
  · have h1' : ¬ op < 1 := by omega
    by_cases h2 : op <= 12
    · have h2' : ¬ (12 : Int) < op := by omega
      by_cases h3 : 0 <= er
      · have h3' : ¬ er < 0 := by omega
        have h4 : (65535 : Int) < er := by omega
        clear hno
        go_enter Tryz.func7, Tryz.ntmps7
        go_wp2
        go_ret2
        exact .inr ⟨rfl, rfl, Ho.out⟩
      · have h3' : er < 0 := by omega
        clear hno
        go_enter Tryz.func7, Tryz.ntmps7
        go_wp2
        go_ret2
        exact .inr ⟨rfl, rfl, Ho.out⟩
    · have h2' : (12 : Int) < op := by omega
      clear hno
      go_enter Tryz.func7, Tryz.ntmps7
      go_wp2
      go_ret2
      exact .inr ⟨rfl, rfl, Ho.out⟩
  · have h1' : op < 1 := by omega
    clear hno
    go_enter Tryz.func7, Tryz.ntmps7
    go_wp2
    go_ret2
    exact .inr ⟨rfl, rfl, Ho.out⟩
theorem encrep_near (w : World) (op : Nat) (m : MReply) (X : Nat -> Prop) (hok : m.Ok w X) (hop : 1 <= op /\ op <= 12) (her : 0 <= m.err /\ m.err <= 65535) :
    Calls Tryz.prog 7 #[.int .i64 (op : Int), .agg m.cells.toArray] w (RepPost w (encRep op m.data)) := by
  have HR := jJ0 (show encRep op m.data = (bodyB op m.data).bind fun l => if 2 + l.length <= 4194304 then some (be 2 m.err.toNat ++ l) else none by
    rw [encRep, if_pos ⟨by omega, by omega, her.1, her.2⟩]
    rfl)
  have HB := jJ0 (show bodyB op m.data = if m.err = 0 then repB op m.data else if op <= 2 /\ bareB m.err = false then placeB [m.pa, m.pb, m.pc] else some [] from rfl)
  have Hb := jJ0 (Blk.new w 63 m.cells.toArray)
  have Ho := jJ0 ((Kp.refl NoX w).alloc (.cells m.cells.toArray 63))
  have hc := Hb.out.at_ 0 (v := .int .i64 m.err) rfl
  have Hsz := jJ0 (show (Tryz.prog.info? 63).map (·.size) = some m.cells.length by rw [hok.len]; exact Tryz.sizeReply)
  have HoW := jJ0 (hok.turn (X' := fun k => w.heap.size <= k) Ho.out (fun _ _ f => f.elim) (fun b hb h => by omega))
  have S0 := jJ0 (show m.cells[0]? = some (.int .i64 m.err) from rfl)
  have S1 := jJ0 (show m.cells[1]? = some (.int .i64 m.pa) from rfl)
  have S2 := jJ0 (show m.cells[2]? = some (.int .i64 m.pb) from rfl)
  have S3 := jJ0 (show m.cells[3]? = some (.int .i64 m.pc) from rfl)
  have HAn := jJ0 (fun W g r bs hW hl hk => answered_any W g r bs op m hW hl hop hk)
  generalize encRep op m.data = RB at *
  generalize repB op m.data = AB at *
  generalize bodyB op m.data = BB at *
  clear hok
  obtain ⟨e0, e1⟩ := her
  obtain ⟨o0, o1⟩ := hop
  have n1 : ¬ (op : Int) < 1 := by omega
  have n2 : ¬ (12 : Int) < (op : Int) := by omega
  have n3 : ¬ m.err < 0 := by omega
  have n4 : ¬ (65535 : Int) < m.err := by omega
  have e16 : IntKind.u16.wrap m.err = m.err := IntWalk.u16_in _ (by omega)
  generalize m.err = er at *
  generalize m.cells = cs at *
  go_enter Tryz.func7, Tryz.ntmps7
  go_wp2_with fail
  generalize w.alloc _ = W at *
  refine (kq W).mono ?_
  rintro e w1 ⟨rfl, hW1, ho1⟩
  have Hb1 := jJ0 (Hb.out.old ho1)
  have hlt := Hb.out.lt
  have Hx := jJ0 (show ¬ WX W.heap.size none w.heap.size from by
    rintro (e | e)
    · omega
    · cases e)
  have Ho1 := jJ0 (Ho.out.old ho1)
  have HgO := jJ0 (show w.heap.size <= W.heap.size from Ho.out.size)
  have Hok1 := jJ0 (HoW.out.turn (X' := WX W.heap.size none) ho1 (fun _ _ f => f.elim) (fun b hb h => by
    rcases h with h | h
    · omega
    · cases h))
  clear hc ho1 Hb Ho HoW
  generalize W.heap.size = g at *
  have hc := Hb1.out.at_ 0 (by rw [List.getElem?_toArray]; exact S0.out)
  go_wp2_with fail
  refine (put16_any _ g none [] er e0 (by omega) hW1 (by simp)).mono ?_
  rintro e w2 ⟨rfl, hst⟩
  rw [List.nil_append] at hst
  obtain ⟨r2, hW2, f2⟩ := hst.kf
  have F2 := jJ0 f2
  have HW2 := jJ0 hW2
  have hb2 := f2.blk Hb1.out Hx.out
  have Hok2 := jJ0 (Hok1.out.turn (X' := WX g r2) f2.kp (fun _ _ h => h) (fun b hb h => by
    rcases h with h | h
    · exact .inl h
    · rcases f2.fr with e | ⟨k, e, hk⟩
      · rw [e] at h; exact .inr h
      · rw [e] at h; injection h with h; omega))
  have Hra := jJ0 hb2.range
  clear hc
  have hc := hb2.at_ 0 (by rw [List.getElem?_toArray]; exact S0.out)
  have hc1 := hb2.at_ 1 (by rw [List.getElem?_toArray]; exact S1.out)
  have hc2 := hb2.at_ 2 (by rw [List.getElem?_toArray]; exact S2.out)
  have hc3 := hb2.at_ 3 (by rw [List.getElem?_toArray]; exact S3.out)
  clear hst hW2 f2 hb2 hW1 Hok1
  by_cases hz : er = 0
  · rw [if_pos hz] at HB
    rw [HB.out] at HR
    have b0 : (er == 0) = true := by simpa using hz
    clear HB hc1 hc2 hc3 e16
    go_wp2_with (first | ((with_reducible refine jW 63 (.tmp 3) ?_); refine Tryz.load_w rfl 63 (.tmp 3) rfl w.heap.size 0 rfl cs _ Hra.out Tryz.underlying63 rfl Hsz.out ?_) | fail)
    refine (HAn.out w2 g r2 _ HW2.out (by rw [jC]; decide) Hok2.out).mono ?_
    clear HAn Hra Hok2 hz
    intro e w3 hlay
    rcases hlay with ⟨l, hbo, hlm, rfl, hst⟩ | ⟨hbo, rfl, l, hst⟩
    · obtain ⟨r3, hW3, f3⟩ := hst.kf
      have hll : (be 2 er.toNat ++ l).length = 2 + l.length := by rw [List.length_append, jC]
      have HOld := jJ0 (show Old w w3 from Ho1.out.trans (F2.out.trans f3).kp (fun b hb h => by
        rcases h with h | h
        · have := HgO.out; omega
        · cases h))
      have Hll := jJ0 hll
      clear hst f3 hll
      generalize hq : be 2 er.toNat ++ l = q at *
      have Hq := jJ0 hq
      have HW3 := jJ0 hW3
      have HL := jJ0 (kA w3 g r3 q hW3)
      clear hq hW3
      go_wp2_with fail
      refine HL.out.mono ?_
      rintro e w4 ⟨rfl, rfl⟩
      by_cases hbig : 2 + l.length <= 4194304
      · have hb' : ¬ (4194304 : Int) < (q.length : Int) := by have := Hll.out; omega
        have Hfin := jJ0 (show RB = some q by rw [HR.out, hbo, Option.bind_some, if_pos hbig, Hq.out])
        have HA := jJ0 (kP w3 g r3 q HW3.out (by have := Hll.out; omega))
        go_wp2_with fail
        refine HA.out.mono ?_
        rintro e w5 ⟨A, c, rfl, hown, ho5⟩
        have Hend := jJ0 (show RepPost w RB (.returned (.tuple #[.slice A q.length c, .int .i64 0])) w5 from
          .inl ⟨q, A, c, Hfin.out, by have := Hll.out; omega, rfl, Rd.of_own hown, fun hn ad e hx => own_av hown hn ad e (Nat.lt_of_lt_of_le hx HOld.out.size), own_cap hown, HOld.out.old ho5⟩)
        clear hown ho5 hbig
        go_wp2
        go_ret2
        exact Hend.out
      · have hb' : (4194304 : Int) < (q.length : Int) := by have := Hll.out; omega
        have Hno := jJ0 (show RB = none by rw [HR.out, hbo, Option.bind_some, if_neg hbig])
        clear hbig
        go_wp2
        go_ret2
        exact .inr ⟨Hno.out, rfl, HOld.out⟩
    · obtain ⟨r3, hW3, f3⟩ := hst.kf
      have HOld := jJ0 (show Old w w3 from Ho1.out.trans (F2.out.trans f3).kp (fun b hb h => by
        rcases h with h | h
        · have := HgO.out; omega
        · cases h))
      have Hno := jJ0 (show RB = none by rw [HR.out, hbo]; rfl)
      clear hst f3 hW3
      go_wp2
      go_ret2
      exact .inr ⟨Hno.out, rfl, HOld.out⟩
  · rw [if_neg hz] at HB
    have b0 : (er == 0) = false := by simpa using hz
    clear HAn Hra Hok2 e16
    by_cases h2 : op <= 2
    · have g2 : (op : Int) <= 2 := by omega
      have HBr := jJ0 (fun W => bare_any W er)
      go_wp2_with fail
      refine (HBr.out _).mono ?_
      rintro e w2b ⟨rfl, rfl⟩
      cases hbr : bareB er with
      | false =>
        rw [if_pos ⟨h2, hbr⟩] at HB
        rw [HB.out] at HR
        have HP := jJ0 (placed_any w2 g r2 _ m.pa m.pb m.pc HW2.out (by rw [jC]; decide))
        clear hbr HB hz
        go_wp2_with fail
        refine HP.out.mono ?_
        clear HP hc hc1 hc2 hc3
        intro e w3 hlay
        rcases hlay with ⟨l, hbo, hlm, rfl, hst⟩ | ⟨hbo, rfl, l, hst⟩
        · obtain ⟨r3, hW3, f3⟩ := hst.kf
          have hll : (be 2 er.toNat ++ l).length = 2 + l.length := by rw [List.length_append, jC]
          have HOld := jJ0 (show Old w w3 from Ho1.out.trans (F2.out.trans f3).kp (fun b hb h => by
            rcases h with h | h
            · have := HgO.out; omega
            · cases h))
          have Hll := jJ0 hll
          clear hst f3 hll
          generalize hq : be 2 er.toNat ++ l = q at *
          have Hq := jJ0 hq
          have HW3 := jJ0 hW3
          have HL := jJ0 (kA w3 g r3 q hW3)
          clear hq hW3
          go_wp2_with fail
          refine HL.out.mono ?_
          rintro e w4 ⟨rfl, rfl⟩
          by_cases hbig : 2 + l.length <= 4194304
          · have hb' : ¬ (4194304 : Int) < (q.length : Int) := by have := Hll.out; omega
            have Hfin := jJ0 (show RB = some q by rw [HR.out, hbo, Option.bind_some, if_pos hbig, Hq.out])
            have HA := jJ0 (kP w3 g r3 q HW3.out (by have := Hll.out; omega))
            go_wp2_with fail
            refine HA.out.mono ?_
            rintro e w5 ⟨A, c, rfl, hown, ho5⟩
            have Hend := jJ0 (show RepPost w RB (.returned (.tuple #[.slice A q.length c, .int .i64 0])) w5 from
              .inl ⟨q, A, c, Hfin.out, by have := Hll.out; omega, rfl, Rd.of_own hown, fun hn ad e hx => own_av hown hn ad e (Nat.lt_of_lt_of_le hx HOld.out.size), own_cap hown, HOld.out.old ho5⟩)
            clear hown ho5 hbig
            go_wp2
            go_ret2
            exact Hend.out
          · have hb' : (4194304 : Int) < (q.length : Int) := by have := Hll.out; omega
            have Hno := jJ0 (show RB = none by rw [HR.out, hbo, Option.bind_some, if_neg hbig])
            clear hbig
            go_wp2
            go_ret2
            exact .inr ⟨Hno.out, rfl, HOld.out⟩
        · obtain ⟨r3, hW3, f3⟩ := hst.kf
          have HOld := jJ0 (show Old w w3 from Ho1.out.trans (F2.out.trans f3).kp (fun b hb h => by
            rcases h with h | h
            · have := HgO.out; omega
            · cases h))
          have Hno := jJ0 (show RB = none by rw [HR.out, hbo]; rfl)
          clear hst f3 hW3
          go_wp2
          go_ret2
          exact .inr ⟨Hno.out, rfl, HOld.out⟩
      | true =>
        rw [if_neg (fun h => by rw [hbr] at h; cases h.2)] at HB
        rw [HB.out] at HR
        clear hbr HB hz hc1 hc2 hc3
        have HOld := jJ0 (show Old w w2 from Ho1.out.trans F2.out.kp (fun b hb h => by
          rcases h with h | h
          · have := HgO.out; omega
          · cases h))
        have Hq := jJ0 (show RB = some (be 2 er.toNat) by rw [HR.out, Option.bind_some, if_pos (by decide), List.append_nil])
        have hql : (be 2 er.toNat).length = 2 := jC _ _
        generalize be 2 er.toNat = q at *
        have HL := jJ0 (kA w2 g r2 q HW2.out)
        have HA := jJ0 (kP w2 g r2 q HW2.out (by omega))
        have Hql := jJ0 hql
        rw [hql] at HL
        clear hql
        go_wp2_with fail
        refine HL.out.mono ?_
        rintro e w4 ⟨rfl, rfl⟩
        go_wp2_with fail
        refine HA.out.mono ?_
        rintro e w5 ⟨A, c, rfl, hown, ho5⟩
        have Hend := jJ0 (show RepPost w RB (.returned (.tuple #[.slice A q.length c, .int .i64 0])) w5 from
          .inl ⟨q, A, c, Hq.out, by have := Hql.out; omega, rfl, Rd.of_own hown, fun hn ad e hx => own_av hown hn ad e (Nat.lt_of_lt_of_le hx HOld.out.size), own_cap hown, HOld.out.old ho5⟩)
        clear hown ho5
        go_wp2
        go_ret2
        exact Hend.out
    · have g2 : ¬ (op : Int) <= 2 := by omega
      rw [if_neg (fun h => h2 h.1)] at HB
      rw [HB.out] at HR
      clear HB hz hc1 hc2 hc3
      have HOld := jJ0 (show Old w w2 from Ho1.out.trans F2.out.kp (fun b hb h => by
        rcases h with h | h
        · have := HgO.out; omega
        · cases h))
      have Hq := jJ0 (show RB = some (be 2 er.toNat) by rw [HR.out, Option.bind_some, if_pos (by decide), List.append_nil])
      have hql : (be 2 er.toNat).length = 2 := jC _ _
      generalize be 2 er.toNat = q at *
      have HL := jJ0 (kA w2 g r2 q HW2.out)
      have HA := jJ0 (kP w2 g r2 q HW2.out (by omega))
      have Hql := jJ0 hql
      rw [hql] at HL
      clear hql
      go_wp2_with fail
      refine HL.out.mono ?_
      rintro e w4 ⟨rfl, rfl⟩
      go_wp2_with fail
      refine HA.out.mono ?_
      rintro e w5 ⟨A, c, rfl, hown, ho5⟩
      have Hend := jJ0 (show RepPost w RB (.returned (.tuple #[.slice A q.length c, .int .i64 0])) w5 from
        .inl ⟨q, A, c, Hq.out, by have := Hql.out; omega, rfl, Rd.of_own hown, fun hn ad e hx => own_av hown hn ad e (Nat.lt_of_lt_of_le hx HOld.out.size), own_cap hown, HOld.out.old ho5⟩)
      clear hown ho5
      go_wp2
      go_ret2
      exact Hend.out
theorem encrep_any (w : World) (op : Int) (m : MReply) (X : Nat -> Prop) (hok : m.Ok w X) : Calls Tryz.prog 7 #[.int .i64 op, .agg m.cells.toArray] w (RepPost w (encRep op m.data)) := by
  by_cases h : 1 <= op /\ op <= 12 /\ 0 <= m.err /\ m.err <= 65535
  · obtain ⟨n, rfl⟩ := Int.eq_ofNat_of_zero_le (show 0 <= op by omega)
    exact encrep_near w n m X hok (by omega) h.2.2
  · rw [show encRep op m.data = none from if_neg h]
    exact encrep_far w op m.cells m.err rfl h
def kv (bs : List UInt8) : Nat -> Rs -> List ByteArray -> List ByteArray × Rs
  | 0, s, acc => (acc, s)
  | n + 1, s, acc => kv bs n (jI bs s).2 (acc ++ [(jI bs s).1])
def kF (bs : List UInt8) (s : Rs) : List ByteArray × Rs := kv bs (tkN bs 1 s).1 (tkN bs 1 s).2 []
def TookL (w : World) (g : Nat) (bs : List UInt8) (ls : List ByteArray × Rs) (e : Ending) (w' : World) : Prop :=
  ∃ m : MTexts, m.l = ls.1 /\ e = .returned m.sl /\ m.Ok w' (fun k => k < w.heap.size) /\ Rr w' g bs ls.2 /\ Kp (RX g) w w'
theorem listed_any (w : World) (g : Nat) (bs : List UInt8) (s : Rs) (h : Rr w g bs s) :
    Calls Tryz.prog 139 #[.pointer (some ⟨g, 0, none⟩)] w (TookL w g bs (kF bs s)) := by
  have HT := jJ0 (show kF bs s = kv bs (tkN bs 1 s).1 (tkN bs 1 s).2 [] from rfl)
  have HN := jJ0 (kE bs 1 s)
  have hgl := h.lt
  have hbl := h.fits.2
  generalize kF bs s = LN at *
  have HP := jJ0 (jQ w g bs s h)
  clear h
  generalize tkN bs 1 s = t1 at *
  obtain ⟨n, s1⟩ := t1
  simp only at HT HN HP
  have hn : n < 256 := by have := HN.out; omega
  clear HN
  obtain ⟨i0, hi, hz0, hz1, hz2⟩ := info_parts Tryz.infoText
  go_enter Tryz.func139, Tryz.ntmps139
  go_wp2_with fail
  refine HP.out.mono ?_
  clear HP
  rintro e w1 ⟨rfl, hr1, hk1⟩
  have Hr1 := jJ0 hr1
  have Hk1 := jJ0 hk1
  clear hr1 hk1
  go_wp2_with fail
  go_loopw [6, 3] (fun i lv wr => ∃ (k : Nat) (acc : List ByteArray) (A : Option Addr) (c : Nat) (sr : Rs), k <= n /\ i = .int .u8 k /\ acc.length = k /\ lv = .slice A k c /\ wr.ownsRow w.heap.size 9 1 (.slice A k c) k (acc.map sv) /\ (∀ t ∈ acc, t.size <= 100000000) /\ Rr wr g bs sr /\ Kp (RX g) w wr /\ kv bs n s1 [] = kv bs (n - k) sr acc) (fun i _ _ => n - (intOf i).toNat)
  case atStart => exact ⟨0, [], none, 0, s1, by omega, rfl, rfl, rfl, World.ownsRow_nil _ _ _ _, fun t ht => (by cases ht), Hr1.out, Hk1.out, rfl⟩
  case round =>
    obtain ⟨k, acc, A, c, sr, hk, rfl, hacc, rfl, hown, hsm, hr, hkp, hgo⟩ := hrel
    have Hacc := jJ0 hacc
    have Hown := jJ0 hown
    have Hsm := jJ0 hsm
    have Hr := jJ0 hr
    have Hkp := jJ0 hkp
    have Hgo := jJ0 hgo
    clear hacc hown hsm hr hkp hgo Hr1 Hk1
    by_cases hlt : k < n
    · obtain ⟨m, hm⟩ : ∃ m, n - k = m + 1 := ⟨n - k - 1, by omega⟩
      rw [hm, kv] at Hgo
      have Hm := jJ0 hm
      clear hm
      have HW := jJ0 (kc wr g bs sr Hr.out)
      have Hws := jJ0 (kC bs sr)
      generalize jI bs sr = wn at *
      obtain ⟨x, s2⟩ := wn
      simp only at Hgo HW Hws
      have hk8 : IntKind.u8.wrap ((k : Int) + 1) = (k : Int) + 1 := IntWalk.u8_in _ (by omega)
      have H63 := jJ0 (show k + 1 <= maxLen by unfold maxLen; omega)
      have H47 := jJ0 (show (k + 1) * 16 <= 140737488355328 by omega)
      go_wp2_with fail
      refine HW.out.mono ?_
      rintro e w2 ⟨rfl, hr2, hk2⟩
      have Hk2 := jJ0 (Hkp.out.trans hk2 (fun _ _ e => e))
      have Ho2 := jJ0 (vr Hown.out hk2 (fun b e e' => by
        have := (ja Hown.out (by rw [<- jH]; exact e)).1
        have : b = g := e'
        omega))
      have Hr2 := jJ0 hr2
      clear hr2 hk2 HW
      go_wp2_with (first | (at_builtin; refine jO _ rfl (.tmp 8) (.tmp 11) 27 rfl w.heap.size 9 i0 _ 1 16 Tryz.underlying27 hi hz0 hz1 hz2 rfl (by decide) (.slice A k c) k (acc.map sv) rfl (Ho2.out.alloc _) _ 1 1 _ rfl (Rd.one_new _ _ _) (kz _ rfl) H63.out H47.out (Nat.le_trans Hk2.out.size (by simp)) ?_; intro A' c' w3 hown hgrow hat) | fail)
      rw [jH] at hgrow
      have Hnext := jJ0 (show Rr w3 g bs s2 /\ Kp (RX g) w w3 from by
        have k1 := vI hgrow
        have hge : ∀ b, A.map (·.block) = some b -> w.heap.size <= b := fun b e => (ja Ho2.out e).1
        exact ⟨(Hr2.out.old ((Kp.refl NoX w2).alloc _)).kp k1 (fun b hb e => by have := hge b e; omega), (Hk2.out.alloc _).trans k1 (fun b hb e => by have := hge b e; omega)⟩)
      have Hown3 := jJ0 hown
      clear hown hgrow hat
      go_wp2_with fail
      go_roundw
      case rel => exact ⟨k + 1, acc ++ [x], A', c', s2, by omega, by go_num, by rw [List.length_append, Hacc.out]; rfl, rfl, by rw [<- map_sv_snoc]; exact Hown3.out, fun t ht => by
        rcases List.mem_append.1 ht with ht | ht
        · exact Hsm.out t ht
        · rw [List.mem_singleton.1 ht]; have := Hws.out; omega, Hnext.out.1, Hnext.out.2, by rw [Hgo.out, show n - (k + 1) = m by have := Hm.out; omega]⟩
      case measure => simp [intOf]; omega
    · obtain rfl : k = n := by omega
      have Hfin := jJ0 (show LN = (acc, sr) by rw [HT.out, Hgo.out, Nat.sub_self]; rfl)
      go_wp2
      go_ret
      rw [Hfin.out]
      refine ⟨⟨acc, A, c⟩, rfl, by rw [MTexts.sl, Hacc.out]; rfl, ⟨by rw [Hacc.out]; exact Rd.of_own Hown.out, by rw [Hacc.out]; exact own_av Hown.out, by rw [Hacc.out]; exact own_cap Hown.out, fun j hj => ?_, by rw [Hacc.out]; omega⟩, Hr.out, Hkp.out⟩
      have hjj : acc.getD j ByteArray.empty = acc[j] := by simp only [List.getD, List.getElem?_eq_getElem hj, Option.getD_some]
      show (acc.getD j ByteArray.empty).size <= _
      rw [hjj]
      exact Nat.le_trans (Hsm.out (acc[j]'hj) (List.getElem_mem _)) (by decide)
end Go.Proofs.YtnaolhjbapgjgaaGreat
