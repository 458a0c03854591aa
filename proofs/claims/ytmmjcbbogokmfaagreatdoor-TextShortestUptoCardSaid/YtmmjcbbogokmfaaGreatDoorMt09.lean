import Derived.Test.YtmmjcbbogokmfaaGreatDoorMt01
import Derived.WalkKit
import Derived.WalkSpells
import Derived.WalkLawsBesides
import Derived.Maps.AppendAt
import Derived.Deep.AppendLies
import Derived.Deep.Draws
import Derived.Deep.RegionHeld3
import Derived.Deep.DrawnRows
import Derived.Deep.QuietTactic
import Derived.BigQuiet
import Derived.Lib.Hide
import Derived.Lib.AppendStr
import Derived.Lib.ConvBytes
import Derived.Laws.IdiomStrings
import Derived.Deep.RegionLaw
import Derived.IntWalk
import Derived.Test.YtmmjcbbogokmfaaGreatDoorRows
set_option maxRecDepth 100000
set_option maxHeartbeats 25600000
namespace Go.Proofs.YtmmjcbbogokmfaaGreatDoor
open Go.RowKit
def bv (b : UInt8) : Value := .int .u8 (b.toNat : Int)
def sv (s : ByteArray) : Value := .string s
structure Kp (X : Nat -> Prop) (w w' : World) : Prop where
  os : w'.os = w.os
  tape : w'.tape = w.tape
  output : w'.output = w.output
  size : w.heap.size <= w'.heap.size
  block : ∀ k, k < w.heap.size -> ¬ X k -> w'.heap[k]? = w.heap[k]?
def NoX : Nat -> Prop := fun _ => False
abbrev Old (w w' : World) : Prop := Kp NoX w w'
namespace Kp
variable {X Y : Nat -> Prop} {w w1 w2 : World}
theorem refl (X : Nat -> Prop) (w : World) : Kp X w w := ⟨rfl, rfl, rfl, Nat.le_refl _, fun _ _ _ => rfl⟩
theorem trans (h : Kp X w w1) (k : Kp Y w1 w2) (hxy : ∀ b, b < w.heap.size -> Y b -> X b) : Kp X w w2 :=
  ⟨k.os.trans h.os, k.tape.trans h.tape, k.output.trans h.output, Nat.le_trans h.size k.size,
    fun b hb hx => (k.block b (Nat.lt_of_lt_of_le hb h.size) (fun hy => hx (hxy b hb hy))).trans (h.block b hb hx)⟩
theorem old (h : Kp X w w1) (k : Old w1 w2) : Kp X w w2 := h.trans k (fun _ _ hf => hf.elim)
theorem mono (h : Kp X w w1) (hxy : ∀ b, b < w.heap.size -> X b -> Y b) : Kp Y w w1 :=
  ⟨h.os, h.tape, h.output, h.size, fun b hb hy => h.block b hb (fun hx => hy (hxy b hb hx))⟩
theorem drew (h : Kp X w w1) : Kp X w w1.drew := ⟨h.os, h.tape, h.output, h.size, h.block⟩
theorem drewN (h : Kp X w w1) (n : Nat) : Kp X w (w1.drewN n) := ⟨h.os, h.tape, h.output, h.size, h.block⟩
theorem alloc (h : Kp X w w1) (o : Obj) : Kp X w (w1.alloc o) :=
  ⟨h.os, h.tape, h.output, Nat.le_trans h.size (by simp), fun b hb hx => (Below.heap_alloc w1 o b (Nat.lt_of_lt_of_le hb h.size)).trans (h.block b hb hx)⟩
theorem setCell (h : Kp X w w1) {p : Addr} (hp : p.block < w.heap.size -> X p.block) (u : Value) : Kp X w (w1.setCell p u) :=
  ⟨h.os, h.tape, h.output, by simpa [World.setCell] using h.size, fun b hb hx => (Below.heap_setCell w1 p u b (by
    rintro rfl
    exact hx (hp hb))).trans (h.block b hb hx)⟩
theorem grown (h : Kp X w w1) {row : Option Nat} (hg : w1.grownBy w2 row) (hr : ∀ k, row = some k -> k < w.heap.size -> X k) : Kp X w w2 :=
  ⟨hg.os.trans h.os, hg.tape.trans h.tape, hg.output.trans h.output, Nat.le_trans h.size hg.size,
    fun b hb hx => (hg.block b (Nat.lt_of_lt_of_le hb h.size) (fun e => hx (hr b e.symm hb))).trans (h.block b hb hx)⟩
theorem below (h : Old w w1) : Below w.heap.size w w1 := ⟨h.os, h.tape, h.output, h.size, fun k hk => h.block k hk (fun hf => hf)⟩
theorem of_below (h : Below w.heap.size w w1) : Kp X w w1 := ⟨h.os, h.tape, h.output, h.size, fun k hk _ => h.block k hk⟩
theorem head (h : Below w.heap.size w w1) (k : Kp X w1 w2) : Kp X w w2 :=
  ⟨k.os.trans h.os, k.tape.trans h.tape, k.output.trans h.output, Nat.le_trans h.size k.size,
    fun b hb hx => (k.block b (Nat.lt_of_lt_of_le hb h.size) hx).trans (h.block b hb)⟩
end Kp
theorem jk {w : World} {p : Addr} {v : Value} (h : w.cell? p = some v) : p.block < w.heap.size := World.block_lt_of_cell? w p h
def Rd (w : World) (size : Nat) (A : Option Addr) (n : Nat) (xs : List Value) : Prop :=
  xs.length = n * size /\ (0 < n -> ∃ b o, A = some ⟨b, o, none⟩ /\ ∀ j u, xs[j]? = some u -> w.cell? ⟨b, o + j, none⟩ = some u)
def Av (X : Nat -> Prop) (n : Nat) (A : Option Addr) : Prop := 0 < n -> ∀ ad, A = some ad -> ¬ X ad.block
section
variable {w w' : World} {X : Nat -> Prop} {size n : Nat} {A : Option Addr} {xs : List Value}
theorem Av.no (n : Nat) (A : Option Addr) : Av NoX n A := fun _ _ _ h => h
theorem Rd.none_ : Rd w size A 0 [] := ⟨by simp, fun h => absurd h (by omega)⟩
theorem Rd.len (h : Rd w 1 A n xs) : xs.length = n := by have := h.1; omega
theorem Rd.at_ {k : Nat} (h : Rd w 1 A n xs) (hk : k < n) : ∃ b o u, A = some ⟨b, o, none⟩ /\ xs[k]? = some u /\ w.cell? ⟨b, o + k, none⟩ = some u := by
  obtain ⟨b, o, e, hc⟩ := h.2 (by omega)
  have hl : k < xs.length := by have := h.1; omega
  exact ⟨b, o, xs[k], e, List.getElem?_eq_getElem hl, hc k _ (List.getElem?_eq_getElem hl)⟩
theorem Rd.keep (h : Rd w size A n xs) (hk : 0 < n -> ∀ p v, w.cell? p = some v -> A.map (·.block) = some p.block -> w'.cell? p = some v) : Rd w' size A n xs :=
  ⟨h.1, fun hn => by
    obtain ⟨b, o, e, hc⟩ := h.2 hn
    exact ⟨b, o, e, fun j u hu => hk hn _ _ (hc j u hu) (by rw [e]; rfl)⟩⟩
theorem Rd.kp (h : Rd w size A n xs) (hk : Kp X w w') (ha : Av X n A) : Rd w' size A n xs :=
  h.keep fun hn p v hp hA => by
    rw [World.cell?_of_block (hk.block p.block (jk hp) ?_)]
    · exact hp
    · intro hx
      cases A with
      | none => simp at hA
      | some ad => simp at hA; exact ha hn ad rfl (by rw [hA]; exact hx)
theorem Rd.old (h : Rd w size A n xs) (hk : Old w w') : Rd w' size A n xs := h.kp hk (Av.no n A)
theorem Rd.drew (h : Rd w size A n xs) : Rd w.drew size A n xs := h
theorem Rd.drewN (h : Rd w size A n xs) (k : Nat) : Rd (w.drewN k) size A n xs := h
theorem Rd.alloc (h : Rd w size A n xs) (o : Obj) : Rd (w.alloc o) size A n xs := h.old ((Kp.refl _ _).alloc o)
theorem Rd.below (h : Rd w size A n xs) (hb : Below w.heap.size w w') : Rd w' size A n xs := h.old (Kp.of_below hb)
theorem Rd.take_ (h : Rd w size A n xs) {k : Nat} (hk : k <= n) : Rd w size A k (xs.take (k * size)) := by
  refine ⟨by rw [List.length_take, h.1]; exact Nat.min_eq_left (Nat.mul_le_mul_right _ hk), fun hn => ?_⟩
  obtain ⟨b, o, rfl, hcell⟩ := h.2 (by omega)
  refine ⟨b, o, rfl, fun j u hu => hcell j u ?_⟩
  rw [List.getElem?_take] at hu
  split at hu
  · exact hu
  · cases hu
theorem Rd.of_own {base : Nat} {e : TypeId} {c : Nat} (h : w.ownsRow base e size (.slice A n c) n xs) : Rd w size A n xs := by
  refine ⟨h.1, fun hn => ?_⟩
  obtain ⟨g, cap, hv, _, hlt⟩ := h.form hn
  have hA : A = some ⟨g, 0, none⟩ := by injection hv
  subst hA
  refine ⟨g, 0, rfl, fun j u hu => ?_⟩
  have := h.cells (g := g) rfl j u hu
  rwa [Addr.add_lit] at this
theorem Rd.lt (h : Rd w size A n xs) (hs : 0 < size) (hn : 0 < n) {ad : Addr} (e : A = some ad) : ad.block < w.heap.size := by
  obtain ⟨b, o, e', hc⟩ := h.2 hn
  have h0 : 0 < xs.length := by rw [h.1]; exact Nat.mul_pos hn hs
  have := jk (hc 0 xs[0] (List.getElem?_eq_getElem h0))
  rw [e'] at e
  injection e with e
  subst e
  exact this
theorem Rd.of_add {ad : Addr} (hl : xs.length = n * size) (hs : 0 < size) (hc : ∀ j u, xs[j]? = some u -> w.cell? (ad.add j) = some u) : Rd w size (some ad) n xs := by
  refine ⟨hl, fun hn => ?_⟩
  have h0 : 0 < xs.length := by rw [hl]; exact Nat.mul_pos hn hs
  have h1 := hc 0 xs[0] (List.getElem?_eq_getElem h0)
  obtain ⟨b, o, sp⟩ := ad
  cases sp with
  | none => exact ⟨b, o, rfl, fun j u hu => by have := hc j u hu; rwa [Addr.add_lit] at this⟩
  | some sp => simp [Addr.add, World.cell?] at h1; split at h1 <;> cases h1
end
theorem own_form {w : World} {base : Nat} {e : TypeId} {size : Nat} {v : Value} {n : Nat} {xs : List Value} (h : w.ownsRow base e size v n xs) :
    ∃ A c, v = .slice A n c /\ v.ownBlock = A.map (·.block) := by
  rcases h.2 with ⟨rfl, rfl⟩ | ⟨g, cap, cur, rfl, _⟩
  · exact ⟨none, 0, rfl, rfl⟩
  · exact ⟨_, _, rfl, rfl⟩
def Blk (w : World) (g : Nat) (t : TypeId) (cs : Array Value) : Prop := w.heap[g]? = some (.cells cs t (0, 0))
section
variable {w w' : World} {X : Nat -> Prop} {g : Nat} {t : TypeId} {cs : Array Value}
theorem Blk.lt (h : Blk w g t cs) : g < w.heap.size := by
  rcases Nat.lt_or_ge g w.heap.size with hlt | hge
  · exact hlt
  · unfold Blk at h; rw [Array.getElem?_eq_none hge] at h; cases h
theorem Blk.cell (h : Blk w g t cs) (i : Nat) : w.cell? ⟨g, i, none⟩ = cs[i]? := cell_of_row w g i cs t (0, 0) h
theorem Blk.at_ (h : Blk w g t cs) (i : Nat) {v : Value} (e : cs[i]? = some v) : w.cell? ⟨g, i, none⟩ = some v := (h.cell i).trans e
theorem Blk.frozen (h : Blk w g t cs) (i : Nat) : w.frozen? ⟨g, i, none⟩ = false := by
  unfold Blk at h
  simp [World.frozen?, h]
theorem Blk.new (w : World) (t : TypeId) (cs : Array Value) : Blk (w.alloc (.cells cs t)) w.heap.size t cs := heap_alloc_new w _
theorem Blk.drew (h : Blk w g t cs) : Blk w.drew g t cs := h
theorem Blk.drewN (h : Blk w g t cs) (n : Nat) : Blk (w.drewN n) g t cs := h
theorem Blk.alloc (h : Blk w g t cs) (o : Obj) : Blk (w.alloc o) g t cs := (Below.heap_alloc w o g h.lt).trans h
theorem Blk.set_ (h : Blk w g t cs) (i : Nat) (u : Value) : Blk (w.setCell ⟨g, i, none⟩ u) g t (cs.setIfInBounds i u) := by
  unfold Blk at h ⊢
  simp [World.setCell, Array.getElem?_modify, h]
theorem Blk.far (h : Blk w g t cs) {p : Addr} (hp : g ≠ p.block) (u : Value) : Blk (w.setCell p u) g t cs := (Below.heap_setCell w p u g hp).trans h
theorem Blk.kp (h : Blk w g t cs) (hb : Kp X w w') (hg : ¬ X g) : Blk w' g t cs := (hb.block g h.lt hg).trans h
theorem Blk.old (h : Blk w g t cs) (hb : Old w w') : Blk w' g t cs := h.kp hb (fun hf => hf)
theorem Blk.grown {row : Option Nat} (h : Blk w g t cs) (hb : w.grownBy w' row) (hg : some g ≠ row) : Blk w' g t cs := (hb.block g h.lt hg).trans h
theorem Blk.ne_ {g' : Nat} {t' : TypeId} {cs' : Array Value} (h : Blk w g t cs) (h' : Blk w g' t' cs') (hne : t ≠ t') : g ≠ g' := by
  rintro rfl
  unfold Blk at h h'
  rw [h] at h'
  injection h' with h'
  injection h' with _ ht
  exact hne ht
theorem jM {base : Nat} {e : TypeId} {size n : Nat} {v : Value} {xs : List Value} (h : w.ownsRow base e size v n xs) (hg : Blk w g t cs) (hne : e ≠ t) : v.ownBlock ≠ some g := by
  rcases h.2 with ⟨rfl, _⟩ | ⟨g', cap, cur, rfl, _, hh, _⟩
  · simp [Value.ownBlock]
  · intro he
    have : g' = g := by simpa [Value.ownBlock] using he
    subst this
    exact Blk.ne_ (t := e) hh hg hne rfl
end
theorem jX {X : Nat -> Prop} {w w' : World} {base : Nat} {e : TypeId} {size : Nat} {v : Value} {n : Nat} {xs : List Value} (h : w.ownsRow base e size v n xs) (hk : Kp X w w')
    (hv : ∀ k, v.ownBlock = some k -> ¬ X k) : w'.ownsRow base e size v n xs := by
  refine ⟨h.1, ?_⟩
  rcases h.2 with hn | ⟨g, cap, cur, rfl, hb, hgg, rest⟩
  · exact .inl hn
  · refine .inr ⟨g, cap, cur, rfl, hb, ?_, rest⟩
    rw [hk.block g (Array.getElem?_eq_some_iff.1 hgg).1 (hv g rfl)]
    exact hgg
section
variable {P : Program} (w : World)
theorem run_append_of_nil (base : Nat) (t ty e : TypeId) (i : TypeInfo) (size : Nat) (ht : P.underlying t = some (.slice e)) (hi : P.info? e = some i)
    (v : Value) (n : Nat) (xs : List Value) (hown : w.ownsRow base e size v n xs) (c : Nat) : (Builtin.append_ #[t, t] ty #[v, .slice none 0 c]).run P w = .ok v w := by
  rcases hown.2 with ⟨rfl, rfl⟩ | ⟨g, cap, cur, rfl, _, _, hnc, _⟩
  · simp [Builtin.append_, run_underlying ht, sizeOf, typeInfo, hi, Builtin.lenOf, Builtin.firstCells]
  · simp [Builtin.append_, run_underlying ht, sizeOf, typeInfo, hi, Builtin.lenOf, Builtin.firstCells, hnc, storeCells]
theorem run_append_any (base : Nat) (t ty e : TypeId) (i : TypeInfo) (z : Value) (size bytes : Nat) (ht : P.underlying t = some (.slice e)) (hi : P.info? e = some i) (hz : i.zero = some z)
    (hsize : i.size = size) (hby : i.bytes = bytes) (hzs : z.cells.size = size) (hsz : 0 < size)
    (v : Value) (n : Nat) (xs : List Value) (hown : w.ownsRow base e size v n xs)
    (A : Option Addr) (m c : Nat) (news : List Value) (hr : Rd w size A m news) (h1 : ∀ u ∈ news, u.oneCell' = true)
    (h63 : n + m <= maxLen) (hbytes : (n + m) * bytes <= 140737488355328) (hbase : base <= w.heap.size) :
    ∃ v' w', (Builtin.append_ #[t, t] ty #[v, .slice A m c]).run P w = .ok v' w' /\ w'.ownsRow base e size v' (n + m) (xs ++ news) /\ w.grownBy w' v.ownBlock /\
      (v'.ownBlock = v.ownBlock \/ v'.ownBlock = some w.heap.size) := by
  rcases A with _ | ad
  · have hm : m = 0 := by
      rcases Nat.eq_zero_or_pos m with h0 | h0
      · exact h0
      · obtain ⟨b, o, h, _⟩ := hr.2 h0
        cases h
    subst hm
    have hn : news = [] := List.eq_nil_of_length_eq_zero (by simpa using hr.1)
    subst hn
    exact ⟨v, w, run_append_of_nil w base t ty e i size ht hi v n xs hown c, by simpa using hown, World.grownBy.refl w _, .inl rfl⟩
  · have hcells : ∀ j u, news[j]? = some u -> w.cell? (ad.add j) = some u := by
      intro j u hu
      rcases Nat.eq_zero_or_pos m with h0 | h0
      · subst h0
        have hn : news = [] := List.eq_nil_of_length_eq_zero (by simpa using hr.1)
        subst hn
        simp at hu
      · obtain ⟨b, o, h, hc⟩ := hr.2 h0
        injection h with h
        subst h
        rw [Addr.add_lit]
        exact hc j u hu
    obtain ⟨v', w', hrun, h2, h3, _, h5⟩ := run_append_own_at (P := P) w base t ty e i z size bytes ht hi hz hsize hby hzs hsz v n xs hown ad m c news hr.1 hcells h1 h63 hbytes hbase
    exact ⟨v', w', hrun, h2, h3, h5⟩
theorem wp_append_any {o : Oper} {a : Act} {K : Act -> World -> Prop} {Q : Exit -> Act -> World -> Prop} (s x : Operand) (t : TypeId)
    (ho : o.op = .call { callee := .builtin .append, args := #[s, x], argTypes := #[t, t] })
    (base : Nat) (e : TypeId) (i : TypeInfo) (z : Value) (size bytes : Nat) (ht : P.underlying t = some (.slice e)) (hi : P.info? e = some i) (hz : i.zero = some z)
    (hsize : i.size = size) (hby : i.bytes = bytes) (hzs : z.cells.size = size) (hsz : 0 < size)
    (v : Value) (n : Nat) (xs : List Value) (hs : a.eval s = v) (hown : w.ownsRow base e size v n xs)
    (A : Option Addr) (m c : Nat) (news : List Value) (hx : a.eval x = .slice A m c) (hr : Rd w size A m news) (h1 : ∀ u ∈ news, u.oneCell' = true)
    (h63 : n + m <= maxLen) (hbytes : (n + m) * bytes <= 140737488355328) (hbase : base <= w.heap.size)
    (h : ∀ A' c' w', w'.ownsRow base e size (.slice A' (n + m) c') (n + m) (xs ++ news) -> w.grownBy w' v.ownBlock -> (A'.map (·.block) = v.ownBlock \/ A'.map (·.block) = some w.heap.size) -> K (a.put o.dst (.slice A' (n + m) c')) w') : o.wp P a w K Q := by
  obtain ⟨v', w', hrun, h2, h3, h4⟩ := run_append_any (P := P) w base t o.type e i z size bytes ht hi hz hsize hby hzs hsz v n xs hown A m c news hr h1 h63 hbytes hbase
  obtain ⟨A', c', rfl, hA⟩ := own_form h2
  unfold Oper.wp execOp
  simp only [ho, resolve, invoke, builtin, Sem.run_bind, Sem.run_pure, Result.andThen_ok, List.map_toArray, List.map_cons, List.map_nil, hs, hx, hrun]
  exact h A' c' w' h2 h3 (by rw [<- hA]; exact h4)
theorem jF {ops : Array Oper} {rest : List Oper} {o : Oper} {a : Act} {Q : Exit -> Act -> World -> Prop} (hgd : o.guard = none) (s x : Operand) (t : TypeId)
    (ho : o.op = .call { callee := .builtin .append, args := #[s, x], argTypes := #[t, t] })
    (base : Nat) (e : TypeId) (i : TypeInfo) (z : Value) (size bytes : Nat) (ht : P.underlying t = some (.slice e)) (hi : P.info? e = some i) (hz : i.zero = some z)
    (hsize : i.size = size) (hby : i.bytes = bytes) (hzs : z.cells.size = size) (hsz : 0 < size)
    (v : Value) (n : Nat) (xs : List Value) (hs : a.eval s = v) (hown : w.ownsRow base e size v n xs)
    (A : Option Addr) (m c : Nat) (news : List Value) (hx : a.eval x = .slice A m c) (hr : Rd w size A m news) (h1 : ∀ u ∈ news, u.oneCell' = true)
    (h63 : n + m <= maxLen) (hbytes : (n + m) * bytes <= 140737488355328) (hbase : base <= w.heap.size)
    (h : ∀ A' c' w', w'.ownsRow base e size (.slice A' (n + m) c') (n + m) (xs ++ news) -> w.grownBy w' v.ownBlock -> (A'.map (·.block) = v.ownBlock \/ A'.map (·.block) = some w.heap.size) -> wpList P ops Q rest (a.put o.dst (.slice A' (n + m) c')) w') : wpList P ops Q (o :: rest) a w :=
  wpList_plain hgd fun _ hK => wp_append_any w s x t ho base e i z size bytes ht hi hz hsize hby hzs hsz v n xs hs hown A m c news hx hr h1 h63 hbytes hbase fun A' c' w' h2 h3 h4 => hK _ _ (h A' c' w' h2 h3 h4)
theorem ju {ops : Array Oper} {o : Oper} {a : Act} {K : Act -> World -> Prop} {Q : Exit -> Act -> World -> Prop} {E : Prop} (hgd : o.guard = none) (s x : Operand) (t : TypeId)
    (ho : o.op = .call { callee := .builtin .append, args := #[s, x], argTypes := #[t, t] })
    (base : Nat) (e : TypeId) (i : TypeInfo) (z : Value) (size bytes : Nat) (ht : P.underlying t = some (.slice e)) (hi : P.info? e = some i) (hz : i.zero = some z)
    (hsize : i.size = size) (hby : i.bytes = bytes) (hzs : z.cells.size = size) (hsz : 0 < size)
    (v : Value) (n : Nat) (xs : List Value) (hs : a.eval s = v) (hown : w.ownsRow base e size v n xs)
    (A : Option Addr) (m c : Nat) (news : List Value) (hx : a.eval x = .slice A m c) (hr : Rd w size A m news) (h1 : ∀ u ∈ news, u.oneCell' = true)
    (h63 : n + m <= maxLen) (hbytes : (n + m) * bytes <= 140737488355328) (hbase : base <= w.heap.size)
    (h : ∀ A' c' w', w'.ownsRow base e size (.slice A' (n + m) c') (n + m) (xs ++ news) -> w.grownBy w' v.ownBlock -> (A'.map (·.block) = v.ownBlock \/ A'.map (·.block) = some w.heap.size) -> K (a.put o.dst (.slice A' (n + m) c')) w') :
    if Region.wanted o (yielded ops a.tmps) = true then Oper.wp P o a w K Q else E := by
  have hw : Region.wanted o (yielded ops a.tmps) = true := by simp [Region.wanted, hgd]
  rw [if_pos hw]
  exact wp_append_any w s x t ho base e i z size bytes ht hi hz hsize hby hzs hsz v n xs hs hown A m c news hx hr h1 h63 hbytes hbase h
end
theorem Rd.one_new (w : World) (t : TypeId) (u : Value) : Rd (w.alloc (.cells #[u] t)) 1 (some ⟨w.heap.size, 0, none⟩) 1 [u] := by
  refine ⟨rfl, fun _ => ⟨_, _, rfl, fun j v hv => ?_⟩⟩
  match j, hv with
  | 0, hv =>
    simp at hv
    subst hv
    simp
  | j + 1, hv => simp at hv
theorem jC (A : Option Addr) (n c : Nat) : (Value.slice A n c).ownBlock = A.map (·.block) := by cases A <;> rfl
theorem kL (v : Value) (h : v.oneCell' = true) : ∀ u ∈ [v], u.oneCell' = true := by
  intro u hu
  simp at hu
  subst hu
  exact h
theorem one_bytes (l : List UInt8) : ∀ u ∈ l.map bv, u.oneCell' = true := by
  intro u hu
  obtain ⟨b, _, rfl⟩ := List.mem_map.1 hu
  rfl
def sb (s : ByteArray) : List UInt8 := s.data.toList
theorem jA (s : ByteArray) : (sb s).length = s.size := by
  unfold sb
  rw [Array.length_toList]
  rfl
theorem strCells_sb (s : ByteArray) : Lib.strCells s = (sb s).map bv := rfl
theorem vr (l : List UInt8) : sb ⟨l.toArray⟩ = l := rfl
theorem mk_sb (s : ByteArray) : (⟨(sb s).toArray⟩ : ByteArray) = s := by
  unfold sb
  simp
theorem sb_inj {s t : ByteArray} (h : sb s = sb t) : s = t := by rw [<- mk_sb s, <- mk_sb t, h]
section
variable {P : Program} (w : World)
theorem run_append_str (base : Nat) (t u ty e : TypeId) (i : TypeInfo) (ht : P.underlying t = some (.slice e)) (hu : P.underlying u = some .string) (hi : P.info? e = some i) (hz : i.zero = some (.int .u8 0))
    (hsize : i.size = 1) (hby : i.bytes = 1)
    (v : Value) (n : Nat) (xs : List Value) (hown : w.ownsRow base e 1 v n xs) (s : ByteArray)
    (h63 : n + s.size <= maxLen) (hbytes : n + s.size <= 140737488355328) (hbase : base <= w.heap.size) :
    ∃ v' w', (Builtin.append_ #[t, u] ty #[v, .string s]).run P w = .ok v' w' /\ w'.ownsRow base e 1 v' (n + s.size) (xs ++ (sb s).map bv) /\ w.grownBy w' v.ownBlock /\
      (v'.ownBlock = v.ownBlock \/ v'.ownBlock = some w.heap.size) := by
  obtain ⟨v', w', hr, h2, h3, h4⟩ := Lib.run_append_own_string (P := P) w base t u ty e i ht hu hi hz hsize hby v n xs hown s h63 hbytes hbase
  rw [strCells_sb] at h2
  refine ⟨v', w', hr, h2, h3, ?_⟩
  have hsmall : n + s.size <= 9223372036854775807 := by simp only [maxLen] at h63; omega
  rcases hown.2 with ⟨rfl, rfl⟩ | ⟨g, cap, cur, rfl, hbg, hg, hnc, hcm, hcs, htake⟩
  · by_cases hm : s.size = 0
    · rw [h4.2 ⟨rfl, hm⟩]; exact .inl rfl
    · have hr2 := run_append_nil_string (P := P) w t u ty e i (.int .u8 0) ht hu hi hz s (by omega) (by omega) (by rw [hby]; omega)
      rw [hr] at hr2
      injection hr2 with hv _
      rw [hv]; exact .inr rfl
  · by_cases hroom : n + s.size <= cap
    · have hr2 := Lib.run_append_room_string (P := P) w t u ty e i ht hu hi hsize g n cap cur hg s hroom (by omega)
      rw [hr] at hr2
      injection hr2 with hv _
      rw [hv]; exact .inl rfl
    · have hxl : xs.length = n := by simpa using hown.1
      have holds : ∀ j u, xs[j]? = some u -> w.cell? ((⟨g, 0, none⟩ : Addr).add j) = some u := hown.cells (g := g) rfl
      have hr2 := Lib.run_append_grow_string (P := P) w t u ty e i (.int .u8 0) ht hu hi hz ⟨g, 0, none⟩ n cap xs (by rw [hsize]; simpa using hxl) holds s (by omega) (by omega) (by rw [hby]; exact growslice_fits (by omega) (by omega))
      rw [hr] at hr2
      injection hr2 with hv _
      rw [hv]; exact .inr rfl
theorem kO {ops : Array Oper} {rest : List Oper} {o : Oper} {a : Act} {Q : Exit -> Act -> World -> Prop} (hgd : o.guard = none) (sl x : Operand) (t u : TypeId)
    (ho : o.op = .call { callee := .builtin .append, args := #[sl, x], argTypes := #[t, u] })
    (base : Nat) (e : TypeId) (i : TypeInfo) (ht : P.underlying t = some (.slice e)) (hu : P.underlying u = some .string) (hi : P.info? e = some i) (hz : i.zero = some (.int .u8 0))
    (hsize : i.size = 1) (hby : i.bytes = 1)
    (v : Value) (n : Nat) (xs : List Value) (hs : a.eval sl = v) (hown : w.ownsRow base e 1 v n xs) (s : ByteArray) (hx : a.eval x = .string s)
    (h63 : n + s.size <= maxLen) (hbytes : n + s.size <= 140737488355328) (hbase : base <= w.heap.size)
    (h : ∀ A' c' w', w'.ownsRow base e 1 (.slice A' (n + s.size) c') (n + s.size) (xs ++ (sb s).map bv) -> w.grownBy w' v.ownBlock -> (A'.map (·.block) = v.ownBlock \/ A'.map (·.block) = some w.heap.size) -> wpList P ops Q rest (a.put o.dst (.slice A' (n + s.size) c')) w') : wpList P ops Q (o :: rest) a w := by
  refine wpList_plain hgd fun K hK => ?_
  obtain ⟨v', w', hr, h2, h3, h4⟩ := run_append_str (P := P) w base t u o.type e i ht hu hi hz hsize hby v n xs hown s h63 hbytes hbase
  obtain ⟨A', c', rfl, hA⟩ := own_form h2
  unfold Oper.wp execOp
  simp only [ho, resolve, invoke, builtin, Sem.run_bind, Sem.run_pure, Result.andThen_ok, List.map_toArray, List.map_cons, List.map_nil, hs, hx, hr]
  exact hK _ _ (h A' c' w' h2 h3 (by rw [<- hA]; exact h4))
theorem wpList_conv_sb {ops : Array Oper} {rest : List Oper} {d : Option Tmp} {ty : TypeId} {pos : String} {after : Array Edge} {x : Operand} {a : Act} {Q : Exit -> Act -> World -> Prop} {src dst e : TypeId}
    (hs : P.underlying src = some .string) (hd : P.underlying dst = some (.slice e)) (he : P.underlying e = some (.int .u8)) (s : ByteArray) (hx : a.eval x = .string s)
    (h : ∀ A c w', Rd w' 1 A s.size ((sb s).map bv) -> Old w w' -> Av (fun k => k < w.heap.size) s.size A -> wpList P ops Q rest (a.put d (.slice A s.size c)) w') :
    wpList P ops Q (⟨d, .convert src dst x, ty, pos, after, none⟩ :: rest) a w := by
  refine wpList_plain rfl fun K hK => ?_
  have hr := Lib.run_convert_string_bytes (P := P) w src dst e s hs hd he
  unfold Oper.wp execOp
  simp only [hx, hr, Sem.run_bind, Sem.run_pure, Result.andThen_ok]
  refine hK _ _ (h _ _ _ ⟨?_, fun _ => ⟨_, _, rfl, fun j u hu => ?_⟩⟩ ?_ ?_)
  · rw [List.length_map, jA, Nat.mul_one]
  · rw [List.getElem?_map] at hu
    obtain ⟨b, hb, rfl⟩ := Option.map_eq_some_iff.1 hu
    have hj : j < s.size := by
      rw [<- jA]
      exact (List.getElem?_eq_some_iff.1 hb).1
    simp only [Nat.zero_add]
    rw [Lib.bytesWorld_cell w e s j hj]
    unfold sb at hb
    simp [bv, List.getD, hb]
  · exact ⟨by simp [Lib.bytesWorld, World.freeze, World.alloc, World.drew, -World.alloc_eq, -World.drew_eq], by simp [Lib.bytesWorld, World.freeze, World.alloc, World.drew, -World.alloc_eq, -World.drew_eq],
      by simp [Lib.bytesWorld, World.freeze, World.alloc, World.drew, -World.alloc_eq, -World.drew_eq], by rw [Lib.bytesWorld_size]; omega, fun k hk _ => Lib.bytesWorld_at_old w e s k hk⟩
  · intro _ ad hA hlt
    injection hA with hA
    subst hA
    exact Nat.lt_irrefl _ hlt
theorem vu {src dst e : TypeId} (hs : P.underlying src = some (.slice e)) (he : P.underlying e = some (.int .u8)) (hd : P.underlying dst = some .string)
    (A : Option Addr) (n c : Nat) (l : List UInt8) (hr : Rd w 1 A n (l.map bv)) :
    (convert src dst (.slice A n c)).run P w = .ok (.string ⟨l.toArray⟩) w := by
  have hl : l.length = n := by simpa using hr.1
  cases A with
  | none =>
    have h0 : n = 0 := by
      rcases Nat.eq_zero_or_pos n with h | h
      · exact h
      · obtain ⟨b, o, h', _⟩ := hr.2 h
        cases h'
    have : l = [] := List.eq_nil_of_length_eq_zero (by omega)
    subst this
    rw [run_convert_bytes_string w src dst e none n c hs he hd]
    rfl
  | some ad =>
    subst hl
    refine run_convert_bytes_back w src dst e ad c l hs he hd (fun j hj => ?_)
    obtain ⟨b, o, h', hc⟩ := hr.2 (by omega)
    injection h' with h'
    subst h'
    rw [Addr.add_lit]
    exact hc j _ (by rw [List.getElem?_map, List.getElem?_eq_getElem hj]; rfl)
end
theorem at_conv {P : Program} {ops : Array Oper} {rest : List Oper} {d : Option Tmp} {ty : TypeId} {pos : String} {after : Array Edge} {gd : Option (Nat × Bool)} {x : Operand} {a : Act} {w : World} {Q : Exit -> Act -> World -> Prop} (src dst : TypeId)
    (h : wpList P ops Q (⟨d, .convert src dst x, ty, pos, after, gd⟩ :: rest) a w) : wpList P ops Q (⟨d, .convert src dst x, ty, pos, after, gd⟩ :: rest) a w := h
theorem retb {a b : Bool} (h : a = true ↔ b = true) : Ending.returned (.bool a) = Ending.returned (.bool b) := by rw [Bool.eq_iff_iff.2 h]
theorem letter_any (w : World) (c : UInt8) : Calls Tryz.prog 128 #[bv c] w fun e w' => e = .returned (.bool (letC c)) /\ w = w' := by
  have Hy := jJ0 (show letC c = decide (97 <= c.toNat /\ c.toNat <= 122) from rfl)
  have h8 := c.toNat_lt
  generalize letC c = R at *
  unfold bv
  generalize c.toNat = k at *
  go_enter Tryz.func128, Tryz.ntmps128
  go_wp2
  all_goals (go_ret; refine ⟨?_, rfl⟩; rw [Hy.out]; refine retb ?_; simp <;> omega)
theorem yN (w : World) (c : UInt8) : Calls Tryz.prog 158 #[bv c] w fun e w' => e = .returned (.bool (digC c)) /\ w = w' := by
  have Hy := jJ0 (show digC c = decide (48 <= c.toNat /\ c.toNat <= 57) from rfl)
  have h8 := c.toNat_lt
  generalize digC c = R at *
  unfold bv
  generalize c.toNat = k at *
  go_enter Tryz.func158, Tryz.ntmps158
  go_wp2
  all_goals (go_ret; refine ⟨?_, rfl⟩; rw [Hy.out]; refine retb ?_; simp <;> omega)
theorem vB (w : World) (c : UInt8) : Calls Tryz.prog 129 #[bv c] w fun e w' => e = .returned (.bool (jK c)) /\ w = w' := by
  have Hy := jJ0 (show jK c = (letC c || digC c || decide (c.toNat = 95)) from rfl)
  have H1 := jJ0 (letter_any w c)
  have H2 := jJ0 (yN w c)
  have h8 := c.toNat_lt
  generalize letC c = L at *
  generalize digC c = D at *
  generalize jK c = R at *
  unfold bv at *
  generalize c.toNat = k at *
  go_enter Tryz.func129, Tryz.ntmps129
  go_wp2_with fail
  refine H1.out.mono ?_
  rintro e w1 ⟨rfl, rfl⟩
  cases L
  · go_wp2_with fail
    refine H2.out.mono ?_
    rintro e w1 ⟨rfl, rfl⟩
    cases D
    · go_wp2
      all_goals (go_ret; refine ⟨?_, rfl⟩; rw [Hy.out]; refine retb ?_; simp <;> omega)
    · go_wp2
      all_goals (go_ret; refine ⟨?_, rfl⟩; rw [Hy.out]; rfl)
  · go_wp2
    all_goals (go_ret; refine ⟨?_, rfl⟩; rw [Hy.out]; rfl)
def wvs (l : List (List UInt8)) : List Value := l.map fun s => sv ⟨s.toArray⟩
structure Sg (w : World) : Prop where
  res : w.rangeAt 0 0 (wvs resL)
  sig : w.rangeAt 2 0 (wvs signL)
theorem rangeAt_kp {X : Nat -> Prop} {w w' : World} {b o : Nat} {cs : List Value} (h : w.rangeAt b o cs) (hk : Kp X w w') (hx : ¬ X b) : w'.rangeAt b o cs := fun j v hv => by
  have h1 := h j v hv
  rw [World.cell?_of_block (hk.block b (jk h1) hx)]
  exact h1
theorem Sg.kp {X : Nat -> Prop} {w w' : World} (h : Sg w) (hk : Kp X w w') (h0 : ¬ X 0) (h2 : ¬ X 2) : Sg w' := ⟨rangeAt_kp h.res hk h0, rangeAt_kp h.sig hk h2⟩
theorem Sg.old {w w' : World} (h : Sg w) (hk : Old w w') : Sg w' := h.kp hk (fun f => f) (fun f => f)
theorem idxFrom_skip (k : Nat) (w : List UInt8) (l : List (List UInt8)) (j : Nat) (hj : j < l.length) : jn (k + j) w (l.drop j) = if l[j] = w then k + j else jn (k + (j + 1)) w (l.drop (j + 1)) := by
  rw [List.drop_eq_getElem_cons hj, jn]
  rfl
theorem wvs_at (l : List (List UInt8)) (j : Nat) (hj : j < l.length) : (wvs l)[j]? = some (.string ⟨l[j].toArray⟩) := by
  unfold wvs
  rw [List.getElem?_map, List.getElem?_eq_getElem hj]
  rfl
theorem mk_eq {a : List UInt8} {s : ByteArray} : (⟨a.toArray⟩ : ByteArray) = s ↔ a = sb s := ⟨fun h => by rw [<- h]; rfl, fun h => by rw [h, mk_sb]⟩
theorem bytes_same {a b : ByteArray} (h : a.toList = b.toList) : a = b := by
  rw [ByteArray.toList_eq, ByteArray.toList_eq] at h
  exact sb_inj h
theorem at_loadE {P : Program} {ops : Array Oper} {rest : List Oper} {d : Option Tmp} {ty : TypeId} {pos : String} {after : Array Edge} {gd : Option (Nat × Bool)} {a : Act} {w : World} {Q : Exit -> Act -> World -> Prop} (t : TypeId) (x : Operand)
    (h : wpList P ops Q (⟨d, .load t x, ty, pos, after, gd⟩ :: rest) a w) : wpList P ops Q (⟨d, .load t x, ty, pos, after, gd⟩ :: rest) a w := h
theorem Tryz.load_w {ops : Array Oper} {rest : List Oper} {op : Oper} {a : Act} {w : World} {Q : Exit -> Act -> World -> Prop} (hw : Region.wanted op (yielded ops a.tmps) = true) (ty : TypeId) (x : Operand) (ho : op.op = .load ty x)
    (b o : Nat) (hx : a.eval x = .pointer (some ⟨b, o, none⟩)) (cs : List Value) (d : TypeDesc) (hc : w.rangeAt b o cs)
    (hu : Tryz.prog.underlying ty = some d) (hd : d.isRow = true) (hi : (Tryz.prog.info? ty).map (·.size) = some cs.length)
    (h : wpList Tryz.prog ops Q rest (a.put op.dst (.agg cs.toArray)) w) : wpList Tryz.prog ops Q (op :: rest) a w :=
  wpList_step fun K hK => by simp only [hw, if_true]; exact wp_load_mid ty x ho b o hx cs d hc hu hd hi (hK _ _ h)
theorem Tryz.size35 : (Tryz.prog.info? 205).map (·.size) = some 35 := by kernel_rfl
theorem Tryz.index35 (w : World) (cs : List Value) (j : Nat) (x : ByteArray) (hx : cs[j]? = some (.string x)) (hlt : j < 35) : (Instr.index 205 (.agg cs.toArray) (.int .i64 (j : Int))).run Tryz.prog w = .ok (.string x) w := by
  have h3 : (sizeOf 9).run Tryz.prog w = .ok 1 w := by kernel_rfl
  simp [Instr.index, asIntOf, run_underlying Tryz.underlying205, part, h3, hx, hlt]
theorem word_any9 (w : World) (hg : Sg w) (s : ByteArray) : Calls Tryz.prog 130 #[.string s] w fun e w' => e = .returned (.int .u8 (kj (sb s) : Nat)) /\ w = w' := by
  have Hy := jJ0 (show kj (sb s) = jn (23 + 0) (sb s) (resL.drop 0) from rfl)
  have Hres := jJ0 hg.res
  have Hx := jJ0 (fun j (hj : j < 35) => wvs_at resL j hj)
  have Hsk := jJ0 (fun j (hj : j < 35) => idxFrom_skip 23 (sb s) resL j hj)
  have Hsz := jJ0 (show (Tryz.prog.info? 205).map (·.size) = some (wvs resL).length from Tryz.size35)
  have Hend := jJ0 (show jn (23 + 35) (sb s) (resL.drop 35) = 0 from rfl)
  generalize kj (sb s) = R at *
  generalize hcs : wvs resL = cs at *
  clear hcs hg
  go_enter Tryz.func130, Tryz.ntmps130
  go_wp2_with (first | ((with_reducible refine at_loadE 205 (.global 0) ?_); refine Tryz.load_w rfl 205 (.global 0) rfl 0 0 rfl cs _ Hres.out Tryz.underlying205 rfl Hsz.out ?_) | fail)
  go_loop [6] (fun i => ∃ j : Nat, j <= 35 /\ i = .int .i64 j /\ R = jn (23 + j) (sb s) (resL.drop j)) (fun i => 35 - (intOf i).toNat)
  case atStart => exact ⟨0, by omega, rfl, Hy.out⟩
  case round =>
    obtain ⟨j, hj, rfl, hR⟩ := hrel
    by_cases hlt : j < 35
    · have hx := Hx.out j hlt
      have hsk := Hsk.out j hlt
      rw [hsk] at hR
      clear hsk
      generalize resL[j]'hlt = rw at *
      have b1 : (j : Int) < 35 := by omega
      have b2 : (0 : Int) <= (j : Int) := by omega
      have b3 : (j : Int).toNat = j := by omega
      have hix := fun w' => Tryz.index35 w' cs j _ hx hlt
      clear hx
      by_cases he : rw = sb s
      · rw [if_pos he] at hR
        rw [mk_eq.2 he] at hix
        clear he
        have HR := jJ0 hR
        clear hR
        have b4 : IntKind.u8.wrap (j : Int) = (j : Int) := IntWalk.u8_in _ (by omega)
        have b5 : IntKind.u8.wrap (23 + (j : Int)) = 23 + (j : Int) := IntWalk.u8_in _ (by omega)
        go_wp2
        go_ret
        exact ⟨by rw [HR.out]; simp, rfl⟩
      · rw [if_neg he] at hR
        have hne : ¬ (⟨rw.toArray⟩ : ByteArray) = s := fun h => he (mk_eq.1 h)
        clear he
        generalize (⟨rw.toArray⟩ : ByteArray) = x at *
        have HR := jJ0 hR
        clear hR
        have hne2 : (x.toList == s.toList) = false := beq_eq_false_iff_ne.2 (fun h => hne (bytes_same h))
        clear hne
        go_wp2
        exact ⟨⟨j + 1, by omega, by go_num, HR.out⟩, by simp [intOf]; omega⟩
    · obtain rfl : j = 35 := by omega
      rw [Hend.out] at hR
      have HR := jJ0 hR
      clear hR
      go_wp2
      go_ret
      exact ⟨by rw [HR.out]; rfl, rfl⟩
theorem Tryz.size19 : (Tryz.prog.info? 252).map (·.size) = some 19 := by kernel_rfl
theorem Tryz.index19 (w : World) (cs : List Value) (j : Nat) (x : ByteArray) (hx : cs[j]? = some (.string x)) (hlt : j < 19) : (Instr.index 252 (.agg cs.toArray) (.int .i64 (j : Int))).run Tryz.prog w = .ok (.string x) w := by
  have h3 : (sizeOf 9).run Tryz.prog w = .ok 1 w := by kernel_rfl
  simp [Instr.index, asIntOf, run_underlying Tryz.underlying252, part, h3, hx, hlt]
theorem sign_any9 (w : World) (hg : Sg w) (s : ByteArray) : Calls Tryz.prog 145 #[.string s] w fun e w' => e = .returned (.int .u8 (jS (sb s) : Nat)) /\ w = w' := by
  have Hy := jJ0 (show jS (sb s) = jn (4 + 0) (sb s) (signL.drop 0) from rfl)
  have Hres := jJ0 hg.sig
  have Hx := jJ0 (fun j (hj : j < 19) => wvs_at signL j hj)
  have Hsk := jJ0 (fun j (hj : j < 19) => idxFrom_skip 4 (sb s) signL j hj)
  have Hsz := jJ0 (show (Tryz.prog.info? 252).map (·.size) = some (wvs signL).length from Tryz.size19)
  have Hend := jJ0 (show jn (4 + 19) (sb s) (signL.drop 19) = 0 from rfl)
  generalize jS (sb s) = R at *
  generalize hcs : wvs signL = cs at *
  clear hcs hg
  go_enter Tryz.func145, Tryz.ntmps145
  go_wp2_with (first | ((with_reducible refine at_loadE 252 (.global 2) ?_); refine Tryz.load_w rfl 252 (.global 2) rfl 2 0 rfl cs _ Hres.out Tryz.underlying252 rfl Hsz.out ?_) | fail)
  go_loop [6] (fun i => ∃ j : Nat, j <= 19 /\ i = .int .i64 j /\ R = jn (4 + j) (sb s) (signL.drop j)) (fun i => 19 - (intOf i).toNat)
  case atStart => exact ⟨0, by omega, rfl, Hy.out⟩
  case round =>
    obtain ⟨j, hj, rfl, hR⟩ := hrel
    by_cases hlt : j < 19
    · have hx := Hx.out j hlt
      have hsk := Hsk.out j hlt
      rw [hsk] at hR
      clear hsk
      generalize signL[j]'hlt = rw at *
      have b1 : (j : Int) < 19 := by omega
      have b2 : (0 : Int) <= (j : Int) := by omega
      have b3 : (j : Int).toNat = j := by omega
      have hix := fun w' => Tryz.index19 w' cs j _ hx hlt
      clear hx
      by_cases he : rw = sb s
      · rw [if_pos he] at hR
        rw [mk_eq.2 he] at hix
        clear he
        have HR := jJ0 hR
        clear hR
        have b4 : IntKind.u8.wrap (j : Int) = (j : Int) := IntWalk.u8_in _ (by omega)
        have b5 : IntKind.u8.wrap (4 + (j : Int)) = 4 + (j : Int) := IntWalk.u8_in _ (by omega)
        go_wp2
        go_ret
        exact ⟨by rw [HR.out]; simp, rfl⟩
      · rw [if_neg he] at hR
        have hne : ¬ (⟨rw.toArray⟩ : ByteArray) = s := fun h => he (mk_eq.1 h)
        clear he
        generalize (⟨rw.toArray⟩ : ByteArray) = x at *
        have HR := jJ0 hR
        clear hR
        have hne2 : (x.toList == s.toList) = false := beq_eq_false_iff_ne.2 (fun h => hne (bytes_same h))
        clear hne
        go_wp2
        exact ⟨⟨j + 1, by omega, by go_num, HR.out⟩, by simp [intOf]; omega⟩
    · obtain rfl : j = 19 := by omega
      rw [Hend.out] at hR
      have HR := jJ0 hR
      clear hR
      go_wp2
      go_ret
      exact ⟨by rw [HR.out]; rfl, rfl⟩
end Go.Proofs.YtmmjcbbogokmfaaGreatDoor
