import Derived.Test.YtmmjcbbogokmfaaGreatDoorMf01
import Derived.Test.YtmmjcbbogokmfaaGreatDoorMf10
set_option maxRecDepth 100000
set_option maxHeartbeats 25600000
namespace Go.Proofs.YtmmjcbbogokmfaaGreatDoor
open Go.RowKit
theorem Tryz.infoSym : (Tryz.prog.info? 163).map (fun i => (i.zero, i.size, i.bytes)) = some (some (.int .u8 0), 1, 1) := by kernel_rfl
def Stk (w : World) (st : List Nat) (A : Option Addr) (c : Nat) : Prop := w.ownsRow 8 163 1 (.slice A st.length c) st.length (st.reverse.map yv)
structure Mac (w : World) (g : Nat) (r : Option Nat) (src : ByteArray) (m : Mc) (A : Option Addr) (c : Nat) : Prop where
  low : 8 <= g
  blk : Blk w g 162 #[.string src, .int .i64 (m.at_ : Int), .slice A m.stack.length c, .int .u8 (m.fin : Int), .int .i64 (m.from_ : Int)]
  own : Stk w m.stack A c
  row : A.map (·.block) = r
  sym : ∀ n ∈ m.stack, n < 85
def MX (g : Nat) (r : Option Nat) : Nat -> Prop := fun k => k = g \/ some k = r
def MFr (w : World) (r r' : Option Nat) : Prop := r' = r \/ ∃ k, r' = some k /\ w.heap.size <= k
def MStep (w : World) (g : Nat) (r : Option Nat) (w' : World) (src : ByteArray) (m : Mc) : Prop := ∃ r' A c, Mac w' g r' src m A c /\ Kp (MX g r) w w' /\ MFr w r r'
theorem yv_inj {a b : Nat} (h : yv a = yv b) : a = b := by
  unfold yv at h
  injection h with _ h
  omega
theorem map_yv_inj : ∀ {a b : List Nat}, a.map yv = b.map yv -> a = b
  | [], [], _ => rfl
  | [], _ :: _, h => by cases h
  | _ :: _, [], h => by cases h
  | x :: a, y :: b, h => by
    rw [List.map_cons, List.map_cons] at h
    injection h with h1 h2
    rw [yv_inj h1, map_yv_inj h2]
theorem one_yv (l : List Nat) : ∀ u ∈ l.map yv, u.oneCell' = true := by
  intro u hu
  obtain ⟨b, _, rfl⟩ := List.mem_map.1 hu
  rfl
section
variable {w w1 w2 : World} {g : Nat} {r r1 : Option Nat} {src : ByteArray} {m m' : Mc} {st : List Nat} {A : Option Addr} {c n : Nat}
theorem Stk.pop (h : Stk w (n :: st) A c) : Stk w st A c := by
  obtain ⟨h1, h2⟩ := h
  refine ⟨by simp, ?_⟩
  rcases h2 with ⟨_, h0⟩ | ⟨g, cap, cur, hv, hb, hg, hn, hm, hs, htk⟩
  · simp at h0
  · injection hv with hA _ hc
    subst hA hc
    refine .inr ⟨g, c, cur, rfl, hb, hg, by simp at hn; omega, hm, hs, ?_⟩
    have e : cur.toList.take (st.length * 1) = (cur.toList.take ((n :: st).length * 1)).take (st.length * 1) := by
      rw [List.take_take, List.length_cons, Nat.min_eq_left (by omega)]
    rw [e, htk, List.reverse_cons, List.map_append]
    exact List.take_left' (by simp)
theorem Stk.cap (h : Stk w (n :: st) A c) : st.length <= c := by
  rcases h.2 with ⟨h1, h0⟩ | ⟨g', cap, cur, hv, _, _, h1, _⟩
  · cases h0
  · injection hv with _ _ hv
    subst hv
    simp only [List.length_cons] at h1
    omega
theorem Stk.rd (h : Stk w st A c) : Rd w 1 A st.length (st.reverse.map yv) := Rd.of_own h
theorem Stk.kp {X : Nat -> Prop} (h : Stk w st A c) (hk : Kp X w w1) (hx : ∀ k, A.map (·.block) = some k -> ¬ X k) : Stk w1 st A c :=
  jU h hk (fun k e => hx k (by rw [<- jA A st.length c]; exact e))
theorem Stk.at_ (h : Stk w st A c) (j : Nat) (hj : j < st.length) : ∃ b o, A = some ⟨b, o, none⟩ /\ w.cell? ⟨b, o + (st.length - 1 - j), none⟩ = some (yv (st.getD j 0)) := by
  obtain ⟨b, o, u, hA, hu, hc⟩ := h.rd.at_ (k := st.length - 1 - j) (by omega)
  refine ⟨b, o, hA, ?_⟩
  rw [List.getElem?_map, List.getElem?_reverse (by omega), show st.length - 1 - (st.length - 1 - j) = j by omega, List.getElem?_eq_getElem hj] at hu
  simp only [Option.map_some, Option.some.injEq] at hu
  rw [hc, <- hu]
  simp [List.getD, List.getElem?_eq_getElem hj]
theorem Mac.c0 (h : Mac w g r src m A c) : w.cell? ⟨g, 0, none⟩ = some (.string src) := h.blk.at_ 0 rfl
theorem Mac.c1 (h : Mac w g r src m A c) : w.cell? ⟨g, 1, none⟩ = some (.int .i64 (m.at_ : Int)) := h.blk.at_ 1 rfl
theorem Mac.c2 (h : Mac w g r src m A c) : w.cell? ⟨g, 2, none⟩ = some (.slice A m.stack.length c) := h.blk.at_ 2 rfl
theorem Mac.c3 (h : Mac w g r src m A c) : w.cell? ⟨g, 3, none⟩ = some (.int .u8 (m.fin : Int)) := h.blk.at_ 3 rfl
theorem Mac.c4 (h : Mac w g r src m A c) : w.cell? ⟨g, 4, none⟩ = some (.int .i64 (m.from_ : Int)) := h.blk.at_ 4 rfl
theorem Mac.z (h : Mac w g r src m A c) (i : Nat) : w.frozen? ⟨g, i, none⟩ = false := h.blk.frozen i
theorem Mac.ne (h : Mac w g r src m A c) : r ≠ some g := by
  have := jJ h.own h.blk (by decide)
  rw [jA, h.row] at this
  exact this
theorem Mac.lt (h : Mac w g r src m A c) : ∀ k, r = some k -> 8 <= k /\ k < w.heap.size := fun k hk => h.own.lt k (by rw [jA, h.row]; exact hk)
theorem Mac.kp {X : Nat -> Prop} (h : Mac w g r src m A c) (hk : Kp X w w1) (hg : ¬ X g) (hr : ∀ k, r = some k -> ¬ X k) : Mac w1 g r src m A c :=
  ⟨h.low, h.blk.kp hk hg, h.own.kp hk (fun k e => hr k (by rw [<- h.row]; exact e)), h.row, h.sym⟩
theorem Mac.old (h : Mac w g r src m A c) (hk : Old w w1) : Mac w1 g r src m A c := h.kp hk (fun f => f) (fun _ _ f => f)
theorem Mac.step (h : Mac w g r src m A c) : MStep w g r w src m := ⟨r, A, c, h, Kp.refl _ _, .inl rfl⟩
theorem MX.trans (hf : MFr w r r1) : ∀ b, b < w.heap.size -> MX g r1 b -> MX g r b := by
  intro b hb hx
  rcases hx with rfl | hx
  · exact .inl rfl
  · rcases hf with rfl | ⟨k, rfl, hle⟩
    · exact .inr hx
    · injection hx with hx; omega
theorem MFr.trans {r2 : Option Nat} (hf : MFr w r r1) (hs : w.heap.size <= w1.heap.size) (hf2 : MFr w1 r1 r2) : MFr w r r2 := by
  rcases hf2 with rfl | ⟨k, rfl, hle⟩
  · exact hf
  · exact .inr ⟨k, rfl, Nat.le_trans hs hle⟩
theorem MStep.trans (hk : Kp (MX g r) w w1) (hf : MFr w r r1) (h : MStep w1 g r1 w2 src m) : MStep w g r w2 src m := by
  obtain ⟨r2, A, c, hw, hk2, hf2⟩ := h
  exact ⟨r2, A, c, hw, hk.trans hk2 (MX.trans hf), hf.trans hk.size hf2⟩
theorem Sg.mx (h : Sg w) (hM : Mac w g r src m A c) (hk : Kp (MX g r) w w1) : Sg w1 := by
  have := hM.low
  refine h.kp hk ?_ ?_
  · rintro (e | e)
    · omega
    · have := hM.lt 0 e.symm; omega
  · rintro (e | e)
    · omega
    · have := hM.lt 2 e.symm; omega
theorem Mac.setAt (h : Mac w g r src m A c) (k : Nat) : Mac (w.setCell ⟨g, 1, none⟩ (.int .i64 (k : Int))) g r src { m with at_ := k } A c /\ Kp (MX g r) w (w.setCell ⟨g, 1, none⟩ (.int .i64 (k : Int))) := by
  have hk := (Kp.refl (fun b => b = g) w).setCell (p := ⟨g, 1, none⟩) (fun _ => rfl) (.int .i64 (k : Int))
  exact ⟨⟨h.low, by simpa using h.blk.set_ 1 (.int .i64 (k : Int)), h.own.kp hk (fun b e e' => h.ne (by rw [<- h.row, e, e'])), h.row, h.sym⟩, hk.mono (fun _ _ e => .inl e)⟩
theorem Mac.setFin (h : Mac w g r src m A c) (k : Nat) : Mac (w.setCell ⟨g, 3, none⟩ (.int .u8 (k : Int))) g r src { m with fin := k } A c /\ Kp (MX g r) w (w.setCell ⟨g, 3, none⟩ (.int .u8 (k : Int))) := by
  have hk := (Kp.refl (fun b => b = g) w).setCell (p := ⟨g, 3, none⟩) (fun _ => rfl) (.int .u8 (k : Int))
  exact ⟨⟨h.low, by simpa using h.blk.set_ 3 (.int .u8 (k : Int)), h.own.kp hk (fun b e e' => h.ne (by rw [<- h.row, e, e'])), h.row, h.sym⟩, hk.mono (fun _ _ e => .inl e)⟩
theorem Mac.setFrom (h : Mac w g r src m A c) (k : Nat) : Mac (w.setCell ⟨g, 4, none⟩ (.int .i64 (k : Int))) g r src { m with from_ := k } A c /\ Kp (MX g r) w (w.setCell ⟨g, 4, none⟩ (.int .i64 (k : Int))) := by
  have hk := (Kp.refl (fun b => b = g) w).setCell (p := ⟨g, 4, none⟩) (fun _ => rfl) (.int .i64 (k : Int))
  exact ⟨⟨h.low, by simpa using h.blk.set_ 4 (.int .i64 (k : Int)), h.own.kp hk (fun b e e' => h.ne (by rw [<- h.row, e, e'])), h.row, h.sym⟩, hk.mono (fun _ _ e => .inl e)⟩
theorem Mac.setPop (h : Mac w g r src m A c) (hm : m.stack = n :: st) : Mac (w.setCell ⟨g, 2, none⟩ (.slice A st.length c)) g r src { m with stack := st } A c /\ Kp (MX g r) w (w.setCell ⟨g, 2, none⟩ (.slice A st.length c)) := by
  have hk := (Kp.refl (fun b => b = g) w).setCell (p := ⟨g, 2, none⟩) (fun _ => rfl) (.slice A st.length c)
  have ho : Stk w st A c := (hm ▸ h.own : Stk w (n :: st) A c).pop
  exact ⟨⟨h.low, by simpa using h.blk.set_ 2 (.slice A st.length c), ho.kp hk (fun b e e' => h.ne (by rw [<- h.row, e, e'])), h.row, fun x hx => h.sym x (by rw [hm]; exact List.mem_cons_of_mem _ hx)⟩, hk.mono (fun _ _ e => .inl e)⟩
theorem Mac.put {wr wx : World} {A' : Option Addr} {c' k x : Nat} (h : Mac wr g r src m A c) (hk : m.stack.length = k) (hx : Old wr wx) (hx5 : x < 85)
    (hown : w1.ownsRow 8 163 1 (.slice A' (k + 1) c') (k + 1) (m.stack.reverse.map yv ++ [yv x])) (hg : wx.grownBy w1 (Value.slice A k c).ownBlock)
    (hat : A'.map (·.block) = (Value.slice A k c).ownBlock \/ A'.map (·.block) = some wx.heap.size) :
    MStep wr g r (w1.setCell ⟨g, 2, none⟩ (.slice A' (k + 1) c')) src { m with stack := x :: m.stack } := by
  subst hk
  rw [jA] at hat hg
  have hne := h.ne
  rw [<- h.row] at hne
  have hb1 := (h.blk.old hx).grown hg (fun e => hne e.symm)
  have hb2 := hb1.set_ 2 (.slice A' (m.stack.length + 1) c')
  have hgl := h.blk.lt
  refine ⟨A'.map (·.block), A', c', ⟨h.low, by simpa using hb2, ?_, rfl, ?_⟩, ?_, ?_⟩
  · show World.ownsRow _ 8 _ 1 (.slice A' (m.stack.length + 1) c') (m.stack.length + 1) _
    rw [List.reverse_cons, List.map_append]
    refine jU hown ((Kp.refl (fun k => k = g) _).setCell (p := ⟨g, 2, none⟩) (fun _ => rfl) _) ?_
    rw [jA]
    rintro k e rfl
    rcases hat with h1 | h1
    · rw [h1] at e; exact hne e
    · rw [h1] at e; injection e with e; have := hx.size; omega
  · intro n hn
    rcases List.mem_cons.1 hn with rfl | hn
    · exact hx5
    · exact h.sym n hn
  · rw [<- h.row]
    exact Kp.setCell (Kp.grown (hx.mono (Y := MX g (A.map (·.block))) (fun _ _ f => f.elim)) hg (fun k e _ => .inr e.symm)) (p := ⟨g, 2, none⟩) (fun _ => .inl rfl) _
  · rcases hat with h1 | h1
    · exact .inl (by rw [h1, h.row])
    · exact .inr ⟨_, h1, hx.size⟩
theorem Stk.uniq {st' : List Nat} (h : Stk w st A c) (h' : Stk w st' A c) (hl : st.length = st'.length) : st = st' := by
  have e : st.reverse.map yv = st'.reverse.map yv := by
    apply List.ext_getElem?
    intro j
    by_cases hj : j < st.length
    · obtain ⟨b, o, u, hA, hu, hc⟩ := h.rd.at_ (k := j) hj
      obtain ⟨b', o', u', hA', hu', hc'⟩ := h'.rd.at_ (k := j) (by omega)
      rw [hA] at hA'
      injection hA' with hA'
      injection hA' with h1 h2
      subst h1 h2
      rw [hc] at hc'
      rw [hu, hu', hc']
    · rw [List.getElem?_eq_none (by simpa using hj), List.getElem?_eq_none (by simp; omega)]
  have := map_yv_inj e
  exact List.reverse_inj.1 this
theorem Mac.uniq {src' : ByteArray} {A' : Option Addr} {c' : Nat} (h : Mac w g r src m A c) (h' : Mac w g r1 src' m' A' c') : m.stack = m'.stack := by
  have hb := h.blk
  have hb' := h'.blk
  unfold Blk at hb hb'
  rw [hb] at hb'
  injection hb' with e
  injection e with e _ _
  have e2 : (#[Value.string src, .int .i64 (m.at_ : Int), .slice A m.stack.length c, .int .u8 (m.fin : Int), .int .i64 (m.from_ : Int)])[2]? = (#[Value.string src', .int .i64 (m'.at_ : Int), .slice A' m'.stack.length c', .int .u8 (m'.fin : Int), .int .i64 (m'.from_ : Int)])[2]? := by rw [e]
  simp only [List.getElem?_toArray, List.getElem?_cons_succ, List.getElem?_cons_zero, Option.some.injEq, Value.slice.injEq] at e2
  obtain ⟨rfl, hl, rfl⟩ := e2
  exact h.own.uniq h'.own hl
end
def RowT (w : World) (l : List Nat) (e : Ending) (w' : World) : Prop := ∃ A c, e = .returned (.slice A l.length c) /\ Rd w' 1 A l.length (l.map yv) /\ Av (fun k => k < w.heap.size) l.length A /\ Old w w'
theorem RowT.none_ (w : World) {R : List Nat} (e : R = []) : RowT w R (.returned (.slice none 0 0)) w := ⟨none, 0, by rw [e]; rfl, by rw [e]; exact Rd.none_, (fun _ _ h => by cases h), Kp.refl _ _⟩
theorem RowT.of (w : World) (l : List Nat) {R : List Nat} (e : R = l) {cs : Array Value} (hc : cs = (l.map yv).toArray) {k : Nat} (hk : k = l.length) : RowT w R (.returned (.slice (some ⟨w.heap.size, 0, none⟩) k k)) (w.alloc (.cells cs 163)) := by
  subst e hc hk
  refine ⟨_, _, rfl, ⟨by simp, fun _ => ⟨_, _, rfl, fun j u hu => ?_⟩⟩, (fun _ ad e hlt => by injection e with e; subst e; exact Nat.lt_irrefl _ hlt), (Kp.refl _ _).alloc _⟩
  have := (Blk.new w 163 (R.map yv).toArray).at_ j (v := u) (by rw [List.getElem?_toArray]; exact hu)
  rw [Nat.zero_add]
  exact this
theorem declared24 (w : World) : Calls Tryz.prog 230 #[.int .u8 24] w (RowT w (jx 24)) := by
  go_enter Tryz.func230, Tryz.ntmps230
  go_wp2
  go_ret
  exact RowT.of w (jx 24) rfl rfl rfl
theorem declared25 (w : World) : Calls Tryz.prog 230 #[.int .u8 25] w (RowT w (jx 25)) := by
  go_enter Tryz.func230, Tryz.ntmps230
  go_wp2
  go_ret
  exact RowT.of w (jx 25) rfl rfl rfl
theorem declared26 (w : World) : Calls Tryz.prog 230 #[.int .u8 26] w (RowT w (jx 26)) := by
  go_enter Tryz.func230, Tryz.ntmps230
  go_wp2
  go_ret
  exact RowT.of w (jx 26) rfl rfl rfl
theorem declared27 (w : World) : Calls Tryz.prog 230 #[.int .u8 27] w (RowT w (jx 27)) := by
  go_enter Tryz.func230, Tryz.ntmps230
  go_wp2
  go_ret
  exact RowT.of w (jx 27) rfl rfl rfl
theorem declared_any9 (w : World) (t : Nat) : Calls Tryz.prog 230 #[yv t] w (RowT w (jx t)) := by
  by_cases h24 : t = 24
  · subst h24; exact declared24 w
  by_cases h25 : t = 25
  · subst h25; exact declared25 w
  by_cases h26 : t = 26
  · subst h26; exact declared26 w
  by_cases h27 : t = 27
  · subst h27; exact declared27 w
  have Hy := jJ0 (show jx t = [] by unfold jx; rw [if_neg h24, if_neg h25, if_neg h26, if_neg h27])
  have b24 : ((t : Int) == 24) = false := beq_eq_false_iff_ne.2 (by omega)
  have b25 : ((t : Int) == 25) = false := beq_eq_false_iff_ne.2 (by omega)
  have b26 : ((t : Int) == 26) = false := beq_eq_false_iff_ne.2 (by omega)
  have b27 : ((t : Int) == 27) = false := beq_eq_false_iff_ne.2 (by omega)
  clear h24 h25 h26 h27
  unfold yv
  go_enter Tryz.func230, Tryz.ntmps230
  go_wp2
  go_ret
  exact RowT.none_ w Hy.out
theorem atom1 (w : World) : Calls Tryz.prog 231 #[.int .u8 1] w (RowT w (jz 1)) := by
  go_enter Tryz.func231, Tryz.ntmps231
  go_wp2
  go_ret
  exact RowT.of w (jz 1) rfl rfl rfl
theorem atom2 (w : World) : Calls Tryz.prog 231 #[.int .u8 2] w (RowT w (jz 2)) := by
  go_enter Tryz.func231, Tryz.ntmps231
  go_wp2
  go_ret
  exact RowT.of w (jz 2) rfl rfl rfl
theorem atom3 (w : World) : Calls Tryz.prog 231 #[.int .u8 3] w (RowT w (jz 3)) := by
  go_enter Tryz.func231, Tryz.ntmps231
  go_wp2
  go_ret
  exact RowT.of w (jz 3) rfl rfl rfl
theorem atom4 (w : World) : Calls Tryz.prog 231 #[.int .u8 4] w (RowT w (jz 4)) := by
  go_enter Tryz.func231, Tryz.ntmps231
  go_wp2
  go_ret
  exact RowT.of w (jz 4) rfl rfl rfl
theorem atom6 (w : World) : Calls Tryz.prog 231 #[.int .u8 6] w (RowT w (jz 6)) := by
  go_enter Tryz.func231, Tryz.ntmps231
  go_wp2
  go_ret
  exact RowT.of w (jz 6) rfl rfl rfl
theorem atom31 (w : World) : Calls Tryz.prog 231 #[.int .u8 31] w (RowT w (jz 31)) := by
  go_enter Tryz.func231, Tryz.ntmps231
  go_wp2
  go_ret
  exact RowT.of w (jz 31) rfl rfl rfl
theorem atom46 (w : World) : Calls Tryz.prog 231 #[.int .u8 46] w (RowT w (jz 46)) := by
  go_enter Tryz.func231, Tryz.ntmps231
  go_wp2
  go_ret
  exact RowT.of w (jz 46) rfl rfl rfl
theorem atom47 (w : World) : Calls Tryz.prog 231 #[.int .u8 47] w (RowT w (jz 47)) := by
  go_enter Tryz.func231, Tryz.ntmps231
  go_wp2
  go_ret
  exact RowT.of w (jz 47) rfl rfl rfl
theorem atom48 (w : World) : Calls Tryz.prog 231 #[.int .u8 48] w (RowT w (jz 48)) := by
  go_enter Tryz.func231, Tryz.ntmps231
  go_wp2
  go_ret
  exact RowT.of w (jz 48) rfl rfl rfl
theorem atom49 (w : World) : Calls Tryz.prog 231 #[.int .u8 49] w (RowT w (jz 49)) := by
  go_enter Tryz.func231, Tryz.ntmps231
  go_wp2
  go_ret
  exact RowT.of w (jz 49) rfl rfl rfl
theorem atom50 (w : World) : Calls Tryz.prog 231 #[.int .u8 50] w (RowT w (jz 50)) := by
  go_enter Tryz.func231, Tryz.ntmps231
  go_wp2
  go_ret
  exact RowT.of w (jz 50) rfl rfl rfl
theorem atom51 (w : World) : Calls Tryz.prog 231 #[.int .u8 51] w (RowT w (jz 51)) := by
  go_enter Tryz.func231, Tryz.ntmps231
  go_wp2
  go_ret
  exact RowT.of w (jz 51) rfl rfl rfl
theorem atom52 (w : World) : Calls Tryz.prog 231 #[.int .u8 52] w (RowT w (jz 52)) := by
  go_enter Tryz.func231, Tryz.ntmps231
  go_wp2
  go_ret
  exact RowT.of w (jz 52) rfl rfl rfl
theorem atom53 (w : World) : Calls Tryz.prog 231 #[.int .u8 53] w (RowT w (jz 53)) := by
  go_enter Tryz.func231, Tryz.ntmps231
  go_wp2
  go_ret
  exact RowT.of w (jz 53) rfl rfl rfl
theorem atom54 (w : World) : Calls Tryz.prog 231 #[.int .u8 54] w (RowT w (jz 54)) := by
  go_enter Tryz.func231, Tryz.ntmps231
  go_wp2
  go_ret
  exact RowT.of w (jz 54) rfl rfl rfl
theorem atom55 (w : World) : Calls Tryz.prog 231 #[.int .u8 55] w (RowT w (jz 55)) := by
  go_enter Tryz.func231, Tryz.ntmps231
  go_wp2
  go_ret
  exact RowT.of w (jz 55) rfl rfl rfl
theorem atom56 (w : World) : Calls Tryz.prog 231 #[.int .u8 56] w (RowT w (jz 56)) := by
  go_enter Tryz.func231, Tryz.ntmps231
  go_wp2
  go_ret
  exact RowT.of w (jz 56) rfl rfl rfl
theorem atom57 (w : World) : Calls Tryz.prog 231 #[.int .u8 57] w (RowT w (jz 57)) := by
  go_enter Tryz.func231, Tryz.ntmps231
  go_wp2
  go_ret
  exact RowT.of w (jz 57) rfl rfl rfl
theorem atom_any9 (w : World) (t : Nat) : Calls Tryz.prog 231 #[yv t] w (RowT w (jz t)) := by
  by_cases h1 : t = 1
  · subst h1; exact atom1 w
  by_cases h2 : t = 2
  · subst h2; exact atom2 w
  by_cases h3 : t = 3
  · subst h3; exact atom3 w
  by_cases h4 : t = 4
  · subst h4; exact atom4 w
  by_cases h6 : t = 6
  · subst h6; exact atom6 w
  by_cases h31 : t = 31
  · subst h31; exact atom31 w
  by_cases h46 : t = 46
  · subst h46; exact atom46 w
  by_cases h47 : t = 47
  · subst h47; exact atom47 w
  by_cases h48 : t = 48
  · subst h48; exact atom48 w
  by_cases h49 : t = 49
  · subst h49; exact atom49 w
  by_cases h50 : t = 50
  · subst h50; exact atom50 w
  by_cases h51 : t = 51
  · subst h51; exact atom51 w
  by_cases h52 : t = 52
  · subst h52; exact atom52 w
  by_cases h53 : t = 53
  · subst h53; exact atom53 w
  by_cases h54 : t = 54
  · subst h54; exact atom54 w
  by_cases h55 : t = 55
  · subst h55; exact atom55 w
  by_cases h56 : t = 56
  · subst h56; exact atom56 w
  by_cases h57 : t = 57
  · subst h57; exact atom57 w
  have Hy := jJ0 (show jz t = [] by unfold jz; rw [if_neg (by omega), if_neg (by omega), if_neg (by omega), if_neg (by omega), if_neg (by omega), if_neg (by omega), if_neg (by omega)])
  have b1 : ((t : Int) == 1) = false := beq_eq_false_iff_ne.2 (by omega)
  have b2 : ((t : Int) == 2) = false := beq_eq_false_iff_ne.2 (by omega)
  have b3 : ((t : Int) == 3) = false := beq_eq_false_iff_ne.2 (by omega)
  have b4 : ((t : Int) == 4) = false := beq_eq_false_iff_ne.2 (by omega)
  have b6 : ((t : Int) == 6) = false := beq_eq_false_iff_ne.2 (by omega)
  have b31 : ((t : Int) == 31) = false := beq_eq_false_iff_ne.2 (by omega)
  have b46 : ((t : Int) == 46) = false := beq_eq_false_iff_ne.2 (by omega)
  have b47 : ((t : Int) == 47) = false := beq_eq_false_iff_ne.2 (by omega)
  have b48 : ((t : Int) == 48) = false := beq_eq_false_iff_ne.2 (by omega)
  have b49 : ((t : Int) == 49) = false := beq_eq_false_iff_ne.2 (by omega)
  have b50 : ((t : Int) == 50) = false := beq_eq_false_iff_ne.2 (by omega)
  have b51 : ((t : Int) == 51) = false := beq_eq_false_iff_ne.2 (by omega)
  have b52 : ((t : Int) == 52) = false := beq_eq_false_iff_ne.2 (by omega)
  have b53 : ((t : Int) == 53) = false := beq_eq_false_iff_ne.2 (by omega)
  have b54 : ((t : Int) == 54) = false := beq_eq_false_iff_ne.2 (by omega)
  have b55 : ((t : Int) == 55) = false := beq_eq_false_iff_ne.2 (by omega)
  have b56 : ((t : Int) == 56) = false := beq_eq_false_iff_ne.2 (by omega)
  have b57 : ((t : Int) == 57) = false := beq_eq_false_iff_ne.2 (by omega)
  clear h1 h2 h3 h4 h6 h31 h46 h47 h48 h49 h50 h51 h52 h53 h54 h55 h56 h57
  unfold yv
  go_enter Tryz.func231, Tryz.ntmps231
  go_wp2
  go_ret
  exact RowT.none_ w Hy.out
end Go.Proofs.YtmmjcbbogokmfaaGreatDoor
