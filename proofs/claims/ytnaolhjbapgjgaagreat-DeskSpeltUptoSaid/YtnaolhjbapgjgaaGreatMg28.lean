import Derived.Test.YtnaolhjbapgjgaaGreatMg27
set_option maxRecDepth 100000
set_option maxHeartbeats 3200000
namespace Go.Proofs.YtnaolhjbapgjgaaGreat
open Go.RowKit
def zeroCasL : List Value := [.string ⟨#[]⟩, .string ⟨#[]⟩, .int .i64 0, .int .u8 0, .int .u8 0, .int .u8 0, .int .u8 0, .int .u8 0, .int .u8 0, .int .u8 0, .int .u8 0, .int .u8 0, .int .u8 0, .int .u8 0, .int .u8 0, .int .u8 0, .int .u8 0, .int .u8 0, .int .u8 0, .int .u8 0, .int .u8 0, .int .u8 0, .int .u8 0, .int .u8 0, .int .u8 0, .int .u8 0, .int .u8 0, .int .u8 0, .int .u8 0, .int .u8 0, .int .u8 0, .int .u8 0, .int .u8 0, .int .u8 0, .int .u8 0, .slice none 0 0, .slice none 0 0, .slice none 0 0, .slice none 0 0]
def zeroMT : MTexts := ⟨[], none, 0⟩
def zeroMC : MCase := ⟨⟨#[]⟩, ⟨#[]⟩, 0, zD, [], none, 0, zeroMT, zeroMT, zeroMT⟩
theorem zeroMC_cells : zeroMC.cells = zeroCasL := by
  simp only [zeroMC, MCase.cells, zD_cells]
  rfl
theorem zeroMT_ok (w : World) (X : Nat -> Prop) : zeroMT.Ok w X := ⟨Rd.none_, fun h => absurd h (by simp [zeroMT]), by decide, fun k hk => by simp [zeroMT] at hk, by decide⟩
def castX (C : Nat) (A : Option Addr) : Nat -> Prop := fun b => b <= C \/ A.map (·.block) = some b
structure CasSt (w : World) (g C : Nat) (bs : List UInt8) (m : MCase) (s : Rs) (wr : World) : Prop where
  st : TkR 43 zeroCasL w g bs s wr
  blk : Blk wr C 43 m.cells.toArray
  own : wr.ownsRow (C + 1) 108 5 (.slice m.vA m.values.length m.vC) m.values.length (m.values.flatMap MBind.cells)
  chain : m.chain.length = 32
  vals : ∀ v ∈ m.values, v.Ok wr (castX C m.vA)
  lt : w.heap.size < C
section
variable {w : World} {g C : Nat} {bs : List UInt8} {m : MCase} {s s' : Rs} {wr w' : World}
theorem CasSt.step (h : CasSt w g C bs m s wr) (hr : Rr w' g bs s') (hk : Kp (RX g) wr w') : CasSt w g C bs m s' w' :=
  ⟨h.st.step hr hk, h.blk.kp hk (fun e => by have : C = g := e; have := h.lt; have := h.st.lt; omega), vr h.own hk (fun b e e' => by
    have := (ja h.own (by rw [<- jH]; exact e)).1
    have : b = g := e'
    have := h.lt; have := h.st.lt; omega), h.chain, fun v hv => (h.vals v hv).turn hk (fun b _ e => .inl (by have : b = g := e; have := h.lt; have := h.st.lt; omega)) (fun _ _ e => e), h.lt⟩
theorem CasSt.old (h : CasSt w g C bs m s wr) (hk : Old wr w') : CasSt w g C bs m s w' :=
  ⟨h.st.still hk, h.blk.old hk, vr h.own hk (fun _ _ f => f), h.chain, fun v hv => (h.vals v hv).turn hk (fun _ _ f => f.elim) (fun _ _ e => e), h.lt⟩
theorem CasSt.turn {X : Nat -> Prop} {m' : MCase} (h : CasSt w g C bs m s wr) (hk : Kp X wr w') (hX : ∀ b, X b -> b = C) (hv : m'.values = m.values) (hA : m'.vA = m.vA) (hC : m'.vC = m.vC) (hb : Blk w' C 43 m'.cells.toArray) (hl : m'.chain.length = 32) : CasSt w g C bs m' s w' :=
  ⟨h.st.put hk (fun b e => by have := hX b e; have := h.lt; omega), hb, by
    rw [hv, hA, hC]
    exact vr h.own hk (fun b e e' => by
      have := (ja h.own (by rw [<- jH]; exact e)).1
      have := hX b e'
      omega), hl, by
    rw [hv, hA]
    exact fun v hv => (h.vals v hv).turn hk (fun b _ e => .inl (by have := hX b e; omega)) (fun _ _ e => e), h.lt⟩
theorem CasSt.type_ (h : CasSt w g C bs m s wr) (t : ByteArray) : CasSt w g C bs { m with type_ := t } s (wr.setCell ⟨C, 1, none⟩ (.string t)) :=
  h.turn ((Kp.refl (fun k => k = C) wr).setCell (p := ⟨C, 1, none⟩) (fun _ => rfl) _) (fun _ e => e) rfl rfl rfl (h.blk.set_ 1 _) h.chain
theorem CasSt.count (h : CasSt w g C bs m s wr) (n : Int) : CasSt w g C bs { m with count := n } s (wr.setCell ⟨C, 2, none⟩ (.int .i64 n)) :=
  h.turn ((Kp.refl (fun k => k = C) wr).setCell (p := ⟨C, 2, none⟩) (fun _ => rfl) _) (fun _ e => e) rfl rfl rfl (h.blk.set_ 2 _) h.chain
theorem CasSt.dig (h : CasSt w g C bs m s wr) (d : List UInt8) (hd : d.length = 32) : CasSt w g C bs { m with chain := d } s (wr.setCells C 3 (jB d)) :=
  h.turn (Kp.setCells C 3 _ wr) (fun _ e => e) rfl rfl rfl (by
    have := Blk.setCells (pre := [.string m.name, .string m.type_, .int .i64 m.count]) (mid := jB m.chain) (post := [.slice m.vA m.values.length m.vC, m.open_.sl, m.closed.sl, m.reached.sl]) (by simpa [MCase.cells] using h.blk) (jB d) (by rw [jD, jD, hd, h.chain])
    simpa [MCase.cells] using this) hd
theorem Blk.casV {vA : Option Addr} {vn vC : Nat} (h : Blk wr C 43 m.cells.toArray) (hl : m.chain.length = 32) : Blk (wr.setCell ⟨C, 35, none⟩ (.slice vA vn vC)) C 43 ([Value.string m.name, .string m.type_, .int .i64 m.count] ++ (jB m.chain ++ [.slice vA vn vC, m.open_.sl, m.closed.sl, m.reached.sl])).toArray := by
  have := Blk.setCells (pre := [.string m.name, .string m.type_, .int .i64 m.count] ++ jB m.chain) (mid := [.slice m.vA m.values.length m.vC]) (post := [m.open_.sl, m.closed.sl, m.reached.sl]) (by simpa [MCase.cells] using h) [.slice vA vn vC] rfl
  rw [List.length_append, jD, hl] at this
  have e : wr.setCells C 35 [.slice vA vn vC] = wr.setCell ⟨C, 35, none⟩ (.slice vA vn vC) := rfl
  simp only [List.length_cons, List.length_nil, Nat.reduceAdd, e] at this
  simpa using this
theorem CasSt.three (h : CasSt w g C bs m s wr) (a b c : MTexts) : CasSt w g C bs { m with open_ := a, closed := b, reached := c } s (((wr.setCell ⟨C, 36, none⟩ a.sl).setCell ⟨C, 37, none⟩ b.sl).setCell ⟨C, 38, none⟩ c.sl) :=
  h.turn ((((Kp.refl (fun k => k = C) wr).setCell (p := ⟨C, 36, none⟩) (fun _ => rfl) _).setCell (p := ⟨C, 37, none⟩) (fun _ => rfl) _).setCell (p := ⟨C, 38, none⟩) (fun _ => rfl) _) (fun _ e => e) rfl rfl rfl (by
    have := Blk.setCells (pre := [.string m.name, .string m.type_, .int .i64 m.count] ++ (jB m.chain ++ [.slice m.vA m.values.length m.vC])) (mid := [m.open_.sl, m.closed.sl, m.reached.sl]) (post := []) (by simpa [MCase.cells] using h.blk) [a.sl, b.sl, c.sl] rfl
    rw [List.length_append, List.length_append, jD, h.chain] at this
    have e : wr.setCells C 36 [a.sl, b.sl, c.sl] = ((wr.setCell ⟨C, 36, none⟩ a.sl).setCell ⟨C, 37, none⟩ b.sl).setCell ⟨C, 38, none⟩ c.sl := rfl
    simp only [List.length_cons, List.length_nil, Nat.reduceAdd, e] at this
    simpa [MCase.cells] using this) h.chain
theorem CasSt.grow {vA' : Option Addr} {vC' : Nat} {v : MBind} (h : CasSt w g C bs m s wr) (hg : wr.grownBy w' (m.vA.map (·.block))) (ha : vA'.map (·.block) = m.vA.map (·.block) \/ vA'.map (·.block) = some wr.heap.size)
    (ho : w'.ownsRow (C + 1) 108 5 (.slice vA' (m.values.length + 1) vC') (m.values.length + 1) ((m.values ++ [v]).flatMap MBind.cells)) (hv : v.Ok wr (castX C m.vA)) :
    CasSt w g C bs { m with values := m.values ++ [v], vA := vA', vC := vC' } s (w'.setCell ⟨C, 35, none⟩ (.slice vA' (m.values.length + 1) vC')) := by
  have hl : (m.values ++ [v]).length = m.values.length + 1 := by simp
  have hge : ∀ b, m.vA.map (·.block) = some b -> C + 1 <= b := fun b e => (ja h.own e).1
  have k1 : Kp (castX C m.vA) wr (w'.setCell ⟨C, 35, none⟩ (.slice vA' (m.values.length + 1) vC')) := ((vI hg).mono (fun b _ e => .inr e)).setCell (p := ⟨C, 35, none⟩) (fun _ => .inl (Nat.le_refl _)) _
  refine ⟨?_, ?_, ?_, h.chain, ?_, h.lt⟩
  · exact (h.st.put (vI hg) (fun b e => by have := hge b e; have := h.lt; omega)).put ((Kp.refl (fun k => k = C) w').setCell (p := ⟨C, 35, none⟩) (fun _ => rfl) _) (fun b e => by have := h.lt; omega)
  · have := (h.blk.kp (vI hg) (fun e => by have := hge _ e; omega)).casV (vA := vA') (vn := m.values.length + 1) (vC := vC') h.chain
    simp only [MCase.cells, hl]
    exact this
  · simp only [hl]
    exact vr ho ((Kp.refl (fun k => k = C) w').setCell (p := ⟨C, 35, none⟩) (fun _ => rfl) _) (fun b e e' => by
      have := (ja ho (by rw [<- jH]; exact e)).1
      omega)
  · intro u hu
    have hh : u.Ok wr (castX C m.vA) := by
      rcases List.mem_append.1 hu with hu | hu
      · exact h.vals u hu
      · rw [List.mem_singleton.1 hu]; exact hv
    exact hh.turn k1 (fun _ _ e => e) (fun b hb e => by
      rcases e with e | e
      · exact .inl e
      · exact .inr (row_at ha hb e))
end
def vD (bs : List UInt8) : Nat -> Rs -> List (ByteArray × Val) -> List (ByteArray × Val) × Rs
  | 0, s, acc => (acc, s)
  | n + 1, s, acc => vD bs n (jN bs (jI bs s).2).2 (acc ++ [((jI bs s).1, (jN bs (jI bs s).2).1)])
def toldEnd (bs : List UInt8) (t : ByteArray) (n : Int) (d : List UInt8) (b : List (ByteArray × Val) × Rs) : Cas × Rs :=
  (⟨⟨#[]⟩, t, n, d, b.1, (kF bs b.2).1, (kF bs (kF bs b.2).2).1, (kF bs (kF bs (kF bs b.2).2).2).1⟩, (kF bs (kF bs (kF bs b.2).2).2).2)
def toldMid (bs : List UInt8) (t : ByteArray) (n : Int) (d : List UInt8 × Rs) : Cas × Rs := toldEnd bs t n d.1 (vD bs (tkN bs 1 d.2).1 (tkN bs 1 d.2).2 [])
def toldN (bs : List UInt8) (s : Rs) : Cas × Rs := toldMid bs (jI bs s).1 (numN bs (jI bs s).2).1 (digN bs (numN bs (jI bs s).2).2)
def TookC (w : World) (g : Nat) (bs : List UInt8) (cs : Cas × Rs) (e : Ending) (w' : World) : Prop :=
  ∃ m : MCase, m.data = cs.1 /\ e = .returned (.agg m.cells.toArray) /\ m.Ok w' (fun k => k < w.heap.size) /\ Rr w' g bs cs.2 /\ Kp (RX g) w w'
theorem Tryz.infoBind : (Tryz.prog.info? 108).map (fun i => (i.zero, i.size, i.bytes)) = some (some (.agg #[.string ⟨#[]⟩, .int .i64 0, .int .i64 0, .string ⟨#[]⟩, .slice none 0 0]), 5, 72) := by kernel_rfl
theorem MBind.one (m : MBind) : ∀ u ∈ m.cells, u.oneCell' = true := by
  intro u hu
  simp only [MBind.cells, MVal.cells, List.mem_cons, List.not_mem_nil, or_false] at hu
  rcases hu with rfl | rfl | rfl | rfl | rfl <;> rfl
def ToldRel (w : World) (g C : Nat) (bs : List UInt8) (t : ByteArray) (n : Int) (d : List UInt8) (c : Nat) (s0 : Rs) (k : Nat) (wr : World) : Prop :=
  ∃ (vs : List MBind) (vA : Option Addr) (vC : Nat) (s : Rs), CasSt w g C bs ⟨⟨#[]⟩, t, n, d, vs, vA, vC, zeroMT, zeroMT, zeroMT⟩ s wr /\ vs.length = k /\ k <= c /\ vD bs c s0 [] = vD bs (c - k) s (vs.map MBind.data)
theorem MCase.one (m : MCase) : m.cells.toArray.all (·.oneCell') = true := by
  refine all_oneCell_toArray (fun v hv => ?_)
  simp only [MCase.cells, List.mem_append, List.mem_cons, List.not_mem_nil, or_false] at hv
  rcases hv with (rfl | rfl | rfl) | hv | rfl | rfl | rfl | rfl
  · rfl
  · rfl
  · rfl
  · exact jr _ v hv
  · rfl
  · rfl
  · rfl
  · rfl
theorem Tryz.wl_bind1 {ops : Array Oper} {rest : List Oper} {o : Oper} {a : Act} {w : World} {Q : Exit -> Act -> World -> Prop} (hg : o.guard = none) (x : Operand) (ho : o.op = .buildSlice 41 1 #[(0, x)]) (p : MBind)
    (hx : a.eval x = .agg p.cells.toArray) (h : wpList Tryz.prog ops Q rest (a.put o.dst (.slice (some ⟨w.heap.size, 0, none⟩) 1 1)) (w.alloc (.cells p.cells.toArray 108))) : wpList Tryz.prog ops Q (o :: rest) a w := by
  refine wpList_plain hg fun K hK => ?_
  have hr : (Instr.buildSlice 41 1 #[(0, .agg p.cells.toArray)]).run Tryz.prog w = .ok (.slice (some ⟨w.heap.size, 0, none⟩) 1 1) (w.alloc (.cells p.cells.toArray 108)) := by
    obtain ⟨i, hi, hz, hs, hb⟩ := info_parts Tryz.infoBind
    refine run_buildSlice w 41 108 1 _ _ i _ Tryz.underlying41 hi hz (by rw [hs]; simp) (by rw [hs]; omega) ?_
    rw [hs]
    have := Great.fill_whole (s := 5) (by decide) [.agg p.cells.toArray] ((Array.range (1 * 5)).map ((Value.agg #[.string ⟨#[]⟩, .int .i64 0, .int .i64 0, .string ⟨#[]⟩, .slice none 0 0]).cells[· % (Value.agg #[.string ⟨#[]⟩, .int .i64 0, .int .i64 0, .string ⟨#[]⟩, .slice none 0 0]).cells.size]!)) (fun v hv => by rw [List.mem_singleton.1 hv]; rfl) (by simp)
    simpa [Value.cells] using this
  unfold Oper.wp execOp
  simp only [ho, Sem.run_bind, List.map_toArray, List.map_cons, List.map_nil, hx, hr, Result.andThen_ok]
  exact hK _ _ h
theorem told_any (w : World) (g : Nat) (bs : List UInt8) (s : Rs) (h : Rr w g bs s) :
    Calls Tryz.prog 89 #[.pointer (some ⟨g, 0, none⟩)] w (TookC w g bs (toldN bs s)) := by
  have HT := jJ0 (show toldN bs s = toldMid bs (jI bs s).1 (numN bs (jI bs s).2).1 (digN bs (numN bs (jI bs s).2).2) from rfl)
  have hgl := h.lt
  have hbl := h.fits.2
  have HS := jJ0 (show CasSt w g (w.heap.size + 1) bs zeroMC s ((w.alloc (.cells #[.string ⟨#[]⟩, .string ⟨#[]⟩, .int .i64 0, .int .u8 0, .int .u8 0, .int .u8 0, .int .u8 0, .int .u8 0, .int .u8 0, .int .u8 0, .int .u8 0, .int .u8 0, .int .u8 0, .int .u8 0, .int .u8 0, .int .u8 0, .int .u8 0, .int .u8 0, .int .u8 0, .int .u8 0, .int .u8 0, .int .u8 0, .int .u8 0, .int .u8 0, .int .u8 0, .int .u8 0, .int .u8 0, .int .u8 0, .int .u8 0, .int .u8 0, .int .u8 0, .int .u8 0, .int .u8 0, .int .u8 0, .int .u8 0, .slice none 0 0, .slice none 0 0, .slice none 0 0, .slice none 0 0] 43)).alloc (.cells #[.string ⟨#[]⟩, .string ⟨#[]⟩, .int .i64 0, .int .u8 0, .int .u8 0, .int .u8 0, .int .u8 0, .int .u8 0, .int .u8 0, .int .u8 0, .int .u8 0, .int .u8 0, .int .u8 0, .int .u8 0, .int .u8 0, .int .u8 0, .int .u8 0, .int .u8 0, .int .u8 0, .int .u8 0, .int .u8 0, .int .u8 0, .int .u8 0, .int .u8 0, .int .u8 0, .int .u8 0, .int .u8 0, .int .u8 0, .int .u8 0, .int .u8 0, .int .u8 0, .int .u8 0, .int .u8 0, .int .u8 0, .int .u8 0, .slice none 0 0, .slice none 0 0, .slice none 0 0, .slice none 0 0] 43)) from by
    have hb0 := Blk.new w 43 zeroCasL.toArray
    have hb1 := Blk.new (w.alloc (.cells zeroCasL.toArray 43)) 43 zeroCasL.toArray
    rw [show (w.alloc (.cells zeroCasL.toArray 43)).heap.size = w.heap.size + 1 by simp] at hb1
    exact ⟨⟨hb0.alloc _, h.old (((Kp.refl NoX w).alloc _).alloc _), ((Kp.refl _ w).alloc _).alloc _, h.lt⟩, by rw [zeroMC_cells]; exact hb1, World.ownsRow_nil _ _ _ _, kg, fun v hv => (by cases hv), Nat.lt_succ_self _⟩)
  generalize toldN bs s = TV at *
  clear h
  go_enter Tryz.func89, Tryz.ntmps89
  go_wp2_with fail
  generalize (w.alloc _).alloc _ = W at *
  have HW := jJ0 (fun W' (hR : Rr W' g bs s) => kc W' g bs s hR)
  have Hw1 := jJ0 (kC bs s)
  refine (HW.out _ HS.out.st.rr).mono ?_
  clear HW
  generalize jI bs s = t1 at *
  obtain ⟨ty, s1⟩ := t1
  simp only at HT Hw1 ⊢
  rintro e w1 ⟨rfl, hr1, hk1⟩
  replace HS := jJ0 (HS.out.step hr1 hk1)
  clear hr1 hk1
  have HW := jJ0 (fun W' (hR : Rr W' g bs s1) => kZ W' g bs s1 hR)
  go_wp2_with fail
  refine (HW.out _ HS.out.st.rr).mono ?_
  clear HW
  generalize numN bs s1 = t2 at *
  obtain ⟨n, s2⟩ := t2
  simp only at HT ⊢
  rintro e w2 ⟨rfl, hr1, hk1⟩
  replace HS := jJ0 (HS.out.step hr1 hk1)
  clear hr1 hk1
  have HW := jJ0 (fun W' (hR : Rr W' g bs s2) => vT W' g bs s2 hR)
  have HL := jJ0 (vH bs s2)
  unfold toldMid at HT
  go_wp2_with fail
  refine (HW.out _ HS.out.st.rr).mono ?_
  clear HW
  generalize digN bs s2 = t3 at *
  obtain ⟨d, s3⟩ := t3
  simp only at HT HL ⊢
  rintro e w3 ⟨rfl, hr1, hk1⟩
  replace HS := jJ0 (HS.out.step hr1 hk1)
  clear hr1 hk1
  have u1 := HS.out.blk.at_ 1 (v := .string ⟨#[]⟩) rfl
  have z1 := HS.out.blk.frozen 1
  have u2 := HS.out.blk.at_ 2 (v := .int .i64 0) rfl
  have z2 := HS.out.blk.frozen 2
  have HS2 := jJ0 ((HS.out.type_ ty).count n)
  have Hth := jJ0 (HS2.out.blk.there 3 (jB d).toArray.size (by rw [List.size_toArray, List.size_toArray, MCase.len HS2.out.chain, jD, HL.out]; decide))
  have Hsz := jJ0 (show (Tryz.prog.info? 40).map (·.size) = some (jB d).length by rw [jD, HL.out]; exact Tryz.sizeDigest)
  have HS3 := jJ0 (HS2.out.dig d HL.out)
  have HW := jJ0 (fun W' (hR : Rr W' g bs s3) => jQ W' g bs s3 hR)
  have HN := jJ0 (kE bs 1 s3)
  go_wp2_with (first | ((with_reducible refine jE 40 (.tmp 15) (.tmp 12) ?_); refine wpList_store_mid rfl 40 (.tmp 15) (.tmp 12) rfl (w.heap.size + 1) 3 (jB d).toArray rfl rfl Hth.out Hsz.out (kn _) ?_) | fail)
  clear HS HS2 u1 z1 u2 z2 Hth Hsz
  have HS := jJ0 (show CasSt w g (w.heap.size + 1) bs ⟨⟨#[]⟩, ty, n, d, [], none, 0, zeroMT, zeroMT, zeroMT⟩ s3 _ from HS3.out)
  clear HS3
  generalize ((w3.setCell _ _).setCell _ _).setCells _ _ _ = W3 at *
  refine (HW.out _ HS.out.st.rr).mono ?_
  clear HW
  generalize tkN bs 1 s3 = t4 at *
  obtain ⟨c, s4⟩ := t4
  simp only at HT HN ⊢
  rintro e w4 ⟨rfl, hr1, hk1⟩
  replace HS := jJ0 (HS.out.step hr1 hk1)
  have hcn : c < 256 := by have := HN.out; omega
  clear hr1 hk1 HN
  generalize hCC : w.heap.size + 1 = C at *
  have HC := jJ0 hCC
  clear hCC
  obtain ⟨i0, hi, hz0, hz1, hz2⟩ := info_parts Tryz.infoBind
  go_wp2_with fail
  go_loopw [18] (fun i wr => ∃ k : Nat, i = .int .u8 k /\ ToldRel w g C bs ty n d c s4 k wr) (fun i _ => c - (intOf i).toNat)
  case atStart => exact ⟨0, rfl, [], none, 0, s4, HS.out, rfl, Nat.zero_le _, rfl⟩
  case round =>
    obtain ⟨k, rfl, vs, vA, vC, s, hS, hk1, hkc, hgo⟩ := hrel
    clear HS
    have HS := jJ0 hS
    have HK := jJ0 hk1
    have Hgo := jJ0 hgo
    clear hS hk1 hgo
    by_cases hlt : k < c
    · obtain ⟨q, hm⟩ : ∃ q, c - k = q + 1 := ⟨c - k - 1, by omega⟩
      rw [hm, vD] at Hgo
      have Hm := jJ0 hm
      clear hm
      have hk8 : IntKind.u8.wrap ((k : Int) + 1) = (k : Int) + 1 := IntWalk.u8_in _ (by omega)
      have HW := jJ0 (fun W' (hR : Rr W' g bs s) => kc W' g bs s hR)
      have Hws := jJ0 (kC bs s)
      go_wp2_with fail
      refine (HW.out _ HS.out.st.rr).mono ?_
      clear HW
      generalize jI bs s = t5 at *
      obtain ⟨nm, s5⟩ := t5
      simp only at Hgo Hws ⊢
      rintro e w5 ⟨rfl, hr1, hk1⟩
      replace HS := jJ0 (HS.out.step hr1 hk1)
      clear hr1 hk1
      have HW := jJ0 (fun W' (hR : Rr W' g bs s5) => takev_any W' g bs s5 hR)
      have Hvl := jJ0 (takeVal_len bs s5)
      go_wp2_with fail
      refine (HW.out _ HS.out.st.rr).mono ?_
      clear HW
      generalize jN bs s5 = t6 at *
      obtain ⟨⟨vk, vn, vt, vl⟩, s6⟩ := t6
      simp only at Hgo Hvl
      rintro e w6 ⟨A6, c6, he6, hrd6, hav6, hcap6, hr6, hk6⟩
      simp only [vV] at he6 hrd6 hav6 hcap6 hr6
      subst he6
      have Hv := jJ0 (show MBind.Ok w6 (castX C vA) ⟨nm, ⟨⟨vk, vn, vt, vl⟩, A6, c6⟩⟩ from ⟨⟨hrd6, fun hn ad e hx => hav6 hn ad e (by
        rcases hx with hx | hx
        · have := HS.out.blk.lt; omega
        · exact (ja HS.out.own hx).2), hcap6, by have := Hvl.out; simp only; omega⟩, by have := Hws.out; simp only; omega⟩)
      replace HS := jJ0 (HS.out.step hr6 hk6)
      clear hrd6 hav6 hcap6 hr6 hk6
      have hoA := (Kp.refl NoX w6).alloc (.cells #[.int .i64 vk, .int .i64 vn, .string vt, .slice A6 vl.length c6] 29)
      have HoA := jJ0 hoA
      replace Hv := jJ0 (Hv.out.turn (X' := castX C vA) hoA (fun _ _ f => f.elim) (fun _ _ e => e))
      replace HS := jJ0 (HS.out.old hoA)
      clear hoA
      have HbV := jJ0 (Blk.new w6 29 #[.int .i64 vk, .int .i64 vn, .string vt, .slice A6 vl.length c6])
      go_upto_region 7 with (fail)
      generalize w6.alloc _ = W6 at *
      generalize w6.heap.size = vb at *
      have v0 := HbV.out.at_ 0 (v := .int .i64 vk) rfl
      have v1 := HbV.out.at_ 1 (v := .int .i64 vn) rfl
      have v2 := HbV.out.at_ 2 (v := .string vt) rfl
      have v3 := HbV.out.at_ 3 (v := .slice A6 vl.length c6) rfl
      have HoV := jJ0 (show W6.ownsRow (C + 1) 108 5 (.slice vA k vC) k (vs.flatMap MBind.cells) from by have h := HS.out.own; simp only [HK.out] at h; exact h)
      have H63 := jJ0 (show k + 1 <= maxLen by unfold maxLen; omega)
      have H47 := jJ0 (show (k + 1) * 72 <= 140737488355328 by omega)
      have HbW := jJ0 (show C + 1 <= W6.heap.size from HS.out.blk.lt)
      have Hs35 := jJ0 (show (MCase.cells ⟨⟨#[]⟩, ty, n, d, vs, vA, vC, zeroMT, zeroMT, zeroMT⟩)[35]? = some (.slice vA k vC) by rw [<- HK.out]; exact kB [.string ⟨#[]⟩, .string ty, .int .i64 n] _ d HS.out.chain 35 0 rfl)
      have c35 := HS.out.blk.at_ 35 (by rw [List.getElem?_toArray]; exact Hs35.out)
      have z35 := HS.out.blk.frozen 35
      have HbA := jJ0 (HS.out.blk.alloc (.cells (MBind.cells ⟨nm, ⟨⟨vk, vn, vt, vl⟩, A6, c6⟩⟩).toArray 108))
      have HcA := jJ0 (HbA.out.at_ 35 (by rw [List.getElem?_toArray]; exact Hs35.out))
      have hne : some C ≠ (Value.slice vA k vC).ownBlock := by
        rw [jH]
        intro e
        have := (ja HoV.out e.symm).1
        omega
      go_wp2_with (first | refine Tryz.wl_bind1 rfl (.tmp 31) rfl ⟨nm, ⟨⟨vk, vn, vt, vl⟩, A6, c6⟩⟩ rfl ?_ | (at_builtin; refine jO _ rfl (.tmp 28) (.tmp 32) 41 rfl (C + 1) 108 i0 _ 5 72 Tryz.underlying41 hi hz0 hz1 hz2 rfl (by decide) (.slice vA k vC) k _ rfl (HoV.out.alloc _) _ 1 1 (MBind.cells ⟨nm, ⟨⟨vk, vn, vt, vl⟩, A6, c6⟩⟩) rfl (Rd.row_new _ _ 5 1 _ rfl) (MBind.one _) H63.out H47.out (Nat.le_trans HbW.out (by simp)) ?_; intro A7 c7 w8 hown hgrow hat; have hcc := hgrow.cell (a := ⟨C, 35, none⟩) HcA.out hne; have hzz : w8.frozen? ⟨C, 35, none⟩ = false := (World.frozen?_of_block (hgrow.block C HbA.out.lt hne)).trans (HbA.out.frozen 35)) | fail)
      rw [jH] at hgrow hat
      have hoB := (Kp.refl NoX W6).alloc (.cells (MBind.cells ⟨nm, ⟨⟨vk, vn, vt, vl⟩, A6, c6⟩⟩).toArray 108)
      have HSE := jJ0 ((HS.out.old hoB).grow (v := ⟨nm, ⟨⟨vk, vn, vt, vl⟩, A6, c6⟩⟩) hgrow hat (by simp only [HK.out, List.flatMap_append, List.flatMap_singleton]; exact hown) (Hv.out.turn hoB (fun _ _ f => f.elim) (fun _ _ e => e)))
      simp only [HK.out] at HSE
      have Hnext := jJ0 (fun (W' : World) (h : W' = w8.setCell ⟨C, 35, none⟩ (.slice A7 (k + 1) c7)) => show ToldRel w g C bs ty n d c s4 (k + 1) W' from
        ⟨vs ++ [⟨nm, ⟨⟨vk, vn, vt, vl⟩, A6, c6⟩⟩], A7, c7, s6, h ▸ HSE.out, by rw [List.length_append, HK.out]; rfl, by omega, by rw [Hgo.out, show c - (k + 1) = q by have := Hm.out; omega, List.map_append]; rfl⟩)
      clear hown hgrow hat H63 H47 HoV hoB HbW c35 z35 hne hcc hzz HS HbA HcA HSE Hs35 Hgo v0 v1 v2 v3
      go_roundw
      case rel => exact ⟨k + 1, by go_num, Hnext.out _ rfl⟩
      case measure => simp [intOf]; omega
    · obtain rfl : k = c := by omega
      have HT2 := jJ0 (show TV = toldEnd bs ty n d (vs.map MBind.data, s) by rw [HT.out, Hgo.out, Nat.sub_self]; rfl)
      unfold toldEnd at HT2
      simp only at HT2
      clear HT Hgo
      have HW := jJ0 (fun W' (hR : Rr W' g bs s) => listed_any W' g bs s hR)
      go_wp2_with fail
      refine (HW.out _ HS.out.st.rr).mono ?_
      clear HW
      generalize kF bs s = t5 at *
      obtain ⟨l5, s5⟩ := t5
      simp only at HT2
      rintro e w5 ⟨⟨k5, A5, c5⟩, hm5, rfl, hok5, hr1, hk1⟩
      simp only at hm5 hr1
      subst hm5
      simp only [MTexts.sl]
      have hX : ∀ b, b < w5.heap.size -> castX C vA b -> b < wr.heap.size := fun b _ hx => by
        rcases hx with hx | hx
        · have := HS.out.blk.lt; omega
        · exact (ja HS.out.own hx).2
      have H5 := jJ0 (hok5.turn (X' := castX C vA) (Kp.refl NoX w5) (fun _ _ f => f.elim) hX)
      replace HS := jJ0 (HS.out.step hr1 hk1)
      clear hr1 hk1 hok5 hX
      have HW := jJ0 (fun W' (hR : Rr W' g bs s5) => listed_any W' g bs s5 hR)
      go_wp2_with fail
      refine (HW.out _ HS.out.st.rr).mono ?_
      clear HW
      generalize kF bs s5 = t6 at *
      obtain ⟨l6, s6⟩ := t6
      simp only at HT2
      rintro e w6 ⟨⟨k6, A6, c6⟩, hm6, rfl, hok6, hr1, hk1⟩
      simp only at hm6 hr1
      subst hm6
      simp only [MTexts.sl]
      have hX : ∀ b, b < w6.heap.size -> castX C vA b -> b < w5.heap.size := fun b _ hx => by
        rcases hx with hx | hx
        · have := HS.out.blk.lt; omega
        · exact (ja HS.out.own hx).2
      have H6 := jJ0 (hok6.turn (X' := castX C vA) (Kp.refl NoX w6) (fun _ _ f => f.elim) hX)
      have hgC : g < C := by have := HS.out.lt; have := HS.out.st.lt; omega
      replace H5 := jJ0 (H5.out.turn (X' := castX C vA) hk1 (fun b _ e => .inl (by have : b = g := e; omega)) (fun _ _ e => e))
      replace HS := jJ0 (HS.out.step hr1 hk1)
      clear hr1 hk1 hok6 hX
      have HW := jJ0 (fun W' (hR : Rr W' g bs s6) => listed_any W' g bs s6 hR)
      go_wp2_with fail
      refine (HW.out _ HS.out.st.rr).mono ?_
      clear HW
      generalize kF bs s6 = t7 at *
      obtain ⟨l7, s7⟩ := t7
      simp only at HT2
      rintro e w7 ⟨⟨k7, A7, c7⟩, hm7, rfl, hok7, hr1, hk1⟩
      simp only at hm7 hr1
      subst hm7
      simp only [MTexts.sl]
      have hX : ∀ b, b < w7.heap.size -> castX C vA b -> b < w6.heap.size := fun b _ hx => by
        rcases hx with hx | hx
        · have := HS.out.blk.lt; omega
        · exact (ja HS.out.own hx).2
      have H7 := jJ0 (hok7.turn (X' := castX C vA) (Kp.refl NoX w7) (fun _ _ f => f.elim) hX)
      replace H5 := jJ0 (H5.out.turn (X' := castX C vA) hk1 (fun b _ e => .inl (by have : b = g := e; omega)) (fun _ _ e => e))
      replace H6 := jJ0 (H6.out.turn (X' := castX C vA) hk1 (fun b _ e => .inl (by have : b = g := e; omega)) (fun _ _ e => e))
      replace HS := jJ0 (HS.out.step hr1 hk1)
      clear hr1 hk1 hok7 hX
      have u36 := HS.out.blk.at_ 36 (by rw [List.getElem?_toArray]; exact kB [.string ⟨#[]⟩, .string ty, .int .i64 n] _ d HS.out.chain 35 1 rfl)
      have u37 := HS.out.blk.at_ 37 (by rw [List.getElem?_toArray]; exact kB [.string ⟨#[]⟩, .string ty, .int .i64 n] _ d HS.out.chain 35 2 rfl)
      have u38 := HS.out.blk.at_ 38 (by rw [List.getElem?_toArray]; exact kB [.string ⟨#[]⟩, .string ty, .int .i64 n] _ d HS.out.chain 35 3 rfl)
      have z36 := HS.out.blk.frozen 36
      have z37 := HS.out.blk.frozen 37
      have z38 := HS.out.blk.frozen 38
      have HSE := jJ0 (HS.out.three ⟨k5, A5, c5⟩ ⟨k6, A6, c6⟩ ⟨k7, A7, c7⟩)
      have k3 := (((Kp.refl (fun b => b = C) w7).setCell (p := ⟨C, 36, none⟩) (fun _ => rfl) (.slice A5 k5.length c5)).setCell (p := ⟨C, 37, none⟩) (fun _ => rfl) (.slice A6 k6.length c6)).setCell (p := ⟨C, 38, none⟩) (fun _ => rfl) (.slice A7 k7.length c7)
      replace H5 := jJ0 (H5.out.turn (X' := castX C vA) k3 (fun b _ e => .inl (by omega)) (fun _ _ e => e))
      replace H6 := jJ0 (H6.out.turn (X' := castX C vA) k3 (fun b _ e => .inl (by omega)) (fun _ _ e => e))
      replace H7 := jJ0 (H7.out.turn (X' := castX C vA) k3 (fun b _ e => .inl (by omega)) (fun _ _ e => e))
      have Hrg := jJ0 HSE.out.blk.range
      have Hlen := jJ0 (MCase.len HSE.out.chain)
      have HHt := jJ0 (HSE.out.st.told (MCase.cells ⟨⟨#[]⟩, ty, n, d, vs, vA, vC, ⟨k5, A5, c5⟩, ⟨k6, A6, c6⟩, ⟨k7, A7, c7⟩⟩) (by rw [Hlen.out]; rfl))
      have Hend := jJ0 (fun w' (ht : ToldR 43 (MCase.cells ⟨⟨#[]⟩, ty, n, d, vs, vA, vC, ⟨k5, A5, c5⟩, ⟨k6, A6, c6⟩, ⟨k7, A7, c7⟩⟩) w g bs s7 (((w7.setCell ⟨C, 36, none⟩ (.slice A5 k5.length c5)).setCell ⟨C, 37, none⟩ (.slice A6 k6.length c6)).setCell ⟨C, 38, none⟩ (.slice A7 k7.length c7)) w') => show TookC w g bs TV (.returned (.agg (MCase.cells ⟨⟨#[]⟩, ty, n, d, vs, vA, vC, ⟨k5, A5, c5⟩, ⟨k6, A6, c6⟩, ⟨k7, A7, c7⟩⟩).toArray)) w' from by
        have hwC := HSE.out.lt
        have hy : ∀ b : Nat, b = w.heap.size -> castX C vA b := fun b e => .inl (by omega)
        have hx : ∀ b : Nat, b < w.heap.size -> castX C vA b := fun b e => .inl (by omega)
        refine ⟨⟨⟨#[]⟩, ty, n, d, vs, vA, vC, ⟨k5, A5, c5⟩, ⟨k6, A6, c6⟩, ⟨k7, A7, c7⟩⟩, by rw [HT2.out]; rfl, rfl, ⟨HSE.out.chain, fun v hv => (HSE.out.vals v hv).turn ht.st (fun b _ => hy b) (fun b _ => hx b), ?_, ?_, H5.out.turn ht.st (fun b _ => hy b) (fun b _ => hx b), H6.out.turn ht.st (fun b _ => hy b) (fun b _ => hx b), H7.out.turn ht.st (fun b _ => hy b) (fun b _ => hx b), ?_⟩, ?_, ht.kp⟩
        · exact (Rd.of_own HSE.out.own).kp ht.st (fun hn ad e hb => by
            have := (ja HSE.out.own (b := ad.block) (by rw [show vA = some ad from e]; rfl)).1
            have : ad.block = w.heap.size := hb
            omega)
        · exact fun hn ad e hb => by
            have := (ja HSE.out.own (b := ad.block) (by rw [show vA = some ad from e]; rfl)).1
            omega
        · refine ⟨?_, ?_, jg⟩
          · show vs.length <= _; have := HK.out; omega
          · have := Hw1.out; show ty.size <= _; omega
        · rw [HT2.out]; exact ht.rr)
      have Hone := jJ0 (MCase.one ⟨⟨#[]⟩, ty, n, d, vs, vA, vC, ⟨k5, A5, c5⟩, ⟨k6, A6, c6⟩, ⟨k7, A7, c7⟩⟩)
      generalize MCase.cells ⟨⟨#[]⟩, ty, n, d, vs, vA, vC, ⟨k5, A5, c5⟩, ⟨k6, A6, c6⟩, ⟨k7, A7, c7⟩⟩ = mc at *
      have Hsz2 := jJ0 (show (Tryz.prog.info? 43).map (·.size) = some mc.length by rw [Hlen.out]; kernel_rfl)
      have Hth := jJ0 (HSE.out.st.th mc (by rw [Hlen.out]; rfl))
      clear k3
      go_wp2_with (first | ((with_reducible refine jW 43 (.tmp 3) ?_); refine Tryz.load_w rfl 43 (.tmp 3) rfl C 0 rfl mc _ Hrg.out Tryz.underlying43 rfl Hsz2.out ?_) | ((with_reducible refine jE 43 (.tmp 2) (.tmp 45) ?_); refine wpList_store_mid rfl 43 (.tmp 2) (.tmp 45) rfl w.heap.size 0 mc.toArray rfl rfl Hth.out Hsz2.out Hone.out ?_) | fail)
      refine ret_cell (g := w.heap.size) (cs := mc.toArray) rfl rfl HHt.out.box Tryz.underlying43 rfl (by rw [List.size_toArray]; exact Hsz2.out) rfl ?_
      exact Hend.out _ HHt.out
def mwayOf (wA : Option Addr) (low : Nat) (p : Way) : MWay := ⟨p.a, p.b, p.ds, if p.ds.length = 0 then wA else wA.map (·.add (low * 32)), p.ds.length⟩
def jz (wA : Option Addr) : Nat -> List Way -> List MWay
  | _, [] => []
  | low, p :: ps => mwayOf wA low p :: jz wA (low + p.ds.length) ps
def vv (ps : List Way) (k : Nat) : Nat := (jk (ps.take k)).length
theorem kd (wA : Option Addr) : ∀ (ps : List Way) (low : Nat), (jz wA low ps).length = ps.length
  | [], _ => rfl
  | _ :: ps, _ => by simp [jz, kd wA ps]
theorem mwaysOf_get (wA : Option Addr) : ∀ (ps : List Way) (low k : Nat) (h : k < ps.length), (jz wA low ps)[k]'(by rw [kd]; exact h) = mwayOf wA (low + vv ps k) ps[k]
  | [], _, _, h => by simp at h
  | p :: ps, low, 0, _ => by simp [jz, vv, jk]
  | p :: ps, low, k + 1, h => by
    simp only [jz, List.getElem_cons_succ]
    rw [mwaysOf_get wA ps (low + p.ds.length) k (by simpa using h)]
    congr 1
    simp only [vv, jk, List.take_succ_cons, List.flatMap_cons, List.length_append]
    omega
theorem mwaysOf_data (wA : Option Addr) : ∀ (ps : List Way) (low : Nat), (jz wA low ps).map MWay.data = ps
  | [], _ => rfl
  | _ :: ps, _ => by
    simp only [jz, List.map_cons, mwaysOf_data wA ps]
    rfl
theorem endsOf_get : ∀ (ps : List Way) (low k : Nat) (h : k < ps.length), (vz low ps)[k]'(by rw [yI]; exact h) = low + vv ps k + ps[k].ds.length
  | [], _, _, h => by simp at h
  | p :: ps, low, 0, _ => by simp [vz, vv, jk]
  | p :: ps, low, k + 1, h => by
    simp only [vz, List.getElem_cons_succ]
    rw [endsOf_get ps (low + p.ds.length) k (by simpa using h)]
    simp only [vv, jk, List.take_succ_cons, List.flatMap_cons, List.length_append]
    omega
theorem lowAt_succ (ps : List Way) (k : Nat) (h : k < ps.length) : vv ps (k + 1) = vv ps k + ps[k].ds.length := by
  simp only [vv, jk, List.take_succ_eq_append_getElem h, List.flatMap_append, List.flatMap_singleton, List.length_append]
theorem lowAt_le (ps : List Way) (k : Nat) : vv ps k <= (jk ps).length := by
  have e : jk ps = jk (ps.take k) ++ jk (ps.drop k) := by
    simp only [jk, <- List.flatMap_append, List.take_append_drop]
  rw [e, List.length_append]
  exact Nat.le_add_right _ _
def pxAt (wA : Option Addr) (ps : List Way) (k : Nat) : List Value := ((jz wA 0 ps).take k).flatMap MWay.cells ++ (ps.drop k).flatMap bareP
theorem pxAt_zero (wA : Option Addr) (ps : List Way) : pxAt wA ps 0 = ps.flatMap bareP := by simp [pxAt]
theorem pxAt_full (wA : Option Addr) (ps : List Way) : pxAt wA ps ps.length = (jz wA 0 ps).flatMap MWay.cells := by
  have e := kd wA ps 0
  rw [pxAt, List.drop_length, List.take_of_length_le (by omega)]
  simp
theorem pxAt_pre (wA : Option Addr) (ps : List Way) (k : Nat) (h : k <= ps.length) : (((jz wA 0 ps).take k).flatMap MWay.cells).length = k * 3 := by
  rw [vG MWay.cells 3 _ (fun _ _ => rfl), List.length_take, kd]
  congr 1
  omega
theorem pxAt_set (wA : Option Addr) (ps : List Way) (k : Nat) (h : k < ps.length) : (pxAt wA ps k).set (k * 3 + 2) (.slice (mwayOf wA (vv ps k) ps[k]).A ps[k].ds.length ps[k].ds.length) = pxAt wA ps (k + 1) := by
  have hm : k < (jz wA 0 ps).length := by rw [kd]; exact h
  have hg := mwaysOf_get wA ps 0 k h
  rw [Nat.zero_add] at hg
  unfold pxAt
  rw [List.set_append_right _ _ (by rw [pxAt_pre wA ps k (by omega)]; omega), pxAt_pre wA ps k (by omega), Nat.add_sub_cancel_left, List.drop_eq_getElem_cons h, List.take_succ_eq_append_getElem hm, hg, List.flatMap_append, List.flatMap_singleton, List.append_assoc, List.flatMap_cons]
  rfl
theorem pxAt_len (wA : Option Addr) (ps : List Way) (k : Nat) (h : k <= ps.length) : (pxAt wA ps k).length = ps.length * 3 := by
  rw [pxAt, List.length_append, pxAt_pre wA ps k h, vG bareP 3 _ (fun _ _ => rfl), List.length_drop, <- Nat.add_mul]
  congr 1
  omega
structure PieTwo (w : World) (g I : Nat) (bs : List UInt8) (nm : ByteArray) (first : Int) (before : List UInt8) (evs : List Part) (ps : List Way) (wA : Option Addr) (wC : Nat) (nA : Option Addr) (nC : Nat) (eA : Option Addr) (eC : Nat) (pA : Option Addr) (pC : Nat) (s : Rs) (k : Nat) (wr : World) : Prop where
  st : DecR 61 zeroPieL w g bs s wr
  blk : Blk wr I 61 (pieC nm first before eA evs.length eC pA ps.length pC).toArray
  own : Own4 (I + 1) wr wA (jk ps).length wC ((jk ps).flatMap jB) nA ps.length nC ((vz 0 ps).map fun (n : Nat) => .int .i64 (n : Int)) eA evs.length eC (evs.map Part.sl) pA ps.length pC (pxAt wA ps k)
  ev : ∀ p ∈ evs, p.Ok wr (rowsX I wA nA eA pA)
  lt : g < I
  bef : before.length = 32
section
variable {w : World} {g I : Nat} {bs : List UInt8} {nm : ByteArray} {first : Int} {before : List UInt8} {evs : List Part} {ps : List Way} {wA : Option Addr} {wC : Nat} {nA : Option Addr} {nC : Nat} {eA : Option Addr} {eC : Nat} {pA : Option Addr} {pC : Nat} {s : Rs} {k : Nat} {wr w' : World}
theorem PieLoop.two (h : PieLoop w g I bs nm first before evs (jk ps) (vz 0 ps) ps wA wC nA nC eA eC pA pC s wr) : PieTwo w g I bs nm first before evs ps wA wC nA nC eA eC pA pC s 0 wr :=
  ⟨h.st, h.blk, by
    have := h.own
    rw [yI] at this
    rw [pxAt_zero]
    exact this, h.ev, h.lt, h.bef⟩
theorem PieTwo.old (h : PieTwo w g I bs nm first before evs ps wA wC nA nC eA eC pA pC s k wr) (hk : Old wr w') : PieTwo w g I bs nm first before evs ps wA wC nA nC eA eC pA pC s k w' :=
  ⟨h.st.still hk, h.blk.old hk, h.own.old hk, fun p hp => (h.ev p hp).turn hk (fun _ _ f => f.elim) (fun _ _ e => e), h.lt, h.bef⟩
theorem PieTwo.put {pb : Nat} (h : PieTwo w g I bs nm first before evs ps wA wC nA nC eA eC (some ⟨pb, 0, none⟩) pC s k wr) (hk : k < ps.length) :
    PieTwo w g I bs nm first before evs ps wA wC nA nC eA eC (some ⟨pb, 0, none⟩) pC s (k + 1) (wr.setCell ⟨pb, k * 3 + 2, none⟩ (.slice (mwayOf wA (vv ps k) ps[k]).A ps[k].ds.length ps[k].ds.length)) := by
  obtain ⟨h1, h2⟩ := h.own.p.stored (k * 3 + 2) (.slice (mwayOf wA (vv ps k) ps[k]).A ps[k].ds.length ps[k].ds.length)
  rw [pxAt_set wA ps k hk] at h1
  have hg : wr.grownBy (wr.setCell ⟨pb, k * 3 + 2, none⟩ (.slice (mwayOf wA (vv ps k) ps[k]).A ps[k].ds.length ps[k].ds.length)) ((some (⟨pb, 0, none⟩ : Addr)).map (·.block)) := h2
  exact ⟨h.st.put (vI hg) (fun b e => by have := (ja h.own.p e).1; have := h.lt; omega), h.blk.kp (vI hg) (fun e => by have := (ja h.own.p e).1; omega), h.own.growP hg h1,
    fun p hp => (h.ev p hp).turn (vI hg) (fun _ _ e => .inr (.inr (.inr (.inr e)))) (fun _ _ e => e), h.lt, h.bef⟩
end
theorem cut_lhm {t : TypeId} (ht : Tryz.prog.underlying t = some (.slice (Tryz.prog.elem t))) {s : Nat} (hs : ∀ w, (sizeOf (Tryz.prog.elem t)).run Tryz.prog w = .ok s w) (A : Option Addr) (len c l h : Nat) (hlh : l <= h) (hh : h <= c) (w : World) :
    (Instr.slice t (.slice A len c) (some (.int .i64 (l : Int))) (some (.int .i64 (h : Int))) (some (.int .i64 (h : Int)))).run Tryz.prog w = .ok (.slice (if h = l then A else A.map (·.add (l * s))) (h - l) (h - l)) w := by
  rw [run_slice_lhm (ht := ht) (h0 := by omega) (h1 := by omega) (h2 := by omega) (h3 := by omega), hs]
  simp [sliced]
theorem Tryz.elemDigs : Tryz.prog.underlying 49 = some (.slice (Tryz.prog.elem 49)) := by kernel_rfl
theorem Tryz.sizeDigs (w : World) : (sizeOf (Tryz.prog.elem 49)).run Tryz.prog w = .ok 32 w := by kernel_rfl
theorem mwayOf_A (wA : Option Addr) (low : Nat) (p : Way) : (if low + p.ds.length = low then wA else wA.map (·.add (low * 32))) = (mwayOf wA low p).A := by
  unfold mwayOf
  by_cases h : p.ds.length = 0
  · simp [h]
  · simp only [if_neg h]
    rw [if_neg (by omega)]
theorem mway_rd {w : World} {base : Nat} {wA : Option Addr} {wC : Nat} {ps : List Way} (h : w.ownsRow base 40 32 (.slice wA (jk ps).length wC) (jk ps).length ((jk ps).flatMap jB)) (hd : ∀ p ∈ ps, Dgs p.ds) (k : Nat) (hk : k < ps.length) :
    Rd w 32 (mwayOf wA (vv ps k) ps[k]).A ps[k].ds.length (ps[k].ds.flatMap jB) /\ Av (fun b => b < base) ps[k].ds.length (mwayOf wA (vv ps k) ps[k]).A := by
  have hdk := hd ps[k] (List.getElem_mem hk)
  have hle := lowAt_le ps (k + 1)
  rw [lowAt_succ ps k hk] at hle
  have hdw : Dgs (jk ps) := by
    intro d hd'
    obtain ⟨p, hp, hpd⟩ := List.mem_flatMap.1 hd'
    exact hd p hp d hpd
  rcases Nat.eq_zero_or_pos ps[k].ds.length with h0 | h0
  · refine ⟨⟨by rw [vG jB 32 _ hdk.cells], fun hn => by omega⟩, fun hn => by omega⟩
  · obtain ⟨g, cap, hv, hge, _⟩ := h.form (by omega)
    have hA : wA = some ⟨g, 0, none⟩ := by injection hv
    subst hA
    have hmA : (mwayOf (some ⟨g, 0, none⟩) (vv ps k) ps[k]).A = some ⟨g, vv ps k * 32, none⟩ := by
      unfold mwayOf
      simp only [if_neg (show ¬ ps[k].ds.length = 0 by omega), Option.map_some, Addr.add_lit, Nat.zero_add]
    rw [hmA]
    refine ⟨⟨by rw [vG jB 32 _ hdk.cells], fun _ => ⟨g, _, rfl, fun j u hu => ?_⟩⟩, fun _ ad e hx => ?_⟩
    · have hj := (List.getElem?_eq_some_iff.1 hu).1
      rw [vG jB 32 _ hdk.cells] at hj
      have hc := h.cells (g := g) rfl (vv ps k * 32 + j) u (by
        have e1 : (jk ps).flatMap jB = (jk (ps.take k)).flatMap jB ++ (ps[k].ds.flatMap jB ++ (jk (ps.drop (k + 1))).flatMap jB) := by
          conv => lhs; rw [<- List.take_append_drop k ps, List.drop_eq_getElem_cons hk]
          simp only [jk, List.flatMap_append, List.flatMap_cons]
        have hpl : ((jk (ps.take k)).flatMap jB).length = vv ps k * 32 := by
          rw [vG jB 32 _ (fun d hd' => by
            rw [jD]
            obtain ⟨p, hp, hpd⟩ := List.mem_flatMap.1 hd'
            exact hd p (List.mem_of_mem_take hp) d hpd)]
          rfl
        rw [e1, List.getElem?_append_right (by omega), hpl, Nat.add_sub_cancel_left, List.getElem?_append_left (by rw [vG jB 32 _ hdk.cells]; exact hj)]
        exact hu)
      rw [Addr.add_lit, Nat.zero_add] at hc
      exact hc
    · injection e with e
      subst e
      simp only at hx
      omega
end Go.Proofs.YtnaolhjbapgjgaaGreat
