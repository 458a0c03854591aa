import Derived.Test.YtnaolhjbapgjgaaGreatMg32
set_option maxRecDepth 100000
set_option maxHeartbeats 3200000
namespace Go.Proofs.YtnaolhjbapgjgaaGreat
open Go.RowKit
theorem ans_any (w : World) (g P : Nat) (bs : List UInt8) (op : Nat) (s : Rs) (hop : 1 <= op /\ op <= 12) (h : Rr w g bs s) (hb : Blk w P 63 zeroMR.cells.toArray) (hP : g < P) :
    Calls Tryz.prog 47 #[.pointer (some ⟨g, 0, none⟩), .int .i64 (op : Int), .pointer (some ⟨P, 0, none⟩)] w (AnsP w g P bs (ansN bs op s)) := by
  have h12 : op = 1 \/ op = 2 \/ op = 3 \/ op = 4 \/ op = 5 \/ op = 6 \/ op = 7 \/ op = 8 \/ op = 9 \/ op = 10 \/ op = 11 \/ op = 12 := by omega
  rcases h12 with rfl | rfl | rfl | rfl | rfl | rfl | rfl | rfl | rfl | rfl | rfl | rfl
  · exact ans_1 w g P bs s h hb hP
  · exact ans_2 w g P bs s h hb hP
  · exact ans_3 w g P bs s h hb hP
  · exact ans_4 w g P bs s h hb hP
  · exact ans_5 w g P bs s h hb hP
  · exact ans_6 w g P bs s h hb hP
  · exact ans_7 w g P bs s h hb hP
  · exact ans_8 w g P bs s h hb hP
  · exact ans_9 w g P bs s h hb hP
  · exact ans_10 w g P bs s h hb hP
  · exact ans_11 w g P bs s h hb hP
  · exact ans_12 w g P bs s h hb hP
def repEnd (bs : List UInt8) (p : Rep) (s : Rs) : Option Rep := if jo bs s = 0 then some p else none
def repMid (bs : List UInt8) (op : Nat) (t : Nat × Rs) : Option Rep :=
  if t.2.why ≠ 0 then none
  else if t.1 = 0 then (ansN bs op t.2).bind fun x => repEnd bs x.1 x.2
  else if op <= 2 /\ bareB t.1 = false then repEnd bs { zeroRep with err := t.1, pa := (tkN bs 4 t.2).1, pb := (tkN bs 4 (tkN bs 4 t.2).2).1, pc := (tkN bs 4 (tkN bs 4 (tkN bs 4 t.2).2).2).1 } (tkN bs 4 (tkN bs 4 (tkN bs 4 t.2).2).2).2
  else repEnd bs { zeroRep with err := t.1 } t.2
def decRep (op : Int) (bs : List UInt8) : Option Rep := if 1 <= op /\ op <= 12 /\ bs.length <= 4194304 then repMid bs op.toNat (tkN bs 2 ⟨0, 0⟩) else none
def DecRP (w : World) (d : Option Rep) (e : Ending) (w' : World) : Prop :=
  (∃ m : MReply, d = some m.data /\ e = .returned (.tuple #[.agg m.cells.toArray, .int .i64 0]) /\ m.Ok w' (fun k => k < w.heap.size) /\ Old w w') \/
  (d = none /\ e = .returned (.tuple #[.agg zeroMR.cells.toArray, .int .i64 240]) /\ Old w w')
theorem Tryz.zeroRepC : Tryz.zeroCells63 = zeroMR.cells.toArray := by kernel_rfl
theorem Tryz.zeroRepV (w : World) : (Instr.build 63 #[]).run Tryz.prog w = .ok (.agg zeroMR.cells.toArray) w := by kernel_rfl
theorem MReply.one (m : MReply) : m.cells.toArray.all (·.oneCell') = true := by
  have hm : ∀ {cs : List Value}, cs.toArray.all (·.oneCell') = true -> ∀ v ∈ cs, v.oneCell' = true := fun h v hv => Array.all_eq_true_iff_forall_mem.1 h v (by simpa using hv)
  refine all_oneCell_toArray (fun v hv => ?_)
  simp only [MReply.cells, List.mem_append, List.mem_cons, List.not_mem_nil, or_false] at hv
  rcases hv with (rfl | rfl | rfl | rfl | rfl | rfl) | hv | (rfl | rfl) | hv | hv | hv | hv | hv
  · rfl
  · rfl
  · rfl
  · rfl
  · rfl
  · rfl
  · exact hm (MCase.one _) v hv
  · rfl
  · rfl
  · exact hm (MNote.one _) v hv
  · exact hm (MWay.one _) v hv
  · exact hm (MWay.one _) v hv
  · exact hm (Idx.one _ _ _) v hv
  · exact hm (MPiece.one _) v hv
structure BoxOld (w : World) (zc : List Value) (W : World) : Prop where
  box : Blk W w.heap.size 63 zc.toArray
  old : Old w W
structure RepSt (w : World) (g P : Nat) (bs : List UInt8) (s : Rs) (m : MReply) (W : World) : Prop where
  st : DecR 63 zeroMR.cells w g bs s W
  blk : Blk W P 63 m.cells.toArray
  ok : m.Ok W (fun k => k <= w.heap.size)
  lt : g < P
theorem RepSt.old {w : World} {g P : Nat} {bs : List UInt8} {s : Rs} {m : MReply} {W W' : World} (h : RepSt w g P bs s m W) (hk : Old W W') : RepSt w g P bs s m W' :=
  ⟨h.st.still hk, h.blk.old hk, h.ok.turn hk (fun _ _ f => f.elim) (fun _ _ e => e), h.lt⟩
theorem RepSt.step {w : World} {g P : Nat} {bs : List UInt8} {s s' : Rs} {m : MReply} {W W' : World} (h : RepSt w g P bs s m W) (hr : Rr W' g bs s') (hk : Kp (RX g) W W') (hm : m.Ok W' (fun k => k <= w.heap.size)) : RepSt w g P bs s' m W' :=
  ⟨h.st.step hr hk, h.blk.kp hk (fun e => by have : P = g := e; have := h.lt; omega), hm, h.lt⟩
theorem err_ok (w : World) (X : Nat -> Prop) (n a b c : Int) : MReply.Ok w X { zeroMR with err := n, pa := a, pb := b, pc := c } := by
  have Z := jM w X
  exact ⟨Z.rdH, Z.avH, Z.bigH, Z.case_, Z.raw, Z.note, Z.hd, Z.inc, Z.con, Z.idx, Z.rdI, Z.avI, Z.pie⟩
theorem RepSt.place {w : World} {g P : Nat} {bs : List UInt8} {s : Rs} {n : Int} {W : World} (h : RepSt w g P bs s { zeroMR with err := n } W) (a b c : Int) : RepSt w g P bs s { zeroMR with err := n, pa := a, pb := b, pc := c } (W.setCells P 1 [.int .i64 a, .int .i64 b, .int .i64 c]) :=
  ⟨h.st.put (Kp.setCells P 1 _ W) (fun k e => by have := h.lt; omega), h.blk.rPlace a b c, err_ok _ _ _ _ _ _, h.lt⟩
theorem built_err (n : Int) : Tryz.prog.built 63 [(0, .int .i64 n)] = some (MReply.cells { zeroMR with err := n }).toArray := by
  have hz : ((Tryz.prog.info? 63).bind (·.zero)).map (·.cells) = some zeroMR.cells.toArray := by kernel_rfl
  have hf : ∃ fs, Tryz.prog.underlying 63 = some (.struct fs) /\ ∃ pl, fs.toList.mapM (fun f => (Tryz.prog.info? f.type).map fun i => (f.offset, i.size)) = some ((0, 1) :: pl) := ⟨_, Tryz.underlying63, [(1, 3), (4, 1), (5, 1), (6, 39), (45, 1), (46, 1), (47, 99), (146, 3), (149, 3), (152, 68), (220, 36)], by kernel_rfl⟩
  obtain ⟨fs, hu, pl, hp⟩ := hf
  unfold Program.built
  cases hi : Tryz.prog.info? 63 with
  | none => rw [hi] at hz; cases hz
  | some it =>
    cases hzz : it.zero with
    | none => rw [hi] at hz; simp [hzz] at hz
    | some z =>
      rw [hi] at hz
      simp only [Option.bind_some, hzz, Option.map_some, Option.some.injEq] at hz
      simp only [hu, hzz, hp]
      obtain ⟨r, e1, s1, k1⟩ := fill_one (((0, 1) :: pl).toArray[·]?) 0 0 1 (.int .i64 n) rfl rfl z.cells (by rw [hz, List.size_toArray, (jM (default) NoX).len]; decide) []
      rw [e1]
      simp only [Instr.fill, Option.some.injEq]
      apply Array.ext_getElem?
      intro k
      rw [k1 k, hz]
      cases k with
      | zero => rfl
      | succ k => rw [if_neg (by omega)]; rfl
theorem at_onePart {P : Program} {ops : Array Oper} {rest : List Oper} {d : Option Tmp} {ty : TypeId} {pos : String} {after : Array Edge} {gd : Option (Nat × Bool)} {a : Act} {w : World} {Q : Exit -> Act -> World -> Prop} (t : TypeId) (x : Operand)
    (h : wpList P ops Q (⟨d, .build t #[(0, x)], ty, pos, after, gd⟩ :: rest) a w) : wpList P ops Q (⟨d, .build t #[(0, x)], ty, pos, after, gd⟩ :: rest) a w := h
theorem Tryz.wl_onePart {ops : Array Oper} {rest : List Oper} {o : Oper} {a : Act} {w : World} {Q : Exit -> Act -> World -> Prop} (hg : o.guard = none) (t : TypeId) (x : Operand) (ho : o.op = .build t #[(0, x)])
    (vx : Value) (hx : a.eval x = vx) (cs : List Value) (hb : Tryz.prog.built t [(0, vx)] = some cs.toArray)
    (h : wpList Tryz.prog ops Q rest (a.put o.dst (.agg cs.toArray)) w) : wpList Tryz.prog ops Q (o :: rest) a w :=
  wpList_buildTo hg t _ ho o.dst rfl cs.toArray (by simp only [List.map_toArray, List.map_cons, List.map_nil, hx]; exact hb) h
theorem decrep_far (w : World) (op : Int) (A : Option Addr) (c : Nat) (bs : List UInt8) (hno : ¬ (1 <= op /\ op <= 12 /\ bs.length <= 4194304)) (D : Option Rep) (hD : D = none) :
    Calls Tryz.prog 17 #[.int .i64 op, .slice A bs.length c] w (DecRP w D) := by
  have HX := jJ0 (show BoxOld w zeroMR.cells (w.alloc (.cells Tryz.zeroCells63 63)) from ⟨by rw [Tryz.zeroRepC]; exact Blk.new w _ _, (Kp.refl NoX w).alloc _⟩)
  have Hzs := jJ0 (show (Tryz.prog.info? 63).map (·.size) = some zeroMR.cells.length by rw [(jM w NoX).len]; exact Tryz.sizeReply)
  have Hzo := jJ0 (MReply.one zeroMR)
  have Hno := jJ0 hD
  clear hD
  have Hzv := jJ0 (fun W => Tryz.zeroRepV W)
  generalize hzc : zeroMR.cells = zc at *
  have Hzc := jJ0 hzc
  clear hzc
  by_cases h1 : 1 <= op
  · have h1' : ¬ op < 1 := by omega
    by_cases h2 : op <= 12
    · have h2' : ¬ (12 : Int) < op := by omega
      have h3' : (4194304 : Int) < (bs.length : Int) := by omega
      clear hno
      go_enter Tryz.func17, Tryz.ntmps17
      have Hth := jJ0 (HX.out.box.there 0 zc.toArray.size (by rw [List.size_toArray]; omega))
      have Ht := jJ0 (HX.out.box.setWhole zc rfl)
      have HoE := jJ0 (show Old w ((w.alloc (.cells Tryz.zeroCells63 63)).setCells w.heap.size 0 zc) from HX.out.old.trans (Kp.setCells _ 0 _ _) (fun b hb e => by omega))
      go_wp2_with (first | ((with_reducible refine jU 63 ?_); refine Tryz.wl_zero rfl 63 rfl _ (Hzv.out _) ?_) | ((with_reducible refine jE 63 (.tmp 4) (.tmp 23) ?_); refine wpList_store_mid rfl 63 (.tmp 4) (.tmp 23) rfl w.heap.size 0 zc.toArray rfl rfl Hth.out Hzs.out Hzo.out ?_) | fail)
      refine jA (g := w.heap.size) (cs := zc.toArray) rfl rfl Ht.out Tryz.underlying63 rfl (by rw [List.size_toArray]; exact Hzs.out) rfl ?_
      exact .inr ⟨Hno.out, by rw [Hzc.out]; rfl, HoE.out⟩
    · have h2' : (12 : Int) < op := by omega
      clear hno
      go_enter Tryz.func17, Tryz.ntmps17
      have Hth := jJ0 (HX.out.box.there 0 zc.toArray.size (by rw [List.size_toArray]; omega))
      have Ht := jJ0 (HX.out.box.setWhole zc rfl)
      have HoE := jJ0 (show Old w ((w.alloc (.cells Tryz.zeroCells63 63)).setCells w.heap.size 0 zc) from HX.out.old.trans (Kp.setCells _ 0 _ _) (fun b hb e => by omega))
      go_wp2_with (first | ((with_reducible refine jU 63 ?_); refine Tryz.wl_zero rfl 63 rfl _ (Hzv.out _) ?_) | ((with_reducible refine jE 63 (.tmp 4) (.tmp 23) ?_); refine wpList_store_mid rfl 63 (.tmp 4) (.tmp 23) rfl w.heap.size 0 zc.toArray rfl rfl Hth.out Hzs.out Hzo.out ?_) | fail)
      refine jA (g := w.heap.size) (cs := zc.toArray) rfl rfl Ht.out Tryz.underlying63 rfl (by rw [List.size_toArray]; exact Hzs.out) rfl ?_
      exact .inr ⟨Hno.out, by rw [Hzc.out]; rfl, HoE.out⟩
  · have h1' : op < 1 := by omega
    clear hno
    go_enter Tryz.func17, Tryz.ntmps17
    have Hth := jJ0 (HX.out.box.there 0 zc.toArray.size (by rw [List.size_toArray]; omega))
    have Ht := jJ0 (HX.out.box.setWhole zc rfl)
    have HoE := jJ0 (show Old w ((w.alloc (.cells Tryz.zeroCells63 63)).setCells w.heap.size 0 zc) from HX.out.old.trans (Kp.setCells _ 0 _ _) (fun b hb e => by omega))
    go_wp2_with (first | ((with_reducible refine jU 63 ?_); refine Tryz.wl_zero rfl 63 rfl _ (Hzv.out _) ?_) | ((with_reducible refine jE 63 (.tmp 4) (.tmp 23) ?_); refine wpList_store_mid rfl 63 (.tmp 4) (.tmp 23) rfl w.heap.size 0 zc.toArray rfl rfl Hth.out Hzs.out Hzo.out ?_) | fail)
    refine jA (g := w.heap.size) (cs := zc.toArray) rfl rfl Ht.out Tryz.underlying63 rfl (by rw [List.size_toArray]; exact Hzs.out) rfl ?_
    exact .inr ⟨Hno.out, by rw [Hzc.out]; rfl, HoE.out⟩
theorem decrep_near (w : World) (op : Nat) (A : Option Addr) (c : Nat) (bs : List UInt8) (hop : 1 <= op /\ op <= 12) (hl : bs.length <= 4194304) (hrd : Rd w 1 A bs.length (bs.map bv)) :
    Calls Tryz.prog 17 #[.int .i64 (op : Int), .slice A bs.length c] w (DecRP w (repMid bs op (tkN bs 2 ⟨0, 0⟩))) := by
  have HD := jJ0 (show repMid bs op (tkN bs 2 ⟨0, 0⟩) = repMid bs op (tkN bs 2 ⟨0, 0⟩) from rfl)
  have HX0 := jJ0 (show BoxOld w zeroMR.cells (w.alloc (.cells Tryz.zeroCells63 63)) from ⟨by rw [Tryz.zeroRepC]; exact Blk.new w _ _, (Kp.refl NoX w).alloc _⟩)
  have Hzs := jJ0 (show (Tryz.prog.info? 63).map (·.size) = some zeroMR.cells.length by rw [(jM w NoX).len]; exact Tryz.sizeReply)
  have Hzo := jJ0 (MReply.one zeroMR)
  have Hzv := jJ0 (fun W => Tryz.zeroRepV W)
  have Hzc0 := jJ0 (show ∃ zc, zeroMR.cells = zc from ⟨_, rfl⟩)
  obtain ⟨zc, hzc⟩ := Hzc0.out
  have Hzc := jJ0 hzc
  rw [hzc] at Hzs Hzo Hzv
  clear hzc Hzc0
  have HRd := jJ0 (fun W (h : Old w W) => kS W A bs.length c bs (hrd.old h) (by omega))
  have HAn := jJ0 (fun W g P s (hR : Rr W g bs s) hb hP => ans_any W g P bs op s hop hR hb hP)
  revert HD
  generalize hDD : repMid bs op (tkN bs 2 ⟨0, 0⟩) = D
  intro _
  have HD := jJ0 hDD.symm
  clear hDD hrd
  obtain ⟨o0, o1⟩ := hop
  have n1 : ¬ (op : Int) < 1 := by omega
  have n2 : ¬ (12 : Int) < (op : Int) := by omega
  have n3 : ¬ (4194304 : Int) < (bs.length : Int) := by omega
  go_enter Tryz.func17, Tryz.ntmps17
  go_wp2_with fail
  generalize w.alloc _ = W0 at *
  refine (HRd.out W0 HX0.out.old).mono ?_
  rintro e w1 ⟨g, rfl, hg, hr1, ho1⟩
  have HS1 := jJ0 (show DecR 63 zeroMR.cells w g bs ⟨0, 0⟩ w1 from ⟨HX0.out.box.old ho1, hr1, HX0.out.old.old ho1, by have := HX0.out.box.lt; omega⟩)
  have HP := jJ0 (fun W (hR : Rr W g bs ⟨0, 0⟩) => take16_any W g bs ⟨0, 0⟩ hR)
  have HN := jJ0 (kE bs 2 ⟨0, 0⟩)
  clear hr1 ho1 hg HX0 HRd
  go_wp2_with fail
  refine (HP.out _ HS1.out.rr).mono ?_
  clear HP
  generalize tkN bs 2 ⟨0, 0⟩ = t1 at *
  obtain ⟨n, s1⟩ := t1
  simp only at HN ⊢
  rintro e w2 ⟨rfl, hr2, hk2⟩
  replace HS1 := jJ0 (HS1.out.step hr2 hk2)
  have hn : n < 65536 := by have := HN.out; omega
  have hw1 : IntKind.i64.wrap (n : Int) = n := IntWalk.i64_in _ (by omega)
  have hw2 : wrap64 (n : Int) = (n : Int) := by unfold wrap64; omega
  clear hr2 hk2 HN
  have HB := jJ0 (built_err (n : Int))
  have Hlen := jJ0 (show (MReply.cells { zeroMR with err := (n : Int) }).length = 256 from (jM w NoX).len)
  have Hb2 := jJ0 (show Blk (w2.alloc (.cells Tryz.zeroCells63 63)) w2.heap.size 63 zeroMR.cells.toArray from by rw [Tryz.zeroRepC]; exact Blk.new w2 _ _)
  have Hth := jJ0 (Hb2.out.there 0 (MReply.cells { zeroMR with err := (n : Int) }).toArray.size (by rw [List.size_toArray, List.size_toArray, Hlen.out, (jM w NoX).len]; decide))
  have HszE := jJ0 (show (Tryz.prog.info? 63).map (·.size) = some (MReply.cells { zeroMR with err := (n : Int) }).length by rw [Hlen.out]; exact Tryz.sizeReply)
  have HoneE := jJ0 (MReply.one { zeroMR with err := (n : Int) })
  have HS := jJ0 (show RepSt w g w2.heap.size bs s1 { zeroMR with err := (n : Int) } ((w2.alloc (.cells Tryz.zeroCells63 63)).setCells w2.heap.size 0 (MReply.cells { zeroMR with err := (n : Int) })) from
    ⟨(HS1.out.still ((Kp.refl NoX w2).alloc _)).put (Kp.setCells w2.heap.size 0 _ _) (fun b e => by have := HS1.out.rr.lt; omega), Hb2.out.setWhole _ (by rw [Hlen.out, (jM w NoX).len]), by
      have Z := jM ((w2.alloc (.cells Tryz.zeroCells63 63)).setCells w2.heap.size 0 (MReply.cells { zeroMR with err := (n : Int) })) (fun k => k <= w.heap.size)
      exact ⟨Z.rdH, Z.avH, Z.bigH, Z.case_, Z.raw, Z.note, Z.hd, Z.inc, Z.con, Z.idx, Z.rdI, Z.avI, Z.pie⟩, HS1.out.rr.lt⟩)
  clear HS1 Hb2
  generalize hec : MReply.cells { zeroMR with err := (n : Int) } = ec at *
  have HW := jJ0 (fun W (hR : Rr W g bs s1) => jR W g bs s1 hR)
  go_wp2_with (first | ((with_reducible refine at_onePart 63 (.tmp 28) ?_); refine Tryz.wl_onePart rfl 63 (.tmp 28) rfl _ rfl ec HB.out ?_) | ((with_reducible refine jE 63 (.tmp 7) (.tmp 29) ?_); refine wpList_store_mid rfl 63 (.tmp 7) (.tmp 29) rfl w2.heap.size 0 ec.toArray rfl rfl Hth.out HszE.out HoneE.out ?_) | fail)
  generalize (w2.alloc _).setCells _ _ _ = W2 at *
  generalize w2.heap.size = P at *
  have Hec := jJ0 hec
  clear hec Hth HB HszE HoneE hw1 hw2 Hlen
  refine (HW.out _ HS.out.st.rr).mono ?_
  rintro e w3 ⟨rfl, rfl⟩
  clear HW
  unfold repMid at HD
  simp only at HD
  by_cases hy : s1.why = 0
  case neg =>
    have hy' : (s1.why != 0) = true := by simpa using hy
    have HD2 := jJ0 (show D = if jo bs s1 = 0 then some (MReply.data { zeroMR with err := (n : Int) }) else none by
      rw [HD.out, if_pos hy, if_neg (fun h => hy (by
        unfold jo at h
        split at h
        · cases h
        · exact h))])
    clear hy HAn Hec
    have HDn := jJ0 (fun W (hR : Rr W g bs s1) => jw W g bs s1 hR)
    go_wp2_with fail
    refine (HDn.out _ HS.out.st.rr).mono ?_
    clear HDn
    generalize jo bs s1 = dn at *
    rintro e wE ⟨rfl, ho6⟩
    replace HS := jJ0 (HS.out.old ho6)
    clear ho6
    by_cases hd : dn = 0
    case neg =>
      have Hno := jJ0 (show D = none by rw [HD2.out, if_neg hd])
      have hd' : (dn != 0) = true := by simpa using hd
      have HX := jJ0 (show BoxOld w zc wE from ⟨Hzc.out ▸ HS.out.st.box, HS.out.st.old⟩)
      clear hd
      have Hth := jJ0 (HX.out.box.there 0 zc.toArray.size (by rw [List.size_toArray]; omega))
      have Ht := jJ0 (HX.out.box.setWhole zc rfl)
      have HoE := jJ0 (show Old w (wE.setCells w.heap.size 0 zc) from HX.out.old.trans (Kp.setCells _ 0 _ _) (fun b hb e => by omega))
      go_wp2_with (first | ((with_reducible refine jU 63 ?_); refine Tryz.wl_zero rfl 63 rfl _ (Hzv.out _) ?_) | ((with_reducible refine jE 63 (.tmp 4) (.tmp 71) ?_); refine wpList_store_mid rfl 63 (.tmp 4) (.tmp 71) rfl w.heap.size 0 zc.toArray rfl rfl Hth.out Hzs.out Hzo.out ?_) | fail)
      refine jA (g := w.heap.size) (cs := zc.toArray) rfl rfl Ht.out Tryz.underlying63 rfl (by rw [List.size_toArray]; exact Hzs.out) rfl ?_
      exact .inr ⟨Hno.out, by rw [Hzc.out]; rfl, HoE.out⟩
    subst hd
    have Hyes := jJ0 (show D = some ({ zeroMR with err := (n : Int) } : MReply).data by rw [HD2.out, if_pos rfl])
    have Hlen := jJ0 (show ({ zeroMR with err := (n : Int) } : MReply).cells.length = 256 from HS.out.ok.len)
    have Hsz := jJ0 (show (Tryz.prog.info? 63).map (·.size) = some ({ zeroMR with err := (n : Int) } : MReply).cells.length by rw [Hlen.out]; exact Tryz.sizeReply)
    have Hth := jJ0 (HS.out.st.th ({ zeroMR with err := (n : Int) } : MReply).cells (by rw [Hlen.out, (jM w NoX).len]))
    have Ht := jJ0 (HS.out.st.told ({ zeroMR with err := (n : Int) } : MReply).cells (by rw [Hlen.out, (jM w NoX).len]))
    have Hrg := jJ0 HS.out.blk.range
    have Hone := jJ0 (MReply.one ({ zeroMR with err := (n : Int) } : MReply))
    have Hend := jJ0 (show DecRP w D (.returned (.tuple #[.agg ({ zeroMR with err := (n : Int) } : MReply).cells.toArray, .int .i64 0])) (wE.setCells w.heap.size 0 ({ zeroMR with err := (n : Int) } : MReply).cells) from
      .inl ⟨({ zeroMR with err := (n : Int) } : MReply), Hyes.out, rfl, HS.out.ok.turn Ht.out.kp (fun b _ e => by have : b = w.heap.size := e; show b <= w.heap.size; omega) (fun b _ e => by show b <= w.heap.size; omega), Ht.out.old⟩)
    generalize ({ zeroMR with err := (n : Int) } : MReply).cells = mc at *
    go_wp2_with (first | ((with_reducible refine jW 63 (.tmp 7) ?_); refine Tryz.load_w rfl 63 (.tmp 7) rfl P 0 rfl mc _ Hrg.out Tryz.underlying63 rfl Hsz.out ?_) | ((with_reducible refine jE 63 (.tmp 4) (.tmp 72) ?_); refine wpList_store_mid rfl 63 (.tmp 4) (.tmp 72) rfl w.heap.size 0 mc.toArray rfl rfl Hth.out Hsz.out Hone.out ?_) | fail)
    refine jA (g := w.heap.size) (cs := mc.toArray) rfl rfl Ht.out.box Tryz.underlying63 rfl (by rw [List.size_toArray]; exact Hsz.out) rfl ?_
    exact Hend.out
  rw [if_neg (by simpa using hy)] at HD
  rw [hy]
  have c0 := HS.out.blk.at_ 0 (v := .int .i64 (n : Int)) rfl
  by_cases hn0 : n = 0
  · subst hn0
    rw [if_pos rfl] at HD
    have HbP := jJ0 (show Blk W2 P 63 zeroMR.cells.toArray from HS.out.blk)
    have hgP := HS.out.lt
    have HA := jJ0 (HAn.out W2 g P s1 HS.out.st.rr HbP.out hgP)
    clear HAn hy Hec
    go_wp2_with fail
    refine HA.out.mono ?_
    clear HA HbP c0
    generalize ansN bs op s1 = an at *
    rintro e w4 ⟨hc, hk4⟩
    have Hwg := jJ0 HS.out.st.lt
    have HX4 := jJ0 (show BoxOld w zc w4 from ⟨Hzc.out ▸ HS.out.st.box.kp hk4 (fun e => by have := Hwg.out; omega), HS.out.st.old.trans hk4 (fun b hb e => by have := Hwg.out; omega)⟩)
    rcases hc with ⟨m, s4, rfl, rfl, hb4, hok4, hr4⟩ | ⟨er, rfl, her, rfl⟩
    · have HS4 := jJ0 (show RepSt w g P bs s4 m w4 from ⟨⟨Hzc.out ▸ HX4.out.box, hr4, HX4.out.old, Hwg.out⟩, hb4, hok4.turn (Kp.refl NoX w4) (fun _ _ f => f.elim) (fun b _ e => by have := HS.out.st.box.lt; have : b <= w.heap.size := e; show b < W2.heap.size; omega), hgP⟩)
      have HD2 := jJ0 (show D = if jo bs s4 = 0 then some m.data else none by rw [HD.out]; rfl)
      clear hk4 hb4 hok4 hr4 HS HD HX4
      have HS := jJ0 HS4.out
      clear HS4
      have HDn := jJ0 (fun W (hR : Rr W g bs s4) => jw W g bs s4 hR)
      go_wp2_with fail
      refine (HDn.out _ HS.out.st.rr).mono ?_
      clear HDn
      generalize jo bs s4 = dn at *
      rintro e wE ⟨rfl, ho6⟩
      replace HS := jJ0 (HS.out.old ho6)
      clear ho6
      by_cases hd : dn = 0
      case neg =>
        have Hno := jJ0 (show D = none by rw [HD2.out, if_neg hd])
        have hd' : (dn != 0) = true := by simpa using hd
        have HX := jJ0 (show BoxOld w zc wE from ⟨Hzc.out ▸ HS.out.st.box, HS.out.st.old⟩)
        clear hd
        have Hth := jJ0 (HX.out.box.there 0 zc.toArray.size (by rw [List.size_toArray]; omega))
        have Ht := jJ0 (HX.out.box.setWhole zc rfl)
        have HoE := jJ0 (show Old w (wE.setCells w.heap.size 0 zc) from HX.out.old.trans (Kp.setCells _ 0 _ _) (fun b hb e => by omega))
        go_wp2_with (first | ((with_reducible refine jU 63 ?_); refine Tryz.wl_zero rfl 63 rfl _ (Hzv.out _) ?_) | ((with_reducible refine jE 63 (.tmp 4) (.tmp 71) ?_); refine wpList_store_mid rfl 63 (.tmp 4) (.tmp 71) rfl w.heap.size 0 zc.toArray rfl rfl Hth.out Hzs.out Hzo.out ?_) | fail)
        refine jA (g := w.heap.size) (cs := zc.toArray) rfl rfl Ht.out Tryz.underlying63 rfl (by rw [List.size_toArray]; exact Hzs.out) rfl ?_
        exact .inr ⟨Hno.out, by rw [Hzc.out]; rfl, HoE.out⟩
      subst hd
      have Hyes := jJ0 (show D = some m.data by rw [HD2.out, if_pos rfl])
      have Hlen := jJ0 (show m.cells.length = 256 from HS.out.ok.len)
      have Hsz := jJ0 (show (Tryz.prog.info? 63).map (·.size) = some m.cells.length by rw [Hlen.out]; exact Tryz.sizeReply)
      have Hth := jJ0 (HS.out.st.th m.cells (by rw [Hlen.out, (jM w NoX).len]))
      have Ht := jJ0 (HS.out.st.told m.cells (by rw [Hlen.out, (jM w NoX).len]))
      have Hrg := jJ0 HS.out.blk.range
      have Hone := jJ0 (MReply.one m)
      have Hend := jJ0 (show DecRP w D (.returned (.tuple #[.agg m.cells.toArray, .int .i64 0])) (wE.setCells w.heap.size 0 m.cells) from
        .inl ⟨m, Hyes.out, rfl, HS.out.ok.turn Ht.out.kp (fun b _ e => by have : b = w.heap.size := e; show b <= w.heap.size; omega) (fun b _ e => by show b <= w.heap.size; omega), Ht.out.old⟩)
      generalize m.cells = mc at *
      go_wp2_with (first | ((with_reducible refine jW 63 (.tmp 7) ?_); refine Tryz.load_w rfl 63 (.tmp 7) rfl P 0 rfl mc _ Hrg.out Tryz.underlying63 rfl Hsz.out ?_) | ((with_reducible refine jE 63 (.tmp 4) (.tmp 72) ?_); refine wpList_store_mid rfl 63 (.tmp 4) (.tmp 72) rfl w.heap.size 0 mc.toArray rfl rfl Hth.out Hsz.out Hone.out ?_) | fail)
      refine jA (g := w.heap.size) (cs := mc.toArray) rfl rfl Ht.out.box Tryz.underlying63 rfl (by rw [List.size_toArray]; exact Hsz.out) rfl ?_
      exact Hend.out
    · have Hno := jJ0 (show D = none by rw [HD.out]; rfl)
      have her' : (er != 0) = true := by simpa using her
      have HX := jJ0 HX4.out
      clear hk4 HX4 her
      have Hth := jJ0 (HX.out.box.there 0 zc.toArray.size (by rw [List.size_toArray]; omega))
      have Ht := jJ0 (HX.out.box.setWhole zc rfl)
      have HoE := jJ0 (show Old w (w4.setCells w.heap.size 0 zc) from HX.out.old.trans (Kp.setCells _ 0 _ _) (fun b hb e => by omega))
      go_wp2_with (first | ((with_reducible refine jU 63 ?_); refine Tryz.wl_zero rfl 63 rfl _ (Hzv.out _) ?_) | ((with_reducible refine jE 63 (.tmp 4) (.tmp 71) ?_); refine wpList_store_mid rfl 63 (.tmp 4) (.tmp 71) rfl w.heap.size 0 zc.toArray rfl rfl Hth.out Hzs.out Hzo.out ?_) | fail)
      refine jA (g := w.heap.size) (cs := zc.toArray) rfl rfl Ht.out Tryz.underlying63 rfl (by rw [List.size_toArray]; exact Hzs.out) rfl ?_
      exact .inr ⟨Hno.out, by rw [Hzc.out]; rfl, HoE.out⟩
  · rw [if_neg hn0] at HD
    have b0 : ((n : Int) == 0) = false := beq_eq_false_iff_ne.2 (by omega)
    clear HAn hy
    by_cases h2 : op <= 2
    · have g2 : (op : Int) <= 2 := by omega
      have HBr := jJ0 (fun W => bare_any W (n : Int))
      go_wp2_with fail
      refine (HBr.out _).mono ?_
      rintro e w2b ⟨rfl, rfl⟩
      clear c0 HBr
      cases hbr : bareB (n : Int) with
      | false =>
        rw [if_pos ⟨h2, hbr⟩] at HD
        have HP := jJ0 (fun W (hR : Rr W g bs s1) => take32_any W g bs s1 hR)
        have HN1 := jJ0 (kE bs 4 s1)
        clear hbr Hec hn0
        go_wp2_with fail
        refine (HP.out _ HS.out.st.rr).mono ?_
        clear HP
        generalize tkN bs 4 s1 = t2 at *
        obtain ⟨a, s2⟩ := t2
        simp only at HD HN1 ⊢
        rintro e w4 ⟨rfl, hr2, hk2⟩
        replace HS := jJ0 (HS.out.step hr2 hk2 (err_ok _ _ _ 0 0 0))
        clear hr2 hk2
        have HP := jJ0 (fun W (hR : Rr W g bs s2) => take32_any W g bs s2 hR)
        have HN2 := jJ0 (kE bs 4 s2)
        go_wp2_with fail
        refine (HP.out _ HS.out.st.rr).mono ?_
        clear HP
        generalize tkN bs 4 s2 = t3 at *
        obtain ⟨b, s3⟩ := t3
        simp only at HD HN2 ⊢
        rintro e w5 ⟨rfl, hr2, hk2⟩
        replace HS := jJ0 (HS.out.step hr2 hk2 (err_ok _ _ _ 0 0 0))
        clear hr2 hk2
        have HP := jJ0 (fun W (hR : Rr W g bs s3) => take32_any W g bs s3 hR)
        have HN3 := jJ0 (kE bs 4 s3)
        go_wp2_with fail
        refine (HP.out _ HS.out.st.rr).mono ?_
        clear HP
        generalize tkN bs 4 s3 = t4 at *
        obtain ⟨d, s4⟩ := t4
        simp only at HD HN3 ⊢
        rintro e w6 ⟨rfl, hr2, hk2⟩
        replace HS := jJ0 (HS.out.step hr2 hk2 (err_ok _ _ _ 0 0 0))
        clear hr2 hk2
        have ha := HN1.out
        have hb := HN2.out
        have hd4 := HN3.out
        rw [show (256 : Nat) ^ 4 = 4294967296 from rfl] at ha hb hd4
        have wa : IntKind.i64.wrap (a : Int) = a := IntWalk.i64_in _ (by omega)
        have wb : IntKind.i64.wrap (b : Int) = b := IntWalk.i64_in _ (by omega)
        have wd : IntKind.i64.wrap (d : Int) = d := IntWalk.i64_in _ (by omega)
        have wa2 : wrap64 (a : Int) = (a : Int) := by unfold wrap64; omega
        have wb2 : wrap64 (b : Int) = (b : Int) := by unfold wrap64; omega
        have wd2 : wrap64 (d : Int) = (d : Int) := by unfold wrap64; omega
        clear HN1 HN2 HN3
        have Hth3 := jJ0 (HS.out.blk.there 1 #[Value.int .i64 (a : Int), .int .i64 (b : Int), .int .i64 (d : Int)].size (by rw [List.size_toArray, List.size_toArray, HS.out.ok.len]; simp))
        have Hpz := jJ0 (show (Tryz.prog.info? 37).map (·.size) = some #[Value.int .i64 (a : Int), .int .i64 (b : Int), .int .i64 (d : Int)].size by kernel_rfl)
        have HS5 := jJ0 (HS.out.place (a : Int) (b : Int) (d : Int))
        have HD2 := jJ0 (show D = if jo bs s4 = 0 then some (MReply.data { zeroMR with err := (n : Int), pa := (a : Int), pb := (b : Int), pc := (d : Int) }) else none by rw [HD.out]; rfl)
        clear HS HD
        have HS := jJ0 (show RepSt w g P bs s4 { zeroMR with err := (n : Int), pa := (a : Int), pb := (b : Int), pc := (d : Int) } _ from HS5.out)
        clear HS5
        have HDn := jJ0 (fun W (hR : Rr W g bs s4) => jw W g bs s4 hR)
        go_wp2_with (first | ((with_reducible refine jE 37 (.tmp 63) (.tmp 62) ?_); refine wpList_store_mid rfl 37 (.tmp 63) (.tmp 62) rfl P 1 #[Value.int .i64 (a : Int), .int .i64 (b : Int), .int .i64 (d : Int)] rfl rfl Hth3.out Hpz.out (jK rfl) ?_) | fail)
        clear wa wb wd wa2 wb2 wd2 ha hb hd4
        refine (HDn.out _ HS.out.st.rr).mono ?_
        clear HDn
        generalize jo bs s4 = dn at *
        rintro e wE ⟨rfl, ho6⟩
        replace HS := jJ0 (HS.out.old ho6)
        clear ho6
        by_cases hd : dn = 0
        case neg =>
          have Hno := jJ0 (show D = none by rw [HD2.out, if_neg hd])
          have hd' : (dn != 0) = true := by simpa using hd
          have HX := jJ0 (show BoxOld w zc wE from ⟨Hzc.out ▸ HS.out.st.box, HS.out.st.old⟩)
          clear hd
          have Hth := jJ0 (HX.out.box.there 0 zc.toArray.size (by rw [List.size_toArray]; omega))
          have Ht := jJ0 (HX.out.box.setWhole zc rfl)
          have HoE := jJ0 (show Old w (wE.setCells w.heap.size 0 zc) from HX.out.old.trans (Kp.setCells _ 0 _ _) (fun b hb e => by omega))
          go_wp2_with (first | ((with_reducible refine jU 63 ?_); refine Tryz.wl_zero rfl 63 rfl _ (Hzv.out _) ?_) | ((with_reducible refine jE 63 (.tmp 4) (.tmp 71) ?_); refine wpList_store_mid rfl 63 (.tmp 4) (.tmp 71) rfl w.heap.size 0 zc.toArray rfl rfl Hth.out Hzs.out Hzo.out ?_) | fail)
          refine jA (g := w.heap.size) (cs := zc.toArray) rfl rfl Ht.out Tryz.underlying63 rfl (by rw [List.size_toArray]; exact Hzs.out) rfl ?_
          exact .inr ⟨Hno.out, by rw [Hzc.out]; rfl, HoE.out⟩
        subst hd
        have Hyes := jJ0 (show D = some ({ zeroMR with err := (n : Int), pa := (a : Int), pb := (b : Int), pc := (d : Int) } : MReply).data by rw [HD2.out, if_pos rfl])
        have Hlen := jJ0 (show ({ zeroMR with err := (n : Int), pa := (a : Int), pb := (b : Int), pc := (d : Int) } : MReply).cells.length = 256 from HS.out.ok.len)
        have Hsz := jJ0 (show (Tryz.prog.info? 63).map (·.size) = some ({ zeroMR with err := (n : Int), pa := (a : Int), pb := (b : Int), pc := (d : Int) } : MReply).cells.length by rw [Hlen.out]; exact Tryz.sizeReply)
        have Hth := jJ0 (HS.out.st.th ({ zeroMR with err := (n : Int), pa := (a : Int), pb := (b : Int), pc := (d : Int) } : MReply).cells (by rw [Hlen.out, (jM w NoX).len]))
        have Ht := jJ0 (HS.out.st.told ({ zeroMR with err := (n : Int), pa := (a : Int), pb := (b : Int), pc := (d : Int) } : MReply).cells (by rw [Hlen.out, (jM w NoX).len]))
        have Hrg := jJ0 HS.out.blk.range
        have Hone := jJ0 (MReply.one ({ zeroMR with err := (n : Int), pa := (a : Int), pb := (b : Int), pc := (d : Int) } : MReply))
        have Hend := jJ0 (show DecRP w D (.returned (.tuple #[.agg ({ zeroMR with err := (n : Int), pa := (a : Int), pb := (b : Int), pc := (d : Int) } : MReply).cells.toArray, .int .i64 0])) (wE.setCells w.heap.size 0 ({ zeroMR with err := (n : Int), pa := (a : Int), pb := (b : Int), pc := (d : Int) } : MReply).cells) from
          .inl ⟨({ zeroMR with err := (n : Int), pa := (a : Int), pb := (b : Int), pc := (d : Int) } : MReply), Hyes.out, rfl, HS.out.ok.turn Ht.out.kp (fun b _ e => by have : b = w.heap.size := e; show b <= w.heap.size; omega) (fun b _ e => by show b <= w.heap.size; omega), Ht.out.old⟩)
        generalize ({ zeroMR with err := (n : Int), pa := (a : Int), pb := (b : Int), pc := (d : Int) } : MReply).cells = mc at *
        go_wp2_with (first | ((with_reducible refine jW 63 (.tmp 7) ?_); refine Tryz.load_w rfl 63 (.tmp 7) rfl P 0 rfl mc _ Hrg.out Tryz.underlying63 rfl Hsz.out ?_) | ((with_reducible refine jE 63 (.tmp 4) (.tmp 72) ?_); refine wpList_store_mid rfl 63 (.tmp 4) (.tmp 72) rfl w.heap.size 0 mc.toArray rfl rfl Hth.out Hsz.out Hone.out ?_) | fail)
        refine jA (g := w.heap.size) (cs := mc.toArray) rfl rfl Ht.out.box Tryz.underlying63 rfl (by rw [List.size_toArray]; exact Hsz.out) rfl ?_
        exact Hend.out
      | true =>
        rw [if_neg (fun h => by rw [hbr] at h; cases h.2)] at HD
        have HD2 := jJ0 (show D = if jo bs s1 = 0 then some (MReply.data { zeroMR with err := (n : Int) }) else none by rw [HD.out]; rfl)
        clear hbr Hec hn0 HD
        have HDn := jJ0 (fun W (hR : Rr W g bs s1) => jw W g bs s1 hR)
        go_wp2_with fail
        refine (HDn.out _ HS.out.st.rr).mono ?_
        clear HDn
        generalize jo bs s1 = dn at *
        rintro e wE ⟨rfl, ho6⟩
        replace HS := jJ0 (HS.out.old ho6)
        clear ho6
        by_cases hd : dn = 0
        case neg =>
          have Hno := jJ0 (show D = none by rw [HD2.out, if_neg hd])
          have hd' : (dn != 0) = true := by simpa using hd
          have HX := jJ0 (show BoxOld w zc wE from ⟨Hzc.out ▸ HS.out.st.box, HS.out.st.old⟩)
          clear hd
          have Hth := jJ0 (HX.out.box.there 0 zc.toArray.size (by rw [List.size_toArray]; omega))
          have Ht := jJ0 (HX.out.box.setWhole zc rfl)
          have HoE := jJ0 (show Old w (wE.setCells w.heap.size 0 zc) from HX.out.old.trans (Kp.setCells _ 0 _ _) (fun b hb e => by omega))
          go_wp2_with (first | ((with_reducible refine jU 63 ?_); refine Tryz.wl_zero rfl 63 rfl _ (Hzv.out _) ?_) | ((with_reducible refine jE 63 (.tmp 4) (.tmp 71) ?_); refine wpList_store_mid rfl 63 (.tmp 4) (.tmp 71) rfl w.heap.size 0 zc.toArray rfl rfl Hth.out Hzs.out Hzo.out ?_) | fail)
          refine jA (g := w.heap.size) (cs := zc.toArray) rfl rfl Ht.out Tryz.underlying63 rfl (by rw [List.size_toArray]; exact Hzs.out) rfl ?_
          exact .inr ⟨Hno.out, by rw [Hzc.out]; rfl, HoE.out⟩
        subst hd
        have Hyes := jJ0 (show D = some ({ zeroMR with err := (n : Int) } : MReply).data by rw [HD2.out, if_pos rfl])
        have Hlen := jJ0 (show ({ zeroMR with err := (n : Int) } : MReply).cells.length = 256 from HS.out.ok.len)
        have Hsz := jJ0 (show (Tryz.prog.info? 63).map (·.size) = some ({ zeroMR with err := (n : Int) } : MReply).cells.length by rw [Hlen.out]; exact Tryz.sizeReply)
        have Hth := jJ0 (HS.out.st.th ({ zeroMR with err := (n : Int) } : MReply).cells (by rw [Hlen.out, (jM w NoX).len]))
        have Ht := jJ0 (HS.out.st.told ({ zeroMR with err := (n : Int) } : MReply).cells (by rw [Hlen.out, (jM w NoX).len]))
        have Hrg := jJ0 HS.out.blk.range
        have Hone := jJ0 (MReply.one ({ zeroMR with err := (n : Int) } : MReply))
        have Hend := jJ0 (show DecRP w D (.returned (.tuple #[.agg ({ zeroMR with err := (n : Int) } : MReply).cells.toArray, .int .i64 0])) (wE.setCells w.heap.size 0 ({ zeroMR with err := (n : Int) } : MReply).cells) from
          .inl ⟨({ zeroMR with err := (n : Int) } : MReply), Hyes.out, rfl, HS.out.ok.turn Ht.out.kp (fun b _ e => by have : b = w.heap.size := e; show b <= w.heap.size; omega) (fun b _ e => by show b <= w.heap.size; omega), Ht.out.old⟩)
        generalize ({ zeroMR with err := (n : Int) } : MReply).cells = mc at *
        go_wp2_with (first | ((with_reducible refine jW 63 (.tmp 7) ?_); refine Tryz.load_w rfl 63 (.tmp 7) rfl P 0 rfl mc _ Hrg.out Tryz.underlying63 rfl Hsz.out ?_) | ((with_reducible refine jE 63 (.tmp 4) (.tmp 72) ?_); refine wpList_store_mid rfl 63 (.tmp 4) (.tmp 72) rfl w.heap.size 0 mc.toArray rfl rfl Hth.out Hsz.out Hone.out ?_) | fail)
        refine jA (g := w.heap.size) (cs := mc.toArray) rfl rfl Ht.out.box Tryz.underlying63 rfl (by rw [List.size_toArray]; exact Hsz.out) rfl ?_
        exact Hend.out
    · have g2 : ¬ (op : Int) <= 2 := by omega
      rw [if_neg (fun h => h2 h.1)] at HD
      have HD2 := jJ0 (show D = if jo bs s1 = 0 then some (MReply.data { zeroMR with err := (n : Int) }) else none by rw [HD.out]; rfl)
      clear Hec hn0 HD
      have HDn := jJ0 (fun W (hR : Rr W g bs s1) => jw W g bs s1 hR)
      go_wp2_with fail
      refine (HDn.out _ HS.out.st.rr).mono ?_
      clear HDn
      generalize jo bs s1 = dn at *
      rintro e wE ⟨rfl, ho6⟩
      replace HS := jJ0 (HS.out.old ho6)
      clear ho6
      by_cases hd : dn = 0
      case neg =>
        have Hno := jJ0 (show D = none by rw [HD2.out, if_neg hd])
        have hd' : (dn != 0) = true := by simpa using hd
        have HX := jJ0 (show BoxOld w zc wE from ⟨Hzc.out ▸ HS.out.st.box, HS.out.st.old⟩)
        clear hd
        have Hth := jJ0 (HX.out.box.there 0 zc.toArray.size (by rw [List.size_toArray]; omega))
        have Ht := jJ0 (HX.out.box.setWhole zc rfl)
        have HoE := jJ0 (show Old w (wE.setCells w.heap.size 0 zc) from HX.out.old.trans (Kp.setCells _ 0 _ _) (fun b hb e => by omega))
        go_wp2_with (first | ((with_reducible refine jU 63 ?_); refine Tryz.wl_zero rfl 63 rfl _ (Hzv.out _) ?_) | ((with_reducible refine jE 63 (.tmp 4) (.tmp 71) ?_); refine wpList_store_mid rfl 63 (.tmp 4) (.tmp 71) rfl w.heap.size 0 zc.toArray rfl rfl Hth.out Hzs.out Hzo.out ?_) | fail)
        refine jA (g := w.heap.size) (cs := zc.toArray) rfl rfl Ht.out Tryz.underlying63 rfl (by rw [List.size_toArray]; exact Hzs.out) rfl ?_
        exact .inr ⟨Hno.out, by rw [Hzc.out]; rfl, HoE.out⟩
      subst hd
      have Hyes := jJ0 (show D = some ({ zeroMR with err := (n : Int) } : MReply).data by rw [HD2.out, if_pos rfl])
      have Hlen := jJ0 (show ({ zeroMR with err := (n : Int) } : MReply).cells.length = 256 from HS.out.ok.len)
      have Hsz := jJ0 (show (Tryz.prog.info? 63).map (·.size) = some ({ zeroMR with err := (n : Int) } : MReply).cells.length by rw [Hlen.out]; exact Tryz.sizeReply)
      have Hth := jJ0 (HS.out.st.th ({ zeroMR with err := (n : Int) } : MReply).cells (by rw [Hlen.out, (jM w NoX).len]))
      have Ht := jJ0 (HS.out.st.told ({ zeroMR with err := (n : Int) } : MReply).cells (by rw [Hlen.out, (jM w NoX).len]))
      have Hrg := jJ0 HS.out.blk.range
      have Hone := jJ0 (MReply.one ({ zeroMR with err := (n : Int) } : MReply))
      have Hend := jJ0 (show DecRP w D (.returned (.tuple #[.agg ({ zeroMR with err := (n : Int) } : MReply).cells.toArray, .int .i64 0])) (wE.setCells w.heap.size 0 ({ zeroMR with err := (n : Int) } : MReply).cells) from
        .inl ⟨({ zeroMR with err := (n : Int) } : MReply), Hyes.out, rfl, HS.out.ok.turn Ht.out.kp (fun b _ e => by have : b = w.heap.size := e; show b <= w.heap.size; omega) (fun b _ e => by show b <= w.heap.size; omega), Ht.out.old⟩)
      generalize ({ zeroMR with err := (n : Int) } : MReply).cells = mc at *
      go_wp2_with (first | ((with_reducible refine jW 63 (.tmp 7) ?_); refine Tryz.load_w rfl 63 (.tmp 7) rfl P 0 rfl mc _ Hrg.out Tryz.underlying63 rfl Hsz.out ?_) | ((with_reducible refine jE 63 (.tmp 4) (.tmp 72) ?_); refine wpList_store_mid rfl 63 (.tmp 4) (.tmp 72) rfl w.heap.size 0 mc.toArray rfl rfl Hth.out Hsz.out Hone.out ?_) | fail)
      refine jA (g := w.heap.size) (cs := mc.toArray) rfl rfl Ht.out.box Tryz.underlying63 rfl (by rw [List.size_toArray]; exact Hsz.out) rfl ?_
      exact Hend.out
theorem decrep_any (w : World) (op : Int) (A : Option Addr) (c : Nat) (bs : List UInt8) (hrd : Rd w 1 A bs.length (bs.map bv)) :
    Calls Tryz.prog 17 #[.int .i64 op, .slice A bs.length c] w (DecRP w (decRep op bs)) := by
  by_cases h : 1 <= op /\ op <= 12 /\ bs.length <= 4194304
  · obtain ⟨n, rfl⟩ := Int.eq_ofNat_of_zero_le (show 0 <= op by omega)
    rw [show decRep (n : Int) bs = repMid bs n (tkN bs 2 ⟨0, 0⟩) from if_pos h]
    exact decrep_near w n A c bs (by omega) h.2.2 hrd
  · rw [show decRep op bs = none from if_neg h]
    exact decrep_far w op A c bs h none rfl
end Go.Proofs.YtnaolhjbapgjgaaGreat
