import Derived.Test.YtnaolhjbapgjgaaGreatMg28
set_option maxRecDepth 100000
set_option maxHeartbeats 3200000
namespace Go.Proofs.YtnaolhjbapgjgaaGreat
open Go.RowKit
theorem Tryz.zeroPieV (w : World) : (Instr.build 61 #[]).run Tryz.prog w = .ok (.agg zeroPieL.toArray) w := by kernel_rfl
theorem pieC_zero : pieC ⟨#[]⟩ 0 zD none 0 0 none 0 0 = zeroPieL := by
  simp only [pieC, zD_cells]
  rfl
def rowN (bs : List UInt8) (size : Int) (s : Rs) : Option (List UInt8 × Way × Rs) :=
  if (ptkN bs s).2.1 = true then
    match besN size (ptkN bs s).1 with
    | none => none
    | some n => if (jf bs 65536 (ptkN bs s).2.2).2.why = 0 then some ((jf bs 65536 (ptkN bs s).2.2).1, ⟨size, (ptkN bs s).1, (vX bs (n : Int) (jf bs 65536 (ptkN bs s).2.2).2).1⟩, (vX bs (n : Int) (jf bs 65536 (ptkN bs s).2.2).2).2) else none
  else none
def rowsGo (bs : List UInt8) (size : Int) : Nat -> Rs -> List (List UInt8) -> List Way -> Option (List (List UInt8) × List Way × Rs)
  | 0, s, es, ps => some (es, ps, s)
  | k + 1, s, es, ps => (rowN bs size s).bind fun r => rowsGo bs size k r.2.2 (es ++ [r.1]) (ps ++ [r.2.1])
def pieEnd (bs : List UInt8) (nm : ByteArray) (first : Int) (before : List UInt8) (t : List (List UInt8) × List Way × Rs) : Option Pie :=
  if jo bs t.2.2 = 0 /\ vw nm first before (List.zipWith prow t.1 t.2.1) = t.1.length then some ⟨nm, first, before, t.1, t.2.1⟩ else none
def pieMid (bs : List UInt8) (nm : ByteArray) (first : Int) (f1 : Bool) (before : List UInt8) (size : Int) (f2 : Bool) (c : Nat × Rs) : Option Pie :=
  if f1 = true /\ f2 = true /\ c.2.why = 0 /\ 1 <= c.1 /\ c.1 <= 1000 then (rowsGo bs size c.1 c.2 [] []).bind (pieEnd bs nm first before) else none
def pieN4 (bs : List UInt8) (nm : ByteArray) (first : Int) (f1 : Bool) (before : List UInt8) (t2 : Int × Bool × Rs) : Option Pie := pieMid bs nm first f1 before t2.1 t2.2.1 (tkN bs 4 t2.2.2)
def pieN3 (bs : List UInt8) (nm : ByteArray) (first : Int) (f1 : Bool) (d : List UInt8 × Rs) : Option Pie := pieN4 bs nm first f1 d.1 (ptkN bs d.2)
def pieN2 (bs : List UInt8) (nm : ByteArray) (t1 : Int × Bool × Rs) : Option Pie := pieN3 bs nm t1.1 t1.2.1 (digN bs t1.2.2)
def pieN (bs : List UInt8) (s : Rs) : Option Pie := pieN2 bs (pnameN bs s).1 (ptkN bs (pnameN bs s).2)
def decPie (bs : List UInt8) : Option Pie := (kt bs 2097152 51).bind (pieN bs)
def DecPP (w : World) (d : Option Pie) (e : Ending) (w' : World) : Prop :=
  (∃ m : MPiece, d = some m.data /\ e = .returned (.tuple #[.agg m.cells.toArray, .int .i64 0]) /\ m.Ok w' (fun k => k < w.heap.size) /\ Old w w') \/
  (∃ er : Int, d = none /\ er ≠ 0 /\ e = .returned (.tuple #[.agg zeroPieL.toArray, .int .i64 er]) /\ Old w w')
section
variable {w : World} {g I : Nat} {bs : List UInt8} {nm : ByteArray} {first : Int} {before : List UInt8} {evs : List Part} {wx : List (List UInt8)} {ends : List Nat} {prs : List Way} {wA : Option Addr} {wC : Nat} {nA : Option Addr} {nC : Nat} {eA : Option Addr} {eC : Nat} {pA : Option Addr} {pC : Nat} {s s' : Rs} {wr w' : World}
theorem PieLoop.turn {X : Nat -> Prop} (h : PieLoop w g I bs nm first before evs wx ends prs wA wC nA nC eA eC pA pC s wr) (hk : Kp X wr w') (hX : ∀ b, X b -> b = I) {nm' : ByteArray} {first' : Int} {before' : List UInt8} (hb : Blk w' I 61 (pieC nm' first' before' eA evs.length eC pA prs.length pC).toArray) (hl : before'.length = 32) : PieLoop w g I bs nm' first' before' evs wx ends prs wA wC nA nC eA eC pA pC s w' :=
  ⟨h.st.put hk (fun b e => by have := hX b e; have := h.lt; omega), hb, h.own.kp hk (fun b hb e => by have := hX b e; omega), fun p hp => (h.ev p hp).turn hk (fun b _ e => .inl (by have := hX b e; omega)) (fun _ _ e => e), h.lt, hl⟩
theorem PieLoop.name (h : PieLoop w g I bs nm first before evs wx ends prs wA wC nA nC eA eC pA pC s wr) (n : ByteArray) : PieLoop w g I bs n first before evs wx ends prs wA wC nA nC eA eC pA pC s (wr.setCell ⟨I, 0, none⟩ (.string n)) :=
  h.turn ((Kp.refl (fun k => k = I) wr).setCell (p := ⟨I, 0, none⟩) (fun _ => rfl) _) (fun _ e => e) (h.blk.set_ 0 _) h.bef
theorem PieLoop.number (h : PieLoop w g I bs nm first before evs wx ends prs wA wC nA nC eA eC pA pC s wr) (n : Int) : PieLoop w g I bs nm n before evs wx ends prs wA wC nA nC eA eC pA pC s (wr.setCell ⟨I, 1, none⟩ (.int .i64 n)) :=
  h.turn ((Kp.refl (fun k => k = I) wr).setCell (p := ⟨I, 1, none⟩) (fun _ => rfl) _) (fun _ e => e) (h.blk.set_ 1 _) h.bef
theorem PieLoop.dig (h : PieLoop w g I bs nm first before evs wx ends prs wA wC nA nC eA eC pA pC s wr) (d : List UInt8) (hd : d.length = 32) : PieLoop w g I bs nm first d evs wx ends prs wA wC nA nC eA eC pA pC s (wr.setCells I 2 (jB d)) :=
  h.turn (Kp.setCells I 2 _ wr) (fun _ e => e) (by
    have := Blk.setCells (pre := [.string nm, .int .i64 first]) (mid := jB before) (post := [.slice eA evs.length eC, .slice pA prs.length pC]) (by simpa [pieC] using h.blk) (jB d) (by rw [jD, jD, hd, h.bef])
    simpa [pieC] using this) hd
theorem PieLoop.stepP {p : Part} (h : PieLoop w g I bs nm first before evs wx ends prs wA wC nA nC eA eC pA pC s wr) (hk : Kp (RX g) wr w') (hp : p.Ok wr (rowsX I wA nA eA pA)) : p.Ok w' (rowsX I wA nA eA pA) :=
  hp.turn hk (fun b _ e => .inl (by have : b = g := e; have := h.lt; omega)) (fun _ _ e => e)
theorem Part.Ok.oldP {p : Part} {X : Nat -> Prop} (hp : p.Ok wr X) (hk : Old wr w') : p.Ok w' X := hp.turn hk (fun _ _ f => f.elim) (fun _ _ e => e)
theorem Part.Ok.growW {p : Part} {wA' : Option Addr} (hp : p.Ok wr (rowsX I wA nA eA pA)) (hg : wr.grownBy w' (wA.map (·.block))) (ha : wA'.map (·.block) = wA.map (·.block) \/ wA'.map (·.block) = some wr.heap.size) : p.Ok w' (rowsX I wA' nA eA pA) :=
  hp.turn (vI hg) (fun _ _ e => .inr (.inl e)) (fun b hb e => by
    rcases e with e | e | e
    · exact .inl e
    · exact .inr (.inl (row_at ha hb e))
    · exact .inr (.inr e))
theorem Part.Ok.growN {p : Part} {nA' : Option Addr} (hp : p.Ok wr (rowsX I wA nA eA pA)) (hg : wr.grownBy w' (nA.map (·.block))) (ha : nA'.map (·.block) = nA.map (·.block) \/ nA'.map (·.block) = some wr.heap.size) : p.Ok w' (rowsX I wA nA' eA pA) :=
  hp.turn (vI hg) (fun _ _ e => .inr (.inr (.inl e))) (fun b hb e => by
    rcases e with e | e | e | e
    · exact .inl e
    · exact .inr (.inl e)
    · exact .inr (.inr (.inl (row_at ha hb e)))
    · exact .inr (.inr (.inr e)))
theorem PieLoop.fresh {A : Option Addr} {l : List UInt8} {c : Nat} (h : PieLoop w g I bs nm first before evs wx ends prs wA wC nA nC eA eC pA pC s wr) (hr : Rd w' 1 A l.length (l.map bv)) (ha : Av (fun k => k < wr.heap.size) l.length A) (hl : l.length <= 2147483647) : Part.Ok w' (rowsX I wA nA eA pA) ⟨A, l, c⟩ :=
  ⟨hr, fun hn ad e hx => ha hn ad e (by
    rcases hx with hx | hx | hx | hx | hx
    · have := h.blk.lt; omega
    · exact (ja h.own.w hx).2
    · exact (ja h.own.n hx).2
    · exact (ja h.own.e hx).2
    · exact (ja h.own.p hx).2), hl⟩
end
def PieRel (w : World) (g I : Nat) (bs : List UInt8) (nm : ByteArray) (first : Int) (before : List UInt8) (size : Int) (n : Nat) (s0 : Rs) (k : Nat) (wA : Option Addr) (wn wC : Nat) (nA : Option Addr) (nC : Nat) (wr : World) : Prop :=
  ∃ (evs : List Part) (ps : List Way) (eA : Option Addr) (eC : Nat) (pA : Option Addr) (pC : Nat) (s : Rs), PieLoop w g I bs nm first before evs (jk ps) (vz 0 ps) ps wA wC nA nC eA eC pA pC s wr /\ ps.length = k /\ evs.length = k /\ wn = (jk ps).length /\ (jk ps).length <= k * 100000000 /\ (∀ p ∈ ps, p.a = size /\ Dgs p.ds /\ p.ds.length <= 100000000) /\ k <= n /\
    rowsGo bs size n s0 [] [] = rowsGo bs size (n - k) s (evs.map Part.l) ps
theorem Tryz.infoInt : (Tryz.prog.info? 3).map (fun i => (i.zero, i.size, i.bytes)) = some (some (.int .i64 0), 1, 8) := by kernel_rfl
theorem Tryz.infoBytes : (Tryz.prog.info? 22).map (fun i => (i.zero, i.size, i.bytes)) = some (some (.slice none 0 0), 1, 24) := by kernel_rfl
theorem Tryz.infoInc : (Tryz.prog.info? 51).map (fun i => (i.zero, i.size, i.bytes)) = some (some (.agg #[.int .i64 0, .int .i64 0, .slice none 0 0]), 3, 40) := by kernel_rfl
theorem one_digs (l : List (List UInt8)) : ∀ u ∈ l.flatMap jB, u.oneCell' = true := by
  intro u hu
  obtain ⟨d, _, hd⟩ := List.mem_flatMap.1 hu
  exact jr d u hd
theorem bareP_one (p : Way) : ∀ u ∈ bareP p, u.oneCell' = true := by
  intro u hu
  simp only [bareP, List.mem_cons, List.not_mem_nil, or_false] at hu
  rcases hu with rfl | rfl | rfl <;> rfl
theorem Tryz.wl_inc1 {ops : Array Oper} {rest : List Oper} {o : Oper} {a : Act} {w : World} {Q : Exit -> Act -> World -> Prop} (hg : o.guard = none) (x : Operand) (ho : o.op = .buildSlice 59 1 #[(0, x)]) (p : Way)
    (hx : a.eval x = .agg (bareP p).toArray) (h : wpList Tryz.prog ops Q rest (a.put o.dst (.slice (some ⟨w.heap.size, 0, none⟩) 1 1)) (w.alloc (.cells (bareP p).toArray 51))) : wpList Tryz.prog ops Q (o :: rest) a w := by
  refine wpList_plain hg fun K hK => ?_
  have hr : (Instr.buildSlice 59 1 #[(0, .agg (bareP p).toArray)]).run Tryz.prog w = .ok (.slice (some ⟨w.heap.size, 0, none⟩) 1 1) (w.alloc (.cells (bareP p).toArray 51)) := by
    obtain ⟨i, hi, hz, hs, hb⟩ := info_parts Tryz.infoInc
    refine run_buildSlice w 59 51 1 _ _ i _ Tryz.underlying59 hi hz (by rw [hs]; simp) (by rw [hs]; omega) ?_
    rw [hs]
    have := Great.fill_whole (s := 3) (by decide) [.agg (bareP p).toArray] ((Array.range (1 * 3)).map ((Value.agg #[.int .i64 0, .int .i64 0, .slice none 0 0]).cells[· % (Value.agg #[.int .i64 0, .int .i64 0, .slice none 0 0]).cells.size]!)) (fun v hv => by rw [List.mem_singleton.1 hv]; rfl) (by simp)
    simpa [Value.cells] using this
  unfold Oper.wp execOp
  simp only [ho, Sem.run_bind, List.map_toArray, List.map_cons, List.map_nil, hx, hr, Result.andThen_ok]
  exact hK _ _ h
theorem decpie_any (w : World) (A : Option Addr) (c : Nat) (bs : List UInt8) (hrd : Rd w 1 A bs.length (bs.map bv)) :
    Calls Tryz.prog 96 #[.slice A bs.length c] w (DecPP w (decPie bs)) := by
  have HD := jJ0 (show decPie bs = (kt bs 2097152 51).bind (pieN bs) from rfl)
  have Hb := jJ0 (show Blk (w.alloc (.cells #[.string ⟨#[]⟩, .int .i64 0, .int .u8 0, .int .u8 0, .int .u8 0, .int .u8 0, .int .u8 0, .int .u8 0, .int .u8 0, .int .u8 0, .int .u8 0, .int .u8 0, .int .u8 0, .int .u8 0, .int .u8 0, .int .u8 0, .int .u8 0, .int .u8 0, .int .u8 0, .int .u8 0, .int .u8 0, .int .u8 0, .int .u8 0, .int .u8 0, .int .u8 0, .int .u8 0, .int .u8 0, .int .u8 0, .int .u8 0, .int .u8 0, .int .u8 0, .int .u8 0, .int .u8 0, .int .u8 0, .slice none 0 0, .slice none 0 0] 61)) w.heap.size 61 zeroPieL.toArray from Blk.new w _ _)
  have HO := jJ0 ((Kp.refl NoX w).alloc (.cells #[.string ⟨#[]⟩, .int .i64 0, .int .u8 0, .int .u8 0, .int .u8 0, .int .u8 0, .int .u8 0, .int .u8 0, .int .u8 0, .int .u8 0, .int .u8 0, .int .u8 0, .int .u8 0, .int .u8 0, .int .u8 0, .int .u8 0, .int .u8 0, .int .u8 0, .int .u8 0, .int .u8 0, .int .u8 0, .int .u8 0, .int .u8 0, .int .u8 0, .int .u8 0, .int .u8 0, .int .u8 0, .int .u8 0, .int .u8 0, .int .u8 0, .int .u8 0, .int .u8 0, .int .u8 0, .int .u8 0, .slice none 0 0, .slice none 0 0] 61))
  have HBg := jJ0 (fun W (h : Old w W) => begun_any W A c bs 2097152 51 (hrd.old h) (by omega))
  generalize decPie bs = D at *
  clear hrd
  go_enter Tryz.func96, Tryz.ntmps96
  go_wp2_with fail
  generalize w.alloc _ = W at *
  refine (HBg.out W HO.out).mono ?_
  generalize kt bs 2097152 51 = B at *
  rintro e w1 (⟨g, s, rfl, rfl, hg, hr1, ho1⟩ | ⟨er, rfl, her, rfl, ho1⟩)
  · have HS1 := jJ0 (show DecR 61 zeroPieL w g bs s w1 from ⟨Hb.out.old ho1, hr1, HO.out.old ho1, by have := Hb.out.lt; omega⟩)
    have HS := jJ0 (show PieLoop w g w1.heap.size bs ⟨#[]⟩ 0 zD [] [] [] [] none 0 none 0 none 0 none 0 s (w1.alloc (.cells #[.string ⟨#[]⟩, .int .i64 0, .int .u8 0, .int .u8 0, .int .u8 0, .int .u8 0, .int .u8 0, .int .u8 0, .int .u8 0, .int .u8 0, .int .u8 0, .int .u8 0, .int .u8 0, .int .u8 0, .int .u8 0, .int .u8 0, .int .u8 0, .int .u8 0, .int .u8 0, .int .u8 0, .int .u8 0, .int .u8 0, .int .u8 0, .int .u8 0, .int .u8 0, .int .u8 0, .int .u8 0, .int .u8 0, .int .u8 0, .int .u8 0, .int .u8 0, .int .u8 0, .int .u8 0, .int .u8 0, .slice none 0 0, .slice none 0 0] 61)) from
      ⟨HS1.out.still ((Kp.refl NoX w1).alloc _), by rw [show pieC ⟨#[]⟩ 0 zD none ([] : List Part).length 0 none ([] : List Way).length 0 = zeroPieL from pieC_zero]; exact Blk.new w1 _ _,
        ⟨World.ownsRow_nil _ _ _ _, World.ownsRow_nil _ _ _ _, World.ownsRow_nil _ _ _ _, World.ownsRow_nil _ _ _ _⟩, fun p hp => (by cases hp), HS1.out.rr.lt, kg⟩)
    clear hr1 ho1 hg Hb HO HBg HS1
    have HD2 := jJ0 (show D = pieN bs s by rw [HD.out]; rfl)
    unfold pieN at HD2
    have HP1 := jJ0 (fun W (hR : Rr W g bs s) => jQ W g bs s hR)
    have HPN := jJ0 (show pnameN bs s = (⟨(rawN bs (tkN bs 1 s).1 (tkN bs 1 s).2).1.toArray⟩, (rawN bs (tkN bs 1 s).1 (tkN bs 1 s).2).2) from rfl)
    have HN := jJ0 (kE bs 1 s)
    clear HD
    go_wp2_with fail
    generalize w1.alloc _ = W1 at *
    generalize w1.heap.size = I at *
    refine (HP1.out _ HS.out.st.rr).mono ?_
    clear HP1
    generalize tkN bs 1 s = t1 at *
    obtain ⟨k, s1⟩ := t1
    simp only at HPN HN ⊢
    rintro e w2 ⟨rfl, hr2, hk2⟩
    replace HS := jJ0 (HS.out.step hr2 hk2)
    have hkn : k < 256 := by have := HN.out; omega
    have hw1 : IntKind.i64.wrap (k : Int) = k := IntWalk.i64_in _ (by omega)
    have hw2 : wrap64 (k : Int) = (k : Int) := by unfold wrap64; omega
    clear hr2 hk2 HN
    have HP1 := jJ0 (fun W (hR : Rr W g bs s1) => ko W g bs (k : Int) s1 hR (by omega))
    have Hsm := jJ0 (vE bs (k : Int) s1)
    have hbl := HS.out.st.rr.fits.2
    go_wp2_with fail
    refine (HP1.out _ HS.out.st.rr).mono ?_
    clear HP1
    generalize rawN bs (k : Int) s1 = t2 at *
    obtain ⟨l, s2⟩ := t2
    simp only at HPN Hsm ⊢
    rintro e w3 ⟨A3, c3, rfl, hrd3, hav3, hcap3, hr3, hk3⟩
    have hcv := yL (P := Tryz.prog) w3 Tryz.underlying22 Tryz.underlying5 Tryz.underlying9 A3 _ c3 _ hrd3
    replace HS := jJ0 (HS.out.step hr3 hk3)
    have u0 := HS.out.blk.at_ 0 (v := .string ⟨#[]⟩) rfl
    have z0 := HS.out.blk.frozen 0
    have Hl := jJ0 (show ByteArray.size ⟨l.toArray⟩ <= 2147483647 by rw [<- jF]; have := Hsm.out; show l.length <= _; omega)
    have HS4 := jJ0 (HS.out.name ⟨l.toArray⟩)
    clear hr3 hk3 hrd3 hav3 hcap3 hw1 hw2 hkn Hsm
    rw [HPN.out] at HD2
    simp only at HD2
    generalize (⟨l.toArray⟩ : ByteArray) = nm at *
    have HP1 := jJ0 (fun W (hR : Rr W g bs s2) => vq W g bs s2 hR)
    clear HPN
    unfold pieN2 at HD2
    go_wp2_with fail
    replace HS := HS4
    clear HS4 u0 z0 hcv
    generalize w3.setCell _ _ = W3 at *
    refine (HP1.out _ HS.out.st.rr).mono ?_
    clear HP1
    generalize ptkN bs s2 = t3 at *
    obtain ⟨first, f1, s3⟩ := t3
    simp only at HD2 ⊢
    rintro e w4 ⟨rfl, hr2, hk2⟩
    replace HS := jJ0 (HS.out.step hr2 hk2)
    have u1 := HS.out.blk.at_ 1 (v := .int .i64 0) rfl
    have z1 := HS.out.blk.frozen 1
    have HS4 := jJ0 (HS.out.number first)
    clear hr2 hk2
    have HG := jJ0 (fun W' (hR : Rr W' g bs s3) => vT W' g bs s3 hR)
    have HL4 := jJ0 (vH bs s3)
    unfold pieN3 at HD2
    go_wp2_with fail
    replace HS := HS4
    clear HS4 u1 z1
    generalize w4.setCell _ _ = W4 at *
    refine (HG.out _ HS.out.st.rr).mono ?_
    clear HG
    generalize digN bs s3 = t5 at *
    obtain ⟨before, s4⟩ := t5
    simp only at HD2 HL4 ⊢
    rintro e w5 ⟨rfl, hr2, hk2⟩
    replace HS := jJ0 (HS.out.step hr2 hk2)
    have Hth := jJ0 (HS.out.blk.there 2 (jB before).toArray.size (by rw [List.size_toArray, List.size_toArray, pieC_len HS.out.bef, jD, HL4.out]; decide))
    have Hsz := jJ0 (show (Tryz.prog.info? 40).map (·.size) = some (jB before).length by rw [jD, HL4.out]; exact Tryz.sizeDigest)
    replace HS := jJ0 (HS.out.dig before HL4.out)
    clear hr2 hk2
    have HP1 := jJ0 (fun W (hR : Rr W g bs s4) => vq W g bs s4 hR)
    unfold pieN4 at HD2
    go_wp2_with (first | ((with_reducible refine jE 40 (.tmp 47) (.tmp 46) ?_); refine wpList_store_mid rfl 40 (.tmp 47) (.tmp 46) rfl I 2 (jB before).toArray rfl rfl Hth.out Hsz.out (kn _) ?_) | fail)
    generalize w5.setCells _ _ _ = W5 at *
    clear Hth Hsz
    refine (HP1.out _ HS.out.st.rr).mono ?_
    clear HP1
    generalize ptkN bs s4 = t6 at *
    obtain ⟨size, f2, s5⟩ := t6
    simp only at HD2 ⊢
    rintro e w6 ⟨rfl, hr2, hk2⟩
    replace HS := jJ0 (HS.out.step hr2 hk2)
    clear hr2 hk2
    have HP1 := jJ0 (fun W (hR : Rr W g bs s5) => take32_any W g bs s5 hR)
    have HN := jJ0 (kE bs 4 s5)
    go_wp2_with fail
    refine (HP1.out _ HS.out.st.rr).mono ?_
    clear HP1
    generalize tkN bs 4 s5 = t7 at *
    obtain ⟨n, s6⟩ := t7
    simp only at HD2 HN ⊢
    rintro e w7 ⟨rfl, hr2, hk2⟩
    replace HS := jJ0 (HS.out.step hr2 hk2)
    have hkn : n <= 4294967295 := by have := HN.out; omega
    have hw1 : IntKind.i64.wrap (n : Int) = n := IntWalk.i64_in _ (by omega)
    have hw2 : wrap64 (n : Int) = (n : Int) := by unfold wrap64; omega
    clear hr2 hk2 HN
    unfold pieMid at HD2
    simp only at HD2
    cases f1 with
    | false =>
      have Hno := jJ0 (show D = none by rw [HD2.out, if_neg (by simp)])
      have Hth := jJ0 (HS.out.st.th zeroPieL rfl)
      have Ht := jJ0 (HS.out.st.told zeroPieL rfl)
      go_wp2_with (first | ((with_reducible refine jU 61 ?_); refine Tryz.wl_zero rfl 61 rfl _ (Tryz.zeroPieV _) ?_) | ((with_reducible refine jE 61 (.tmp 2) (.tmp 75) ?_); refine wpList_store_mid rfl 61 (.tmp 2) (.tmp 75) rfl w.heap.size 0 zeroPieL.toArray rfl rfl Hth.out Tryz.sizePiece (jK rfl) ?_) | fail)
      refine jA (g := w.heap.size) (cs := zeroPieL.toArray) rfl rfl Ht.out.box Tryz.underlying61 rfl Tryz.sizePiece rfl ?_
      exact .inr ⟨8, Hno.out, by decide, rfl, Ht.out.old⟩
    | true =>
    cases f2 with
    | false =>
      have Hno := jJ0 (show D = none by rw [HD2.out, if_neg (by simp)])
      have Hth := jJ0 (HS.out.st.th zeroPieL rfl)
      have Ht := jJ0 (HS.out.st.told zeroPieL rfl)
      go_wp2_with (first | ((with_reducible refine jU 61 ?_); refine Tryz.wl_zero rfl 61 rfl _ (Tryz.zeroPieV _) ?_) | ((with_reducible refine jE 61 (.tmp 2) (.tmp 75) ?_); refine wpList_store_mid rfl 61 (.tmp 2) (.tmp 75) rfl w.heap.size 0 zeroPieL.toArray rfl rfl Hth.out Tryz.sizePiece (jK rfl) ?_) | fail)
      refine jA (g := w.heap.size) (cs := zeroPieL.toArray) rfl rfl Ht.out.box Tryz.underlying61 rfl Tryz.sizePiece rfl ?_
      exact .inr ⟨8, Hno.out, by decide, rfl, Ht.out.old⟩
    | true =>
    have HW := jJ0 (fun W (hR : Rr W g bs s6) => jR W g bs s6 hR)
    go_wp2_with fail
    refine (HW.out _ HS.out.st.rr).mono ?_
    rintro e w8 ⟨rfl, rfl⟩
    clear HW
    by_cases hy : s6.why = 0
    case neg =>
      have Hno := jJ0 (show D = none by rw [HD2.out, if_neg (fun h => hy h.2.2.1)])
      have hy' : (s6.why != 0) = true := by simpa using hy
      clear hy
      have Hth := jJ0 (HS.out.st.th zeroPieL rfl)
      have Ht := jJ0 (HS.out.st.told zeroPieL rfl)
      go_wp2_with (first | ((with_reducible refine jU 61 ?_); refine Tryz.wl_zero rfl 61 rfl _ (Tryz.zeroPieV _) ?_) | ((with_reducible refine jE 61 (.tmp 2) (.tmp 75) ?_); refine wpList_store_mid rfl 61 (.tmp 2) (.tmp 75) rfl w.heap.size 0 zeroPieL.toArray rfl rfl Hth.out Tryz.sizePiece (jK rfl) ?_) | fail)
      refine jA (g := w.heap.size) (cs := zeroPieL.toArray) rfl rfl Ht.out.box Tryz.underlying61 rfl Tryz.sizePiece rfl ?_
      exact .inr ⟨8, Hno.out, by decide, rfl, Ht.out.old⟩
    rw [hy]
    by_cases h1 : 1 <= n
    case neg =>
      have Hno := jJ0 (show D = none by rw [HD2.out, if_neg (fun h => h1 h.2.2.2.1)])
      have h1' : (n : Int) < 1 := by omega
      clear hy h1
      have Hth := jJ0 (HS.out.st.th zeroPieL rfl)
      have Ht := jJ0 (HS.out.st.told zeroPieL rfl)
      go_wp2_with (first | ((with_reducible refine jU 61 ?_); refine Tryz.wl_zero rfl 61 rfl _ (Tryz.zeroPieV _) ?_) | ((with_reducible refine jE 61 (.tmp 2) (.tmp 75) ?_); refine wpList_store_mid rfl 61 (.tmp 2) (.tmp 75) rfl w.heap.size 0 zeroPieL.toArray rfl rfl Hth.out Tryz.sizePiece (jK rfl) ?_) | fail)
      refine jA (g := w.heap.size) (cs := zeroPieL.toArray) rfl rfl Ht.out.box Tryz.underlying61 rfl Tryz.sizePiece rfl ?_
      exact .inr ⟨8, Hno.out, by decide, rfl, Ht.out.old⟩
    have h1' : ¬ (n : Int) < 1 := by omega
    by_cases h2 : n <= 1000
    case neg =>
      have Hno := jJ0 (show D = none by rw [HD2.out, if_neg (fun h => h2 h.2.2.2.2)])
      have h2' : (1000 : Int) < (n : Int) := by omega
      clear hy h2 h1
      have Hth := jJ0 (HS.out.st.th zeroPieL rfl)
      have Ht := jJ0 (HS.out.st.told zeroPieL rfl)
      go_wp2_with (first | ((with_reducible refine jU 61 ?_); refine Tryz.wl_zero rfl 61 rfl _ (Tryz.zeroPieV _) ?_) | ((with_reducible refine jE 61 (.tmp 2) (.tmp 75) ?_); refine wpList_store_mid rfl 61 (.tmp 2) (.tmp 75) rfl w.heap.size 0 zeroPieL.toArray rfl rfl Hth.out Tryz.sizePiece (jK rfl) ?_) | fail)
      refine jA (g := w.heap.size) (cs := zeroPieL.toArray) rfl rfl Ht.out.box Tryz.underlying61 rfl Tryz.sizePiece rfl ?_
      exact .inr ⟨8, Hno.out, by decide, rfl, Ht.out.old⟩
    have h2' : ¬ (1000 : Int) < (n : Int) := by omega
    have HD3 := jJ0 (show D = (rowsGo bs size n s6 [] []).bind (pieEnd bs nm first before) by rw [HD2.out, if_pos (by refine ⟨?_, ?_, hy, h1, h2⟩ <;> trivial)])
    clear HD2 hy hw1 hw2 hkn
    go_wp2_with fail
    go_loopw [77, 12, 13] (fun i wv nv wr => ∃ (k : Nat) (wA : Option Addr) (wn wC : Nat) (nA : Option Addr) (nC : Nat), i = .int .i64 k /\ wv = .slice wA wn wC /\ nv = .slice nA k nC /\ PieRel w g I bs nm first before size n s6 k wA wn wC nA nC wr) (fun i _ _ _ => n - (intOf i).toNat)
    case atStart => exact ⟨0, none, 0, 0, none, 0, rfl, rfl, rfl, [], [], none, 0, none, 0, s6, HS.out, rfl, rfl, rfl, Nat.le_refl _, fun p hp => (by cases hp), by omega, rfl⟩
    case round =>
      obtain ⟨k, wA, wn, wC, nA, nC, rfl, rfl, rfl, evs, ps, eA, eC, pA, pC, s, hL, hk1, hk2, rfl, hwl, hps, hkn, hgo⟩ := hrel
      clear HS
      have HS := jJ0 hL
      have Hps := jJ0 hps
      have Hgo := jJ0 hgo
      have HK1 := jJ0 hk1
      have HK2 := jJ0 hk2
      clear hL hps hgo hk1 hk2
      by_cases hlt : k < n
      · obtain ⟨m, hm⟩ : ∃ m, n - k = m + 1 := ⟨n - k - 1, by omega⟩
        rw [hm, rowsGo] at Hgo
        unfold rowN at Hgo
        have Hm := jJ0 hm
        clear hm
        have HP1 := jJ0 (fun W (hR : Rr W g bs s) => vq W g bs s hR)
        go_wp2_with fail
        refine (HP1.out _ HS.out.st.rr).mono ?_
        clear HP1
        generalize ptkN bs s = t8 at *
        obtain ⟨num, f3, s7⟩ := t8
        simp only at Hgo ⊢
        rintro e w9 ⟨rfl, hr2, hk2⟩
        replace HS := jJ0 (HS.out.step hr2 hk2)
        clear hr2 hk2
        have HP1 := jJ0 (fun W (hR : Rr W g bs s7) => rbytes_any W g bs 65536 s7 hR (by omega))
        have Hbl := jJ0 (bytesN_len bs 65536 s7)
        go_wp2_with fail
        refine (HP1.out _ HS.out.st.rr).mono ?_
        clear HP1
        generalize jf bs 65536 s7 = t9 at *
        obtain ⟨ev, s8⟩ := t9
        simp only at Hgo Hbl ⊢
        rintro e w10 ⟨A5, c5, rfl, hrd5, hav5, hcap5, hr5, hk5⟩
        have Hp := jJ0 (HS.out.fresh (c := c5) hrd5 hav5 (by have := Hbl.out; omega))
        replace HS := jJ0 (HS.out.step hr5 hk5)
        clear hrd5 hav5 hcap5 hr5 hk5
        have HB := jJ0 (fun W => beside_any W size num)
        have Hle := jJ0 (fun n (h : besN size num = some n) => besN_le h)
        go_wp2_with fail
        refine (HB.out _).mono ?_
        clear HB
        generalize besN size num = o at *
        rintro e w11 ⟨he, rfl⟩
        cases f3 with
        | false =>
          have Hno := jJ0 (show D = none by rw [HD3.out, Hgo.out]; rfl)
          rcases o with _ | cnt
          all_goals
            simp only at he
            subst he
            have Hth := jJ0 (HS.out.st.th zeroPieL rfl)
            have Ht := jJ0 (HS.out.st.told zeroPieL rfl)
            go_wp2_with (first | ((with_reducible refine jU 61 ?_); refine Tryz.wl_zero rfl 61 rfl _ (Tryz.zeroPieV _) ?_) | ((with_reducible refine jE 61 (.tmp 2) (.tmp 103) ?_); refine wpList_store_mid rfl 61 (.tmp 2) (.tmp 103) rfl w.heap.size 0 zeroPieL.toArray rfl rfl Hth.out Tryz.sizePiece (jK rfl) ?_) | fail)
            refine jA (g := w.heap.size) (cs := zeroPieL.toArray) rfl rfl Ht.out.box Tryz.underlying61 rfl Tryz.sizePiece rfl ?_
            exact .inr ⟨8, Hno.out, by decide, rfl, Ht.out.old⟩
        | true =>
        rw [if_pos rfl] at Hgo
        rcases o with _ | cnt
        · simp only at he Hgo
          subst he
          have Hno := jJ0 (show D = none by rw [HD3.out, Hgo.out]; rfl)
          have Hth := jJ0 (HS.out.st.th zeroPieL rfl)
          have Ht := jJ0 (HS.out.st.told zeroPieL rfl)
          go_wp2_with (first | ((with_reducible refine jU 61 ?_); refine Tryz.wl_zero rfl 61 rfl _ (Tryz.zeroPieV _) ?_) | ((with_reducible refine jE 61 (.tmp 2) (.tmp 103) ?_); refine wpList_store_mid rfl 61 (.tmp 2) (.tmp 103) rfl w.heap.size 0 zeroPieL.toArray rfl rfl Hth.out Tryz.sizePiece (jK rfl) ?_) | fail)
          refine jA (g := w.heap.size) (cs := zeroPieL.toArray) rfl rfl Ht.out.box Tryz.underlying61 rfl Tryz.sizePiece rfl ?_
          exact .inr ⟨8, Hno.out, by decide, rfl, Ht.out.old⟩
        simp only at he Hgo
        subst he
        have hcnt := Hle.out cnt rfl
        clear Hle
        have HW := jJ0 (fun W (hR : Rr W g bs s8) => jR W g bs s8 hR)
        go_wp2_with fail
        refine (HW.out _ HS.out.st.rr).mono ?_
        rintro e w11 ⟨rfl, rfl⟩
        clear HW
        by_cases hy : s8.why = 0
        case neg =>
          have Hno := jJ0 (show D = none by rw [HD3.out, Hgo.out, if_neg hy]; rfl)
          have hy' : (s8.why != 0) = true := by simpa using hy
          clear hy
          have Hth := jJ0 (HS.out.st.th zeroPieL rfl)
          have Ht := jJ0 (HS.out.st.told zeroPieL rfl)
          go_wp2_with (first | ((with_reducible refine jU 61 ?_); refine Tryz.wl_zero rfl 61 rfl _ (Tryz.zeroPieV _) ?_) | ((with_reducible refine jE 61 (.tmp 2) (.tmp 103) ?_); refine wpList_store_mid rfl 61 (.tmp 2) (.tmp 103) rfl w.heap.size 0 zeroPieL.toArray rfl rfl Hth.out Tryz.sizePiece (jK rfl) ?_) | fail)
          refine jA (g := w.heap.size) (cs := zeroPieL.toArray) rfl rfl Ht.out.box Tryz.underlying61 rfl Tryz.sizePiece rfl ?_
          exact .inr ⟨8, Hno.out, by decide, rfl, Ht.out.old⟩
        rw [if_pos hy] at Hgo
        rw [hy]
        simp only [Option.bind_some] at Hgo
        have HG := jJ0 (fun W (hR : Rr W g bs s8) => rdigs_any W g bs (cnt : Int) s8 hR (by omega))
        have Hdg := jJ0 (digsN_dgs bs (cnt : Int) s8 HS.out.st.rr.fits.1)
        have Hln := jJ0 (digsN_len bs (cnt : Int) s8)
        clear hy
        go_wp2_with fail
        refine (HG.out _ HS.out.st.rr).mono ?_
        clear HG
        generalize vX bs (cnt : Int) s8 = t10 at *
        obtain ⟨ds, s9⟩ := t10
        simp only at Hgo Hdg Hln ⊢
        rintro e w12 ⟨A6, c6, rfl, hrd6, hav6, hcap6, hr6, hk6⟩
        replace Hp := jJ0 (HS.out.stepP hk6 Hp.out)
        replace HS := jJ0 (HS.out.step hr6 hk6)
        have hdl := Hln.out
        obtain ⟨i0, hi, hz0, hz1, hz2⟩ := info_parts Tryz.infoDig2
        have HoW := jJ0 HS.out.own.w
        have H63 := jJ0 (show (jk ps).length + ds.length <= maxLen by unfold maxLen; omega)
        have H47 := jJ0 (show ((jk ps).length + ds.length) * 32 <= 140737488355328 by omega)
        have HbW := jJ0 (show I + 1 <= w12.heap.size from HS.out.blk.lt)
        have Hrd6 := jJ0 hrd6
        clear hrd6 hav6 hcap6 hr6 hk6
        go_upto_region 23 with (first | (at_builtin; refine jO _ rfl (.tmp 104) (.tmp 107) 49 rfl (I + 1) 40 i0 _ 32 32 Tryz.underlying49 hi hz0 hz1 hz2 rfl (by decide) (.slice wA (jk ps).length wC) (jk ps).length _ rfl HoW.out A6 ds.length c6 _ rfl Hrd6.out (one_digs _) H63.out H47.out HbW.out ?_; intro A7 c7 w13 hown hgrow hat) | fail)
        rw [jH] at hgrow hat
        have Hw' := jJ0 (show jk (ps ++ [⟨size, num, ds⟩]) = jk ps ++ ds by simp [jk])
        have Hwl := jJ0 (show (jk (ps ++ [⟨size, num, ds⟩])).length = (jk ps).length + ds.length by rw [Hw'.out, List.length_append])
        have hown' : w13.ownsRow (I + 1) 40 32 (.slice A7 (jk (ps ++ [⟨size, num, ds⟩])).length c7) (jk (ps ++ [⟨size, num, ds⟩])).length ((jk (ps ++ [⟨size, num, ds⟩])).flatMap jB) := by
          rw [Hwl.out, Hw'.out, List.flatMap_append]
          exact hown
        replace Hp := jJ0 (Hp.out.growW (wA' := A7) hgrow hat)
        replace HS := jJ0 (HS.out.growW hgrow hat hown')
        have He' := jJ0 (endsOf_snoc ps 0 ⟨size, num, ds⟩)
        have Hwl2 := jJ0 (show (jk ps).length + ds.length <= (k + 1) * 100000000 by omega)
        clear hown hgrow hat hown' H63 H47 HoW Hrd6 hi hz0 hz1 hz2
        have hq100 : (jk ps).length + ds.length <= 200000000000 := by omega
        generalize hq : (jk ps).length + ds.length = q at *
        have Hq := jJ0 hq
        clear hq
        obtain ⟨i1, hi, hz0, hz1, hz2⟩ := info_parts Tryz.infoInt
        have HoN := jJ0 (show w13.ownsRow (I + 1) 3 1 (.slice nA k nC) k _ from by have h := HS.out.own.n; rw [yI, HK1.out] at h; exact h)
        have H63 := jJ0 (show k + 1 <= maxLen by unfold maxLen; omega)
        have H47 := jJ0 (show (k + 1) * 8 <= 140737488355328 by omega)
        have HbW := jJ0 (show I + 1 <= w13.heap.size from HS.out.blk.lt)
        go_upto_region 24 with (first | (at_builtin; refine jO _ rfl (.tmp 109) (.tmp 112) 113 rfl (I + 1) 3 i1 _ 1 8 Tryz.underlying113 hi hz0 hz1 hz2 rfl (by decide) (.slice nA k nC) k _ rfl (HoN.out.alloc _) _ 1 1 _ rfl (Rd.one_new _ _ _) (kz _ rfl) H63.out H47.out (Nat.le_trans HbW.out (by simp)) ?_; intro A8 c8 w14 hown hgrow hat) | fail)
        rw [jH] at hgrow hat
        have hown' : w14.ownsRow (I + 1) 3 1 (.slice A8 (vz 0 (ps ++ [⟨size, num, ds⟩])).length c8) (vz 0 (ps ++ [⟨size, num, ds⟩])).length ((vz 0 (ps ++ [⟨size, num, ds⟩])).map fun (n : Nat) => .int .i64 (n : Int)) := by
          rw [He'.out, List.length_append, yI, HK1.out, List.map_append, Nat.zero_add, Hq.out]
          exact hown
        have hoA := (Kp.refl NoX w13).alloc (.cells #[.int .i64 (q : Int)] 3)
        replace Hp := jJ0 ((Hp.out.oldP hoA).growN (nA' := A8) hgrow hat)
        replace HS := jJ0 ((HS.out.old hoA).growN hgrow hat hown')
        clear hown hgrow hat hown' H63 H47 HoN hi hz0 hz1 hz2 hoA HbW
        obtain ⟨i2, hi, hz0, hz1, hz2⟩ := info_parts Tryz.infoBytes
        have HoE := jJ0 (show w14.ownsRow (I + 1) 22 1 (.slice eA k eC) k _ from by have h := HS.out.own.e; rw [HK2.out] at h; exact h)
        have H63 := jJ0 (show k + 1 <= maxLen by unfold maxLen; omega)
        have H47 := jJ0 (show (k + 1) * 24 <= 140737488355328 by omega)
        have HbW := jJ0 (show I + 1 <= w14.heap.size from HS.out.blk.lt)
        have hIl := HS.out.blk.lt
        have c34 := HS.out.blk.at_ 34 (v := .slice eA k eC) (by rw [List.getElem?_toArray, <- HK2.out]; exact kB [.string nm, .int .i64 first] _ before HS.out.bef 34 0 rfl)
        have z34 := HS.out.blk.frozen 34
        have HbA := jJ0 (HS.out.blk.alloc (.cells #[.slice A5 ev.length c5] 22))
        have HcA := jJ0 (HbA.out.at_ 34 (v := .slice eA k eC) (by rw [List.getElem?_toArray, <- HK2.out]; exact kB [.string nm, .int .i64 first] _ before HS.out.bef 34 0 rfl))
        have hne : some I ≠ (Value.slice eA k eC).ownBlock := by
          rw [jH]
          intro e
          have := (ja HoE.out e.symm).1
          omega
        go_upto_region 25 with (first | (at_builtin; refine jO _ rfl (.tmp 115) (.tmp 117) 58 rfl (I + 1) 22 i2 _ 1 24 Tryz.underlying58 hi hz0 hz1 hz2 rfl (by decide) (.slice eA k eC) k _ rfl (HoE.out.alloc _) _ 1 1 _ rfl (Rd.one_new _ _ _) (kz _ rfl) H63.out H47.out (Nat.le_trans HbW.out (by simp)) ?_; intro A9 c9 w15 hown hgrow hat; have hcc := hgrow.cell (a := ⟨I, 34, none⟩) HcA.out hne; have hzz : w15.frozen? ⟨I, 34, none⟩ = false := (World.frozen?_of_block (hgrow.block I HbA.out.lt hne)).trans (HbA.out.frozen 34)) | fail)
        rw [jH] at hgrow hat
        have hoA := (Kp.refl NoX w14).alloc (.cells #[.slice A5 ev.length c5] 22)
        have HSE := jJ0 ((HS.out.old hoA).growE (p := ⟨A5, ev, c5⟩) hgrow hat (by rw [HK2.out, List.map_append]; exact hown) (Hp.out.oldP hoA))
        rw [HK2.out] at HSE
        clear hown hgrow hat H63 H47 HoE hi hz0 hz1 hz2 hoA HbW c34 z34 hne hcc hzz hIl Hp HS HbA HcA
        have HS := jJ0 HSE.out
        clear HSE
        generalize w15.setCell _ _ = W15 at *
        obtain ⟨i3, hi, hz0, hz1, hz2⟩ := info_parts Tryz.infoInc
        have HoP := jJ0 (show W15.ownsRow (I + 1) 51 3 (.slice pA k pC) k _ from by have h := HS.out.own.p; rw [HK1.out] at h; exact h)
        have H63 := jJ0 (show k + 1 <= maxLen by unfold maxLen; omega)
        have H47 := jJ0 (show (k + 1) * 40 <= 140737488355328 by omega)
        have HbW := jJ0 (show I + 1 <= W15.heap.size from HS.out.blk.lt)
        have Hs35 := jJ0 (show (pieC nm first before A9 (evs ++ [(⟨A5, ev, c5⟩ : Part)]).length c9 pA ps.length pC)[35]? = some (.slice pA k pC) by rw [<- HK1.out]; exact kB [.string nm, .int .i64 first] _ before HS.out.bef 34 1 rfl)
        have c35 := HS.out.blk.at_ 35 (by rw [List.getElem?_toArray]; exact Hs35.out)
        have z35 := HS.out.blk.frozen 35
        have HbA := jJ0 (HS.out.blk.alloc (.cells (bareP ⟨size, num, ds⟩).toArray 51))
        have HcA := jJ0 (HbA.out.at_ 35 (by rw [List.getElem?_toArray]; exact Hs35.out))
        have hne : some I ≠ (Value.slice pA k pC).ownBlock := by
          rw [jH]
          intro e
          have := (ja HoP.out e.symm).1
          omega
        go_wp2_with (first | refine Tryz.wl_inc1 rfl (.tmp 124) rfl ⟨size, num, ds⟩ rfl ?_ | (at_builtin; refine jO _ rfl (.tmp 121) (.tmp 125) 59 rfl (I + 1) 51 i3 _ 3 40 Tryz.underlying59 hi hz0 hz1 hz2 rfl (by decide) (.slice pA k pC) k _ rfl (HoP.out.alloc _) _ 1 1 (bareP ⟨size, num, ds⟩) rfl (Rd.row_new _ _ 3 1 _ rfl) (bareP_one _) H63.out H47.out (Nat.le_trans HbW.out (by simp)) ?_; intro A10 c10 w16 hown hgrow hat; have hcc := hgrow.cell (a := ⟨I, 35, none⟩) HcA.out hne; have hzz : w16.frozen? ⟨I, 35, none⟩ = false := (World.frozen?_of_block (hgrow.block I HbA.out.lt hne)).trans (HbA.out.frozen 35)) | fail)
        rw [jH] at hgrow hat
        have hoA := (Kp.refl NoX W15).alloc (.cells (bareP ⟨size, num, ds⟩).toArray 51)
        have HSE := jJ0 ((HS.out.old hoA).growP (p := ⟨size, num, ds⟩) hgrow hat (by rw [HK1.out, List.flatMap_append, List.flatMap_singleton]; exact hown))
        rw [HK1.out] at HSE
        have Hnext := jJ0 (fun (W' : World) (h : W' = w16.setCell ⟨I, 35, none⟩ (.slice A10 (k + 1) c10)) => show PieRel w g I bs nm first before size n s6 (k + 1) A7 q c7 A8 c8 W' from
          ⟨evs ++ [⟨A5, ev, c5⟩], ps ++ [⟨size, num, ds⟩], A9, c9, A10, c10, s9, h ▸ HSE.out, by rw [List.length_append, HK1.out]; rfl, by rw [List.length_append, HK2.out]; rfl, Hwl.out.symm, by rw [Hwl.out]; exact Hwl2.out,
            fun p hp => by
              rcases List.mem_append.1 hp with hp | hp
              · exact Hps.out p hp
              · rw [List.mem_singleton.1 hp]; exact ⟨rfl, Hdg.out, by have := Hln.out; simp only; omega⟩,
            by omega, by rw [Hgo.out, show n - (k + 1) = m by have := Hm.out; omega, List.map_append]; rfl⟩)
        clear hown hgrow hat H63 H47 HoP hi hz0 hz1 hz2 hoA HbW c35 z35 hne hcc hzz HS HbA HcA HSE Hs35 Hps Hgo
        go_roundw
        case rel => exact ⟨k + 1, A7, q, c7, A8, c8, by go_num, rfl, rfl, Hnext.out _ rfl⟩
        case measure => simp [intOf]; omega
      · obtain rfl : k = n := by omega
        have HD4 := jJ0 (show D = pieEnd bs nm first before (evs.map Part.l, ps, s) by rw [HD3.out, Hgo.out, Nat.sub_self]; rfl)
        have HT := jJ0 HS.out.two
        clear HS HD3 Hgo
        have Hdg := jJ0 (show ∀ p ∈ ps, Dgs p.ds from fun p hp => (Hps.out p hp).2.1)
        go_wp2_with fail
        go_loopw [131, 19, 20, 21] (fun i lv _ _ wr => ∃ q : Nat, i = .int .i64 q /\ lv = .int .i64 (vv ps q) /\ q <= k /\ PieTwo w g I bs nm first before evs ps wA wC nA nC eA eC pA pC s q wr) (fun i _ _ _ _ => k - (intOf i).toNat)
        case atStart => exact ⟨0, rfl, rfl, Nat.zero_le _, HT.out⟩
        case round =>
          obtain ⟨q, rfl, rfl, hqk, hT⟩ := hrel
          clear HT
          have HS := jJ0 hT
          clear hT
          by_cases hlt2 : q < k
          · have hqp : q < ps.length := by have := HK1.out; omega
            obtain ⟨nb, no, u, hnA, hu, hnc⟩ := (Rd.of_own HS.out.own.n).at_ hqp
            have hu' : u = .int .i64 ((vv ps q + ps[q].ds.length : Nat) : Int) := by
              rw [List.getElem?_map, List.getElem?_eq_getElem (by rw [yI]; exact hqp), endsOf_get ps 0 q hqp] at hu
              simp only [Nat.zero_add, Option.map_some, Option.some.injEq] at hu
              exact hu.symm
            subst hu'
            obtain ⟨pb, pcap, hpv, hpge, _⟩ := HS.out.own.p.form (by omega)
            have hpA : pA = some ⟨pb, 0, none⟩ := by injection hpv
            subst hpA
            clear hpv
            have Hnext := jJ0 ((HS.out.put hqp).old ((Kp.refl NoX _).drew))
            have hcut := fun W => cut_lhm Tryz.elemDigs Tryz.sizeDigs wA (jk ps).length wC (vv ps q) (vv ps q + ps[q].ds.length) (by omega) (by have h1 := lowAt_le ps (q + 1); rw [lowAt_succ ps q hqp] at h1; have h2 := own_cap HS.out.own.w; omega) W
            rw [mwayOf_A, Nat.add_sub_cancel_left] at hcut
            have Hlow := jJ0 (lowAt_succ ps q hqp)
            have c35 : wr.drew.cell? ⟨I, 35, none⟩ = some (.slice (some ⟨pb, 0, none⟩) k pC) := HS.out.blk.drew.at_ 35 (by rw [List.getElem?_toArray, <- HK1.out]; exact kB [.string nm, .int .i64 first] _ before HS.out.bef 34 1 rfl)
            obtain ⟨pv, hpvv⟩ : ∃ v, (pxAt wA ps q)[q * 3 + 2]? = some v := ⟨_, List.getElem?_eq_getElem (by rw [pxAt_len wA ps q (by omega)]; omega)⟩
            have pc : wr.drew.cell? ⟨pb, q * 3 + 2, none⟩ = some pv := (HS.out.own.p.cellAt (q * 3 + 2) (by omega)).trans hpvv
            have pz : wr.drew.frozen? ⟨pb, q * 3 + 2, none⟩ = false := HS.out.own.p.frozenAt (q * 3 + 2)
            have HpI := jJ0 (show pb ≠ I by have := hpge; omega)
            generalize (mwayOf wA (vv ps q) ps[q]).A = mA at *
            generalize ps[q].ds.length = dl at *
            generalize vv ps q = lo at *
            generalize lo + dl = hi at *
            have b1 : (0 : Int) <= (q : Int) := by omega
            have b2 : (q : Int) < (k : Int) := by omega
            have b3 : (q : Int).toNat = q := by omega
            have HnA := jJ0 hnA
            rw [hnA]
            clear hu hpvv hnA hpge HS
            go_wp2_with fail
            refine wp_region_held_drew (S := fun w' => w'.cell? ⟨I, 35, none⟩ = some (.slice (some ⟨pb, 0, none⟩) k pC)) (by kernel_rfl) c35 (fun hHeld => ?_)
            refine' jJ 0 rfl rfl (by kernel_rfl) (by kernel_rfl) (by kernel_rfl) (fun _ _ _ h => h) rfl hHeld (fun w hSw => ?_) ?_
            rotate_left
            · ((try dsimp only at hSw); go_simp <;> with_reducible rfl)
            simp only [Act.put, List.setIfInBounds_toArray, List.set_cons_zero, List.set_cons_succ]
            refine' jJ 1 rfl rfl (by kernel_rfl) (by kernel_rfl) (by kernel_rfl) (fun _ _ _ h => h) rfl hHeld (fun w hSw => ?_) ?_
            rotate_left
            · ((try dsimp only at hSw); go_simp <;> with_reducible rfl)
            simp only [Act.put, List.setIfInBounds_toArray, List.set_cons_zero, List.set_cons_succ]
            refine' jJ 2 rfl rfl (by kernel_rfl) (by kernel_rfl) (by kernel_rfl) (fun _ _ _ h => h) rfl hHeld (fun w hSw => ?_) ?_
            rotate_left
            · ((try dsimp only at hSw); go_simp <;> with_reducible rfl)
            simp only [Act.put, List.setIfInBounds_toArray, List.set_cons_zero, List.set_cons_succ]
            refine' jJ 3 rfl rfl (by kernel_rfl) (by kernel_rfl) (by kernel_rfl) (fun _ _ _ h => h) rfl hHeld (fun w hSw => ?_) ?_
            rotate_left
            · ((try dsimp only at hSw); go_simp <;> with_reducible rfl)
            simp only [Act.put, List.setIfInBounds_toArray, List.set_cons_zero, List.set_cons_succ]
            refine' jJ 4 rfl rfl (by kernel_rfl) (by kernel_rfl) (by kernel_rfl) (fun _ _ _ h => h) rfl hHeld (fun w hSw => ?_) ?_
            rotate_left
            · ((try dsimp only at hSw); go_simp <;> with_reducible rfl)
            simp only [Act.put, List.setIfInBounds_toArray, List.set_cons_zero, List.set_cons_succ]
            refine' jJ 5 rfl rfl (by kernel_rfl) (by kernel_rfl) (by kernel_rfl) (fun _ _ _ h => h) rfl hHeld (fun w hSw => ?_) ?_
            rotate_left
            · ((try dsimp only at hSw); go_simp <;> with_reducible rfl)
            simp only [Act.put, List.setIfInBounds_toArray, List.set_cons_zero, List.set_cons_succ]
            refine' jJ 6 rfl rfl (by kernel_rfl) (by kernel_rfl) (by kernel_rfl) (fun _ _ _ h => h) rfl hHeld (fun w hSw => ?_) ?_
            rotate_left
            · ((try dsimp only at hSw); go_simp <;> with_reducible rfl)
            simp only [Act.put, List.setIfInBounds_toArray, List.set_cons_zero, List.set_cons_succ]
            refine' jJ 7 rfl rfl (by kernel_rfl) (by kernel_rfl) (by kernel_rfl) (fun _ _ _ h => h) rfl hHeld (fun w hSw => ?_) ?_
            rotate_left
            · ((try dsimp only at hSw); go_simp <;> with_reducible rfl)
            simp only [Act.put, List.setIfInBounds_toArray, List.set_cons_zero, List.set_cons_succ]
            refine' jJ 8 rfl rfl (by kernel_rfl) (by kernel_rfl) (by kernel_rfl) (fun _ _ _ h => h) rfl hHeld (fun w hSw => ?_) ?_
            rotate_left
            · ((try dsimp only at hSw); go_simp <;> with_reducible rfl)
            simp only [Act.put, List.setIfInBounds_toArray, List.set_cons_zero, List.set_cons_succ]
            refine' jJ 9 rfl rfl (by kernel_rfl) (by kernel_rfl) (by kernel_rfl) (fun _ _ _ h => h) rfl hHeld (fun w hSw => ?_) ?_
            rotate_left
            · ((try dsimp only at hSw); go_simp <;> with_reducible rfl)
            simp only [Act.put, List.setIfInBounds_toArray, List.set_cons_zero, List.set_cons_succ]
            refine je 10 rfl (by kernel_rfl) (fun K hK => ?_)
            have cS : (wr.drew.setCell ⟨pb, q * 3 + 2, none⟩ (.slice mA dl dl)).cell? ⟨I, 35, none⟩ = some (.slice (some ⟨pb, 0, none⟩) k pC) := by
              rw [World.cell?_of_block (Below.heap_setCell _ _ _ _ (fun e => HpI.out e.symm))]
              exact c35
            have hpo : pb = pb := rfl
            go_simp
            refine hK.out _ _ cS (fun hHeld => ?_)
            clear hK K
            refine wpAnyH_done (by kernel_rfl) ?_ _
            clear cS pc pz c35 hcut hnc
            go_wp2
            go_roundw
            case rel => exact ⟨q + 1, by go_num, by rw [Hlow.out], by omega, by rw [<- HnA.out]; exact Hnext.out⟩
            case measure => simp [intOf]; omega
          · obtain rfl : q = k := by omega
            have HDn := jJ0 (fun W (hR : Rr W g bs s) => jw W g bs s hR)
            unfold pieEnd at HD4
            simp only at HD4
            go_wp2_with fail
            refine (HDn.out _ HS.out.st.rr).mono ?_
            clear HDn
            generalize jo bs s = dn at *
            rintro e w20 ⟨rfl, ho6⟩
            replace HS := jJ0 (HS.out.old ho6)
            clear ho6
            by_cases hd : dn = 0
            case neg =>
              have Hno := jJ0 (show D = none by rw [HD4.out, if_neg (fun h => hd h.1)])
              have hd' : (dn != 0) = true := by simpa using hd
              clear hd
              have Hth := jJ0 (HS.out.st.th zeroPieL rfl)
              have Ht := jJ0 (HS.out.st.told zeroPieL rfl)
              go_wp2_with (first | ((with_reducible refine jU 61 ?_); refine Tryz.wl_zero rfl 61 rfl _ (Tryz.zeroPieV _) ?_) | ((with_reducible refine jE 61 (.tmp 2) (.tmp 166) ?_); refine wpList_store_mid rfl 61 (.tmp 2) (.tmp 166) rfl w.heap.size 0 zeroPieL.toArray rfl rfl Hth.out Tryz.sizePiece (jK rfl) ?_) | fail)
              refine jA (g := w.heap.size) (cs := zeroPieL.toArray) rfl rfl Ht.out.box Tryz.underlying61 rfl Tryz.sizePiece rfl ?_
              exact .inr ⟨8, Hno.out, by decide, rfl, Ht.out.old⟩
            subst hd
            have Hml := jJ0 (show (jz wA 0 ps).length = q by rw [kd, HK1.out])
            have Hlens := jJ0 (show evs.length = (jz wA 0 ps).length by rw [HK2.out, Hml.out])
            have HrE := jJ0 (show Rd w20 1 eA q (evs.map Part.sl) from by have h := Rd.of_own HS.out.own.e; rw [HK2.out] at h; exact h)
            have HrP := jJ0 (show Rd w20 3 pA q ((jz wA 0 ps).flatMap MWay.cells) from by
              have h := Rd.of_own HS.out.own.p
              have e := pxAt_full wA ps
              rw [HK1.out] at e h
              rw [e] at h
              exact h)
            have Hbe := jJ0 HS.out.bef
            have HRc := jJ0 (reach_any w20 nm first before HS.out.bef (by have := Hl.out; omega) eA pA eC pC (List.zipWith mrow evs (jz wA 0 ps)) (rows_ok evs _ (fun p hp => (HS.out.ev p hp).big) (fun p hp => by
              obtain ⟨i, hi, rfl⟩ := List.getElem_of_mem hp
              rw [kd] at hi
              rw [mwaysOf_get wA ps 0 i hi]
              have := (Hps.out ps[i] (List.getElem_mem hi)).2.2
              show ps[i].ds.length <= _
              omega))
              (by rw [vS _ _ Hlens.out, rows_ev _ _ Hlens.out, HK2.out]; exact HrE.out) (by rw [vS _ _ Hlens.out, rows_pf _ _ Hlens.out, HK2.out]; exact HrP.out) (by rw [vS _ _ Hlens.out, HK2.out]; omega))
            rw [vS _ _ Hlens.out, HK2.out, <- reachN_strip, strip_rows, mwaysOf_data] at HRc
            have HD5 := jJ0 (show D = if vw nm first before (List.zipWith prow (evs.map Part.l) ps) = q then some ⟨nm, first, before, evs.map Part.l, ps⟩ else none by
              rw [HD4.out, List.length_map, HK2.out]
              simp)
            generalize vw nm first before (List.zipWith prow (evs.map Part.l) ps) = R at *
            have Hmc := jJ0 (show pieC nm first before eA evs.length eC pA ps.length pC = MPiece.cells ⟨nm, first, before, evs, eA, eC, jz wA 0 ps, pA, pC⟩ by rw [pieC, MPiece.cells, kd])
            have HB := jJ0 HS.out.blk
            rw [Hmc.out] at HB
            have c0 := HB.out.at_ 0 (v := .string nm) rfl
            have c1 := HB.out.at_ 1 (v := .int .i64 first) rfl
            have Hrg := jJ0 ((MPiece.s2 ⟨nm, first, before, evs, eA, eC, jz wA 0 ps, pA, pC⟩).range HB.out)
            have c34 : w20.cell? ⟨I, 34, none⟩ = some (.slice eA q eC) := by rw [<- HK2.out]; exact HB.out.at_ 34 (by rw [List.getElem?_toArray]; exact MPiece.s34 Hbe.out)
            have c35 : w20.cell? ⟨I, 35, none⟩ = some (.slice pA q pC) := by rw [<- Hml.out]; exact HB.out.at_ 35 (by rw [List.getElem?_toArray]; exact MPiece.s35 Hbe.out)
            have Hsz := jJ0 (show (Tryz.prog.info? 40).map (·.size) = some (jB before).length by rw [jD, Hbe.out]; exact Tryz.sizeDigest)
            go_wp2_with (first | ((with_reducible refine jW 40 (.tmp 156) ?_); refine Tryz.load_w rfl 40 (.tmp 156) rfl I 2 rfl (jB before) _ Hrg.out Tryz.underlying40 rfl Hsz.out ?_) | fail)
            refine HRc.out.mono ?_
            rintro e w21 ⟨rfl, ho6⟩
            replace HS := jJ0 (HS.out.old ho6)
            replace HB := jJ0 (HB.out.old ho6)
            replace HrE := jJ0 (HrE.out.old ho6)
            replace HrP := jJ0 (HrP.out.old ho6)
            clear ho6 c0 c1 c34 c35 Hrg HRc
            by_cases hR : R = q
            case neg =>
              have Hno := jJ0 (show D = none by rw [HD5.out, if_neg hR])
              have hR' : ((R : Int) != (q : Int)) = true := by simp; omega
              clear hR
              have Hth := jJ0 (HS.out.st.th zeroPieL rfl)
              have Ht := jJ0 (HS.out.st.told zeroPieL rfl)
              go_wp2_with (first | ((with_reducible refine jU 61 ?_); refine Tryz.wl_zero rfl 61 rfl _ (Tryz.zeroPieV _) ?_) | ((with_reducible refine jE 61 (.tmp 2) (.tmp 166) ?_); refine wpList_store_mid rfl 61 (.tmp 2) (.tmp 166) rfl w.heap.size 0 zeroPieL.toArray rfl rfl Hth.out Tryz.sizePiece (jK rfl) ?_) | fail)
              refine jA (g := w.heap.size) (cs := zeroPieL.toArray) rfl rfl Ht.out.box Tryz.underlying61 rfl Tryz.sizePiece rfl ?_
              exact .inr ⟨8, Hno.out, by decide, rfl, Ht.out.old⟩
            have hR' : ((R : Int) != (q : Int)) = false := by simp; omega
            have Hyes := jJ0 (show D = some (MPiece.data ⟨nm, first, before, evs, eA, eC, jz wA 0 ps, pA, pC⟩) by rw [HD5.out, if_pos hR]; simp only [MPiece.data, mwaysOf_data])
            have Hlen := jJ0 (show (MPiece.cells ⟨nm, first, before, evs, eA, eC, jz wA 0 ps, pA, pC⟩).length = 36 from MPiece.len Hbe.out)
            have Hone := jJ0 (MPiece.one ⟨nm, first, before, evs, eA, eC, jz wA 0 ps, pA, pC⟩)
            have Hend := jJ0 (fun w' (ht : Told 61 (MPiece.cells ⟨nm, first, before, evs, eA, eC, jz wA 0 ps, pA, pC⟩) w w21 w') => show DecPP w D (.returned (.tuple #[.agg (MPiece.cells ⟨nm, first, before, evs, eA, eC, jz wA 0 ps, pA, pC⟩).toArray, .int .i64 0])) w' from by
              have hgI := HS.out.lt
              have hwg := HS.out.st.lt
              refine .inl ⟨⟨nm, first, before, evs, eA, eC, jz wA 0 ps, pA, pC⟩, Hyes.out, rfl, ⟨Hbe.out, fun p hp => (HS.out.ev p hp).turn ht.kp (fun b _ e => .inl (by omega)) (fun b _ e => .inl (by omega)), ?_, ?_, fun p hp => ?_, ?_, ?_, ?_⟩, ht.old⟩
              · show Rd w' 1 eA evs.length _
                rw [HK2.out]
                exact HrE.out.told ht (fun _ ad e hx => by have := (ja HS.out.own.e (b := ad.block) (by rw [e]; rfl)).1; omega)
              · exact fun _ ad e hx => by have := (ja HS.out.own.e (b := ad.block) (by rw [show eA = some ad from e]; rfl)).1; omega
              · obtain ⟨i, hi, rfl⟩ := List.getElem_of_mem hp
                have hi2 : i < ps.length := by rw [<- kd wA ps 0]; exact hi
                show MWay.Ok _ _ ((jz wA 0 ps)[i])
                rw [mwaysOf_get wA ps 0 i hi2, Nat.zero_add]
                obtain ⟨r1, r2⟩ := mway_rd HS.out.own.w Hdg.out i hi2
                exact ⟨Hdg.out _ (List.getElem_mem hi2), r1.told ht (fun hn ad e hx => r2 hn ad e (by omega)), fun hn ad e hx => r2 hn ad e (by omega), by have := (Hps.out ps[i] (List.getElem_mem hi2)).2.2; show ps[i].ds.length <= _; omega⟩
              · show Rd w' 3 pA (jz wA 0 ps).length _
                rw [Hml.out]
                exact HrP.out.told ht (fun _ ad e hx => by have := (ja HS.out.own.p (b := ad.block) (by rw [e]; rfl)).1; omega)
              · exact fun _ ad e hx => by have := (ja HS.out.own.p (b := ad.block) (by rw [show pA = some ad from e]; rfl)).1; omega
              · refine ⟨?_, ?_, Hl.out⟩
                · show evs.length <= _; have := HK2.out; omega
                · show (jz wA 0 ps).length <= _; have := Hml.out; omega)
            generalize MPiece.cells ⟨nm, first, before, evs, eA, eC, jz wA 0 ps, pA, pC⟩ = mc at *
            have Hrg2 := jJ0 HB.out.range
            have Hsz2 := jJ0 (show (Tryz.prog.info? 61).map (·.size) = some mc.length by rw [Hlen.out]; exact Tryz.sizePiece)
            have Hth := jJ0 (HS.out.st.th mc (by rw [Hlen.out]; rfl))
            have Ht := jJ0 (HS.out.st.told mc (by rw [Hlen.out]; rfl))
            clear hR Hmc
            go_wp2_with (first | ((with_reducible refine jW 61 (.tmp 6) ?_); refine Tryz.load_w rfl 61 (.tmp 6) rfl I 0 rfl mc _ Hrg2.out Tryz.underlying61 rfl Hsz2.out ?_) | ((with_reducible refine jE 61 (.tmp 2) (.tmp 167) ?_); refine wpList_store_mid rfl 61 (.tmp 2) (.tmp 167) rfl w.heap.size 0 mc.toArray rfl rfl Hth.out Hsz2.out Hone.out ?_) | fail)
            refine jA (g := w.heap.size) (cs := mc.toArray) rfl rfl Ht.out.box Tryz.underlying61 rfl (by rw [List.size_toArray]; exact Hsz2.out) rfl ?_
            exact Hend.out _ Ht.out
  · have Hno := jJ0 (show D = none by rw [HD.out]; rfl)
    have HS := jJ0 (Hb.out.old ho1)
    have HO1 := jJ0 (HO.out.old ho1)
    have her' : (er != 0) = true := by simpa using her
    have Hth := jJ0 (HS.out.there 0 36 (by decide))
    have Ht := jJ0 (Blk.setWhole (cs := zeroPieL) HS.out zeroPieL rfl)
    have HoE := jJ0 (show Old w (w1.setCells w.heap.size 0 zeroPieL) from HO1.out.trans (Kp.setCells _ 0 _ _) (fun b hb e => by omega))
    clear ho1 HBg Hb HO
    go_wp2_with (first | ((with_reducible refine jU 61 ?_); refine Tryz.wl_zero rfl 61 rfl _ (Tryz.zeroPieV _) ?_) | ((with_reducible refine jE 61 (.tmp 2) (.tmp 29) ?_); refine wpList_store_mid rfl 61 (.tmp 2) (.tmp 29) rfl w.heap.size 0 zeroPieL.toArray rfl rfl Hth.out Tryz.sizePiece (jK rfl) ?_) | fail)
    refine jA (g := w.heap.size) (cs := zeroPieL.toArray) rfl rfl Ht.out Tryz.underlying61 rfl Tryz.sizePiece rfl ?_
    exact .inr ⟨er, Hno.out, her, rfl, HoE.out⟩
end Go.Proofs.YtnaolhjbapgjgaaGreat
