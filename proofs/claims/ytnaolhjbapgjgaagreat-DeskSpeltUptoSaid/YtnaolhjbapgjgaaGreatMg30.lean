import Derived.Test.YtnaolhjbapgjgaaGreatMg20
import Derived.Test.YtnaolhjbapgjgaaGreatMg22
import Derived.Test.YtnaolhjbapgjgaaGreatMg28
import Derived.Test.YtnaolhjbapgjgaaGreatMg29
set_option maxRecDepth 100000
set_option maxHeartbeats 3200000
namespace Go.Proofs.YtnaolhjbapgjgaaGreat
open Go.RowKit
def zeroPart : Part := ⟨none, [], 0⟩
def zeroNoteM : MNote := ⟨zeroHd, [], none, 0⟩
def zeroWayM : MWay := ⟨0, 0, [], none, 0⟩
def zeroPieM : MPiece := ⟨⟨#[]⟩, 0, zD, [], none, 0, [], none, 0⟩
def zeroMR : MReply := ⟨0, 0, 0, 0, 0, [], none, 0, zeroMC, zeroPart, 0, zeroNoteM, zeroWayM, zeroWayM, zeroIdx, none, 0, zeroPieM⟩
section
variable (w : World) (X : Nat -> Prop)
theorem zeroMC_ok : zeroMC.Ok w X := ⟨kg, fun v hv => (by cases hv), Rd.none_, fun h => absurd h (by simp [zeroMC]), zeroMT_ok w X, zeroMT_ok w X, zeroMT_ok w X, by decide, jg, jg⟩
theorem zeroPart_ok : zeroPart.Ok w X := ⟨Rd.none_, fun h => absurd h (by simp [zeroPart]), by decide⟩
theorem zeroNote_ok : zeroNoteM.Ok w X := ⟨zeroHd_ok, Rd.none_, fun h => absurd h (by simp [zeroNoteM]), by decide⟩
theorem zeroWay_ok : zeroWayM.Ok w X := ⟨fun d hd => (by cases hd), Rd.none_, fun h => absurd h (by simp [zeroWayM]), by decide⟩
theorem zeroPie_ok : zeroPieM.Ok w X := ⟨kg, fun p hp => (by cases hp), Rd.none_, fun h => absurd h (by simp [zeroPieM]), fun p hp => (by cases hp), Rd.none_, fun h => absurd h (by simp [zeroPieM]), by decide, by decide, jg⟩
theorem jM : zeroMR.Ok w X := ⟨Rd.none_, fun h => absurd h (by simp [zeroMR]), ⟨fun h hh => (by cases hh), by decide⟩, zeroMC_ok w X, zeroPart_ok w X, zeroNote_ok w X, by decide, zeroWay_ok w X, zeroWay_ok w X, zeroIdx_ok, Rd.none_, fun h => absurd h (by simp [zeroMR, zeroIdx]), zeroPie_ok w X⟩
end
section
variable {w : World} {P : Nat} {T : TypeId} {m : MReply}
abbrev pre6 (m : MReply) : List Value := [.int .i64 m.err, .int .i64 m.pa, .int .i64 m.pb, .int .i64 m.pc, .int .i64 m.number, .slice m.hA m.hap.length m.hC]
theorem Blk.rCase (h : Blk w P T m.cells.toArray) (hl : m.case_.chain.length = 32) (c : MCase) (hc : c.chain.length = 32) : Blk (w.setCells P 6 c.cells) P T (MReply.cells { m with case_ := c }).toArray := by
  have := Blk.setCells (pre := pre6 m) (mid := m.case_.cells) (post := [m.raw.sl, .int .i64 m.size] ++ (m.note.cells ++ (m.inc.cells ++ (m.con.cells ++ (m.idx.cells m.iA m.iC ++ m.pie.cells))))) (by simpa [MReply.cells] using h) c.cells (by rw [MCase.len hl, MCase.len hc])
  simpa [MReply.cells] using this
theorem Blk.rNote (h : Blk w P T m.cells.toArray) (hl : m.case_.chain.length = 32) (hn : m.note.head.Ok) (c : MNote) (hc : c.head.Ok) : Blk (w.setCells P 47 c.cells) P T (MReply.cells { m with note := c }).toArray := by
  have := Blk.setCells (pre := pre6 m ++ (m.case_.cells ++ [m.raw.sl, .int .i64 m.size])) (mid := m.note.cells) (post := m.inc.cells ++ (m.con.cells ++ (m.idx.cells m.iA m.iC ++ m.pie.cells))) (by simpa [MReply.cells] using h) c.cells (by rw [MNote.len hn, MNote.len hc])
  have e : (pre6 m ++ (m.case_.cells ++ [m.raw.sl, .int .i64 m.size])).length = 47 := by rw [List.length_append, List.length_append, MCase.len hl]; rfl
  rw [e] at this
  simpa [MReply.cells] using this
theorem Blk.rInc (h : Blk w P T m.cells.toArray) (hl : m.case_.chain.length = 32) (hn : m.note.head.Ok) (c : MWay) : Blk (w.setCells P 146 c.cells) P T (MReply.cells { m with inc := c }).toArray := by
  have := Blk.setCells (pre := pre6 m ++ (m.case_.cells ++ ([m.raw.sl, .int .i64 m.size] ++ m.note.cells))) (mid := m.inc.cells) (post := m.con.cells ++ (m.idx.cells m.iA m.iC ++ m.pie.cells)) (by simpa [MReply.cells] using h) c.cells rfl
  have e : (pre6 m ++ (m.case_.cells ++ ([m.raw.sl, .int .i64 m.size] ++ m.note.cells))).length = 146 := by simp only [List.length_append, MCase.len hl, MNote.len hn]; rfl
  rw [e] at this
  simpa [MReply.cells] using this
theorem Blk.rCon (h : Blk w P T m.cells.toArray) (hl : m.case_.chain.length = 32) (hn : m.note.head.Ok) (c : MWay) : Blk (w.setCells P 149 c.cells) P T (MReply.cells { m with con := c }).toArray := by
  have := Blk.setCells (pre := pre6 m ++ (m.case_.cells ++ ([m.raw.sl, .int .i64 m.size] ++ (m.note.cells ++ m.inc.cells)))) (mid := m.con.cells) (post := m.idx.cells m.iA m.iC ++ m.pie.cells) (by simpa [MReply.cells] using h) c.cells rfl
  have e : (pre6 m ++ (m.case_.cells ++ ([m.raw.sl, .int .i64 m.size] ++ (m.note.cells ++ m.inc.cells)))).length = 149 := by simp only [List.length_append, MCase.len hl, MNote.len hn]; rfl
  rw [e] at this
  simpa [MReply.cells] using this
theorem Blk.rIdx (h : Blk w P T m.cells.toArray) (hl : m.case_.chain.length = 32) (hn : m.note.head.Ok) (hx : m.idx.Ok) (x : Idx) (A : Option Addr) (c : Nat) (hc : x.Ok) : Blk (w.setCells P 152 (x.cells A c)) P T (MReply.cells { m with idx := x, iA := A, iC := c }).toArray := by
  have := Blk.setCells (pre := pre6 m ++ (m.case_.cells ++ ([m.raw.sl, .int .i64 m.size] ++ (m.note.cells ++ (m.inc.cells ++ m.con.cells))))) (mid := m.idx.cells m.iA m.iC) (post := m.pie.cells) (by simpa [MReply.cells] using h) (x.cells A c) (by rw [hx.len, hc.len])
  have e : (pre6 m ++ (m.case_.cells ++ ([m.raw.sl, .int .i64 m.size] ++ (m.note.cells ++ (m.inc.cells ++ m.con.cells))))).length = 152 := by simp only [List.length_append, MCase.len hl, MNote.len hn]; rfl
  rw [e] at this
  simpa [MReply.cells] using this
theorem Blk.rPie (h : Blk w P T m.cells.toArray) (hl : m.case_.chain.length = 32) (hn : m.note.head.Ok) (hx : m.idx.Ok) (hp : m.pie.before.length = 32) (c : MPiece) (hc : c.before.length = 32) : Blk (w.setCells P 220 c.cells) P T (MReply.cells { m with pie := c }).toArray := by
  have := Blk.setCells (pre := pre6 m ++ (m.case_.cells ++ ([m.raw.sl, .int .i64 m.size] ++ (m.note.cells ++ (m.inc.cells ++ (m.con.cells ++ m.idx.cells m.iA m.iC)))))) (mid := m.pie.cells) (post := []) (by simpa [MReply.cells] using h) c.cells (by rw [MPiece.len hp, MPiece.len hc])
  have e : (pre6 m ++ (m.case_.cells ++ ([m.raw.sl, .int .i64 m.size] ++ (m.note.cells ++ (m.inc.cells ++ (m.con.cells ++ m.idx.cells m.iA m.iC)))))).length = 220 := by simp only [List.length_append, MCase.len hl, MNote.len hn, hx.len]; rfl
  rw [e] at this
  simpa [MReply.cells] using this
theorem Blk.rRaw (h : Blk w P T m.cells.toArray) (hl : m.case_.chain.length = 32) (p : Part) : Blk (w.setCell ⟨P, 45, none⟩ (.slice p.A p.l.length p.c)) P T (MReply.cells { m with raw := p }).toArray := by
  have := Blk.setCells (pre := pre6 m ++ m.case_.cells) (mid := [m.raw.sl]) (post := [.int .i64 m.size] ++ (m.note.cells ++ (m.inc.cells ++ (m.con.cells ++ (m.idx.cells m.iA m.iC ++ m.pie.cells))))) (by simpa [MReply.cells] using h) [p.sl] rfl
  have e : (pre6 m ++ m.case_.cells).length = 45 := by rw [List.length_append, MCase.len hl]; rfl
  rw [e] at this
  have e2 : w.setCells P 45 [p.sl] = w.setCell ⟨P, 45, none⟩ (.slice p.A p.l.length p.c) := rfl
  rw [e2] at this
  simpa [MReply.cells] using this
theorem Blk.rSize (h : Blk w P T m.cells.toArray) (hl : m.case_.chain.length = 32) (n : Int) : Blk (w.setCell ⟨P, 46, none⟩ (.int .i64 n)) P T (MReply.cells { m with size := n }).toArray := by
  have := Blk.setCells (pre := pre6 m ++ (m.case_.cells ++ [m.raw.sl])) (mid := [.int .i64 m.size]) (post := m.note.cells ++ (m.inc.cells ++ (m.con.cells ++ (m.idx.cells m.iA m.iC ++ m.pie.cells)))) (by simpa [MReply.cells] using h) [.int .i64 n] rfl
  have e : (pre6 m ++ (m.case_.cells ++ [m.raw.sl])).length = 46 := by rw [List.length_append, List.length_append, MCase.len hl]; rfl
  rw [e] at this
  have e2 : w.setCells P 46 [.int .i64 n] = w.setCell ⟨P, 46, none⟩ (.int .i64 n) := rfl
  rw [e2] at this
  simpa [MReply.cells] using this
theorem Blk.rNum (h : Blk w P T m.cells.toArray) (n : Int) : Blk (w.setCell ⟨P, 4, none⟩ (.int .i64 n)) P T (MReply.cells { m with number := n }).toArray := h.set_ 4 _
theorem Blk.rHap (h : Blk w P T m.cells.toArray) (l : List MHap) (A : Option Addr) (c : Nat) : Blk (w.setCell ⟨P, 5, none⟩ (.slice A l.length c)) P T (MReply.cells { m with hap := l, hA := A, hC := c }).toArray := h.set_ 5 _
theorem Blk.rPlace (h : Blk w P T m.cells.toArray) (a b c : Int) : Blk (w.setCells P 1 [.int .i64 a, .int .i64 b, .int .i64 c]) P T (MReply.cells { m with pa := a, pb := b, pc := c }).toArray := by
  have := Blk.setCells (pre := [.int .i64 m.err]) (mid := [.int .i64 m.pa, .int .i64 m.pb, .int .i64 m.pc]) (post := [.int .i64 m.number, .slice m.hA m.hap.length m.hC] ++ (m.case_.cells ++ ([m.raw.sl, .int .i64 m.size] ++ (m.note.cells ++ (m.inc.cells ++ (m.con.cells ++ (m.idx.cells m.iA m.iC ++ m.pie.cells))))))) (by simpa [MReply.cells] using h) [.int .i64 a, .int .i64 b, .int .i64 c] rfl
  simpa [MReply.cells] using this
end
def zeroRep : Rep := zeroMR.data
def js (bs : List UInt8) (s : Rs) : List UInt8 × Rs := rawN bs ((bs.length - s.at_ : Nat) : Int) s
def vL (bs : List UInt8) : Nat -> Rs -> List MHap -> List MHap × Rs
  | 0, s, acc => (acc, s)
  | n + 1, s, acc => vL bs n (jI bs (tkN bs 1 s).2).2 (acc ++ [⟨(tkN bs 1 s).1, (jI bs (tkN bs 1 s).2).1⟩])
def ansHap (bs : List UInt8) (s : Rs) : Rep × Rs := ({ zeroRep with number := (numN bs s).1, hap := (vL bs (tkN bs 2 (numN bs s).2).1 (tkN bs 2 (numN bs s).2).2 []).1 }, (vL bs (tkN bs 2 (numN bs s).2).1 (tkN bs 2 (numN bs s).2).2 []).2)
def ansN (bs : List UInt8) (op : Nat) (s : Rs) : Option (Rep × Rs) :=
  if op = 1 \/ op = 2 then some (ansHap bs s)
  else if op = 3 then some ({ zeroRep with case_ := (toldN bs s).1 }, (toldN bs s).2)
  else if op = 4 then some ({ zeroRep with raw := (js bs s).1 }, (js bs s).2)
  else if op = 5 then some ({ zeroRep with size := (numN bs s).1 }, (numN bs s).2)
  else if op = 6 then (ke (js bs s).1).map fun x => ({ zeroRep with head := x.1, signs := x.2 }, (js bs s).2)
  else if op = 7 then if (kO bs s).1 = true then (ke (js bs (kO bs s).2).1).map fun x => ({ zeroRep with head := x.1, signs := x.2 }, (js bs (kO bs s).2).2) else some (zeroRep, (kO bs s).2)
  else if op = 8 then (decInc (js bs s).1).map fun x => ({ zeroRep with inc := x }, (js bs s).2)
  else if op = 9 then (decCon (js bs s).1).map fun x => ({ zeroRep with con := x }, (js bs s).2)
  else if op = 10 then (decIdx (js bs s).1).map fun x => ({ zeroRep with idx := x }, (js bs s).2)
  else if op = 11 then (decPie (js bs s).1).map fun x => ({ zeroRep with pie := x }, (js bs s).2)
  else some (zeroRep, s)
def AnsP (w : World) (g P : Nat) (bs : List UInt8) (o : Option (Rep × Rs)) (e : Ending) (w' : World) : Prop :=
  ((∃ (m : MReply) (s : Rs), o = some (m.data, s) /\ e = .returned (.int .i64 0) /\ Blk w' P 63 m.cells.toArray /\ m.Ok w' (fun k => k < w.heap.size) /\ Rr w' g bs s) \/ (∃ er : Int, o = none /\ er ≠ 0 /\ e = .returned (.int .i64 er))) /\ Kp (fun k => k = g \/ k = P) w w'
theorem MWay.one (m : MWay) : m.cells.toArray.all (·.oneCell') = true := by simp [MWay.cells, Value.oneCell']
theorem htkN_range {bs : List UInt8} {k : Nat} {s : Rs} {h : Hd} (e : (htkN bs k s).1 = some h) : (-9223372036854775808 <= h.size /\ h.size <= 9223372036854775807) /\ (-9223372036854775808 <= h.clock /\ h.clock <= 9223372036854775807) := by
  unfold htkN at e
  simp only at e
  split at e
  · next hc =>
    injection e with e
    subst e
    have h1 := hc.2.2.1
    have h2 := hc.2.2.2
    simp only
    omega
  · cases e
theorem hdrange {l : List UInt8} {h : Hd} {x : List Sgn} (e : ke l = some (h, x)) : (-9223372036854775808 <= h.size /\ h.size <= 9223372036854775807) /\ (-9223372036854775808 <= h.clock /\ h.clock <= 9223372036854775807) := by
  unfold ke noteN at e
  split at e
  · cases e
  · next hd hh =>
    split at e
    · unfold noteEnd at e
      split at e
      · injection e with e
        injection e with e1 e2
        subst e1
        exact htkN_range hh
      · cases e
    · cases e
theorem ans_6 (w : World) (g P : Nat) (bs : List UInt8) (s : Rs) (h : Rr w g bs s) (hb : Blk w P 63 zeroMR.cells.toArray) (hP : g < P) :
    Calls Tryz.prog 47 #[.pointer (some ⟨g, 0, none⟩), .int .i64 6, .pointer (some ⟨P, 0, none⟩)] w (AnsP w g P bs (ansN bs 6 s)) := by
  have HT := jJ0 (show ansN bs 6 s = (ke (js bs s).1).map (fun x => (({ zeroRep with head := x.1, signs := x.2 }, (js bs s).2))) from rfl)
  have hbl := h.fits.2
  have hPl := hb.lt
  have Hr := jJ0 h
  have HbW := jJ0 hb
  have HkW := jJ0 (Kp.refl (fun k => k = g \/ k = P) w)
  generalize ansN bs 6 s = TV at *
  clear h hb
  go_enter Tryz.func47, Tryz.ntmps47
  have HLf := jJ0 (yE _ g bs s Hr.out)
  go_wp2_with fail
  refine HLf.out.mono ?_
  rintro e w2 ⟨rfl, nq, rfl⟩
  have HRw := jJ0 (ko (w.drewN nq) g bs ((bs.length - s.at_ : Nat) : Int) s (Hr.out.old ((Kp.refl _ _).drewN _)) (by have := hbl; omega))
  have Hl := jJ0 (show (js bs s).1.length <= 100000000 from Nat.le_trans (vE bs _ _) hbl)
  have HrN := jJ0 (show js bs s = rawN bs ((bs.length - s.at_ : Nat) : Int) s from rfl)
  rw [<- HrN.out] at HRw
  clear HLf HrN
  generalize ((bs.length - s.at_ : Nat) : Int) = lf at *
  go_wp2_with fail
  refine HRw.out.mono ?_
  clear HRw
  generalize js bs s = rst at *
  obtain ⟨l, s9⟩ := rst
  simp only at HT Hl ⊢
  rintro e w3 ⟨A3, c3, rfl, hrd3, hav3, hcap3, hr3, hk3⟩
  have HK3 := jJ0 (show Kp (fun k => k = g \/ k = P) w w3 from HkW.out.trans (((Kp.refl (RX g) w).drewN nq).trans hk3 (fun _ _ e => e)) (fun b _ e => .inl e))
  have Hb3 := jJ0 ((HbW.out.drewN nq).kp hk3 (show ¬ RX g P from fun e => by have : P = g := e; omega))
  have HDc := jJ0 (decnote_any w3 A3 c3 l hrd3 Hl.out)
  have Hr3 := jJ0 hr3
  clear hrd3 hav3 hcap3 hr3 hk3
  go_wp2_with fail
  refine HDc.out.mono ?_
  clear HDc
  have HRg := jJ0 (fun h x (e : ke l = some (h, x)) => hdrange e)
  generalize ke l = dl at *
  rintro e w4 (⟨m, hd, rfl, hok, ho⟩ | ⟨er, hd, her, rfl, ho⟩)
  · have Hb4 := jJ0 (Hb3.out.old ho)
    have HK4 := jJ0 (HK3.out.old ho)
    have Hlen := jJ0 (show m.cells.length = _ from MNote.len hok.head)
    have Hone := jJ0 (MNote.one m)
    have Hsz := jJ0 (show (Tryz.prog.info? 48).map (·.size) = some m.cells.length by rw [Hlen.out]; exact Tryz.sizeNote)
    have Hth := jJ0 (Hb4.out.there 47 m.cells.toArray.size (by rw [List.size_toArray, List.size_toArray, (jM w4 NoX).len, Hlen.out]; decide))
    have Hb5 := jJ0 (Hb4.out.rNote kg zeroHd_ok m hok.head)
    have HK5 := jJ0 (show Kp (fun k => k = g \/ k = P) w (w4.setCells P 47 m.cells) from HK4.out.trans (Kp.setCells P 47 _ w4) (fun b _ e => .inr e))
    have HkP := jJ0 (Kp.setCells P 47 m.cells w4)
    have Hr5 := jJ0 ((Hr3.out.old ho).kp HkP.out (fun b hb e => by omega))
    have Hgrow := jJ0 (show w.heap.size <= w3.heap.size from HK3.out.size)
    have Hok := jJ0 hok
    have Hend := jJ0 (show AnsP w g P bs TV (.returned (.int .i64 0)) (w4.setCells P 47 m.cells) from by
      have K1 := HkP.out
      have KY : ∀ b, b < w4.heap.size -> b = P -> b < w3.heap.size := fun b _ e => by have := Hgrow.out; omega
      have KX : ∀ b, b < w4.heap.size -> b < w.heap.size -> b < w3.heap.size := fun b _ e => by have := Hgrow.out; omega
      have Z := jM (w4.setCells P 47 m.cells) (fun k => k < w.heap.size)
      have hok' := Hok.out
      have HR := HRg.out _ _ hd
      exact ⟨.inl ⟨{ zeroMR with note := m }, s9, by rw [HT.out, hd]; rfl, rfl, Hb5.out, ⟨Z.rdH, Z.avH, Z.bigH, Z.case_, Z.raw, hok'.turn K1 KY KX, HR, Z.inc, Z.con, Z.idx, Z.rdI, Z.avI, Z.pie⟩, Hr5.out⟩, HK5.out⟩)
    clear ho hok
    generalize m.cells = xs at *
    go_wp2_with (first | ((with_reducible refine jE 48 (.tmp 74) (.tmp 71) ?_); refine wpList_store_mid rfl 48 (.tmp 74) (.tmp 71) rfl P 47 xs.toArray rfl rfl Hth.out Hsz.out Hone.out ?_) | fail)
    go_ret
    exact Hend.out
  · have Hb4 := jJ0 (Hb3.out.old ho)
    have HK4 := jJ0 (HK3.out.old ho)
    have Hsz := jJ0 (show (Tryz.prog.info? 48).map (·.size) = some zeroNote.length by kernel_rfl)
    have Hth := jJ0 (Hb4.out.there 47 zeroNote.toArray.size (by rw [List.size_toArray, List.size_toArray, (jM w4 NoX).len]; decide))
    have HK5 := jJ0 (show Kp (fun k => k = g \/ k = P) w (w4.setCells P 47 zeroNote) from HK4.out.trans (Kp.setCells P 47 _ w4) (fun b _ e => .inr e))
    have Hno := jJ0 (show TV = none by rw [HT.out, hd]; rfl)
    clear ho hd
    go_wp2_with (first | ((with_reducible refine jE 48 (.tmp 74) (.tmp 71) ?_); refine wpList_store_mid rfl 48 (.tmp 74) (.tmp 71) rfl P 47 zeroNote.toArray rfl rfl Hth.out Hsz.out (jK rfl) ?_) | fail)
    go_ret
    exact ⟨.inr ⟨er, Hno.out, her, rfl⟩, HK5.out⟩
theorem ans_8 (w : World) (g P : Nat) (bs : List UInt8) (s : Rs) (h : Rr w g bs s) (hb : Blk w P 63 zeroMR.cells.toArray) (hP : g < P) :
    Calls Tryz.prog 47 #[.pointer (some ⟨g, 0, none⟩), .int .i64 8, .pointer (some ⟨P, 0, none⟩)] w (AnsP w g P bs (ansN bs 8 s)) := by
  have HT := jJ0 (show ansN bs 8 s = (decInc (js bs s).1).map (fun x => (({ zeroRep with inc := x }, (js bs s).2))) from rfl)
  have hbl := h.fits.2
  have hPl := hb.lt
  have Hr := jJ0 h
  have HbW := jJ0 hb
  have HkW := jJ0 (Kp.refl (fun k => k = g \/ k = P) w)
  generalize ansN bs 8 s = TV at *
  clear h hb
  go_enter Tryz.func47, Tryz.ntmps47
  have HLf := jJ0 (yE _ g bs s Hr.out)
  go_wp2_with fail
  refine HLf.out.mono ?_
  rintro e w2 ⟨rfl, nq, rfl⟩
  have HRw := jJ0 (ko (w.drewN nq) g bs ((bs.length - s.at_ : Nat) : Int) s (Hr.out.old ((Kp.refl _ _).drewN _)) (by have := hbl; omega))
  have Hl := jJ0 (show (js bs s).1.length <= 100000000 from Nat.le_trans (vE bs _ _) hbl)
  have HrN := jJ0 (show js bs s = rawN bs ((bs.length - s.at_ : Nat) : Int) s from rfl)
  rw [<- HrN.out] at HRw
  clear HLf HrN
  generalize ((bs.length - s.at_ : Nat) : Int) = lf at *
  go_wp2_with fail
  refine HRw.out.mono ?_
  clear HRw
  generalize js bs s = rst at *
  obtain ⟨l, s9⟩ := rst
  simp only at HT Hl ⊢
  rintro e w3 ⟨A3, c3, rfl, hrd3, hav3, hcap3, hr3, hk3⟩
  have HK3 := jJ0 (show Kp (fun k => k = g \/ k = P) w w3 from HkW.out.trans (((Kp.refl (RX g) w).drewN nq).trans hk3 (fun _ _ e => e)) (fun b _ e => .inl e))
  have Hb3 := jJ0 ((HbW.out.drewN nq).kp hk3 (show ¬ RX g P from fun e => by have : P = g := e; omega))
  have HDc := jJ0 (decinc_any w3 A3 c3 l hrd3)
  have Hr3 := jJ0 hr3
  clear hrd3 hav3 hcap3 hr3 hk3
  go_wp2_with fail
  refine HDc.out.mono ?_
  clear HDc
  generalize decInc l = dl at *
  rintro e w4 (⟨m, hd, rfl, hok, ho⟩ | ⟨er, hd, her, rfl, ho⟩)
  · have Hb4 := jJ0 (Hb3.out.old ho)
    have HK4 := jJ0 (HK3.out.old ho)
    have Hlen := jJ0 (show m.cells.length = 3 from rfl)
    have Hone := jJ0 (MWay.one m)
    have Hsz := jJ0 (show (Tryz.prog.info? 51).map (·.size) = some m.cells.length by rw [Hlen.out]; exact Tryz.sizeInclusion)
    have Hth := jJ0 (Hb4.out.there 146 m.cells.toArray.size (by rw [List.size_toArray, List.size_toArray, (jM w4 NoX).len, Hlen.out]; decide))
    have Hb5 := jJ0 (Hb4.out.rInc kg zeroHd_ok m)
    have HK5 := jJ0 (show Kp (fun k => k = g \/ k = P) w (w4.setCells P 146 m.cells) from HK4.out.trans (Kp.setCells P 146 _ w4) (fun b _ e => .inr e))
    have HkP := jJ0 (Kp.setCells P 146 m.cells w4)
    have Hr5 := jJ0 ((Hr3.out.old ho).kp HkP.out (fun b hb e => by omega))
    have Hgrow := jJ0 (show w.heap.size <= w3.heap.size from HK3.out.size)
    have Hok := jJ0 hok
    have Hend := jJ0 (show AnsP w g P bs TV (.returned (.int .i64 0)) (w4.setCells P 146 m.cells) from by
      have K1 := HkP.out
      have KY : ∀ b, b < w4.heap.size -> b = P -> b < w3.heap.size := fun b _ e => by have := Hgrow.out; omega
      have KX : ∀ b, b < w4.heap.size -> b < w.heap.size -> b < w3.heap.size := fun b _ e => by have := Hgrow.out; omega
      have Z := jM (w4.setCells P 146 m.cells) (fun k => k < w.heap.size)
      have hok' := Hok.out
      exact ⟨.inl ⟨{ zeroMR with inc := m }, s9, by rw [HT.out, hd]; rfl, rfl, Hb5.out, ⟨Z.rdH, Z.avH, Z.bigH, Z.case_, Z.raw, Z.note, Z.hd, hok'.turn K1 KY KX, Z.con, Z.idx, Z.rdI, Z.avI, Z.pie⟩, Hr5.out⟩, HK5.out⟩)
    clear ho hok
    generalize m.cells = xs at *
    go_wp2_with (first | ((with_reducible refine jE 51 (.tmp 102) (.tmp 99) ?_); refine wpList_store_mid rfl 51 (.tmp 102) (.tmp 99) rfl P 146 xs.toArray rfl rfl Hth.out Hsz.out Hone.out ?_) | fail)
    go_ret
    exact Hend.out
  · have Hb4 := jJ0 (Hb3.out.old ho)
    have HK4 := jJ0 (HK3.out.old ho)
    have Hsz := jJ0 (show (Tryz.prog.info? 51).map (·.size) = some zeroWay.length by kernel_rfl)
    have Hth := jJ0 (Hb4.out.there 146 zeroWay.toArray.size (by rw [List.size_toArray, List.size_toArray, (jM w4 NoX).len]; decide))
    have HK5 := jJ0 (show Kp (fun k => k = g \/ k = P) w (w4.setCells P 146 zeroWay) from HK4.out.trans (Kp.setCells P 146 _ w4) (fun b _ e => .inr e))
    have Hno := jJ0 (show TV = none by rw [HT.out, hd]; rfl)
    clear ho hd
    go_wp2_with (first | ((with_reducible refine jE 51 (.tmp 102) (.tmp 99) ?_); refine wpList_store_mid rfl 51 (.tmp 102) (.tmp 99) rfl P 146 zeroWay.toArray rfl rfl Hth.out Hsz.out (jK rfl) ?_) | fail)
    go_ret
    exact ⟨.inr ⟨er, Hno.out, her, rfl⟩, HK5.out⟩
theorem ans_9 (w : World) (g P : Nat) (bs : List UInt8) (s : Rs) (h : Rr w g bs s) (hb : Blk w P 63 zeroMR.cells.toArray) (hP : g < P) :
    Calls Tryz.prog 47 #[.pointer (some ⟨g, 0, none⟩), .int .i64 9, .pointer (some ⟨P, 0, none⟩)] w (AnsP w g P bs (ansN bs 9 s)) := by
  have HT := jJ0 (show ansN bs 9 s = (decCon (js bs s).1).map (fun x => (({ zeroRep with con := x }, (js bs s).2))) from rfl)
  have hbl := h.fits.2
  have hPl := hb.lt
  have Hr := jJ0 h
  have HbW := jJ0 hb
  have HkW := jJ0 (Kp.refl (fun k => k = g \/ k = P) w)
  generalize ansN bs 9 s = TV at *
  clear h hb
  go_enter Tryz.func47, Tryz.ntmps47
  have HLf := jJ0 (yE _ g bs s Hr.out)
  go_wp2_with fail
  refine HLf.out.mono ?_
  rintro e w2 ⟨rfl, nq, rfl⟩
  have HRw := jJ0 (ko (w.drewN nq) g bs ((bs.length - s.at_ : Nat) : Int) s (Hr.out.old ((Kp.refl _ _).drewN _)) (by have := hbl; omega))
  have Hl := jJ0 (show (js bs s).1.length <= 100000000 from Nat.le_trans (vE bs _ _) hbl)
  have HrN := jJ0 (show js bs s = rawN bs ((bs.length - s.at_ : Nat) : Int) s from rfl)
  rw [<- HrN.out] at HRw
  clear HLf HrN
  generalize ((bs.length - s.at_ : Nat) : Int) = lf at *
  go_wp2_with fail
  refine HRw.out.mono ?_
  clear HRw
  generalize js bs s = rst at *
  obtain ⟨l, s9⟩ := rst
  simp only at HT Hl ⊢
  rintro e w3 ⟨A3, c3, rfl, hrd3, hav3, hcap3, hr3, hk3⟩
  have HK3 := jJ0 (show Kp (fun k => k = g \/ k = P) w w3 from HkW.out.trans (((Kp.refl (RX g) w).drewN nq).trans hk3 (fun _ _ e => e)) (fun b _ e => .inl e))
  have Hb3 := jJ0 ((HbW.out.drewN nq).kp hk3 (show ¬ RX g P from fun e => by have : P = g := e; omega))
  have HDc := jJ0 (deccon_any w3 A3 c3 l hrd3)
  have Hr3 := jJ0 hr3
  clear hrd3 hav3 hcap3 hr3 hk3
  go_wp2_with fail
  refine HDc.out.mono ?_
  clear HDc
  generalize decCon l = dl at *
  rintro e w4 (⟨m, hd, rfl, hok, ho⟩ | ⟨er, hd, her, rfl, ho⟩)
  · have Hb4 := jJ0 (Hb3.out.old ho)
    have HK4 := jJ0 (HK3.out.old ho)
    have Hlen := jJ0 (show m.cells.length = 3 from rfl)
    have Hone := jJ0 (MWay.one m)
    have Hsz := jJ0 (show (Tryz.prog.info? 53).map (·.size) = some m.cells.length by rw [Hlen.out]; exact Tryz.sizeConsistency)
    have Hth := jJ0 (Hb4.out.there 149 m.cells.toArray.size (by rw [List.size_toArray, List.size_toArray, (jM w4 NoX).len, Hlen.out]; decide))
    have Hb5 := jJ0 (Hb4.out.rCon kg zeroHd_ok m)
    have HK5 := jJ0 (show Kp (fun k => k = g \/ k = P) w (w4.setCells P 149 m.cells) from HK4.out.trans (Kp.setCells P 149 _ w4) (fun b _ e => .inr e))
    have HkP := jJ0 (Kp.setCells P 149 m.cells w4)
    have Hr5 := jJ0 ((Hr3.out.old ho).kp HkP.out (fun b hb e => by omega))
    have Hgrow := jJ0 (show w.heap.size <= w3.heap.size from HK3.out.size)
    have Hok := jJ0 hok
    have Hend := jJ0 (show AnsP w g P bs TV (.returned (.int .i64 0)) (w4.setCells P 149 m.cells) from by
      have K1 := HkP.out
      have KY : ∀ b, b < w4.heap.size -> b = P -> b < w3.heap.size := fun b _ e => by have := Hgrow.out; omega
      have KX : ∀ b, b < w4.heap.size -> b < w.heap.size -> b < w3.heap.size := fun b _ e => by have := Hgrow.out; omega
      have Z := jM (w4.setCells P 149 m.cells) (fun k => k < w.heap.size)
      have hok' := Hok.out
      exact ⟨.inl ⟨{ zeroMR with con := m }, s9, by rw [HT.out, hd]; rfl, rfl, Hb5.out, ⟨Z.rdH, Z.avH, Z.bigH, Z.case_, Z.raw, Z.note, Z.hd, Z.inc, hok'.turn K1 KY KX, Z.idx, Z.rdI, Z.avI, Z.pie⟩, Hr5.out⟩, HK5.out⟩)
    clear ho hok
    generalize m.cells = xs at *
    go_wp2_with (first | ((with_reducible refine jE 53 (.tmp 115) (.tmp 112) ?_); refine wpList_store_mid rfl 53 (.tmp 115) (.tmp 112) rfl P 149 xs.toArray rfl rfl Hth.out Hsz.out Hone.out ?_) | fail)
    go_ret
    exact Hend.out
  · have Hb4 := jJ0 (Hb3.out.old ho)
    have HK4 := jJ0 (HK3.out.old ho)
    have Hsz := jJ0 (show (Tryz.prog.info? 53).map (·.size) = some zeroWay.length by kernel_rfl)
    have Hth := jJ0 (Hb4.out.there 149 zeroWay.toArray.size (by rw [List.size_toArray, List.size_toArray, (jM w4 NoX).len]; decide))
    have HK5 := jJ0 (show Kp (fun k => k = g \/ k = P) w (w4.setCells P 149 zeroWay) from HK4.out.trans (Kp.setCells P 149 _ w4) (fun b _ e => .inr e))
    have Hno := jJ0 (show TV = none by rw [HT.out, hd]; rfl)
    clear ho hd
    go_wp2_with (first | ((with_reducible refine jE 53 (.tmp 115) (.tmp 112) ?_); refine wpList_store_mid rfl 53 (.tmp 115) (.tmp 112) rfl P 149 zeroWay.toArray rfl rfl Hth.out Hsz.out (jK rfl) ?_) | fail)
    go_ret
    exact ⟨.inr ⟨er, Hno.out, her, rfl⟩, HK5.out⟩
theorem ans_10 (w : World) (g P : Nat) (bs : List UInt8) (s : Rs) (h : Rr w g bs s) (hb : Blk w P 63 zeroMR.cells.toArray) (hP : g < P) :
    Calls Tryz.prog 47 #[.pointer (some ⟨g, 0, none⟩), .int .i64 10, .pointer (some ⟨P, 0, none⟩)] w (AnsP w g P bs (ansN bs 10 s)) := by
  have HT := jJ0 (show ansN bs 10 s = (decIdx (js bs s).1).map (fun x => (({ zeroRep with idx := x }, (js bs s).2))) from rfl)
  have hbl := h.fits.2
  have hPl := hb.lt
  have Hr := jJ0 h
  have HbW := jJ0 hb
  have HkW := jJ0 (Kp.refl (fun k => k = g \/ k = P) w)
  generalize ansN bs 10 s = TV at *
  clear h hb
  go_enter Tryz.func47, Tryz.ntmps47
  have HLf := jJ0 (yE _ g bs s Hr.out)
  go_wp2_with fail
  refine HLf.out.mono ?_
  rintro e w2 ⟨rfl, nq, rfl⟩
  have HRw := jJ0 (ko (w.drewN nq) g bs ((bs.length - s.at_ : Nat) : Int) s (Hr.out.old ((Kp.refl _ _).drewN _)) (by have := hbl; omega))
  have Hl := jJ0 (show (js bs s).1.length <= 100000000 from Nat.le_trans (vE bs _ _) hbl)
  have HrN := jJ0 (show js bs s = rawN bs ((bs.length - s.at_ : Nat) : Int) s from rfl)
  rw [<- HrN.out] at HRw
  clear HLf HrN
  generalize ((bs.length - s.at_ : Nat) : Int) = lf at *
  go_wp2_with fail
  refine HRw.out.mono ?_
  clear HRw
  generalize js bs s = rst at *
  obtain ⟨l, s9⟩ := rst
  simp only at HT Hl ⊢
  rintro e w3 ⟨A3, c3, rfl, hrd3, hav3, hcap3, hr3, hk3⟩
  have HK3 := jJ0 (show Kp (fun k => k = g \/ k = P) w w3 from HkW.out.trans (((Kp.refl (RX g) w).drewN nq).trans hk3 (fun _ _ e => e)) (fun b _ e => .inl e))
  have Hb3 := jJ0 ((HbW.out.drewN nq).kp hk3 (show ¬ RX g P from fun e => by have : P = g := e; omega))
  have HDc := jJ0 (decidx_any w3 A3 c3 l hrd3)
  have Hr3 := jJ0 hr3
  clear hrd3 hav3 hcap3 hr3 hk3
  go_wp2_with fail
  refine HDc.out.mono ?_
  clear HDc
  generalize decIdx l = dl at *
  rintro e w4 (⟨x, iA, iC, hd, rfl, hok, hrI, haI, ho⟩ | ⟨er, hd, her, rfl, ho⟩)
  · have Hb4 := jJ0 (Hb3.out.old ho)
    have HK4 := jJ0 (HK3.out.old ho)
    have Hlen := jJ0 (show (x.cells iA iC).length = _ from hok.len)
    have Hone := jJ0 (Idx.one x iA iC)
    have Hsz := jJ0 (show (Tryz.prog.info? 57).map (·.size) = some (x.cells iA iC).length by rw [Hlen.out]; exact Tryz.sizeIndexed)
    have Hth := jJ0 (Hb4.out.there 152 (x.cells iA iC).toArray.size (by rw [List.size_toArray, List.size_toArray, (jM w4 NoX).len, Hlen.out]; decide))
    have Hb5 := jJ0 (Hb4.out.rIdx kg zeroHd_ok zeroIdx_ok x iA iC hok)
    have HK5 := jJ0 (show Kp (fun k => k = g \/ k = P) w (w4.setCells P 152 (x.cells iA iC)) from HK4.out.trans (Kp.setCells P 152 _ w4) (fun b _ e => .inr e))
    have HkP := jJ0 (Kp.setCells P 152 (x.cells iA iC) w4)
    have Hr5 := jJ0 ((Hr3.out.old ho).kp HkP.out (fun b hb e => by omega))
    have Hgrow := jJ0 (show w.heap.size <= w3.heap.size from HK3.out.size)
    have Hok := jJ0 hok
    have HrI := jJ0 hrI
    have HaI := jJ0 haI
    have Hend := jJ0 (show AnsP w g P bs TV (.returned (.int .i64 0)) (w4.setCells P 152 (x.cells iA iC)) from by
      have K1 := HkP.out
      have KY : ∀ b, b < w4.heap.size -> b = P -> b < w3.heap.size := fun b _ e => by have := Hgrow.out; omega
      have KX : ∀ b, b < w4.heap.size -> b < w.heap.size -> b < w3.heap.size := fun b _ e => by have := Hgrow.out; omega
      have Z := jM (w4.setCells P 152 (x.cells iA iC)) (fun k => k < w.heap.size)
      have hok' := Hok.out
      have hrI' := HrI.out
      have haI' := HaI.out
      exact ⟨.inl ⟨{ zeroMR with idx := x, iA := iA, iC := iC }, s9, by rw [HT.out, hd]; rfl, rfl, Hb5.out, ⟨Z.rdH, Z.avH, Z.bigH, Z.case_, Z.raw, Z.note, Z.hd, Z.inc, Z.con, hok', hrI'.turn (by decide) haI' K1 KY, haI'.turn hrI' (by decide) KX, Z.pie⟩, Hr5.out⟩, HK5.out⟩)
    clear ho hok hrI haI
    generalize (x.cells iA iC) = xs at *
    go_wp2_with (first | ((with_reducible refine jE 57 (.tmp 128) (.tmp 125) ?_); refine wpList_store_mid rfl 57 (.tmp 128) (.tmp 125) rfl P 152 xs.toArray rfl rfl Hth.out Hsz.out Hone.out ?_) | fail)
    go_ret
    exact Hend.out
  · have Hb4 := jJ0 (Hb3.out.old ho)
    have HK4 := jJ0 (HK3.out.old ho)
    have Hsz := jJ0 (show (Tryz.prog.info? 57).map (·.size) = some zeroIdxL.length by kernel_rfl)
    have Hth := jJ0 (Hb4.out.there 152 zeroIdxL.toArray.size (by rw [List.size_toArray, List.size_toArray, (jM w4 NoX).len]; decide))
    have HK5 := jJ0 (show Kp (fun k => k = g \/ k = P) w (w4.setCells P 152 zeroIdxL) from HK4.out.trans (Kp.setCells P 152 _ w4) (fun b _ e => .inr e))
    have Hno := jJ0 (show TV = none by rw [HT.out, hd]; rfl)
    clear ho hd
    go_wp2_with (first | ((with_reducible refine jE 57 (.tmp 128) (.tmp 125) ?_); refine wpList_store_mid rfl 57 (.tmp 128) (.tmp 125) rfl P 152 zeroIdxL.toArray rfl rfl Hth.out Hsz.out (jK rfl) ?_) | fail)
    go_ret
    exact ⟨.inr ⟨er, Hno.out, her, rfl⟩, HK5.out⟩
theorem ans_11 (w : World) (g P : Nat) (bs : List UInt8) (s : Rs) (h : Rr w g bs s) (hb : Blk w P 63 zeroMR.cells.toArray) (hP : g < P) :
    Calls Tryz.prog 47 #[.pointer (some ⟨g, 0, none⟩), .int .i64 11, .pointer (some ⟨P, 0, none⟩)] w (AnsP w g P bs (ansN bs 11 s)) := by
  have HT := jJ0 (show ansN bs 11 s = (decPie (js bs s).1).map (fun x => (({ zeroRep with pie := x }, (js bs s).2))) from rfl)
  have hbl := h.fits.2
  have hPl := hb.lt
  have Hr := jJ0 h
  have HbW := jJ0 hb
  have HkW := jJ0 (Kp.refl (fun k => k = g \/ k = P) w)
  generalize ansN bs 11 s = TV at *
  clear h hb
  go_enter Tryz.func47, Tryz.ntmps47
  have HLf := jJ0 (yE _ g bs s Hr.out)
  go_wp2_with fail
  refine HLf.out.mono ?_
  rintro e w2 ⟨rfl, nq, rfl⟩
  have HRw := jJ0 (ko (w.drewN nq) g bs ((bs.length - s.at_ : Nat) : Int) s (Hr.out.old ((Kp.refl _ _).drewN _)) (by have := hbl; omega))
  have Hl := jJ0 (show (js bs s).1.length <= 100000000 from Nat.le_trans (vE bs _ _) hbl)
  have HrN := jJ0 (show js bs s = rawN bs ((bs.length - s.at_ : Nat) : Int) s from rfl)
  rw [<- HrN.out] at HRw
  clear HLf HrN
  generalize ((bs.length - s.at_ : Nat) : Int) = lf at *
  go_wp2_with fail
  refine HRw.out.mono ?_
  clear HRw
  generalize js bs s = rst at *
  obtain ⟨l, s9⟩ := rst
  simp only at HT Hl ⊢
  rintro e w3 ⟨A3, c3, rfl, hrd3, hav3, hcap3, hr3, hk3⟩
  have HK3 := jJ0 (show Kp (fun k => k = g \/ k = P) w w3 from HkW.out.trans (((Kp.refl (RX g) w).drewN nq).trans hk3 (fun _ _ e => e)) (fun b _ e => .inl e))
  have Hb3 := jJ0 ((HbW.out.drewN nq).kp hk3 (show ¬ RX g P from fun e => by have : P = g := e; omega))
  have HDc := jJ0 (decpie_any w3 A3 c3 l hrd3)
  have Hr3 := jJ0 hr3
  clear hrd3 hav3 hcap3 hr3 hk3
  go_wp2_with fail
  refine HDc.out.mono ?_
  clear HDc
  generalize decPie l = dl at *
  rintro e w4 (⟨m, hd, rfl, hok, ho⟩ | ⟨er, hd, her, rfl, ho⟩)
  · have Hb4 := jJ0 (Hb3.out.old ho)
    have HK4 := jJ0 (HK3.out.old ho)
    have Hlen := jJ0 (show m.cells.length = _ from MPiece.len hok.before)
    have Hone := jJ0 (MPiece.one m)
    have Hsz := jJ0 (show (Tryz.prog.info? 61).map (·.size) = some m.cells.length by rw [Hlen.out]; exact Tryz.sizePiece)
    have Hth := jJ0 (Hb4.out.there 220 m.cells.toArray.size (by rw [List.size_toArray, List.size_toArray, (jM w4 NoX).len, Hlen.out]; decide))
    have Hb5 := jJ0 (Hb4.out.rPie kg zeroHd_ok zeroIdx_ok kg m hok.before)
    have HK5 := jJ0 (show Kp (fun k => k = g \/ k = P) w (w4.setCells P 220 m.cells) from HK4.out.trans (Kp.setCells P 220 _ w4) (fun b _ e => .inr e))
    have HkP := jJ0 (Kp.setCells P 220 m.cells w4)
    have Hr5 := jJ0 ((Hr3.out.old ho).kp HkP.out (fun b hb e => by omega))
    have Hgrow := jJ0 (show w.heap.size <= w3.heap.size from HK3.out.size)
    have Hok := jJ0 hok
    have Hend := jJ0 (show AnsP w g P bs TV (.returned (.int .i64 0)) (w4.setCells P 220 m.cells) from by
      have K1 := HkP.out
      have KY : ∀ b, b < w4.heap.size -> b = P -> b < w3.heap.size := fun b _ e => by have := Hgrow.out; omega
      have KX : ∀ b, b < w4.heap.size -> b < w.heap.size -> b < w3.heap.size := fun b _ e => by have := Hgrow.out; omega
      have Z := jM (w4.setCells P 220 m.cells) (fun k => k < w.heap.size)
      have hok' := Hok.out
      exact ⟨.inl ⟨{ zeroMR with pie := m }, s9, by rw [HT.out, hd]; rfl, rfl, Hb5.out, ⟨Z.rdH, Z.avH, Z.bigH, Z.case_, Z.raw, Z.note, Z.hd, Z.inc, Z.con, Z.idx, Z.rdI, Z.avI, hok'.turn K1 KY KX⟩, Hr5.out⟩, HK5.out⟩)
    clear ho hok
    generalize m.cells = xs at *
    go_wp2_with (first | ((with_reducible refine jE 61 (.tmp 141) (.tmp 138) ?_); refine wpList_store_mid rfl 61 (.tmp 141) (.tmp 138) rfl P 220 xs.toArray rfl rfl Hth.out Hsz.out Hone.out ?_) | fail)
    go_ret
    exact Hend.out
  · have Hb4 := jJ0 (Hb3.out.old ho)
    have HK4 := jJ0 (HK3.out.old ho)
    have Hsz := jJ0 (show (Tryz.prog.info? 61).map (·.size) = some zeroPieL.length by kernel_rfl)
    have Hth := jJ0 (Hb4.out.there 220 zeroPieL.toArray.size (by rw [List.size_toArray, List.size_toArray, (jM w4 NoX).len]; decide))
    have HK5 := jJ0 (show Kp (fun k => k = g \/ k = P) w (w4.setCells P 220 zeroPieL) from HK4.out.trans (Kp.setCells P 220 _ w4) (fun b _ e => .inr e))
    have Hno := jJ0 (show TV = none by rw [HT.out, hd]; rfl)
    clear ho hd
    go_wp2_with (first | ((with_reducible refine jE 61 (.tmp 141) (.tmp 138) ?_); refine wpList_store_mid rfl 61 (.tmp 141) (.tmp 138) rfl P 220 zeroPieL.toArray rfl rfl Hth.out Hsz.out (jK rfl) ?_) | fail)
    go_ret
    exact ⟨.inr ⟨er, Hno.out, her, rfl⟩, HK5.out⟩
end Go.Proofs.YtnaolhjbapgjgaaGreat
