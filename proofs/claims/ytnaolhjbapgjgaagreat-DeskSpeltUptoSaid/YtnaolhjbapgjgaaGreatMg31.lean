import Derived.Test.YtnaolhjbapgjgaaGreatMg30
set_option maxRecDepth 100000
set_option maxHeartbeats 3200000
namespace Go.Proofs.YtnaolhjbapgjgaaGreat
open Go.RowKit
theorem ans_7 (w : World) (g P : Nat) (bs : List UInt8) (s : Rs) (h : Rr w g bs s) (hb : Blk w P 63 zeroMR.cells.toArray) (hP : g < P) :
    Calls Tryz.prog 47 #[.pointer (some ⟨g, 0, none⟩), .int .i64 7, .pointer (some ⟨P, 0, none⟩)] w (AnsP w g P bs (ansN bs 7 s)) := by
  have HT := jJ0 (show ansN bs 7 s = if (kO bs s).1 = true then (ke (js bs (kO bs s).2).1).map (fun x => (({ zeroRep with head := x.1, signs := x.2 }, (js bs (kO bs s).2).2))) else some (zeroRep, (kO bs s).2) from rfl)
  have hbl := h.fits.2
  have hPl := hb.lt
  have Hr := jJ0 h
  have HbW := jJ0 hb
  have HF := jJ0 (rflag_any w g bs s h)
  generalize ansN bs 7 s = TV at *
  clear h hb Hr
  generalize kO bs s = t1 at *
  obtain ⟨f, s1⟩ := t1
  simp only at HT HF
  go_enter Tryz.func47, Tryz.ntmps47
  go_wp2_with fail
  refine HF.out.mono ?_
  rintro e w1 ⟨rfl, hr1, hk1⟩
  have Hr := jJ0 hr1
  have HbB := jJ0 (HbW.out.kp hk1 (show ¬ RX g P from fun e => by have : P = g := e; omega))
  have HkW := jJ0 (hk1.mono (Y := fun k => k = g \/ k = P) (fun b _ e => .inl e))
  clear hr1 hk1 HF HbW
  have HbW := jJ0 HbB.out
  clear HbB
  cases f with
  | true =>
    rw [if_pos rfl] at HT
    have HLf := jJ0 (yE _ g bs s1 Hr.out)
    go_wp2_with fail
    refine HLf.out.mono ?_
    rintro e w2 ⟨rfl, nq, rfl⟩
    have HRw := jJ0 (ko (w1.drewN nq) g bs ((bs.length - s1.at_ : Nat) : Int) s1 (Hr.out.old ((Kp.refl _ _).drewN _)) (by have := hbl; omega))
    have Hl := jJ0 (show (js bs s1).1.length <= 100000000 from Nat.le_trans (vE bs _ _) hbl)
    have HrN := jJ0 (show js bs s1 = rawN bs ((bs.length - s1.at_ : Nat) : Int) s1 from rfl)
    rw [<- HrN.out] at HRw
    clear HLf HrN
    generalize ((bs.length - s1.at_ : Nat) : Int) = lf at *
    go_wp2_with fail
    refine HRw.out.mono ?_
    clear HRw
    generalize js bs s1 = rst at *
    obtain ⟨l, s9⟩ := rst
    simp only at HT Hl ⊢
    rintro e w3 ⟨A3, c3, rfl, hrd3, hav3, hcap3, hr3, hk3⟩
    have HK3 := jJ0 (show Kp (fun k => k = g \/ k = P) w w3 from HkW.out.trans (((Kp.refl (RX g) w1).drewN nq).trans hk3 (fun _ _ e => e)) (fun b _ e => .inl e))
    have Hb3 := jJ0 ((HbW.out.drewN nq).kp hk3 (show ¬ RX g P from fun e => by have : P = g := e; omega))
    have HDc := jJ0 (decnote_any w3 A3 c3 l hrd3 Hl.out)
    have Hr3 := jJ0 hr3
    clear hrd3 hav3 hcap3 hr3 hk3
    go_wp2_with fail
    refine HDc.out.mono ?_
    clear HDc
    have HRg := jJ0 (fun h x (e : ke l = some (h, x)) => hdrange e)
    generalize ke l = dl at *
    rintro e w4 (⟨m, hd, rfl, hok, ho⟩ | ⟨er, hd, her, rfl, ho⟩)
    · have Hb4 := jJ0 (Hb3.out.old ho)
      have HK4 := jJ0 (HK3.out.old ho)
      have Hlen := jJ0 (show m.cells.length = _ from MNote.len hok.head)
      have Hone := jJ0 (MNote.one m)
      have Hsz := jJ0 (show (Tryz.prog.info? 48).map (·.size) = some m.cells.length by rw [Hlen.out]; exact Tryz.sizeNote)
      have Hth := jJ0 (Hb4.out.there 47 m.cells.toArray.size (by rw [List.size_toArray, List.size_toArray, (jM w4 NoX).len, Hlen.out]; decide))
      have Hb5 := jJ0 (Hb4.out.rNote kg zeroHd_ok m hok.head)
      have HK5 := jJ0 (show Kp (fun k => k = g \/ k = P) w (w4.setCells P 47 m.cells) from HK4.out.trans (Kp.setCells P 47 _ w4) (fun b _ e => .inr e))
      have HkP := jJ0 (Kp.setCells P 47 m.cells w4)
      have Hr5 := jJ0 ((Hr3.out.old ho).kp HkP.out (fun b hb e => by omega))
      have Hgrow := jJ0 (show w.heap.size <= w3.heap.size from HK3.out.size)
      have Hok := jJ0 hok
      have Hend := jJ0 (show AnsP w g P bs TV (.returned (.int .i64 0)) (w4.setCells P 47 m.cells) from by
        have K1 := HkP.out
        have KY : ∀ b, b < w4.heap.size -> b = P -> b < w3.heap.size := fun b _ e => by have := Hgrow.out; omega
        have KX : ∀ b, b < w4.heap.size -> b < w.heap.size -> b < w3.heap.size := fun b _ e => by have := Hgrow.out; omega
        have Z := jM (w4.setCells P 47 m.cells) (fun k => k < w.heap.size)
        have hok' := Hok.out
        have HR := HRg.out _ _ hd
        exact ⟨.inl ⟨{ zeroMR with note := m }, s9, by rw [HT.out, hd]; rfl, rfl, Hb5.out, ⟨Z.rdH, Z.avH, Z.bigH, Z.case_, Z.raw, hok'.turn K1 KY KX, HR, Z.inc, Z.con, Z.idx, Z.rdI, Z.avI, Z.pie⟩, Hr5.out⟩, HK5.out⟩)
      clear ho hok
      generalize m.cells = xs at *
      go_wp2_with (first | ((with_reducible refine jE 48 (.tmp 89) (.tmp 86) ?_); refine wpList_store_mid rfl 48 (.tmp 89) (.tmp 86) rfl P 47 xs.toArray rfl rfl Hth.out Hsz.out Hone.out ?_) | fail)
      go_ret
      exact Hend.out
    · have Hb4 := jJ0 (Hb3.out.old ho)
      have HK4 := jJ0 (HK3.out.old ho)
      have Hsz := jJ0 (show (Tryz.prog.info? 48).map (·.size) = some zeroNote.length by kernel_rfl)
      have Hth := jJ0 (Hb4.out.there 47 zeroNote.toArray.size (by rw [List.size_toArray, List.size_toArray, (jM w4 NoX).len]; decide))
      have HK5 := jJ0 (show Kp (fun k => k = g \/ k = P) w (w4.setCells P 47 zeroNote) from HK4.out.trans (Kp.setCells P 47 _ w4) (fun b _ e => .inr e))
      have Hno := jJ0 (show TV = none by rw [HT.out, hd]; rfl)
      clear ho hd
      go_wp2_with (first | ((with_reducible refine jE 48 (.tmp 89) (.tmp 86) ?_); refine wpList_store_mid rfl 48 (.tmp 89) (.tmp 86) rfl P 47 zeroNote.toArray rfl rfl Hth.out Hsz.out (jK rfl) ?_) | fail)
      go_ret
      exact ⟨.inr ⟨er, Hno.out, her, rfl⟩, HK5.out⟩
  | false =>
    rw [if_neg (by simp)] at HT
    have Hok := jJ0 (jM w1 (fun k => k < w.heap.size))
    go_wp2
    go_ret
    exact ⟨.inl ⟨zeroMR, s1, by rw [HT.out]; rfl, rfl, HbW.out, Hok.out, Hr.out⟩, HkW.out⟩
theorem ans_12 (w : World) (g P : Nat) (bs : List UInt8) (s : Rs) (h : Rr w g bs s) (hb : Blk w P 63 zeroMR.cells.toArray) (_hP : g < P) :
    Calls Tryz.prog 47 #[.pointer (some ⟨g, 0, none⟩), .int .i64 12, .pointer (some ⟨P, 0, none⟩)] w (AnsP w g P bs (ansN bs 12 s)) := by
  have HT := jJ0 (show ansN bs 12 s = some (zeroRep, s) from rfl)
  have hbl := h.fits.2
  have hPl := hb.lt
  have Hr := jJ0 h
  have HbW := jJ0 hb
  generalize ansN bs 12 s = TV at *
  clear h hb hbl
  have Hok := jJ0 (jM w (fun k => k < w.heap.size))
  go_enter Tryz.func47, Tryz.ntmps47
  go_wp2
  go_ret
  exact ⟨.inl ⟨zeroMR, s, by rw [HT.out]; rfl, rfl, HbW.out, Hok.out, Hr.out⟩, Kp.refl _ _⟩
theorem ans_5 (w : World) (g P : Nat) (bs : List UInt8) (s : Rs) (h : Rr w g bs s) (hb : Blk w P 63 zeroMR.cells.toArray) (hP : g < P) :
    Calls Tryz.prog 47 #[.pointer (some ⟨g, 0, none⟩), .int .i64 5, .pointer (some ⟨P, 0, none⟩)] w (AnsP w g P bs (ansN bs 5 s)) := by
  have HT := jJ0 (show ansN bs 5 s = some ({ zeroRep with size := (numN bs s).1 }, (numN bs s).2) from rfl)
  have hbl := h.fits.2
  have hPl := hb.lt
  have Hr := jJ0 h
  have HbW := jJ0 hb
  have HF := jJ0 (kZ w g bs s h)
  generalize ansN bs 5 s = TV at *
  clear h hb Hr hbl
  generalize numN bs s = t1 at *
  obtain ⟨n, s1⟩ := t1
  simp only at HT HF
  go_enter Tryz.func47, Tryz.ntmps47
  go_wp2_with fail
  refine HF.out.mono ?_
  rintro e w1 ⟨rfl, hr1, hk1⟩
  have Hb1 := jJ0 (HbW.out.kp hk1 (show ¬ RX g P from fun e => by have : P = g := e; omega))
  have u := Hb1.out.at_ 46 (by rw [List.getElem?_toArray]; exact (jM w1 NoX).r45 1 _ rfl)
  have z := Hb1.out.frozen 46
  have k1 := (Kp.refl (fun k => k = P) w1).setCell (p := ⟨P, 46, none⟩) (fun _ => rfl) (.int .i64 n)
  have Hend := jJ0 (show AnsP w g P bs TV (.returned (.int .i64 0)) (w1.setCell ⟨P, 46, none⟩ (.int .i64 n)) from
    ⟨.inl ⟨{ zeroMR with size := n }, s1, by rw [HT.out]; rfl, rfl, Hb1.out.rSize kg n, by
      have Z := jM (w1.setCell ⟨P, 46, none⟩ (.int .i64 n)) (fun k => k < w.heap.size)
      exact ⟨Z.rdH, Z.avH, Z.bigH, Z.case_, Z.raw, Z.note, Z.hd, Z.inc, Z.con, Z.idx, Z.rdI, Z.avI, Z.pie⟩, hr1.kp k1 (fun b hb e => by omega)⟩, (hk1.mono (Y := fun k => k = g \/ k = P) (fun b _ e => .inl e)).trans k1 (fun b _ e => .inr e)⟩)
  clear hr1 hk1 k1
  go_wp2
  go_ret
  exact Hend.out
theorem ans_4 (w : World) (g P : Nat) (bs : List UInt8) (s : Rs) (h : Rr w g bs s) (hb : Blk w P 63 zeroMR.cells.toArray) (hP : g < P) :
    Calls Tryz.prog 47 #[.pointer (some ⟨g, 0, none⟩), .int .i64 4, .pointer (some ⟨P, 0, none⟩)] w (AnsP w g P bs (ansN bs 4 s)) := by
  have HT := jJ0 (show ansN bs 4 s = some ({ zeroRep with raw := (js bs s).1 }, (js bs s).2) from rfl)
  have hbl := h.fits.2
  have hPl := hb.lt
  have Hr := jJ0 h
  have HbW := jJ0 hb
  have HLf := jJ0 (yE w g bs s h)
  generalize ansN bs 4 s = TV at *
  clear h hb
  go_enter Tryz.func47, Tryz.ntmps47
  go_wp2_with fail
  refine HLf.out.mono ?_
  rintro e w2 ⟨rfl, nq, rfl⟩
  have HRw := jJ0 (ko (w.drewN nq) g bs ((bs.length - s.at_ : Nat) : Int) s (Hr.out.old ((Kp.refl _ _).drewN _)) (by have := hbl; omega))
  have Hl := jJ0 (show (js bs s).1.length <= 100000000 from Nat.le_trans (vE bs _ _) hbl)
  have HrN := jJ0 (show js bs s = rawN bs ((bs.length - s.at_ : Nat) : Int) s from rfl)
  rw [<- HrN.out] at HRw
  clear HLf HrN
  generalize ((bs.length - s.at_ : Nat) : Int) = lf at *
  go_wp2_with fail
  refine HRw.out.mono ?_
  clear HRw
  generalize js bs s = rst at *
  obtain ⟨l, s9⟩ := rst
  simp only at HT Hl ⊢
  rintro e w1 ⟨A3, c3, rfl, hrd3, hav3, hcap3, hr1, hk1⟩
  have Hb1 := jJ0 ((HbW.out.drewN nq).kp hk1 (show ¬ RX g P from fun e => by have : P = g := e; omega))
  have u := Hb1.out.at_ 45 (by rw [List.getElem?_toArray]; exact (jM w1 NoX).r45 0 _ rfl)
  have z := Hb1.out.frozen 45
  have k1 := (Kp.refl (fun k => k = P) w1).setCell (p := ⟨P, 45, none⟩) (fun _ => rfl) (.slice A3 l.length c3)
  have Hend := jJ0 (show AnsP w g P bs TV (.returned (.int .i64 0)) (w1.setCell ⟨P, 45, none⟩ (.slice A3 l.length c3)) from
    ⟨.inl ⟨{ zeroMR with raw := ⟨A3, l, c3⟩ }, s9, by rw [HT.out]; rfl, rfl, Hb1.out.rRaw kg ⟨A3, l, c3⟩, by
      have Z := jM (w1.setCell ⟨P, 45, none⟩ (.slice A3 l.length c3)) (fun k => k < w.heap.size)
      exact ⟨Z.rdH, Z.avH, Z.bigH, Z.case_, ⟨hrd3.kp k1 (fun hn ad e hx => hav3 hn ad e (by have : ad.block = P := hx; simp; omega)), fun hn ad e hx => hav3 hn ad e (by simpa using hx), by have := Hl.out; simp only; omega⟩, Z.note, Z.hd, Z.inc, Z.con, Z.idx, Z.rdI, Z.avI, Z.pie⟩, hr1.kp k1 (fun b hb e => by omega)⟩, ((((Kp.refl (RX g) w).drewN nq).trans hk1 (fun _ _ e => e)).mono (Y := fun k => k = g \/ k = P) (fun b _ e => .inl e)).trans k1 (fun b _ e => .inr e)⟩)
  clear hr1 hk1 k1 hrd3 hav3 hcap3
  go_wp2
  go_ret
  exact Hend.out
theorem ans_3 (w : World) (g P : Nat) (bs : List UInt8) (s : Rs) (h : Rr w g bs s) (hb : Blk w P 63 zeroMR.cells.toArray) (hP : g < P) :
    Calls Tryz.prog 47 #[.pointer (some ⟨g, 0, none⟩), .int .i64 3, .pointer (some ⟨P, 0, none⟩)] w (AnsP w g P bs (ansN bs 3 s)) := by
  have HT := jJ0 (show ansN bs 3 s = some ({ zeroRep with case_ := (toldN bs s).1 }, (toldN bs s).2) from rfl)
  have hbl := h.fits.2
  have hPl := hb.lt
  have Hr := jJ0 h
  have HbW := jJ0 hb
  have HF := jJ0 (told_any w g bs s h)
  generalize ansN bs 3 s = TV at *
  clear h hb Hr hbl
  generalize toldN bs s = t1 at *
  obtain ⟨cc, s1⟩ := t1
  simp only at HT
  go_enter Tryz.func47, Tryz.ntmps47
  go_wp2_with fail
  refine HF.out.mono ?_
  rintro e w1 ⟨m, hd, rfl, hok, hr1, hk1⟩
  simp only at hd hr1
  have Hb1 := jJ0 (HbW.out.kp hk1 (show ¬ RX g P from fun e => by have : P = g := e; omega))
  have Hlen := jJ0 (MCase.len hok.chain)
  have Hone := jJ0 (MCase.one m)
  have Hsz := jJ0 (show (Tryz.prog.info? 43).map (·.size) = some m.cells.length by rw [Hlen.out]; kernel_rfl)
  have Hth := jJ0 (Hb1.out.there 6 m.cells.toArray.size (by rw [List.size_toArray, List.size_toArray, (jM w1 NoX).len, Hlen.out]; decide))
  have k1 := Kp.setCells P 6 m.cells w1
  have Hend := jJ0 (show AnsP w g P bs TV (.returned (.int .i64 0)) (w1.setCells P 6 m.cells) from
    ⟨.inl ⟨{ zeroMR with case_ := m }, s1, by rw [HT.out, <- hd]; rfl, rfl, Hb1.out.rCase kg m hok.chain, by
      have Z := jM (w1.setCells P 6 m.cells) (fun k => k < w.heap.size)
      exact ⟨Z.rdH, Z.avH, Z.bigH, hok.turn k1 (fun b _ e => by omega) (fun _ _ e => e), Z.raw, Z.note, Z.hd, Z.inc, Z.con, Z.idx, Z.rdI, Z.avI, Z.pie⟩, hr1.kp k1 (fun b hb e => by omega)⟩, (hk1.mono (Y := fun k => k = g \/ k = P) (fun b _ e => .inl e)).trans k1 (fun b _ e => .inr e)⟩)
  clear hr1 hk1 k1 hok hd
  generalize m.cells = xs at *
  go_wp2_with (first | ((with_reducible refine jE 43 (.tmp 45) (.tmp 43) ?_); refine wpList_store_mid rfl 43 (.tmp 45) (.tmp 43) rfl P 6 xs.toArray rfl rfl Hth.out Hsz.out Hone.out ?_) | fail)
  go_ret
  exact Hend.out
end Go.Proofs.YtnaolhjbapgjgaaGreat
