import Derived.Test.YtnaolhjbapgjgaaGreatMg07
import Derived.Test.YtnaolhjbapgjgaaGreatMg11
import Derived.Test.YtnaolhjbapgjgaaGreatMg14
import Derived.Test.YtnaolhjbapgjgaaGreatMg16
import Derived.Test.YtnaolhjbapgjgaaGreatMg18
set_option maxRecDepth 100000
set_option maxHeartbeats 3200000
namespace Go.Proofs.YtnaolhjbapgjgaaGreat
open Go.RowKit
theorem Tryz.sizePiece : (Tryz.prog.info? 61).map (·.size) = some 36 := by kernel_rfl
theorem size0_rows : ∀ (es : List Part) (ps : List MWay), es.length = ps.length -> vP (List.zipWith mrow es ps) = size0W (ps.map MWay.data)
  | [], [], _ => rfl
  | [], _ :: _, h => by simp at h
  | _ :: _, [], h => by simp at h
  | e :: es, p :: ps, _ => rfl
theorem size0W_get : ∀ (ps : List MWay) (h : 0 < ps.length), (ps[0]'h).a = size0W (ps.map MWay.data)
  | [], h => by simp at h
  | _ :: _, _ => rfl
structure PieAt (w3 : World) (g : Nat) (hd : List UInt8) (es : List Part) (ps : List MWay) (k : Nat) (wr : World) : Prop where
  le : k <= es.length
  st : ∃ r, KF w3 g none wr r /\ Wr wr g r (hd ++ rowsB es ps k)
theorem rowsB_len {es : List Part} {ps : List MWay} (hl : es.length = ps.length) (he : ∀ p ∈ es, p.l.length <= 65536) (hp : ∀ p ∈ ps, p.ds.length <= 41 /\ Dgs p.ds) : ∀ k, k <= es.length -> (rowsB es ps k).length <= k * 70000
  | 0, _ => by simp [rowsB]
  | k + 1, hk => by
    have h1 := rowsB_len hl he hp k (by omega)
    rw [rowsB_succ es ps k (by omega) (by omega), List.length_append, rowB, List.length_append, List.length_append, jL, jG]
    have h2 := he es[k] (List.getElem_mem _)
    have h3 := hp (ps[k]'(by omega)) (List.getElem_mem _)
    have h4 := h3.2.flat
    simp only [MWay.data]
    omega
theorem encpiece_any (w : World) (m : MPiece) (X : Nat -> Prop) (hok : m.Ok w X) :
    Calls Tryz.prog 61 #[.agg m.cells.toArray] w (EncP w (pieceB m.data) 100000000) := by
  have Hb := jJ0 (Blk.new w 61 m.cells.toArray)
  have Ho := jJ0 ((Kp.refl NoX w).alloc (.cells m.cells.toArray 61))
  have HI := jJ0 (show pieceB m.data = if pieOk m.data = true then some (pieHead m.data ++ (List.zipWith rowB (m.evs.map Part.l) (m.pfs.map MWay.data)).flatten) else none from rfl)
  have HK := jJ0 (show pieOk m.data = decide (m.evs.length ≠ 0 /\ m.evs.length = m.pfs.length /\ vw m.case_ m.first m.before (List.zipWith prow (m.evs.map Part.l) (m.pfs.map MWay.data)) = m.evs.length) by
    simp [pieOk, MPiece.data])
  have HH := jJ0 (show pieHead m.data = be 1 51 ++ (lp 1 (sb m.case_) ++ ((be8 m.first ++ m.before) ++ (be8 (size0W (m.pfs.map MWay.data)) ++ be 4 m.evs.length))) by rw [pieHead]; simp only [MPiece.data, List.length_map])
  generalize pieceB m.data = IB at *
  generalize pieOk m.data = pk at *
  generalize pieHead m.data = hd at *
  have Hok := jJ0 hok
  have S0 := jJ0 m.s0
  have S1 := jJ0 m.s1
  have S2 := jJ0 m.s2
  have S34 := jJ0 (MPiece.s34 hok.before)
  have S35 := jJ0 (MPiece.s35 hok.before)
  have Hs2 := jJ0 (show (Tryz.prog.info? 40).map (·.size) = some (jB m.before).length by rw [jD, hok.before]; exact Tryz.sizeDigest)
  obtain ⟨hbe, hbp, hbc⟩ := hok.big
  clear hok
  generalize m.cells = cl at *
  have c34 := Hb.out.at_ 34 (by rw [List.getElem?_toArray]; exact S34.out)
  have c35 := Hb.out.at_ 35 (by rw [List.getElem?_toArray]; exact S35.out)
  by_cases h0 : m.evs.length = 0
  · have Hno := jJ0 (show IB = none by rw [HI.out, HK.out, decide_eq_false (fun h => h.1 h0)]; rfl)
    rw [h0] at c34
    clear HI HK HH S34
    go_enter Tryz.func61, Tryz.ntmps61
    go_wp2
    go_ret2
    exact .inr ⟨170, Hno.out, by decide, rfl, Ho.out⟩
  have h0' : ((m.evs.length : Int) == 0) = false := beq_eq_false_iff_ne.2 (by omega)
  by_cases hl : m.evs.length = m.pfs.length
  case neg =>
    have Hno := jJ0 (show IB = none by rw [HI.out, HK.out, decide_eq_false (fun h => hl h.2.1)]; rfl)
    have hl' : ((m.evs.length : Int) != (m.pfs.length : Int)) = true := by simp; omega
    clear HI HK HH S34 S35 h0 hl
    go_enter Tryz.func61, Tryz.ntmps61
    go_wp2
    go_ret2
    exact .inr ⟨170, Hno.out, by decide, rfl, Ho.out⟩
  have c0 := Hb.out.at_ 0 (by rw [List.getElem?_toArray]; exact S0.out)
  have c1 := Hb.out.at_ 1 (by rw [List.getElem?_toArray]; exact S1.out)
  have Hrg := jJ0 (S2.out.range Hb.out)
  have HRc := jJ0 (fun W (ho : Old w W) => reach_any W m.case_ m.first m.before Hok.out.before (by omega) m.eA m.pA m.eC m.pC (List.zipWith mrow m.evs m.pfs) (rows_ok m.evs m.pfs (fun p hp => (Hok.out.evs p hp).big) (fun p hp => (Hok.out.pfs p hp).big))
    (by rw [vS _ _ hl, rows_ev _ _ hl]; exact Hok.out.rdE.old ho) (by rw [vS _ _ hl, rows_pf _ _ hl, hl]; exact Hok.out.rdP.old ho) (by rw [vS _ _ hl]; omega))
  rw [vS _ _ hl] at HRc
  rw [<- strip_rows, reachN_strip] at HK
  have Hall := jJ0 (fun h => reachN_all (s := m.case_) (f := m.first) (d := m.before) (rs := List.zipWith mrow m.evs m.pfs) (by rw [vS _ _ hl]; exact h) (by rw [vS _ _ hl]; exact h0))
  rw [vS _ _ hl] at Hall
  have Hl := jJ0 hl
  rw [<- hl] at c35 S35
  have HrP := jJ0 Hok.out.rdP
  rw [<- hl] at HrP
  have hne : ((m.evs.length : Int) != (m.evs.length : Int)) = false := by simp
  clear hl hbp
  generalize vw m.case_ m.first m.before (List.zipWith mrow m.evs m.pfs) = R at *
  generalize hN : m.evs.length = N at *
  have HN := jJ0 hN
  clear hN
  go_enter Tryz.func61, Tryz.ntmps61
  go_wp2_with (first | ((with_reducible refine at_load 40 (.tmp 25) ?_); refine Tryz.load_w rfl 40 (.tmp 25) rfl w.heap.size 2 rfl (jB m.before) _ Hrg.out Tryz.underlying40 rfl Hs2.out ?_) | fail)
  generalize w.alloc _ = W at *
  refine (HRc.out W Ho.out).mono ?_
  rintro e w1 ⟨rfl, ho1⟩
  have Hb1 := jJ0 (Hb.out.old ho1)
  have Ho1 := jJ0 (Ho.out.old ho1)
  clear ho1 Hb Ho HRc c0 c1 c34 c35 Hrg
  by_cases hR : R = N
  case neg =>
    have Hno := jJ0 (show IB = none by rw [HI.out, HK.out, decide_eq_false (fun h => hR h.2.2)]; rfl)
    have hR' : ((R : Int) != (N : Int)) = true := by simp; omega
    clear hR HI HK HH
    go_wp2
    go_ret2
    exact .inr ⟨170, Hno.out, by decide, rfl, Ho1.out⟩
  subst hR
  have Hfin := jJ0 (show IB = some (hd ++ (List.zipWith rowB (m.evs.map Part.l) (m.pfs.map MWay.data)).flatten) by
    rw [HI.out, HK.out, decide_eq_true ⟨h0, Hl.out, rfl⟩]; rfl)
  obtain ⟨hbg, h1000, hrows⟩ := Hall.out rfl
  have Hrows := jJ0 hrows
  have h64 := beginsB_small hbg
  clear HI HK Hall hrows hbg
  have Hev := jJ0 (show ∀ p ∈ m.evs, p.l.length <= 65536 from fun p hp => by
    obtain ⟨k, hk, rfl⟩ := List.getElem_of_mem hp
    have hk2 : k < m.pfs.length := by have := HN.out; have := Hl.out; omega
    have := Hrows.out (mrow m.evs[k] m.pfs[k]) (by
      have h := List.getElem_mem (l := List.zipWith mrow m.evs m.pfs) (n := k) (by rw [List.length_zipWith]; omega)
      rwa [List.getElem_zipWith] at h)
    exact this.2.1)
  have Hpf := jJ0 (show ∀ p ∈ m.pfs, p.ds.length <= 41 /\ Dgs p.ds from fun p hp => by
    refine ⟨?_, (Hok.out.pfs p hp).dgs⟩
    obtain ⟨k, hk, rfl⟩ := List.getElem_of_mem hp
    have hk2 : k < m.evs.length := by have := HN.out; have := Hl.out; omega
    have := Hrows.out (mrow m.evs[k] m.pfs[k]) (by
      have h := List.getElem_mem (l := List.zipWith mrow m.evs m.pfs) (n := k) (by rw [List.length_zipWith]; omega)
      rwa [List.getElem_zipWith] at h)
    exact this.1)
  have Hz0 := jJ0 (size0_rows m.evs m.pfs (by rw [HN.out]; exact Hl.out))
  have hN0 : 0 < R := by omega
  have hR4 : IntKind.u32.wrap (R : Int) = R := IntWalk.u32_in _ (by omega)
  go_wp2_with fail
  refine (kq _).mono ?_
  rintro e w3 ⟨rfl, hW3, ho3⟩
  have Hb3 := jJ0 (Hb1.out.old ho3)
  have HoW := jJ0 (Ho1.out.old ho3)
  have hlt := Hb1.out.lt
  have HrE3 := jJ0 (show Rd w3 1 m.eA R (m.evs.map Part.sl) from by have h := Hok.out.rdE; rw [HN.out] at h; exact (h.old Ho1.out).old ho3)
  have HrP3 := jJ0 ((HrP.out.old Ho1.out).old ho3)
  have HaE := jJ0 (show Av (WX w1.heap.size none) R m.eA from by have h := Hok.out.rdE; rw [HN.out] at h; exact Av.own (h.old Ho1.out) (by decide) (Nat.le_refl _))
  have HaP := jJ0 (Av.own (HrP.out.old Ho1.out) (by decide) (Nat.le_refl w1.heap.size))
  have Hx := jJ0 (show ¬ WX w1.heap.size none w.heap.size from by
    rintro (e | e)
    · omega
    · cases e)
  have HE3 := jJ0 (show ∀ p ∈ m.evs, Rd w3 1 p.A p.l.length (p.l.map bv) /\ Av (WX w1.heap.size none) p.l.length p.A from fun p hp =>
    ⟨((Hok.out.evs p hp).rd.old Ho1.out).old ho3, Av.own ((Hok.out.evs p hp).rd.old Ho1.out) (by decide) (Nat.le_refl _)⟩)
  have HP3 := jJ0 (show ∀ p ∈ m.pfs, Rd w3 32 p.A p.ds.length (p.ds.flatMap jB) /\ Av (WX w1.heap.size none) p.ds.length p.A from fun p hp =>
    ⟨((Hok.out.pfs p hp).rd.old Ho1.out).old ho3, Av.own ((Hok.out.pfs p hp).rd.old Ho1.out) (by decide) (Nat.le_refl _)⟩)
  have HW3 := jJ0 hW3
  have HgO := jJ0 (show w.heap.size <= w1.heap.size from Ho1.out.size)
  clear hW3 ho3 Hb1 Ho1
  generalize w1.heap.size = g at *
  go_wp2_with fail
  refine (jV _ g none [] 51 (by decide) (by decide) HW3.out (by simp)).mono ?_
  rintro e w4 ⟨rfl, hst⟩
  rw [show [] ++ be 1 (51 : Int).toNat = be 1 51 from rfl] at hst
  obtain ⟨r4, hW4, f4⟩ := hst.kf
  have F4 := jJ0 f4
  have HW4 := jJ0 hW4
  have c0 := (f4.blk Hb3.out Hx.out).at_ 0 (by rw [List.getElem?_toArray]; exact S0.out)
  clear hst hW4 f4
  go_wp2_with fail
  refine (pname_any _ g r4 _ m.case_ HW4.out (by simp [jC]) (by omega)).mono ?_
  rintro e w5 ⟨rfl, hst⟩
  obtain ⟨r5, hW5, f5⟩ := hst.kf
  have F5 := jJ0 (F4.out.trans f5)
  have HW5 := jJ0 hW5
  have hb5 := F5.out.blk Hb3.out Hx.out
  have c1 := hb5.at_ 1 (by rw [List.getElem?_toArray]; exact S1.out)
  have Hrg := jJ0 (S2.out.range hb5)
  have Hl5 := jJ0 (show (be 1 51 ++ lp 1 (sb m.case_)).length <= 1000 by simp only [List.length_append, jC, jL, jF]; omega)
  clear hst hW5 f5 F4 HW4 c0 hb5
  go_wp2_with (first | ((with_reducible refine at_load 40 (.tmp 45) ?_); refine Tryz.load_w rfl 40 (.tmp 45) rfl w.heap.size 2 rfl (jB m.before) _ Hrg.out Tryz.underlying40 rfl Hs2.out ?_) | refine Tryz.wl_dig1 rfl (.tmp 46) rfl m.before Hok.out.before rfl ?_ | fail)
  refine (kx _ g r5 _ m.first _ 1 1 [m.before] rfl (fun d hd => by rw [List.mem_singleton.1 hd]; exact Hok.out.before) (HW5.out.old ((Kp.refl _ _).alloc _)) (by have := Hl5.out; omega) (by omega) (by
    have := Rd.row_new w5 40 32 1 (jB m.before) (by rw [jD, Hok.out.before])
    simpa using this) (Av.new HW5.out)).mono ?_
  rintro e w6 ⟨rfl, hst⟩
  rw [List.flatten_singleton] at hst
  obtain ⟨r6, hW6, f6⟩ := hst.kf
  have F6 := jJ0 (F5.out.trans ((KF.of ((Kp.refl NoX w5).alloc _)).trans f6))
  have HW6 := jJ0 hW6
  have hb6 := F6.out.blk Hb3.out Hx.out
  have c35 := hb6.at_ 35 (by rw [List.getElem?_toArray]; exact S35.out)
  obtain ⟨pb, po, hpA, hrg0⟩ := (F6.out.rd HrP3.out HaP.out).elem (f := MWay.cells) (fun _ _ => rfl) Hl.out.symm (k := 0) (by have := Hl.out; omega)
  rw [hpA] at c35
  have q0 := hrg0 0 _ rfl
  have HpA := jJ0 hpA
  have Hs0 := jJ0 (show (m.pfs[0]'(by have := Hl.out; omega)).a = size0W (m.pfs.map MWay.data) from size0W_get _ _)
  rw [Hs0.out] at q0
  rw [Nat.zero_mul, Nat.add_zero] at q0
  have Hl6 := jJ0 (show (be 1 51 ++ lp 1 (sb m.case_) ++ (be8 m.first ++ m.before)).length <= 2000 by have h5 := Hl5.out; simp only [List.length_append, jG, Hok.out.before] at h5 ⊢; omega)
  generalize (size0W (m.pfs.map MWay.data)) = sz at *
  have i0 : (0 : Int) < (R : Int) := by omega
  clear hst hW6 f6 F5 HW5 c1 Hrg hpA hrg0 Hs0 hb6
  go_wp2_with fail
  refine (kx _ g r6 _ sz none 0 0 [] rfl (fun d hd => by cases hd) HW6.out (by have := Hl6.out; omega) (by omega) Rd.none_ (fun h => absurd h (by simp))).mono ?_
  rintro e w7 ⟨rfl, hst⟩
  rw [List.flatten_nil, List.append_nil] at hst
  obtain ⟨r7, hW7, f7⟩ := hst.kf
  have F7 := jJ0 (F6.out.trans f7)
  have HW7 := jJ0 hW7
  clear hst hW7 f7 F6 HW6 q0 c35
  go_wp2_with fail
  refine (put32_any _ g r7 _ (R : Int) (by omega) (by omega) HW7.out (by have := Hl6.out; rw [List.length_append, jG]; omega)).mono ?_
  rintro e w8 ⟨rfl, hst⟩
  rw [Int.toNat_natCast] at hst
  obtain ⟨r8, hW8, f8⟩ := hst.kf
  have F8 := jJ0 (F7.out.trans f8)
  have Hq := jJ0 (show be 1 51 ++ lp 1 (sb m.case_) ++ (be8 m.first ++ m.before) ++ be8 sz ++ be 4 R = hd by rw [HH.out]; simp)
  rw [Hq.out] at hW8
  have Hhl := jJ0 (show hd.length <= 2020 by rw [<- Hq.out]; have := Hl6.out; rw [List.length_append, List.length_append, jG, jC]; omega)
  have c34 := (F8.out.blk Hb3.out Hx.out).at_ 34 (by rw [List.getElem?_toArray]; exact S34.out)
  have Hat := jJ0 (show PieAt w3 g hd m.evs m.pfs 0 w8 from ⟨Nat.zero_le _, r8, F8.out, by simpa [rowsB] using hW8⟩)
  clear hst hW8 f8 F7 HW7 HH Hq F8
  go_wp2_with fail
  go_loopw [63, 6, 7] (fun i _ _ wr => ∃ k : Nat, i = .int .i64 k /\ PieAt w3 g hd m.evs m.pfs k wr) (fun i _ _ _ => R - (intOf i).toNat)
  case atStart => exact ⟨0, rfl, Hat.out⟩
  case round =>
    obtain ⟨k, rfl, hat⟩ := hrel
    have hkl := hat.le
    rw [HN.out] at hkl
    obtain ⟨r, hF, hW⟩ := hat.st
    have HF := jJ0 hF
    have HW := jJ0 hW
    clear hat Hat hF hW c34
    by_cases hlt : k < R
    · have hke : k < m.evs.length := by have := HN.out; omega
      have hkp : k < m.pfs.length := by have := Hl.out; omega
      have hb := HF.out.blk Hb3.out Hx.out
      have c35 := hb.at_ 35 (by rw [List.getElem?_toArray]; exact S35.out)
      obtain ⟨eb, eo, u, hEA, hu, hec⟩ := (HF.out.rd HrE3.out HaE.out).at_ hlt
      have hu' : u = m.evs[k].sl := by
        rw [List.getElem?_map, List.getElem?_eq_getElem hke] at hu
        simpa using hu.symm
      subst hu'
      obtain ⟨pb2, po2, hPA, hrg⟩ := (HF.out.rd HrP3.out HaP.out).elem (f := MWay.cells) (fun _ _ => rfl) Hl.out.symm (k := k) hkp
      have Hsucc := jJ0 (show hd ++ rowsB m.evs m.pfs (k + 1) = hd ++ rowsB m.evs m.pfs k ++ be8 m.pfs[k].b ++ lp 4 m.evs[k].l ++ m.pfs[k].ds.flatten by
        rw [rowsB_succ m.evs m.pfs k hke hkp, rowB]; simp [MWay.data])
      have Hlen := jJ0 (show (hd ++ rowsB m.evs m.pfs k).length <= 100000000 by
        have h1 := rowsB_len (by rw [HN.out]; exact Hl.out) Hev.out Hpf.out k (by omega)
        have := Hhl.out
        rw [List.length_append]
        omega)
      have He := jJ0 (HE3.out m.evs[k] (List.getElem_mem hke))
      have Hp := jJ0 (HP3.out m.pfs[k] (List.getElem_mem hkp))
      have Hpd := jJ0 (Hpf.out m.pfs[k] (List.getElem_mem hkp))
      have Hel := jJ0 (Hev.out m.evs[k] (List.getElem_mem hke))
      have HpA2 := jJ0 hPA
      have HrgF := jJ0 (show ∀ w' r', KF w3 g none w' r' -> w'.cell? ⟨pb2, po2 + k * 3 + 2, none⟩ = some (.slice m.pfs[k].A m.pfs[k].ds.length m.pfs[k].c) from fun w' r' F => by
        obtain ⟨pb3, po3, e3, hr3⟩ := (F.rd HrP3.out HaP.out).elem (f := MWay.cells) (fun _ _ => rfl) Hl.out.symm (k := k) hkp
        rw [HpA2.out] at e3
        injection e3 with e3
        injection e3 with e4 e5
        subst e4 e5
        exact hr3 2 _ rfl)
      have Hrg := jJ0 hrg
      rw [hPA] at c35
      rw [show m.evs[k].sl = .slice m.evs[k].A m.evs[k].l.length m.evs[k].c from rfl] at hec
      have HEA := jJ0 hEA
      rw [hEA]
      have i1 : (0 : Int) <= (k : Int) := by omega
      have i2 : (k : Int) < (R : Int) := by omega
      have i3 : (k : Int).toNat = k := by omega
      have q1 := hrg 1 _ rfl
      clear hu hrg hPA hEA hb
      generalize m.evs[k] = ev at *
      generalize m.pfs[k] = pf at *
      generalize hd ++ rowsB m.evs m.pfs k = cs at *
      go_wp2_with fail
      refine (kx _ g r cs pf.b none 0 0 [] rfl (fun d hd => by cases hd) HW.out (by have := Hlen.out; omega) (by omega) Rd.none_ (fun h => absurd h (by simp))).mono ?_
      rintro e w9 ⟨rfl, hst⟩
      rw [List.flatten_nil, List.append_nil] at hst
      obtain ⟨r9, hW9, f9⟩ := hst.kf
      have F9 := jJ0 (HF.out.trans f9)
      have HW9 := jJ0 hW9
      have Hl9 := jJ0 (show (cs ++ be8 pf.b).length <= 100000008 by have := Hlen.out; rw [List.length_append, jG]; omega)
      clear hst hW9 f9 HF HW q1 c35 hec
      go_wp2_with fail
      refine (bytes_ok _ g r9 _ ev.A ev.l.length ev.c ev.l 65536 HW9.out (by have := Hl9.out; omega) (F9.out.rd He.out.1 He.out.2) (F9.out.av He.out.1 (by decide) He.out.2) (by have := Hel.out; omega) (by have := Hel.out; omega)).mono ?_
      rintro e w10 ⟨rfl, hst⟩
      obtain ⟨r10, hW10, f10⟩ := hst.kf
      have F10 := jJ0 (F9.out.trans f10)
      have HW10 := jJ0 hW10
      have Hl10 := jJ0 (show (cs ++ be8 pf.b ++ lp 4 ev.l).length <= 100065548 by have := Hl9.out; have := Hel.out; rw [List.length_append, jL]; omega)
      have hb := F10.out.blk Hb3.out Hx.out
      have c35 := hb.at_ 35 (by rw [List.getElem?_toArray]; exact S35.out)
      rw [HpA2.out] at c35
      have q2 := HrgF.out w10 r10 F10.out
      clear hst hW10 f10 F9 HW9 hb
      go_wp2_with fail
      refine (vj _ g r10 _ pf.A pf.ds.length pf.c pf.ds rfl Hpd.out.2 HW10.out (by have := Hl10.out; omega) (by have := Hpd.out.1; omega) (F10.out.rd Hp.out.1 Hp.out.2) (F10.out.av Hp.out.1 (by decide) Hp.out.2)).mono ?_
      rintro e w11 ⟨rfl, hst⟩
      obtain ⟨r11, hW11, f11⟩ := hst.kf
      rw [<- Hsucc.out] at hW11
      have Hnext := jJ0 (show PieAt w3 g hd m.evs m.pfs (k + 1) w11 from ⟨by omega, r11, F10.out.trans f11, hW11⟩)
      clear hst hW11 f11 c35 q2
      go_wp2
      go_roundw
      case rel => exact ⟨k + 1, by go_num, Hnext.out⟩
      case measure => simp [intOf]; omega
    · obtain rfl : k = R := by omega
      have Hq := jJ0 (show IB = some (hd ++ rowsB m.evs m.pfs k) by rw [Hfin.out, <- rowsB_all _ _ (by rw [HN.out]; exact Hl.out), HN.out])
      have hlen : (hd ++ rowsB m.evs m.pfs k).length <= 100000000 := by
        have h1 := rowsB_len (by rw [HN.out]; exact Hl.out) Hev.out Hpf.out k (by have := HN.out; omega)
        have := Hhl.out
        rw [List.length_append]
        omega
      generalize hd ++ rowsB m.evs m.pfs k = q at *
      have HO := jJ0 (show Old w wr from HoW.out.trans HF.out.kp (fun b hb hx => by
        rcases hx with hx | hx
        · have := HgO.out; omega
        · cases hx))
      go_wp2_with fail
      refine (kP _ g r q HW.out (by omega)).mono ?_
      rintro e w10 ⟨A8, c8, rfl, hown, ho8⟩
      have Hend := jJ0 (show EncP w IB 100000000 (.returned (.tuple #[.slice A8 q.length c8, .int .i64 0])) w10 from
        .inl ⟨q, A8, c8, Hq.out, hlen, rfl, Rd.of_own hown, fun hn ad e hx => own_av hown hn ad e (Nat.lt_of_lt_of_le hx HO.out.size), HO.out.old ho8⟩)
      clear hown ho8 hlen
      go_wp2
      go_ret2
      exact Hend.out
structure TkR (T : TypeId) (z : List Value) (w : World) (g : Nat) (bs : List UInt8) (s : Rs) (W : World) : Prop where
  box : Blk W w.heap.size T z.toArray
  rr : Rr W g bs s
  kp : Kp (RX g) w W
  lt : g < w.heap.size
section
variable {T : TypeId} {z : List Value} {w : World} {g : Nat} {bs : List UInt8} {s s' : Rs} {W W' : World}
theorem TkR.step (h : TkR T z w g bs s W) (hr : Rr W' g bs s') (hk : Kp (RX g) W W') : TkR T z w g bs s' W' :=
  ⟨h.box.kp hk (fun e => by have : w.heap.size = g := e; have := h.lt; omega), hr, h.kp.trans hk (fun b hb e => e), h.lt⟩
theorem TkR.still (h : TkR T z w g bs s W) (hk : Old W W') : TkR T z w g bs s W' := ⟨h.box.old hk, h.rr.old hk, h.kp.old hk, h.lt⟩
theorem TkR.put (h : TkR T z w g bs s W) {X : Nat -> Prop} (hk : Kp X W W') (hx : ∀ b, X b -> w.heap.size < b) : TkR T z w g bs s W' :=
  ⟨h.box.kp hk (fun e => by have := hx _ e; omega), h.rr.kp hk (fun b hb e => by have := hx _ e; have := h.lt; omega), h.kp.trans hk (fun b hb e => by have := hx _ e; omega), h.lt⟩
theorem TkR.th (h : TkR T z w g bs s W) (vs : List Value) (hl : z.length = vs.length) : W.there w.heap.size 0 vs.toArray.size := h.box.there 0 _ (by rw [List.size_toArray, List.size_toArray]; omega)
structure ToldR (T : TypeId) (vs : List Value) (w : World) (g : Nat) (bs : List UInt8) (s : Rs) (W W' : World) : Prop where
  box : Blk W' w.heap.size T vs.toArray
  rr : Rr W' g bs s
  kp : Kp (RX g) w W'
  st : Kp (fun k => k = w.heap.size) W W'
theorem TkR.told (h : TkR T z w g bs s W) (vs : List Value) (hl : z.length = vs.length) : ToldR T vs w g bs s W (W.setCells w.heap.size 0 vs) :=
  ⟨h.box.setWhole vs hl, h.rr.kp (Kp.setCells _ 0 vs W) (fun b hb e => by have := h.lt; omega), h.kp.trans (Kp.setCells _ 0 vs W) (fun b hb e => by omega), Kp.setCells _ 0 vs W⟩
end
def zeroHdL : List Value := [.int .u8 0, .int .u8 0, .int .u8 0, .int .u8 0, .int .u8 0, .int .u8 0, .int .u8 0, .int .u8 0, .int .u8 0, .int .u8 0, .int .u8 0, .int .u8 0, .int .u8 0, .int .u8 0, .int .u8 0, .int .u8 0, .int .u8 0, .int .u8 0, .int .u8 0, .int .u8 0, .int .u8 0, .int .u8 0, .int .u8 0, .int .u8 0, .int .u8 0, .int .u8 0, .int .u8 0, .int .u8 0, .int .u8 0, .int .u8 0, .int .u8 0, .int .u8 0, .int .i64 0, .int .u8 0, .int .u8 0, .int .u8 0, .int .u8 0, .int .u8 0, .int .u8 0, .int .u8 0, .int .u8 0, .int .u8 0, .int .u8 0, .int .u8 0, .int .u8 0, .int .u8 0, .int .u8 0, .int .u8 0, .int .u8 0, .int .u8 0, .int .u8 0, .int .u8 0, .int .u8 0, .int .u8 0, .int .u8 0, .int .u8 0, .int .u8 0, .int .u8 0, .int .u8 0, .int .u8 0, .int .u8 0, .int .u8 0, .int .u8 0, .int .u8 0, .int .u8 0, .int .u8 0, .int .u8 0, .int .u8 0, .int .u8 0, .int .u8 0, .int .u8 0, .int .u8 0, .int .u8 0, .int .u8 0, .int .u8 0, .int .u8 0, .int .u8 0, .int .u8 0, .int .u8 0, .int .u8 0, .int .u8 0, .int .u8 0, .int .u8 0, .int .u8 0, .int .u8 0, .int .u8 0, .int .u8 0, .int .u8 0, .int .u8 0, .int .u8 0, .int .u8 0, .int .u8 0, .int .u8 0, .int .u8 0, .int .u8 0, .int .u8 0, .int .u8 0, .int .i64 0]
def zeroHd : Hd := ⟨zD, 0, zD, zD, 0⟩
theorem zeroHd_ok : zeroHd.Ok := ⟨kg, kg, kg⟩
theorem zeroHd_cells : zeroHd.cells = zeroHdL := by
  simp only [zeroHd, Hd.cells, zD_cells]
  rfl
theorem Blk.hlog {w : World} {H : Nat} {T : TypeId} {h : Hd} (k : h.Ok) (hb : Blk w H T h.cells.toArray) (d : List UInt8) (hd : d.length = 32) : Blk (w.setCells H 0 (jB d)) H T (Hd.cells { h with log := d }).toArray := by
  have := Blk.setCells (pre := []) (mid := jB h.log) (post := [.int .i64 h.size] ++ (jB h.root ++ (jB h.index ++ [.int .i64 h.clock]))) (by simpa [Hd.cells] using hb) (jB d) (by rw [jD, jD, hd, k.log])
  simpa [Hd.cells] using this
theorem Blk.hroot {w : World} {H : Nat} {T : TypeId} {h : Hd} (k : h.Ok) (hb : Blk w H T h.cells.toArray) (d : List UInt8) (hd : d.length = 32) : Blk (w.setCells H 33 (jB d)) H T (Hd.cells { h with root := d }).toArray := by
  have := Blk.setCells (pre := jB h.log ++ [.int .i64 h.size]) (mid := jB h.root) (post := jB h.index ++ [.int .i64 h.clock]) (by simpa [Hd.cells] using hb) (jB d) (by rw [jD, jD, hd, k.root])
  rw [List.length_append, jD, k.log] at this
  simpa [Hd.cells] using this
theorem Blk.hindex {w : World} {H : Nat} {T : TypeId} {h : Hd} (k : h.Ok) (hb : Blk w H T h.cells.toArray) (d : List UInt8) (hd : d.length = 32) : Blk (w.setCells H 65 (jB d)) H T (Hd.cells { h with index := d }).toArray := by
  have := Blk.setCells (pre := jB h.log ++ ([.int .i64 h.size] ++ jB h.root)) (mid := jB h.index) (post := [.int .i64 h.clock]) (by simpa [Hd.cells] using hb) (jB d) (by rw [jD, jD, hd, k.index])
  rw [List.length_append, List.length_append, jD, jD, k.log, k.root] at this
  simpa [Hd.cells] using this
theorem Blk.hsize {w : World} {H : Nat} {T : TypeId} {h : Hd} (k : h.Ok) (hb : Blk w H T h.cells.toArray) (n : Int) : Blk (w.setCell ⟨H, 32, none⟩ (.int .i64 n)) H T (Hd.cells { h with size := n }).toArray := by
  have := Blk.setCells (pre := jB h.log) (mid := [.int .i64 h.size]) (post := jB h.root ++ (jB h.index ++ [.int .i64 h.clock])) (by simpa [Hd.cells] using hb) [.int .i64 n] rfl
  rw [jD, k.log] at this
  have e : w.setCells H 32 [.int .i64 n] = w.setCell ⟨H, 32, none⟩ (.int .i64 n) := rfl
  rw [e] at this
  simpa [Hd.cells] using this
theorem Blk.hclock {w : World} {H : Nat} {T : TypeId} {h : Hd} (k : h.Ok) (hb : Blk w H T h.cells.toArray) (n : Int) : Blk (w.setCell ⟨H, 97, none⟩ (.int .i64 n)) H T (Hd.cells { h with clock := n }).toArray := by
  have := Blk.setCells (pre := jB h.log ++ ([.int .i64 h.size] ++ (jB h.root ++ jB h.index))) (mid := [.int .i64 h.clock]) (post := []) (by simpa [Hd.cells] using hb) [.int .i64 n] rfl
  rw [List.length_append, List.length_append, List.length_append, jD, jD, jD, k.log, k.root, k.index] at this
  have e : w.setCells H 97 [.int .i64 n] = w.setCell ⟨H, 97, none⟩ (.int .i64 n) := rfl
  simp only [Nat.reduceAdd, List.length_singleton, e] at this
  simpa [Hd.cells] using this
def htkN (bs : List UInt8) (k : Nat) (s : Rs) : Option Hd × Rs :=
  (if (tkN bs 8 (digN bs (digN bs (tkN bs 8 (digN bs s).2).2).2).2).2.why = 0 /\ k = 32 /\ (tkN bs 8 (digN bs s).2).1 <= 1099511627776 /\ (tkN bs 8 (digN bs (digN bs (tkN bs 8 (digN bs s).2).2).2).2).1 <= 4611686018427387904 then
    some ⟨(digN bs s).1, (tkN bs 8 (digN bs s).2).1, (digN bs (tkN bs 8 (digN bs s).2).2).1, (digN bs (digN bs (tkN bs 8 (digN bs s).2).2).2).1, (tkN bs 8 (digN bs (digN bs (tkN bs 8 (digN bs s).2).2).2).2).1⟩ else none,
   (tkN bs 8 (digN bs (digN bs (tkN bs 8 (digN bs s).2).2).2).2).2)
def htakeN (bs : List UInt8) (s : Rs) : Option Hd × Rs := htkN bs (tkN bs 1 s).1 (tkN bs 1 s).2
def HtP (w : World) (g : Nat) (bs : List UInt8) (o : Option Hd × Rs) (e : Ending) (w' : World) : Prop :=
  ((∃ h : Hd, o.1 = some h /\ h.Ok /\ headOk h = true /\ e = .returned (.tuple #[.agg h.cells.toArray, .bool true])) \/ (o.1 = none /\ e = .returned (.tuple #[.agg zeroHdL.toArray, .bool false]))) /\ Rr w' g bs o.2 /\ Kp (RX g) w w'
theorem Tryz.zeroHead : Tryz.zeroCells45 = zeroHdL.toArray := by kernel_rfl
theorem headOk_of {h : Hd} (h1 : 0 <= h.size) (h2 : h.size <= 1099511627776) (h3 : 0 <= h.clock) (h4 : h.clock <= 4611686018427387904) : headOk h = true := by
  unfold headOk
  rw [decide_eq_true_iff]
  exact ⟨h1, h2, h3, h4⟩
theorem headOk_nat {log root index : List UInt8} {n c : Nat} (hn : n <= 1099511627776) (hc : c <= 4611686018427387904) : headOk ⟨log, n, root, index, c⟩ = true :=
  headOk_of (Int.natCast_nonneg n) (Int.ofNat_le.2 hn) (Int.natCast_nonneg c) (Int.ofNat_le.2 hc)
theorem Tryz.zeroHeadV (w : World) : (Instr.build 45 #[]).run Tryz.prog w = .ok (.agg zeroHdL.toArray) w := by kernel_rfl
theorem Hd.one (h : Hd) : h.cells.toArray.all (·.oneCell') = true := by
  refine all_oneCell_toArray (fun v hv => ?_)
  simp only [Hd.cells, List.mem_append, List.mem_singleton] at hv
  rcases hv with hv | rfl | hv | hv | rfl
  · exact jr _ v hv
  · rfl
  · exact jr _ v hv
  · exact jr _ v hv
  · rfl
theorem Tryz.sizeHeadL : (Tryz.prog.info? 45).map (·.size) = some zeroHdL.toArray.size := by kernel_rfl
theorem htake_any (w : World) (g : Nat) (bs : List UInt8) (s : Rs) (h : Rr w g bs s) :
    Calls Tryz.prog 140 #[.pointer (some ⟨g, 0, none⟩)] w (HtP w g bs (htakeN bs s)) := by
  have HT := jJ0 (show htakeN bs s = htkN bs (tkN bs 1 s).1 (tkN bs 1 s).2 from rfl)
  have hgl := h.lt
  have HS := jJ0 (show TkR 45 zeroHdL w g bs s (w.alloc (.cells Tryz.zeroCells45 45)) from ⟨by rw [Tryz.zeroHead]; exact Blk.new w _ _, h.old ((Kp.refl NoX w).alloc _), (Kp.refl _ w).alloc _, h.lt⟩)
  generalize htakeN bs s = TV at *
  clear h
  go_enter Tryz.func140, Tryz.ntmps140
  go_wp2_with fail
  generalize w.alloc _ = W at *
  have HP := jJ0 (fun W' (hR : Rr W' g bs s) => jQ W' g bs s hR)
  refine (HP.out _ HS.out.rr).mono ?_
  clear HP
  generalize tkN bs 1 s = t at *
  obtain ⟨k, s1⟩ := t
  simp only at HT ⊢
  rintro e w1 ⟨rfl, hr1, hk1⟩
  have HS1 := jJ0 (HS.out.step hr1 hk1)
  have hwg : w.heap.size < w1.heap.size := HS1.out.box.lt
  replace HS := jJ0 (HS1.out.still ((Kp.refl NoX w1).alloc (.cells Tryz.zeroCells45 45)))
  have HH := jJ0 (show Blk (w1.alloc (.cells Tryz.zeroCells45 45)) w1.heap.size 45 zeroHd.cells.toArray from by rw [zeroHd_cells, <- Tryz.zeroHead]; exact Blk.new w1 _ _)
  clear hr1 hk1 HS1
  unfold htkN at HT
  have HG := jJ0 (fun W' (hR : Rr W' g bs s1) => vT W' g bs s1 hR)
  have HL := jJ0 (vH bs s1)
  go_wp2_with fail
  generalize w1.alloc _ = W1 at *
  generalize w1.heap.size = H at *
  refine (HG.out _ HS.out.rr).mono ?_
  clear HG
  generalize digN bs s1 = t2 at *
  obtain ⟨log, s2⟩ := t2
  simp only at HT HL ⊢
  rintro e w2 ⟨rfl, hr2, hk2⟩
  have hx : ¬ RX g H := fun e => by have : H = g := e; omega
  have Hx := jJ0 hx
  have HSa := jJ0 (HS.out.step hr2 hk2)
  have HHa := jJ0 (HH.out.kp hk2 hx)
  have Hth := jJ0 (HHa.out.there 0 (jB log).toArray.size (by rw [List.size_toArray, List.size_toArray, zeroHd_ok.len, jD, HL.out]; decide))
  have Hsz := jJ0 (show (Tryz.prog.info? 40).map (·.size) = some (jB log).length by rw [jD, HL.out]; exact Tryz.sizeDigest)
  replace HS := jJ0 (HSa.out.put (Kp.setCells H 0 (jB log) w2) (fun b e => by omega))
  have HO1 := jJ0 (show Hd.Ok { zeroHd with log := log } from ⟨HL.out, kg, kg⟩)
  replace HH := jJ0 (HHa.out.hlog zeroHd_ok log HL.out)
  clear hr2 hk2 HSa HHa hx
  have HG := jJ0 (fun W' (hR : Rr W' g bs s2) => vd W' g bs s2 hR)
  go_wp2_with (first | ((with_reducible refine jE 40 (.tmp 12) (.tmp 11) ?_); refine wpList_store_mid rfl 40 (.tmp 12) (.tmp 11) rfl H 0 (jB log).toArray rfl rfl Hth.out Hsz.out (kn _) ?_) | fail)
  generalize w2.setCells H 0 (jB log) = W2 at *
  refine (HG.out _ HS.out.rr).mono ?_
  clear HG
  have HNn := jJ0 (kE bs 8 s2)
  generalize tkN bs 8 s2 = tn at *
  obtain ⟨n, s3⟩ := tn
  simp only at HT HNn ⊢
  rintro e w3 ⟨rfl, hr2, hk2⟩
  replace HS := jJ0 (HS.out.step hr2 hk2)
  replace HH := jJ0 (HH.out.kp hk2 Hx.out)
  clear hr2 hk2
  have HG := jJ0 (fun W' (hR : Rr W' g bs s3) => vT W' g bs s3 hR)
  have HL := jJ0 (vH bs s3)
  go_wp2_with fail
  refine (HG.out _ HS.out.rr).mono ?_
  clear HG
  generalize digN bs s3 = troot at *
  obtain ⟨root, s4⟩ := troot
  simp only at HT HL ⊢
  rintro e w4 ⟨rfl, hr2, hk2⟩
  have HSa := jJ0 (HS.out.step hr2 hk2)
  have HHa := jJ0 (HH.out.kp hk2 Hx.out)
  have Hth := jJ0 (HHa.out.there 33 (jB root).toArray.size (by rw [List.size_toArray, List.size_toArray, HO1.out.len, jD, HL.out]; decide))
  have Hsz := jJ0 (show (Tryz.prog.info? 40).map (·.size) = some (jB root).length by rw [jD, HL.out]; exact Tryz.sizeDigest)
  replace HS := jJ0 (HSa.out.put (Kp.setCells H 33 (jB root) w4) (fun b e => by omega))
  replace HH := jJ0 (HHa.out.hroot HO1.out root HL.out)
  have HO2 := jJ0 (show Hd.Ok { zeroHd with log := log, root := root } from ⟨HO1.out.log, HL.out, HO1.out.index⟩)
  clear hr2 hk2 HSa HHa HO1
  have HG := jJ0 (fun W' (hR : Rr W' g bs s4) => vd W' g bs s4 hR)
  go_wp2_with (first | ((with_reducible refine jE 40 (.tmp 17) (.tmp 16) ?_); refine wpList_store_mid rfl 40 (.tmp 17) (.tmp 16) rfl H 33 (jB root).toArray rfl rfl Hth.out Hsz.out (kn _) ?_) | fail)
  generalize w4.setCells H 33 (jB root) = W4 at *
  have HG := jJ0 (fun W' (hR : Rr W' g bs s4) => vT W' g bs s4 hR)
  have HL := jJ0 (vH bs s4)
  go_wp2_with fail
  refine (HG.out _ HS.out.rr).mono ?_
  clear HG
  generalize digN bs s4 = tindex at *
  obtain ⟨index, s5⟩ := tindex
  simp only at HT HL ⊢
  rintro e w5 ⟨rfl, hr2, hk2⟩
  have HSa := jJ0 (HS.out.step hr2 hk2)
  have HHa := jJ0 (HH.out.kp hk2 Hx.out)
  have Hth := jJ0 (HHa.out.there 65 (jB index).toArray.size (by rw [List.size_toArray, List.size_toArray, HO2.out.len, jD, HL.out]; decide))
  have Hsz := jJ0 (show (Tryz.prog.info? 40).map (·.size) = some (jB index).length by rw [jD, HL.out]; exact Tryz.sizeDigest)
  replace HS := jJ0 (HSa.out.put (Kp.setCells H 65 (jB index) w5) (fun b e => by omega))
  replace HH := jJ0 (HHa.out.hindex HO2.out index HL.out)
  have HO3 := jJ0 (show Hd.Ok { zeroHd with log := log, root := root, index := index } from ⟨HO2.out.log, HO2.out.root, HL.out⟩)
  clear hr2 hk2 HSa HHa HO2
  have HG := jJ0 (fun W' (hR : Rr W' g bs s5) => vd W' g bs s5 hR)
  go_wp2_with (first | ((with_reducible refine jE 40 (.tmp 20) (.tmp 19) ?_); refine wpList_store_mid rfl 40 (.tmp 20) (.tmp 19) rfl H 65 (jB index).toArray rfl rfl Hth.out Hsz.out (kn _) ?_) | fail)
  generalize w5.setCells H 65 (jB index) = W5 at *
  refine (HG.out _ HS.out.rr).mono ?_
  clear HG
  have HNc := jJ0 (kE bs 8 s5)
  generalize tkN bs 8 s5 = tc at *
  obtain ⟨c, s6⟩ := tc
  simp only at HT HNc ⊢
  rintro e w6 ⟨rfl, hr2, hk2⟩
  replace HS := jJ0 (HS.out.step hr2 hk2)
  replace HH := jJ0 (HH.out.kp hk2 Hx.out)
  clear hr2 hk2
  have HW := jJ0 (fun W' (hR : Rr W' g bs s6) => jR W' g bs s6 hR)
  have Hcn := HNc.out
  have Hnn := HNn.out
  go_wp2_with fail
  refine (HW.out _ HS.out.rr).mono ?_
  rintro e w7 ⟨rfl, rfl⟩
  clear HW
  by_cases hy : s6.why = 0
  case neg =>
    have HT2 := jJ0 (show TV = (none, s6) by rw [HT.out, if_neg (fun h => hy h.1)])
    have hy' : (s6.why != 0) = true := by simpa using hy
    clear hy HT
    have Hth := jJ0 (HS.out.th zeroHdL rfl)
    have Ht := jJ0 (HS.out.told zeroHdL rfl)
    clear HH
    go_wp2_with (first | ((with_reducible refine jU 45 ?_); refine Tryz.wl_zero rfl 45 rfl _ (Tryz.zeroHeadV _) ?_) | ((with_reducible refine jE 45 (.tmp 2) (.tmp 38) ?_); refine wpList_store_mid rfl 45 (.tmp 2) (.tmp 38) rfl w.heap.size 0 zeroHdL.toArray rfl rfl Hth.out Tryz.sizeHeadL (jK rfl) ?_) | fail)
    refine jA (g := w.heap.size) (cs := zeroHdL.toArray) rfl rfl Ht.out.box Tryz.underlying45 rfl Tryz.sizeHeadL rfl ?_
    rw [HT2.out]
    exact ⟨.inr ⟨rfl, rfl⟩, Ht.out.rr, Ht.out.kp⟩
  rw [hy]
  by_cases hk : k = 32
  case neg =>
    have HT2 := jJ0 (show TV = (none, s6) by rw [HT.out, if_neg (fun h => hk h.2.1)])
    have hk' : ((k : Int) != 32) = true := by simp; omega
    clear hy HT hk
    have Hth := jJ0 (HS.out.th zeroHdL rfl)
    have Ht := jJ0 (HS.out.told zeroHdL rfl)
    clear HH
    go_wp2_with (first | ((with_reducible refine jU 45 ?_); refine Tryz.wl_zero rfl 45 rfl _ (Tryz.zeroHeadV _) ?_) | ((with_reducible refine jE 45 (.tmp 2) (.tmp 38) ?_); refine wpList_store_mid rfl 45 (.tmp 2) (.tmp 38) rfl w.heap.size 0 zeroHdL.toArray rfl rfl Hth.out Tryz.sizeHeadL (jK rfl) ?_) | fail)
    refine jA (g := w.heap.size) (cs := zeroHdL.toArray) rfl rfl Ht.out.box Tryz.underlying45 rfl Tryz.sizeHeadL rfl ?_
    rw [HT2.out]
    exact ⟨.inr ⟨rfl, rfl⟩, Ht.out.rr, Ht.out.kp⟩
  have hk' : ((k : Int) != 32) = false := by simp; omega
  by_cases hn : n <= 1099511627776
  case neg =>
    have HT2 := jJ0 (show TV = (none, s6) by rw [HT.out, if_neg (fun h => hn h.2.2.1)])
    have hn' : (1099511627776 : Int) < (n : Int) := by omega
    clear hy HT hn hk
    have Hth := jJ0 (HS.out.th zeroHdL rfl)
    have Ht := jJ0 (HS.out.told zeroHdL rfl)
    clear HH
    go_wp2_with (first | ((with_reducible refine jU 45 ?_); refine Tryz.wl_zero rfl 45 rfl _ (Tryz.zeroHeadV _) ?_) | ((with_reducible refine jE 45 (.tmp 2) (.tmp 38) ?_); refine wpList_store_mid rfl 45 (.tmp 2) (.tmp 38) rfl w.heap.size 0 zeroHdL.toArray rfl rfl Hth.out Tryz.sizeHeadL (jK rfl) ?_) | fail)
    refine jA (g := w.heap.size) (cs := zeroHdL.toArray) rfl rfl Ht.out.box Tryz.underlying45 rfl Tryz.sizeHeadL rfl ?_
    rw [HT2.out]
    exact ⟨.inr ⟨rfl, rfl⟩, Ht.out.rr, Ht.out.kp⟩
  have hn' : ¬ (1099511627776 : Int) < (n : Int) := by omega
  by_cases hc : c <= 4611686018427387904
  case neg =>
    have HT2 := jJ0 (show TV = (none, s6) by rw [HT.out, if_neg (fun h => hc h.2.2.2)])
    have hc' : (4611686018427387904 : Int) < (c : Int) := by omega
    clear hy HT hn hk hc
    have Hth := jJ0 (HS.out.th zeroHdL rfl)
    have Ht := jJ0 (HS.out.told zeroHdL rfl)
    clear HH
    go_wp2_with (first | ((with_reducible refine jU 45 ?_); refine Tryz.wl_zero rfl 45 rfl _ (Tryz.zeroHeadV _) ?_) | ((with_reducible refine jE 45 (.tmp 2) (.tmp 38) ?_); refine wpList_store_mid rfl 45 (.tmp 2) (.tmp 38) rfl w.heap.size 0 zeroHdL.toArray rfl rfl Hth.out Tryz.sizeHeadL (jK rfl) ?_) | fail)
    refine jA (g := w.heap.size) (cs := zeroHdL.toArray) rfl rfl Ht.out.box Tryz.underlying45 rfl Tryz.sizeHeadL rfl ?_
    rw [HT2.out]
    exact ⟨.inr ⟨rfl, rfl⟩, Ht.out.rr, Ht.out.kp⟩
  have hc' : ¬ (4611686018427387904 : Int) < (c : Int) := by omega
  have HT2 := jJ0 (show TV = (some ⟨log, n, root, index, c⟩, s6) by rw [HT.out, if_pos ⟨hy, hk, hn, hc⟩])
  have hwn : IntKind.i64.wrap (n : Int) = n := IntWalk.i64_in _ (by omega)
  have hwc : IntKind.i64.wrap (c : Int) = c := IntWalk.i64_in _ (by omega)
  have hwn2 : wrap64 (n : Int) = (n : Int) := by unfold wrap64; omega
  have hwc2 : wrap64 (c : Int) = (c : Int) := by unfold wrap64; omega
  have Hok := jJ0 (show headOk ⟨log, n, root, index, c⟩ = true from headOk_nat hn hc)
  clear hy HT hn hk hc Hcn Hnn HNc HNn
  have u1 := HH.out.at_ 32 (by rw [List.getElem?_toArray]; exact HO3.out.s32)
  have u2 := HH.out.at_ 97 (by rw [List.getElem?_toArray]; exact HO3.out.s97)
  have z1 := HH.out.frozen 32
  have z2 := HH.out.frozen 97
  have HH2 := jJ0 ((HH.out.hsize HO3.out (n : Int)).hclock (h := { zeroHd with log := log, root := root, index := index, size := (n : Int) }) ⟨HO3.out.log, HO3.out.root, HO3.out.index⟩ (c : Int))
  have HO4 := jJ0 (show Hd.Ok ⟨log, n, root, index, c⟩ from ⟨HO3.out.log, HO3.out.root, HO3.out.index⟩)
  have Hrg := jJ0 HH2.out.range
  have HS2 := jJ0 (HS.out.put (((Kp.refl (fun k => k = H) w6).setCell (p := ⟨H, 32, none⟩) (fun _ => rfl) (.int .i64 (n : Int))).setCell (p := ⟨H, 97, none⟩) (fun _ => rfl) (.int .i64 (c : Int))) (fun b e => by omega))
  have Hsz := jJ0 (show (Tryz.prog.info? 45).map (·.size) = some (Hd.cells ⟨log, n, root, index, c⟩).length by rw [HO4.out.len]; kernel_rfl)
  have Hth := jJ0 (HS2.out.th (Hd.cells ⟨log, n, root, index, c⟩) (by rw [HO4.out.len]; rfl))
  have Ht := jJ0 (HS2.out.told (Hd.cells ⟨log, n, root, index, c⟩) (by rw [HO4.out.len]; rfl))
  have Hone := jJ0 (show (Hd.cells ⟨log, n, root, index, c⟩).toArray.all (·.oneCell') = true from Hd.one _)
  clear HH HS HH2
  go_wp2_with (first | ((with_reducible refine jW 45 (.tmp 5) ?_); refine Tryz.load_w rfl 45 (.tmp 5) rfl H 0 rfl (Hd.cells ⟨log, n, root, index, c⟩) _ Hrg.out Tryz.underlying45 rfl Hsz.out ?_) | ((with_reducible refine jE 45 (.tmp 2) (.tmp 45) ?_); refine wpList_store_mid rfl 45 (.tmp 2) (.tmp 45) rfl w.heap.size 0 (Hd.cells ⟨log, n, root, index, c⟩).toArray rfl rfl Hth.out Hsz.out Hone.out ?_) | fail)
  refine jA (g := w.heap.size) (cs := (Hd.cells ⟨log, n, root, index, c⟩).toArray) rfl rfl Ht.out.box Tryz.underlying45 rfl (by rw [List.size_toArray]; exact Hsz.out) rfl ?_
  rw [HT2.out]
  exact ⟨.inl ⟨⟨log, n, root, index, c⟩, rfl, HO4.out, Hok.out, rfl⟩, Ht.out.rr, Ht.out.kp⟩
end Go.Proofs.YtnaolhjbapgjgaaGreat
