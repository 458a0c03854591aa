import Derived.Test.YtnaolhjbapgjgaaGreatMg12
import Derived.Test.YtnaolhjbapgjgaaGreatMg16
import Derived.Test.YtnaolhjbapgjgaaGreatMg17
import Derived.Test.YtnaolhjbapgjgaaGreatMg20
import Derived.Test.YtnaolhjbapgjgaaGreatMg21
set_option maxRecDepth 100000
set_option maxHeartbeats 3200000
namespace Go.Proofs.YtnaolhjbapgjgaaGreat
open Go.RowKit
def zeroIdxL : List Value := [.string ⟨#[]⟩, .bool false, .int .i64 0, .int .u8 0, .int .u8 0, .int .u8 0, .int .u8 0, .int .u8 0, .int .u8 0, .int .u8 0, .int .u8 0, .int .u8 0, .int .u8 0, .int .u8 0, .int .u8 0, .int .u8 0, .int .u8 0, .int .u8 0, .int .u8 0, .int .u8 0, .int .u8 0, .int .u8 0, .int .u8 0, .int .u8 0, .int .u8 0, .int .u8 0, .int .u8 0, .int .u8 0, .int .u8 0, .int .u8 0, .int .u8 0, .int .u8 0, .int .u8 0, .int .u8 0, .int .u8 0, .int .u8 0, .int .u8 0, .int .u8 0, .int .u8 0, .int .u8 0, .int .u8 0, .int .u8 0, .int .u8 0, .int .u8 0, .int .u8 0, .int .u8 0, .int .u8 0, .int .u8 0, .int .u8 0, .int .u8 0, .int .u8 0, .int .u8 0, .int .u8 0, .int .u8 0, .int .u8 0, .int .u8 0, .int .u8 0, .int .u8 0, .int .u8 0, .int .u8 0, .int .u8 0, .int .u8 0, .int .u8 0, .int .u8 0, .int .u8 0, .int .u8 0, .int .u8 0, .slice none 0 0]
def zeroIdx : Idx := ⟨⟨#[]⟩, false, 0, zD, zD, []⟩
theorem zeroIdx_cells : zeroIdx.cells none 0 = zeroIdxL := by
  simp only [zeroIdx, Idx.cells, zD_cells]
  rfl
theorem zeroIdx_ok : zeroIdx.Ok := ⟨kg, kg, fun d hd => (by cases hd), by decide, by decide⟩
theorem Tryz.zeroIdxC : Tryz.zeroCells57 = zeroIdxL.toArray := by kernel_rfl
theorem Tryz.zeroIdxV (w : World) : (Instr.build 57 #[]).run Tryz.prog w = .ok (.agg zeroIdxL.toArray) w := by kernel_rfl
theorem Idx.one (x : Idx) (A : Option Addr) (c : Nat) : (x.cells A c).toArray.all (·.oneCell') = true := by
  refine all_oneCell_toArray (fun v hv => ?_)
  simp only [Idx.cells, List.mem_append, List.mem_cons, List.not_mem_nil, or_false] at hv
  rcases hv with (rfl | rfl | rfl) | hv | hv | rfl
  · rfl
  · rfl
  · rfl
  · exact jr _ v hv
  · exact jr _ v hv
  · rfl
structure IdxSt (w : World) (g I : Nat) (bs : List UInt8) (s : Rs) (x : Idx) (A : Option Addr) (c : Nat) (W : World) : Prop where
  st : DecR 57 zeroIdxL w g bs s W
  blk : Blk W I 57 (x.cells A c).toArray
  ok : x.Ok
  lt : g < I
section
variable {w : World} {g I : Nat} {bs : List UInt8} {s s' : Rs} {x : Idx} {A : Option Addr} {c : Nat} {W W' : World}
theorem IdxSt.step (h : IdxSt w g I bs s x A c W) (hr : Rr W' g bs s') (hk : Kp (RX g) W W') : IdxSt w g I bs s' x A c W' :=
  ⟨h.st.step hr hk, h.blk.kp hk (fun e => by have : I = g := e; have := h.lt; omega), h.ok, h.lt⟩
theorem IdxSt.still (h : IdxSt w g I bs s x A c W) (hk : Old W W') : IdxSt w g I bs s x A c W' := ⟨h.st.still hk, h.blk.old hk, h.ok, h.lt⟩
theorem IdxSt.name (h : IdxSt w g I bs s x A c W) (n : ByteArray) (hn : n.size <= 9223372036854775807) : IdxSt w g I bs s { x with case_ := n } A c (W.setCell ⟨I, 0, none⟩ (.string n)) :=
  ⟨h.st.put ((Kp.refl (fun k => k = I) W).setCell (p := ⟨I, 0, none⟩) (fun _ => rfl) _) (fun b e => by have := h.lt; omega), h.blk.set_ 0 _, ⟨h.ok.chain, h.ok.bitmap, h.ok.way, h.ok.count, h.ok.big.1, hn⟩, h.lt⟩
theorem IdxSt.flag (h : IdxSt w g I bs s x A c W) (b : Bool) : IdxSt w g I bs s { x with found := b } A c (W.setCell ⟨I, 1, none⟩ (.bool b)) :=
  ⟨h.st.put ((Kp.refl (fun k => k = I) W).setCell (p := ⟨I, 1, none⟩) (fun _ => rfl) _) (fun b e => by have := h.lt; omega), h.blk.set_ 1 _, ⟨h.ok.chain, h.ok.bitmap, h.ok.way, h.ok.count, h.ok.big⟩, h.lt⟩
theorem IdxSt.entry (h : IdxSt w g I bs s x A c W) (n : Int) (d : List UInt8) (hn : -9223372036854775808 <= n /\ n <= 9223372036854775807) (hd : d.length = 32) : IdxSt w g I bs s { x with count := n, chain := d } A c (W.setCells I 2 (.int .i64 n :: jB d)) :=
  ⟨h.st.put (Kp.setCells I 2 _ W) (fun b e => by have := h.lt; omega), by
    have := Blk.setCells (pre := [.string x.case_, .bool x.found]) (mid := .int .i64 x.count :: jB x.chain) (post := jB x.bitmap ++ [.slice A x.way.length c]) (by simpa [Idx.cells] using h.blk) (.int .i64 n :: jB d) (by simp [jD, hd, h.ok.chain])
    simpa [Idx.cells] using this, ⟨hd, h.ok.bitmap, h.ok.way, hn, h.ok.big⟩, h.lt⟩
theorem IdxSt.bits (h : IdxSt w g I bs s x A c W) (d : List UInt8) (hd : d.length = 32) : IdxSt w g I bs s { x with bitmap := d } A c (W.setCells I 35 (jB d)) :=
  ⟨h.st.put (Kp.setCells I 35 _ W) (fun b e => by have := h.lt; omega), by
    have := Blk.setCells (pre := [.string x.case_, .bool x.found, .int .i64 x.count] ++ jB x.chain) (mid := jB x.bitmap) (post := [.slice A x.way.length c]) (by simpa [Idx.cells] using h.blk) (jB d) (by rw [jD, jD, hd, h.ok.bitmap])
    rw [List.length_append, jD, h.ok.chain] at this
    simpa [Idx.cells] using this, ⟨h.ok.chain, hd, h.ok.way, h.ok.count, h.ok.big⟩, h.lt⟩
theorem IdxSt.way (h : IdxSt w g I bs s x A c W) (ds : List (List UInt8)) (A' : Option Addr) (c' : Nat) (hd : Dgs ds) (hl : ds.length <= 2147483647) : IdxSt w g I bs s { x with way := ds } A' c' (W.setCell ⟨I, 67, none⟩ (.slice A' ds.length c')) :=
  ⟨h.st.put ((Kp.refl (fun k => k = I) W).setCell (p := ⟨I, 67, none⟩) (fun _ => rfl) _) (fun b e => by have := h.lt; omega), by
    have := Blk.setCells (pre := [.string x.case_, .bool x.found, .int .i64 x.count] ++ (jB x.chain ++ jB x.bitmap)) (mid := [.slice A x.way.length c]) (post := []) (by simpa [Idx.cells] using h.blk) [.slice A' ds.length c'] rfl
    rw [List.length_append, List.length_append, jD, jD, h.ok.chain, h.ok.bitmap] at this
    have e : W.setCells I 67 [.slice A' ds.length c'] = W.setCell ⟨I, 67, none⟩ (.slice A' ds.length c') := rfl
    simp only [List.length_cons, List.length_nil, Nat.reduceAdd, e] at this
    simpa [Idx.cells] using this, ⟨h.ok.chain, h.ok.bitmap, hd, h.ok.count, hl, h.ok.big.2⟩, h.lt⟩
end
def idxEnd (bs : List UInt8) (nm : ByteArray) (f : Bool) (n : Int) (d : List UInt8) (s : Rs) : Option Idx :=
  if jo bs (vX bs (onesN (digN bs s).1) (digN bs s).2).2 = 0 /\ idxOk ⟨nm, f, n, d, (digN bs s).1, (vX bs (onesN (digN bs s).1) (digN bs s).2).1⟩ = true then
    some ⟨nm, f, n, d, (digN bs s).1, (vX bs (onesN (digN bs s).1) (digN bs s).2).1⟩ else none
def idxMid (bs : List UInt8) (nm : ByteArray) (f : Bool × Rs) : Option Idx :=
  if f.1 = true then
    if (ptkN bs f.2).2.1 = true then idxEnd bs nm true (ptkN bs f.2).1 (digN bs (ptkN bs f.2).2.2).1 (digN bs (ptkN bs f.2).2.2).2 else none
  else idxEnd bs nm false 0 zD f.2
def pnameN (bs : List UInt8) (s : Rs) : ByteArray × Rs := (⟨(rawN bs (tkN bs 1 s).1 (tkN bs 1 s).2).1.toArray⟩, (rawN bs (tkN bs 1 s).1 (tkN bs 1 s).2).2)
def idxN (bs : List UInt8) (s : Rs) : Option Idx := idxMid bs (pnameN bs s).1 (kO bs (pnameN bs s).2)
def decIdx (bs : List UInt8) : Option Idx := (kt bs 9000 50).bind (idxN bs)
def DecIP (w : World) (d : Option Idx) (e : Ending) (w' : World) : Prop :=
  (∃ (x : Idx) (A : Option Addr) (c : Nat), d = some x /\ e = .returned (.tuple #[.agg (x.cells A c).toArray, .int .i64 0]) /\ x.Ok /\ Rd w' 32 A x.way.length (x.way.flatMap jB) /\ Av (fun k => k < w.heap.size) x.way.length A /\ Old w w') \/
  (∃ er : Int, d = none /\ er ≠ 0 /\ e = .returned (.tuple #[.agg zeroIdxL.toArray, .int .i64 er]) /\ Old w w')
theorem vE (bs : List UInt8) (n : Int) (s : Rs) : (rawN bs n s).1.length <= bs.length := by
  unfold rawN
  split
  · simp
  · split
    · simp
    · simp only [List.length_take, List.length_drop]; omega
theorem i64_range (n : Nat) : -9223372036854775808 <= i64 n /\ i64 n <= 9223372036854775807 := by
  unfold i64 wrap64
  omega
theorem ptkN_range (bs : List UInt8) (s : Rs) : -9223372036854775808 <= (ptkN bs s).1 /\ (ptkN bs s).1 <= 9223372036854775807 := i64_range _
theorem decidx_any (w : World) (A : Option Addr) (c : Nat) (bs : List UInt8) (hrd : Rd w 1 A bs.length (bs.map bv)) :
    Calls Tryz.prog 95 #[.slice A bs.length c] w (DecIP w (decIdx bs)) := by
  have HD := jJ0 (show decIdx bs = (kt bs 9000 50).bind (idxN bs) from rfl)
  have Hb := jJ0 (show Blk (w.alloc (.cells Tryz.zeroCells57 57)) w.heap.size 57 zeroIdxL.toArray from by rw [Tryz.zeroIdxC]; exact Blk.new w _ _)
  have HO := jJ0 ((Kp.refl NoX w).alloc (.cells Tryz.zeroCells57 57))
  have HBg := jJ0 (fun W (h : Old w W) => begun_any W A c bs 9000 50 (hrd.old h) (by omega))
  generalize decIdx bs = D at *
  clear hrd
  go_enter Tryz.func95, Tryz.ntmps95
  go_wp2_with fail
  generalize w.alloc _ = W at *
  refine (HBg.out W HO.out).mono ?_
  generalize kt bs 9000 50 = B at *
  rintro e w1 (⟨g, s, rfl, rfl, hg, hr1, ho1⟩ | ⟨er, rfl, her, rfl, ho1⟩)
  · have HS1 := jJ0 (show DecR 57 zeroIdxL w g bs s w1 from ⟨Hb.out.old ho1, hr1, HO.out.old ho1, by have := Hb.out.lt; omega⟩)
    have HS := jJ0 (show IdxSt w g w1.heap.size bs s zeroIdx none 0 (w1.alloc (.cells Tryz.zeroCells57 57)) from
      ⟨HS1.out.still ((Kp.refl NoX w1).alloc _), by rw [zeroIdx_cells, Tryz.zeroIdxC]; exact Blk.new w1 _ _, zeroIdx_ok, HS1.out.rr.lt⟩)
    clear hr1 ho1 hg Hb HO HBg HS1
    have HD2 := jJ0 (show D = idxN bs s by rw [HD.out]; rfl)
    unfold idxN at HD2
    have HP1 := jJ0 (fun W (hR : Rr W g bs s) => jQ W g bs s hR)
    have HPN := jJ0 (show pnameN bs s = (⟨(rawN bs (tkN bs 1 s).1 (tkN bs 1 s).2).1.toArray⟩, (rawN bs (tkN bs 1 s).1 (tkN bs 1 s).2).2) from rfl)
    have HN := jJ0 (kE bs 1 s)
    clear HD
    go_wp2_with fail
    generalize w1.alloc _ = W1 at *
    generalize w1.heap.size = I at *
    refine (HP1.out _ HS.out.st.rr).mono ?_
    clear HP1
    generalize tkN bs 1 s = t1 at *
    obtain ⟨k, s1⟩ := t1
    simp only at HPN HN ⊢
    rintro e w2 ⟨rfl, hr2, hk2⟩
    replace HS := jJ0 (HS.out.step hr2 hk2)
    have hkn : k < 256 := by have := HN.out; omega
    have hw1 : IntKind.i64.wrap (k : Int) = k := IntWalk.i64_in _ (by omega)
    have hw2 : wrap64 (k : Int) = (k : Int) := by unfold wrap64; omega
    clear hr2 hk2 HN
    have HP1 := jJ0 (fun W (hR : Rr W g bs s1) => ko W g bs (k : Int) s1 hR (by omega))
    have Hsm := jJ0 (vE bs (k : Int) s1)
    have hbl := HS.out.st.rr.fits.2
    go_wp2_with fail
    refine (HP1.out _ HS.out.st.rr).mono ?_
    clear HP1
    generalize rawN bs (k : Int) s1 = t2 at *
    obtain ⟨l, s2⟩ := t2
    simp only at HPN Hsm ⊢
    rintro e w3 ⟨A3, c3, rfl, hrd3, hav3, hcap3, hr3, hk3⟩
    have hcv := yL (P := Tryz.prog) w3 Tryz.underlying22 Tryz.underlying5 Tryz.underlying9 A3 _ c3 _ hrd3
    replace HS := jJ0 (HS.out.step hr3 hk3)
    have u0 := HS.out.blk.at_ 0 (v := .string ⟨#[]⟩) rfl
    have z0 := HS.out.blk.frozen 0
    have Hl := jJ0 (show ByteArray.size ⟨l.toArray⟩ <= 9223372036854775807 by rw [<- jF]; have := Hsm.out; show l.length <= _; omega)
    have HS4 := jJ0 (HS.out.name ⟨l.toArray⟩ Hl.out)
    clear hr3 hk3 hrd3 hav3 hcap3 hw1 hw2 hkn Hsm
    rw [HPN.out] at HD2
    simp only at HD2
    generalize (⟨l.toArray⟩ : ByteArray) = nm at *
    have HP1 := jJ0 (fun W (hR : Rr W g bs s2) => rflag_any W g bs s2 hR)
    clear HPN
    go_wp2_with fail
    replace HS := HS4
    clear HS4 u0 z0 hcv
    generalize w3.setCell _ _ = W3 at *
    refine (HP1.out _ HS.out.st.rr).mono ?_
    clear HP1
    generalize kO bs s2 = t3 at *
    obtain ⟨f, s3⟩ := t3
    unfold idxMid at HD2
    simp only at HD2 ⊢
    rintro e w4 ⟨rfl, hr2, hk2⟩
    replace HS := jJ0 (HS.out.step hr2 hk2)
    have u1 := HS.out.blk.at_ 1 (v := .bool false) rfl
    have z1 := HS.out.blk.frozen 1
    have HS4 := jJ0 (HS.out.flag f)
    clear hr2 hk2
    cases f with
    | true =>
      rw [if_pos rfl] at HD2
      have HP1 := jJ0 (fun W (hR : Rr W g bs s3) => vq W g bs s3 hR)
      have HRn := jJ0 (ptkN_range bs s3)
      go_wp2_with fail
      replace HS := HS4
      clear HS4 u1 z1
      generalize w4.setCell _ _ = W4 at *
      refine (HP1.out _ HS.out.st.rr).mono ?_
      clear HP1
      generalize ptkN bs s3 = t4 at *
      obtain ⟨cnt, f4, s4⟩ := t4
      simp only at HD2 HRn ⊢
      rintro e w5 ⟨rfl, hr2, hk2⟩
      replace HS := jJ0 (HS.out.step hr2 hk2)
      clear hr2 hk2
      cases f4 with
      | false =>
        have Hno := jJ0 (show D = none by rw [HD2.out, if_neg (by simp)])
        have Hth := jJ0 (HS.out.st.th zeroIdxL rfl)
        have Ht := jJ0 (HS.out.st.told zeroIdxL rfl)
        go_wp2_with (first | ((with_reducible refine jU 57 ?_); refine Tryz.wl_zero rfl 57 rfl _ (Tryz.zeroIdxV _) ?_) | ((with_reducible refine jE 57 (.tmp 2) (.tmp 37) ?_); refine wpList_store_mid rfl 57 (.tmp 2) (.tmp 37) rfl w.heap.size 0 zeroIdxL.toArray rfl rfl Hth.out Tryz.sizeIndexed (jK rfl) ?_) | fail)
        refine jA (g := w.heap.size) (cs := zeroIdxL.toArray) rfl rfl Ht.out.box Tryz.underlying57 rfl Tryz.sizeIndexed rfl ?_
        exact .inr ⟨8, Hno.out, by decide, rfl, Ht.out.old⟩
      | true =>
        rw [if_pos rfl] at HD2
        have HG := jJ0 (fun W' (hR : Rr W' g bs s4) => vT W' g bs s4 hR)
        have HL4 := jJ0 (vH bs s4)
        go_wp2_with fail
        refine (HG.out _ HS.out.st.rr).mono ?_
        clear HG
        generalize digN bs s4 = t5 at *
        obtain ⟨chain, s5⟩ := t5
        simp only at HD2 HL4 ⊢
        rintro e w5b ⟨rfl, hr2, hk2⟩
        replace HS := jJ0 (HS.out.step hr2 hk2)
        have HB := jJ0 (built_entry cnt chain HL4.out)
        have Hth := jJ0 (HS.out.blk.there 2 (.int .i64 cnt :: jB chain).toArray.size (by rw [List.size_toArray, List.size_toArray, HS.out.ok.len, List.length_cons, jD, HL4.out]; decide))
        have Hsz := jJ0 (show (Tryz.prog.info? 55).map (·.size) = some (.int .i64 cnt :: jB chain).length by rw [List.length_cons, jD, HL4.out]; exact Tryz.sizeEntry)
        have Hone := jJ0 (show (Value.int .i64 cnt :: jB chain).toArray.all (·.oneCell') = true from all_oneCell_toArray (fun v hv => by
          rcases List.mem_cons.1 hv with rfl | hv
          · rfl
          · exact jr _ v hv))
        replace HS := jJ0 (HS.out.entry cnt chain HRn.out HL4.out)
        clear hr2 hk2
        generalize hec : Value.int .i64 cnt :: jB chain = ec at *
        clear hec
        go_wp2_with (first | ((with_reducible refine at_two 55 (.tmp 38) (.tmp 40) ?_); refine Tryz.wl_two rfl 55 (.tmp 38) (.tmp 40) rfl _ _ rfl rfl ec HB.out ?_) | ((with_reducible refine jE 55 (.tmp 42) (.tmp 41) ?_); refine wpList_store_mid rfl 55 (.tmp 42) (.tmp 41) rfl I 2 ec.toArray rfl rfl Hth.out Hsz.out Hone.out ?_) | fail)
        generalize w5b.setCells _ _ _ = W5 at *
        clear HB Hth Hsz Hone
        have HG := jJ0 (fun W' (hR : Rr W' g bs s5) => vT W' g bs s5 hR)
        have HL := jJ0 (vH bs s5)
        unfold idxEnd at HD2
        go_wp2_with fail
        refine (HG.out _ HS.out.st.rr).mono ?_
        clear HG
        generalize digN bs s5 = t6 at *
        obtain ⟨bm, s6⟩ := t6
        simp only at HD2 HL ⊢
        rintro e w6 ⟨rfl, hr2, hk2⟩
        replace HS := jJ0 (HS.out.step hr2 hk2)
        have Hth := jJ0 (HS.out.blk.there 35 (jB bm).toArray.size (by rw [List.size_toArray, List.size_toArray, HS.out.ok.len, jD, HL.out]; decide))
        have Hsz := jJ0 (show (Tryz.prog.info? 40).map (·.size) = some (jB bm).length by rw [jD, HL.out]; exact Tryz.sizeDigest)
        replace HS := jJ0 (HS.out.bits bm HL.out)
        have Hrg := jJ0 (HS.out.ok.s35.range HS.out.blk)
        have HOn := jJ0 (fun W => ones_any W bm HL.out)
        have HonL := jJ0 (onesN_le bm)
        clear hr2 hk2
        go_wp2_with (first | ((with_reducible refine jE 40 (.tmp 45) (.tmp 44) ?_); refine wpList_store_mid rfl 40 (.tmp 45) (.tmp 44) rfl I 35 (jB bm).toArray rfl rfl Hth.out Hsz.out (kn _) ?_) | ((with_reducible refine jW 40 (.tmp 47) ?_); refine Tryz.load_w rfl 40 (.tmp 47) rfl I 35 rfl (jB bm) _ Hrg.out Tryz.underlying40 rfl Hsz.out ?_) | fail)
        generalize w6.setCells I 35 (jB bm) = W6 at *
        refine (HOn.out _).mono ?_
        clear HOn Hth Hrg
        generalize onesN bm = on at *
        rintro e w7 ⟨rfl, ho7⟩
        replace HS := jJ0 (HS.out.still ho7)
        have HG := jJ0 (fun W (hR : Rr W g bs s6) => rdigs_any W g bs (on : Int) s6 hR (by have := HonL.out; have := HL.out; omega))
        have Hdg := jJ0 (digsN_dgs bs (on : Int) s6 HS.out.st.rr.fits.1)
        have Hln := jJ0 (digsN_len bs (on : Int) s6)
        have hbl := HS.out.st.rr.fits.2
        clear ho7
        go_wp2_with fail
        refine (HG.out _ HS.out.st.rr).mono ?_
        clear HG
        generalize vX bs (on : Int) s6 = t7 at *
        obtain ⟨ds, s7⟩ := t7
        simp only at HD2 Hdg Hln ⊢
        rintro e w8 ⟨A8, c8, rfl, hrd8, hav8, hcap8, hr8, hk8⟩
        have Hlt7 := jJ0 HS.out.blk.lt
        replace HS := jJ0 (HS.out.step hr8 hk8)
        have u67 := HS.out.blk.at_ 67 (by rw [List.getElem?_toArray]; exact HS.out.ok.s67)
        have z67 := HS.out.blk.frozen 67
        have HS9 := jJ0 (HS.out.way ds A8 c8 Hdg.out (by have := Hln.out; omega))
        have Hrd := jJ0 (hrd8.kp ((Kp.refl (fun k => k = I) w8).setCell (p := ⟨I, 67, none⟩) (fun _ => rfl) (.slice A8 ds.length c8)) (fun hn ad e hx => hav8 hn ad e (by have : ad.block = I := hx; have := Hlt7.out; omega)))
        have Hav := jJ0 (show Av (fun k => k <= w.heap.size) ds.length A8 from fun hn ad e hx => hav8 hn ad e (by have := HS.out.lt; have := HS.out.st.lt; have := Hlt7.out; omega))
        have HDn := jJ0 (fun W (hR : Rr W g bs s7) => jw W g bs s7 hR)
        clear hrd8 hav8 hcap8 hr8 hk8
        go_wp2_with fail
        replace HS := HS9
        clear HS9 u67 z67
        generalize w8.setCell _ _ = W8 at *
        refine (HDn.out _ HS.out.st.rr).mono ?_
        clear HDn
        generalize jo bs s7 = dn at *
        rintro e w9 ⟨rfl, ho9⟩
        replace HS := jJ0 (HS.out.still ho9)
        replace Hrd := jJ0 (Hrd.out.old ho9)
        clear ho9
        by_cases hd : dn = 0
        case neg =>
          have Hno := jJ0 (show D = none by rw [HD2.out, if_neg (fun h => hd h.1)])
          have hd' : (dn != 0) = true := by simpa using hd
          clear hd
          have Hth := jJ0 (HS.out.st.th zeroIdxL rfl)
          have Ht := jJ0 (HS.out.st.told zeroIdxL rfl)
          go_wp2_with (first | ((with_reducible refine jU 57 ?_); refine Tryz.wl_zero rfl 57 rfl _ (Tryz.zeroIdxV _) ?_) | ((with_reducible refine jE 57 (.tmp 2) (.tmp 60) ?_); refine wpList_store_mid rfl 57 (.tmp 2) (.tmp 60) rfl w.heap.size 0 zeroIdxL.toArray rfl rfl Hth.out Tryz.sizeIndexed (jK rfl) ?_) | fail)
          refine jA (g := w.heap.size) (cs := zeroIdxL.toArray) rfl rfl Ht.out.box Tryz.underlying57 rfl Tryz.sizeIndexed rfl ?_
          exact .inr ⟨8, Hno.out, by decide, rfl, Ht.out.old⟩
        subst hd
        have Hbk := jJ0 HS.out.blk
        have HX := jJ0 (fun W => indexed_any W _ A8 c8 HS.out.ok)
        have Hrg := jJ0 HS.out.blk.range
        have Hcl := jJ0 (show (Idx.cells ⟨nm, true, cnt, chain, bm, ds⟩ A8 c8).length = 68 from HS.out.ok.len)
        have Hone := jJ0 (Idx.one ⟨nm, true, cnt, chain, bm, ds⟩ A8 c8)
        have Hend := jJ0 (fun (hy : D = some ⟨nm, true, cnt, chain, bm, ds⟩) w9' (ho : Old w9 w9') w' (ht : Told 57 (Idx.cells ⟨nm, true, cnt, chain, bm, ds⟩ A8 c8) w w9' w') => show DecIP w D (.returned (.tuple #[.agg (Idx.cells ⟨nm, true, cnt, chain, bm, ds⟩ A8 c8).toArray, .int .i64 0])) w' from
          .inl ⟨_, A8, c8, hy, rfl, HS.out.ok, (Hrd.out.old ho).told ht Hav.out, fun hn ad e hx => Hav.out hn ad e (by omega), ht.old⟩)
        generalize hxx : (⟨nm, true, cnt, chain, bm, ds⟩ : Idx) = xx at *
        clear hxx
        generalize xx.cells A8 c8 = cl at *
        have Hsz2 := jJ0 (show (Tryz.prog.info? 57).map (·.size) = some cl.length by rw [Hcl.out]; exact Tryz.sizeIndexed)
        go_wp2_with (first | ((with_reducible refine jW 57 (.tmp 6) ?_); refine Tryz.load_w rfl 57 (.tmp 6) rfl I 0 rfl cl _ Hrg.out Tryz.underlying57 rfl Hsz2.out ?_) | fail)
        refine (HX.out _).mono ?_
        rintro e w10 ⟨rfl, ho9⟩
        have HoA := jJ0 ho9
        replace HS := jJ0 (HS.out.st.still ho9)
        have Hrg2 := jJ0 (Hbk.out.old ho9).range
        clear ho9 HX Hrg
        cases hok : idxOk xx with
        | false =>
          have Hno := jJ0 (show D = none by rw [HD2.out, if_neg (fun h => by rw [hok] at h; cases h.2)])
          clear hok
          have Hth := jJ0 (HS.out.th zeroIdxL rfl)
          have Ht := jJ0 (HS.out.told zeroIdxL rfl)
          go_wp2_with (first | ((with_reducible refine jU 57 ?_); refine Tryz.wl_zero rfl 57 rfl _ (Tryz.zeroIdxV _) ?_) | ((with_reducible refine jE 57 (.tmp 2) (.tmp 60) ?_); refine wpList_store_mid rfl 57 (.tmp 2) (.tmp 60) rfl w.heap.size 0 zeroIdxL.toArray rfl rfl Hth.out Tryz.sizeIndexed (jK rfl) ?_) | fail)
          refine jA (g := w.heap.size) (cs := zeroIdxL.toArray) rfl rfl Ht.out.box Tryz.underlying57 rfl Tryz.sizeIndexed rfl ?_
          exact .inr ⟨8, Hno.out, by decide, rfl, Ht.out.old⟩
        | true =>
          have Hy := jJ0 (show D = some xx by rw [HD2.out, if_pos (by simp [hok])])
          have Hth := jJ0 (HS.out.th cl (by rw [Hcl.out]; rfl))
          have Ht := jJ0 (HS.out.told cl (by rw [Hcl.out]; rfl))
          clear hok
          go_wp2_with (first | ((with_reducible refine jW 57 (.tmp 6) ?_); refine Tryz.load_w rfl 57 (.tmp 6) rfl I 0 rfl cl _ Hrg2.out Tryz.underlying57 rfl Hsz2.out ?_) | ((with_reducible refine jE 57 (.tmp 2) (.tmp 61) ?_); refine wpList_store_mid rfl 57 (.tmp 2) (.tmp 61) rfl w.heap.size 0 cl.toArray rfl rfl Hth.out Hsz2.out Hone.out ?_) | fail)
          refine jA (g := w.heap.size) (cs := cl.toArray) rfl rfl Ht.out.box Tryz.underlying57 rfl (by rw [List.size_toArray]; exact Hsz2.out) rfl ?_
          exact Hend.out Hy.out _ HoA.out _ Ht.out
    | false =>
      rw [if_neg (by simp)] at HD2
      obtain ⟨s5, rfl⟩ : ∃ s5, s5 = s3 := ⟨_, rfl⟩
      go_wp2_with fail
      replace HS := jJ0 (show IdxSt w g I bs s5 ⟨nm, false, 0, zD, zD, []⟩ none 0 _ from HS4.out)
      clear HS4 u1 z1
      generalize w4.setCell _ _ = W5 at *
      have HG := jJ0 (fun W' (hR : Rr W' g bs s5) => vT W' g bs s5 hR)
      have HL := jJ0 (vH bs s5)
      unfold idxEnd at HD2
      go_wp2_with fail
      refine (HG.out _ HS.out.st.rr).mono ?_
      clear HG
      generalize digN bs s5 = t6 at *
      obtain ⟨bm, s6⟩ := t6
      simp only at HD2 HL ⊢
      rintro e w6 ⟨rfl, hr2, hk2⟩
      replace HS := jJ0 (HS.out.step hr2 hk2)
      have Hth := jJ0 (HS.out.blk.there 35 (jB bm).toArray.size (by rw [List.size_toArray, List.size_toArray, HS.out.ok.len, jD, HL.out]; decide))
      have Hsz := jJ0 (show (Tryz.prog.info? 40).map (·.size) = some (jB bm).length by rw [jD, HL.out]; exact Tryz.sizeDigest)
      replace HS := jJ0 (HS.out.bits bm HL.out)
      have Hrg := jJ0 (HS.out.ok.s35.range HS.out.blk)
      have HOn := jJ0 (fun W => ones_any W bm HL.out)
      have HonL := jJ0 (onesN_le bm)
      clear hr2 hk2
      go_wp2_with (first | ((with_reducible refine jE 40 (.tmp 45) (.tmp 44) ?_); refine wpList_store_mid rfl 40 (.tmp 45) (.tmp 44) rfl I 35 (jB bm).toArray rfl rfl Hth.out Hsz.out (kn _) ?_) | ((with_reducible refine jW 40 (.tmp 47) ?_); refine Tryz.load_w rfl 40 (.tmp 47) rfl I 35 rfl (jB bm) _ Hrg.out Tryz.underlying40 rfl Hsz.out ?_) | fail)
      generalize w6.setCells I 35 (jB bm) = W6 at *
      refine (HOn.out _).mono ?_
      clear HOn Hth Hrg
      generalize onesN bm = on at *
      rintro e w7 ⟨rfl, ho7⟩
      replace HS := jJ0 (HS.out.still ho7)
      have HG := jJ0 (fun W (hR : Rr W g bs s6) => rdigs_any W g bs (on : Int) s6 hR (by have := HonL.out; have := HL.out; omega))
      have Hdg := jJ0 (digsN_dgs bs (on : Int) s6 HS.out.st.rr.fits.1)
      have Hln := jJ0 (digsN_len bs (on : Int) s6)
      have hbl := HS.out.st.rr.fits.2
      clear ho7
      go_wp2_with fail
      refine (HG.out _ HS.out.st.rr).mono ?_
      clear HG
      generalize vX bs (on : Int) s6 = t7 at *
      obtain ⟨ds, s7⟩ := t7
      simp only at HD2 Hdg Hln ⊢
      rintro e w8 ⟨A8, c8, rfl, hrd8, hav8, hcap8, hr8, hk8⟩
      have Hlt7 := jJ0 HS.out.blk.lt
      replace HS := jJ0 (HS.out.step hr8 hk8)
      have u67 := HS.out.blk.at_ 67 (by rw [List.getElem?_toArray]; exact HS.out.ok.s67)
      have z67 := HS.out.blk.frozen 67
      have HS9 := jJ0 (HS.out.way ds A8 c8 Hdg.out (by have := Hln.out; omega))
      have Hrd := jJ0 (hrd8.kp ((Kp.refl (fun k => k = I) w8).setCell (p := ⟨I, 67, none⟩) (fun _ => rfl) (.slice A8 ds.length c8)) (fun hn ad e hx => hav8 hn ad e (by have : ad.block = I := hx; have := Hlt7.out; omega)))
      have Hav := jJ0 (show Av (fun k => k <= w.heap.size) ds.length A8 from fun hn ad e hx => hav8 hn ad e (by have := HS.out.lt; have := HS.out.st.lt; have := Hlt7.out; omega))
      have HDn := jJ0 (fun W (hR : Rr W g bs s7) => jw W g bs s7 hR)
      clear hrd8 hav8 hcap8 hr8 hk8
      go_wp2_with fail
      replace HS := HS9
      clear HS9 u67 z67
      generalize w8.setCell _ _ = W8 at *
      refine (HDn.out _ HS.out.st.rr).mono ?_
      clear HDn
      generalize jo bs s7 = dn at *
      rintro e w9 ⟨rfl, ho9⟩
      replace HS := jJ0 (HS.out.still ho9)
      replace Hrd := jJ0 (Hrd.out.old ho9)
      clear ho9
      by_cases hd : dn = 0
      case neg =>
        have Hno := jJ0 (show D = none by rw [HD2.out, if_neg (fun h => hd h.1)])
        have hd' : (dn != 0) = true := by simpa using hd
        clear hd
        have Hth := jJ0 (HS.out.st.th zeroIdxL rfl)
        have Ht := jJ0 (HS.out.st.told zeroIdxL rfl)
        go_wp2_with (first | ((with_reducible refine jU 57 ?_); refine Tryz.wl_zero rfl 57 rfl _ (Tryz.zeroIdxV _) ?_) | ((with_reducible refine jE 57 (.tmp 2) (.tmp 60) ?_); refine wpList_store_mid rfl 57 (.tmp 2) (.tmp 60) rfl w.heap.size 0 zeroIdxL.toArray rfl rfl Hth.out Tryz.sizeIndexed (jK rfl) ?_) | fail)
        refine jA (g := w.heap.size) (cs := zeroIdxL.toArray) rfl rfl Ht.out.box Tryz.underlying57 rfl Tryz.sizeIndexed rfl ?_
        exact .inr ⟨8, Hno.out, by decide, rfl, Ht.out.old⟩
      subst hd
      have Hbk := jJ0 HS.out.blk
      have HX := jJ0 (fun W => indexed_any W _ A8 c8 HS.out.ok)
      have Hrg := jJ0 HS.out.blk.range
      have Hcl := jJ0 (show (Idx.cells ⟨nm, false, 0, zD, bm, ds⟩ A8 c8).length = 68 from HS.out.ok.len)
      have Hone := jJ0 (Idx.one ⟨nm, false, 0, zD, bm, ds⟩ A8 c8)
      have Hend := jJ0 (fun (hy : D = some ⟨nm, false, 0, zD, bm, ds⟩) w9' (ho : Old w9 w9') w' (ht : Told 57 (Idx.cells ⟨nm, false, 0, zD, bm, ds⟩ A8 c8) w w9' w') => show DecIP w D (.returned (.tuple #[.agg (Idx.cells ⟨nm, false, 0, zD, bm, ds⟩ A8 c8).toArray, .int .i64 0])) w' from
        .inl ⟨_, A8, c8, hy, rfl, HS.out.ok, (Hrd.out.old ho).told ht Hav.out, fun hn ad e hx => Hav.out hn ad e (by omega), ht.old⟩)
      generalize hxx : (⟨nm, false, 0, zD, bm, ds⟩ : Idx) = xx at *
      clear hxx
      generalize xx.cells A8 c8 = cl at *
      have Hsz2 := jJ0 (show (Tryz.prog.info? 57).map (·.size) = some cl.length by rw [Hcl.out]; exact Tryz.sizeIndexed)
      go_wp2_with (first | ((with_reducible refine jW 57 (.tmp 6) ?_); refine Tryz.load_w rfl 57 (.tmp 6) rfl I 0 rfl cl _ Hrg.out Tryz.underlying57 rfl Hsz2.out ?_) | fail)
      refine (HX.out _).mono ?_
      rintro e w10 ⟨rfl, ho9⟩
      have HoA := jJ0 ho9
      replace HS := jJ0 (HS.out.st.still ho9)
      have Hrg2 := jJ0 (Hbk.out.old ho9).range
      clear ho9 HX Hrg
      cases hok : idxOk xx with
      | false =>
        have Hno := jJ0 (show D = none by rw [HD2.out, if_neg (fun h => by rw [hok] at h; cases h.2)])
        clear hok
        have Hth := jJ0 (HS.out.th zeroIdxL rfl)
        have Ht := jJ0 (HS.out.told zeroIdxL rfl)
        go_wp2_with (first | ((with_reducible refine jU 57 ?_); refine Tryz.wl_zero rfl 57 rfl _ (Tryz.zeroIdxV _) ?_) | ((with_reducible refine jE 57 (.tmp 2) (.tmp 60) ?_); refine wpList_store_mid rfl 57 (.tmp 2) (.tmp 60) rfl w.heap.size 0 zeroIdxL.toArray rfl rfl Hth.out Tryz.sizeIndexed (jK rfl) ?_) | fail)
        refine jA (g := w.heap.size) (cs := zeroIdxL.toArray) rfl rfl Ht.out.box Tryz.underlying57 rfl Tryz.sizeIndexed rfl ?_
        exact .inr ⟨8, Hno.out, by decide, rfl, Ht.out.old⟩
      | true =>
        have Hy := jJ0 (show D = some xx by rw [HD2.out, if_pos (by simp [hok])])
        have Hth := jJ0 (HS.out.th cl (by rw [Hcl.out]; rfl))
        have Ht := jJ0 (HS.out.told cl (by rw [Hcl.out]; rfl))
        clear hok
        go_wp2_with (first | ((with_reducible refine jW 57 (.tmp 6) ?_); refine Tryz.load_w rfl 57 (.tmp 6) rfl I 0 rfl cl _ Hrg2.out Tryz.underlying57 rfl Hsz2.out ?_) | ((with_reducible refine jE 57 (.tmp 2) (.tmp 61) ?_); refine wpList_store_mid rfl 57 (.tmp 2) (.tmp 61) rfl w.heap.size 0 cl.toArray rfl rfl Hth.out Hsz2.out Hone.out ?_) | fail)
        refine jA (g := w.heap.size) (cs := cl.toArray) rfl rfl Ht.out.box Tryz.underlying57 rfl (by rw [List.size_toArray]; exact Hsz2.out) rfl ?_
        exact Hend.out Hy.out _ HoA.out _ Ht.out
  · have Hno := jJ0 (show D = none by rw [HD.out]; rfl)
    have HS := jJ0 (Hb.out.old ho1)
    have HO1 := jJ0 (HO.out.old ho1)
    have her' : (er != 0) = true := by simpa using her
    have Hth := jJ0 (HS.out.there 0 68 (by decide))
    have Ht := jJ0 (Blk.setWhole (cs := zeroIdxL) HS.out zeroIdxL rfl)
    have HoE := jJ0 (show Old w (w1.setCells w.heap.size 0 zeroIdxL) from HO1.out.trans (Kp.setCells _ 0 _ _) (fun b hb e => by omega))
    clear ho1 HBg Hb HO
    go_wp2_with (first | ((with_reducible refine jU 57 ?_); refine Tryz.wl_zero rfl 57 rfl _ (Tryz.zeroIdxV _) ?_) | ((with_reducible refine jE 57 (.tmp 2) (.tmp 16) ?_); refine wpList_store_mid rfl 57 (.tmp 2) (.tmp 16) rfl w.heap.size 0 zeroIdxL.toArray rfl rfl Hth.out Tryz.sizeIndexed (jK rfl) ?_) | fail)
    refine jA (g := w.heap.size) (cs := zeroIdxL.toArray) rfl rfl Ht.out Tryz.underlying57 rfl Tryz.sizeIndexed rfl ?_
    exact .inr ⟨er, Hno.out, her, rfl, HoE.out⟩
structure MReply where
  err : Int
  pa : Int
  pb : Int
  pc : Int
  number : Int
  hap : List MHap
  hA : Option Addr
  hC : Nat
  case_ : MCase
  raw : Part
  size : Int
  note : MNote
  inc : MWay
  con : MWay
  idx : Idx
  iA : Option Addr
  iC : Nat
  pie : MPiece
def MReply.cells (m : MReply) : List Value := [.int .i64 m.err, .int .i64 m.pa, .int .i64 m.pb, .int .i64 m.pc, .int .i64 m.number, .slice m.hA m.hap.length m.hC] ++ (m.case_.cells ++ ([m.raw.sl, .int .i64 m.size] ++ (m.note.cells ++ (m.inc.cells ++ (m.con.cells ++ (m.idx.cells m.iA m.iC ++ m.pie.cells))))))
structure MReply.Ok (w : World) (X : Nat -> Prop) (m : MReply) : Prop where
  rdH : Rd w 2 m.hA m.hap.length (m.hap.flatMap MHap.cells)
  avH : Av X m.hap.length m.hA
  bigH : (∀ h ∈ m.hap, h.name.size <= 2147483647) /\ m.hap.length <= 1000000000000
  case_ : m.case_.Ok w X
  raw : m.raw.Ok w X
  note : m.note.Ok w X
  hd : (-9223372036854775808 <= m.note.head.size /\ m.note.head.size <= 9223372036854775807) /\ (-9223372036854775808 <= m.note.head.clock /\ m.note.head.clock <= 9223372036854775807)
  inc : m.inc.Ok w X
  con : m.con.Ok w X
  idx : m.idx.Ok
  rdI : Rd w 32 m.iA m.idx.way.length (m.idx.way.flatMap jB)
  avI : Av X m.idx.way.length m.iA
  pie : m.pie.Ok w X
structure Rep where
  err : Int
  pa : Int
  pb : Int
  pc : Int
  number : Int
  hap : List MHap
  case_ : Cas
  raw : List UInt8
  size : Int
  head : Hd
  signs : List Sgn
  inc : Way
  con : Way
  idx : Idx
  pie : Pie
def MReply.data (m : MReply) : Rep := ⟨m.err, m.pa, m.pb, m.pc, m.number, m.hap, m.case_.data, m.raw.l, m.size, m.note.head, m.note.signs, m.inc.data, m.con.data, m.idx, m.pie.data⟩
def repB (op : Nat) (p : Rep) : Option (List UInt8) :=
  if op = 1 \/ op = 2 then (happB p.hap).map fun x => be8 p.number ++ x
  else if op = 3 then caseB p.case_
  else if op = 4 then some p.raw
  else if op = 5 then some (be8 p.size)
  else if op = 6 then noteB p.head p.signs
  else if op = 7 then pubB p.head p.signs
  else if op = 8 then incB p.inc.a p.inc.b p.inc.ds
  else if op = 9 then conB p.con.a p.con.b p.con.ds
  else if op = 10 then idxB p.idx
  else if op = 11 then pieceB p.pie
  else some []
def bodyB (op : Nat) (p : Rep) : Option (List UInt8) := if p.err = 0 then repB op p else if op <= 2 /\ bareB p.err = false then placeB [p.pa, p.pb, p.pc] else some []
def encRep (op : Int) (p : Rep) : Option (List UInt8) :=
  if 1 <= op /\ op <= 12 /\ 0 <= p.err /\ p.err <= 65535 then (bodyB op.toNat p).bind fun l => if 2 + l.length <= 4194304 then some (be 2 p.err.toNat ++ l) else none else none
section
variable {w : World} {X : Nat -> Prop} {m : MReply}
theorem MCase.len {c : MCase} (h : c.chain.length = 32) : c.cells.length = 39 := by simp [MCase.cells, jD, h]
theorem MNote.len {c : MNote} (h : c.head.Ok) : c.cells.length = 99 := by rw [MNote.cells, List.length_append, h.len]; rfl
theorem MReply.Ok.len (h : m.Ok w X) : m.cells.length = 256 := by
  simp only [MReply.cells, List.length_append, MCase.len h.case_.chain, MNote.len h.note.head, h.idx.len, MPiece.len h.pie.before, MWay.cells, List.length_cons, List.length_nil]
theorem MReply.s0 : m.cells[0]? = some (.int .i64 m.err) := rfl
theorem MReply.s1 : m.cells[1]? = some (.int .i64 m.pa) := rfl
theorem MReply.s2 : m.cells[2]? = some (.int .i64 m.pb) := rfl
theorem MReply.s3 : m.cells[3]? = some (.int .i64 m.pc) := rfl
theorem MReply.s4 : m.cells[4]? = some (.int .i64 m.number) := rfl
theorem MReply.s5 : m.cells[5]? = some (.slice m.hA m.hap.length m.hC) := rfl
theorem MReply.c6 : Sub m.cells 6 m.case_.cells := Sub.mid_ _ _ _ 6 rfl
theorem MReply.Ok.r45 (h : m.Ok w X) : Sub m.cells 45 [m.raw.sl, .int .i64 m.size] := by
  have := Sub.mid_ ([.int .i64 m.err, .int .i64 m.pa, .int .i64 m.pb, .int .i64 m.pc, .int .i64 m.number, .slice m.hA m.hap.length m.hC] ++ m.case_.cells) [m.raw.sl, .int .i64 m.size] (m.note.cells ++ (m.inc.cells ++ (m.con.cells ++ (m.idx.cells m.iA m.iC ++ m.pie.cells)))) 45 (by rw [List.length_append, MCase.len h.case_.chain]; rfl)
  simpa [MReply.cells] using this
theorem MReply.Ok.n47 (h : m.Ok w X) : Sub m.cells 47 m.note.cells := by
  have := Sub.mid_ ([.int .i64 m.err, .int .i64 m.pa, .int .i64 m.pb, .int .i64 m.pc, .int .i64 m.number, .slice m.hA m.hap.length m.hC] ++ (m.case_.cells ++ [m.raw.sl, .int .i64 m.size])) m.note.cells (m.inc.cells ++ (m.con.cells ++ (m.idx.cells m.iA m.iC ++ m.pie.cells))) 47 (by rw [List.length_append, List.length_append, MCase.len h.case_.chain]; rfl)
  simpa [MReply.cells] using this
theorem MReply.Ok.i146 (h : m.Ok w X) : Sub m.cells 146 m.inc.cells := by
  have := Sub.mid_ ([.int .i64 m.err, .int .i64 m.pa, .int .i64 m.pb, .int .i64 m.pc, .int .i64 m.number, .slice m.hA m.hap.length m.hC] ++ (m.case_.cells ++ ([m.raw.sl, .int .i64 m.size] ++ m.note.cells))) m.inc.cells (m.con.cells ++ (m.idx.cells m.iA m.iC ++ m.pie.cells)) 146 (by simp only [List.length_append, MCase.len h.case_.chain, MNote.len h.note.head]; rfl)
  simpa [MReply.cells] using this
theorem MReply.Ok.c149 (h : m.Ok w X) : Sub m.cells 149 m.con.cells := by
  have := Sub.mid_ ([.int .i64 m.err, .int .i64 m.pa, .int .i64 m.pb, .int .i64 m.pc, .int .i64 m.number, .slice m.hA m.hap.length m.hC] ++ (m.case_.cells ++ ([m.raw.sl, .int .i64 m.size] ++ (m.note.cells ++ m.inc.cells)))) m.con.cells (m.idx.cells m.iA m.iC ++ m.pie.cells) 149 (by simp only [List.length_append, MCase.len h.case_.chain, MNote.len h.note.head]; rfl)
  simpa [MReply.cells] using this
theorem MReply.Ok.x152 (h : m.Ok w X) : Sub m.cells 152 (m.idx.cells m.iA m.iC) := by
  have := Sub.mid_ ([.int .i64 m.err, .int .i64 m.pa, .int .i64 m.pb, .int .i64 m.pc, .int .i64 m.number, .slice m.hA m.hap.length m.hC] ++ (m.case_.cells ++ ([m.raw.sl, .int .i64 m.size] ++ (m.note.cells ++ (m.inc.cells ++ m.con.cells))))) (m.idx.cells m.iA m.iC) m.pie.cells 152 (by simp only [List.length_append, MCase.len h.case_.chain, MNote.len h.note.head]; rfl)
  simpa [MReply.cells] using this
theorem MReply.Ok.p220 (h : m.Ok w X) : Sub m.cells 220 m.pie.cells := by
  have := Sub.end_ ([.int .i64 m.err, .int .i64 m.pa, .int .i64 m.pb, .int .i64 m.pc, .int .i64 m.number, .slice m.hA m.hap.length m.hC] ++ (m.case_.cells ++ ([m.raw.sl, .int .i64 m.size] ++ (m.note.cells ++ (m.inc.cells ++ (m.con.cells ++ m.idx.cells m.iA m.iC)))))) m.pie.cells 220 (by simp only [List.length_append, MCase.len h.case_.chain, MNote.len h.note.head, h.idx.len]; rfl)
  simpa [MReply.cells] using this
end
theorem LayP.weak {w w' : World} {g : Nat} {r : Option Nat} {bs : List UInt8} {o : Option (List UInt8)} {m m' : Nat} {e : Ending} (h : LayP w g r bs o m e w') (hm : m <= m') : LayP w g r bs o m' e w' := by
  rcases h with ⟨l, h1, h2, h3, h4⟩ | h
  · exact .inl ⟨l, h1, Nat.le_trans h2 hm, h3, h4⟩
  · exact .inr h
theorem answered_any (w : World) (g : Nat) (r : Option Nat) (bs : List UInt8) (op : Nat) (m : MReply) (hW : Wr w g r bs) (hl : bs.length <= 900000000) (hop : 1 <= op /\ op <= 12) (hok : m.Ok w (WX g r)) :
    Calls Tryz.prog 26 #[.pointer (some ⟨g, 0, none⟩), .int .i64 (op : Int), .agg m.cells.toArray] w (LayP w g r bs (repB op m.data) 300000000008) := by
  have h12 : op = 1 \/ op = 2 \/ op = 3 \/ op = 4 \/ op = 5 \/ op = 6 \/ op = 7 \/ op = 8 \/ op = 9 \/ op = 10 \/ op = 11 \/ op = 12 := by omega
  rcases h12 with rfl | rfl | rfl | rfl | rfl | rfl | rfl | rfl | rfl | rfl | rfl | rfl
  · exact answered_1 w g r bs m.cells m.number m.hA m.hC m.hap hW hl MReply.s4 MReply.s5 hok.rdH hok.avH hok.bigH.1 hok.bigH.2
  · exact answered_2 w g r bs m.cells m.number m.hA m.hC m.hap hW hl MReply.s4 MReply.s5 hok.rdH hok.avH hok.bigH.1 hok.bigH.2
  · exact (answered_3 w g r bs m.cells m.case_ hW hl MReply.c6 (MCase.len hok.case_.chain) hok.case_).mono fun e w' h => h.weak (by decide)
  · exact (answered_4 w g r bs m.cells m.raw hW hl (hok.r45 0 _ rfl) hok.raw).mono fun e w' h => h.weak (by decide)
  · refine (answered_size w g r bs m.cells m.size hW hl (hok.r45 1 _ rfl)).mono ?_
    rintro e w' ⟨rfl, hst⟩
    exact .inl ⟨be8 m.size, rfl, by rw [jG]; decide, rfl, by simpa [nums, be8] using hst⟩
  · exact (answered_6 w g r bs m.cells m.note.cells _ 2000 hW hl (by decide) hok.n47 (by rw [MNote.len hok.note.head]; kernel_rfl) (fun W h => encnote_any W m.note (fun _ => False) ⟨hok.note.head, hok.note.rd.old h, fun _ _ _ f => f, hok.note.big⟩)).mono fun e w' h => h.weak (by decide)
  · exact (answered_7 w g r bs m.cells m.note hW hl hok.n47 hok.note hok.hd.1 hok.hd.2).mono fun e w' h => h.weak (by decide)
  · exact (answered_8 w g r bs m.cells m.inc.cells _ 70000000000 hW hl (by decide) hok.i146 (by kernel_rfl) (fun W h => encinc_any W m.inc.a m.inc.b m.inc.A m.inc.c m.inc.ds hok.inc.dgs (hok.inc.rd.old h) hok.inc.big)).mono fun e w' h => h.weak (by decide)
  · exact (answered_9 w g r bs m.cells m.con.cells _ 70000000000 hW hl (by decide) hok.c149 (by kernel_rfl) (fun W h => enccon_any W m.con.a m.con.b m.con.A m.con.c m.con.ds hok.con.dgs (hok.con.rd.old h) hok.con.big)).mono fun e w' h => h.weak (by decide)
  · exact (answered_10 w g r bs m.cells (m.idx.cells m.iA m.iC) _ 70000000000 hW hl (by decide) hok.x152 (by rw [hok.idx.len]; exact Tryz.sizeIndexed) (fun W h => encidx_any W m.idx m.iA m.iC hok.idx (hok.rdI.old h))).mono fun e w' h => h.weak (by decide)
  · exact (answered_11 w g r bs m.cells m.pie.cells _ 100000000 hW hl (by decide) hok.p220 (by rw [MPiece.len hok.pie.before]; exact Tryz.sizePiece) (fun W h => encpiece_any W m.pie (fun _ => False) ⟨hok.pie.before, fun p hp => ⟨(hok.pie.evs p hp).rd.old h, fun _ _ _ f => f, (hok.pie.evs p hp).big⟩, hok.pie.rdE.old h, fun _ _ _ f => f, fun p hp => ⟨(hok.pie.pfs p hp).dgs, (hok.pie.pfs p hp).rd.old h, fun _ _ _ f => f, (hok.pie.pfs p hp).big⟩, hok.pie.rdP.old h, fun _ _ _ f => f, hok.pie.big⟩)).mono fun e w' h => h.weak (by decide)
  · exact (answered_12 w g r bs m.cells hW hl).mono fun e w' h => h.weak (by decide)
end Go.Proofs.YtnaolhjbapgjgaaGreat
