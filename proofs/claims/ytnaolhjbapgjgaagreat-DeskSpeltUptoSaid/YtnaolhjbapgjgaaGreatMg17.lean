import Derived.Test.YtnaolhjbapgjgaaGreatMg11
import Derived.Test.YtnaolhjbapgjgaaGreatMg16
set_option maxRecDepth 100000
set_option maxHeartbeats 3200000
namespace Go.Proofs.YtnaolhjbapgjgaaGreat
open Go.RowKit
structure MWay where
  a : Int
  b : Int
  ds : List (List UInt8)
  A : Option Addr
  c : Nat
def MWay.cells (m : MWay) : List Value := [.int .i64 m.a, .int .i64 m.b, .slice m.A m.ds.length m.c]
structure MWay.Ok (w : World) (X : Nat -> Prop) (m : MWay) : Prop where
  dgs : Dgs m.ds
  rd : Rd w 32 m.A m.ds.length (m.ds.flatMap jB)
  av : Av X m.ds.length m.A
  big : m.ds.length <= 2147483647
structure Way where
  a : Int
  b : Int
  ds : List (List UInt8)
def MWay.data (m : MWay) : Way := ⟨m.a, m.b, m.ds⟩
def zeroWay : List Value := [.int .i64 0, .int .i64 0, .slice none 0 0]
def wayEnd (bs : List UInt8) (a b : Int) (n : Nat) (s : Rs) : Option Way :=
  if s.why ≠ 0 then none else if jo bs (vX bs n s).2 = 0 then some ⟨a, b, (vX bs n s).1⟩ else none
def wayN (bs : List UInt8) (f : Int -> Int -> Option Nat) (s : Rs) : Option Way :=
  if (ptkN bs s).2.1 = true /\ (ptkN bs (ptkN bs s).2.2).2.1 = true then
    match f (ptkN bs s).1 (ptkN bs (ptkN bs s).2.2).1 with
    | none => none
    | some n => wayEnd bs (ptkN bs s).1 (ptkN bs (ptkN bs s).2.2).1 n (ptkN bs (ptkN bs s).2.2).2.2
  else none
def decInc (bs : List UInt8) : Option Way := (kt bs 9000 48).bind (wayN bs besN)
def decCon (bs : List UInt8) : Option Way := (kt bs 9000 49).bind (wayN bs betN)
def DecW (w : World) (d : Option Way) (e : Ending) (w' : World) : Prop :=
  (∃ m : MWay, d = some m.data /\ e = .returned (.tuple #[.agg m.cells.toArray, .int .i64 0]) /\ m.Ok w' (fun k => k < w.heap.size) /\ Old w w') \/
  (∃ er : Int, d = none /\ er ≠ 0 /\ e = .returned (.tuple #[.agg zeroWay.toArray, .int .i64 er]) /\ Old w w')
theorem besN_le {a b : Int} {n : Nat} (h : besN a b = some n) : n <= 2199023255552 := by
  unfold besN at h
  split at h
  · injection h with h
    have := besGo_le a.toNat b.toNat 41 0 0
    omega
  · cases h
theorem betGo_le (F : Nat) : ∀ (f T L n : Nat), (betGo F f T L n).1 <= n + f
  | 0, _, _, n => Nat.le_refl n
  | f + 1, T, L, n => by
    rw [betGo]
    split
    · simp only; omega
    · split
      · have := betGo_le F f (L + 2 ^ (Lib.bitLen (T - L - 1) - 1)) L (n + 1); omega
      · have := betGo_le F f T (L + 2 ^ (Lib.bitLen (T - L - 1) - 1)) (n + 1); omega
theorem betN_le {a b : Int} {n : Nat} (h : betN a b = some n) : n <= 2199023255552 := by
  unfold betN at h
  split at h
  · split at h
    · injection h with h; omega
    · injection h with h
      have := betGo_le a.toNat b.toNat b.toNat 0 0
      unfold betEnd at h
      split at h <;> omega
  · cases h
theorem digsN_dgs (bs : List UInt8) (n : Int) (s : Rs) (hs : s.at_ <= bs.length) : Dgs (vX bs n s).1 := by
  unfold vX
  split
  · intro d hd; cases hd
  · split
    · intro d hd; cases hd
    · exact digsL_dgs (by omega)
theorem digsN_len (bs : List UInt8) (n : Int) (s : Rs) : (vX bs n s).1.length <= bs.length := by
  unfold vX
  split
  · simp
  · split
    · simp
    · simp only [digsL_len]; omega
theorem Tryz.sizeInclusion : (Tryz.prog.info? 51).map (·.size) = some 3 := by kernel_rfl
theorem Tryz.sizeConsistency : (Tryz.prog.info? 53).map (·.size) = some 3 := by kernel_rfl
theorem decinc_any (w : World) (A : Option Addr) (c : Nat) (bs : List UInt8) (hrd : Rd w 1 A bs.length (bs.map bv)) :
    Calls Tryz.prog 93 #[.slice A bs.length c] w (DecW w (decInc bs)) := by
  have HD := jJ0 (show decInc bs = (kt bs 9000 48).bind (wayN bs besN) from rfl)
  have Hb := jJ0 (Blk.new w 51 zeroWay.toArray)
  have HO := jJ0 ((Kp.refl NoX w).alloc (.cells zeroWay.toArray 51))
  have HBg := jJ0 (fun W (h : Old w W) => begun_any W A c bs 9000 48 (hrd.old h) (by omega))
  generalize decInc bs = D at *
  clear hrd
  unfold zeroWay at Hb HO
  go_enter Tryz.func93, Tryz.ntmps93
  go_wp2_with fail
  generalize w.alloc _ = W at *
  refine (HBg.out W HO.out).mono ?_
  generalize kt bs 9000 48 = B at *
  rintro e w1 (⟨g, s, rfl, rfl, hg, hr1, ho1⟩ | ⟨er, rfl, her, rfl, ho1⟩)
  · have HS := jJ0 (show DecR 51 zeroWay w g bs s w1 from ⟨Hb.out.old ho1, hr1, HO.out.old ho1, by have := Hb.out.lt; omega⟩)
    clear hr1 ho1 hg Hb HO HBg
    have HD2 := jJ0 (show D = wayN bs besN s by rw [HD.out]; rfl)
    have HP1 := jJ0 (fun W (hR : Rr W g bs s) => vq W g bs s hR)
    unfold wayN at HD2
    clear HD
    go_wp2_with fail
    refine (HP1.out _ HS.out.rr).mono ?_
    clear HP1
    generalize ptkN bs s = t1 at *
    obtain ⟨a, f1, s1⟩ := t1
    simp only at HD2 ⊢
    rintro e w2 ⟨rfl, hr2, hk2⟩
    replace HS := jJ0 (HS.out.step hr2 hk2)
    clear hr2 hk2
    have HP1 := jJ0 (fun W (hR : Rr W g bs s1) => vq W g bs s1 hR)
    go_wp2_with fail
    refine (HP1.out _ HS.out.rr).mono ?_
    clear HP1
    generalize ptkN bs s1 = t2 at *
    obtain ⟨b, f2, s2⟩ := t2
    simp only at HD2 ⊢
    rintro e w3 ⟨rfl, hr2, hk2⟩
    replace HS := jJ0 (HS.out.step hr2 hk2)
    clear hr2 hk2
    have HB := jJ0 (fun W => beside_any W a b)
    have Hle := jJ0 (fun n (h : besN a b = some n) => besN_le h)
    go_wp2_with fail
    refine (HB.out _).mono ?_
    clear HB
    generalize besN a b = o at *
    rintro e w4 ⟨he, rfl⟩
    cases f1 with
    | false =>
      have Hno := jJ0 (show D = none by rw [HD2.out, if_neg (by simp)])
      rcases o with _ | n
      all_goals
        simp only at he
        subst he
        have Hth := jJ0 (HS.out.th zeroWay rfl)
        have Ht := jJ0 (HS.out.told zeroWay rfl)
        go_wp2_with (first | ((with_reducible refine jE 51 (.tmp 2) (.tmp 53) ?_); refine wpList_store_mid rfl 51 (.tmp 2) (.tmp 53) rfl w.heap.size 0 zeroWay.toArray rfl rfl Hth.out Tryz.sizeInclusion (jK rfl) ?_) | fail)
        refine jA (g := w.heap.size) (cs := zeroWay.toArray) rfl rfl Ht.out.box Tryz.underlying51 rfl Tryz.sizeInclusion rfl ?_
        exact .inr ⟨8, Hno.out, by decide, rfl, Ht.out.old⟩
    | true =>
    cases f2 with
    | false =>
      have Hno := jJ0 (show D = none by rw [HD2.out, if_neg (by simp)])
      rcases o with _ | n
      all_goals
        simp only at he
        subst he
        have Hth := jJ0 (HS.out.th zeroWay rfl)
        have Ht := jJ0 (HS.out.told zeroWay rfl)
        go_wp2_with (first | ((with_reducible refine jE 51 (.tmp 2) (.tmp 53) ?_); refine wpList_store_mid rfl 51 (.tmp 2) (.tmp 53) rfl w.heap.size 0 zeroWay.toArray rfl rfl Hth.out Tryz.sizeInclusion (jK rfl) ?_) | fail)
        refine jA (g := w.heap.size) (cs := zeroWay.toArray) rfl rfl Ht.out.box Tryz.underlying51 rfl Tryz.sizeInclusion rfl ?_
        exact .inr ⟨8, Hno.out, by decide, rfl, Ht.out.old⟩
    | true =>
    rw [if_pos ⟨rfl, rfl⟩] at HD2
    rcases o with _ | n
    · simp only at he HD2
      subst he
      have Hno := jJ0 HD2.out
      have Hth := jJ0 (HS.out.th zeroWay rfl)
      have Ht := jJ0 (HS.out.told zeroWay rfl)
      go_wp2_with (first | ((with_reducible refine jE 51 (.tmp 2) (.tmp 53) ?_); refine wpList_store_mid rfl 51 (.tmp 2) (.tmp 53) rfl w.heap.size 0 zeroWay.toArray rfl rfl Hth.out Tryz.sizeInclusion (jK rfl) ?_) | fail)
      refine jA (g := w.heap.size) (cs := zeroWay.toArray) rfl rfl Ht.out.box Tryz.underlying51 rfl Tryz.sizeInclusion rfl ?_
      exact .inr ⟨8, Hno.out, by decide, rfl, Ht.out.old⟩
    · simp only at he HD2
      subst he
      have hn := Hle.out n rfl
      clear Hle
      unfold wayEnd at HD2
      have HW := jJ0 (fun W (hR : Rr W g bs s2) => jR W g bs s2 hR)
      go_wp2_with fail
      refine (HW.out _ HS.out.rr).mono ?_
      rintro e w5 ⟨rfl, rfl⟩
      clear HW
      by_cases hy : s2.why = 0
      case neg =>
        have Hno := jJ0 (show D = none by rw [HD2.out, if_pos hy])
        have hy' : (s2.why != 0) = true := by simpa using hy
        clear hy
        have Hth := jJ0 (HS.out.th zeroWay rfl)
        have Ht := jJ0 (HS.out.told zeroWay rfl)
        go_wp2_with (first | ((with_reducible refine jE 51 (.tmp 2) (.tmp 53) ?_); refine wpList_store_mid rfl 51 (.tmp 2) (.tmp 53) rfl w.heap.size 0 zeroWay.toArray rfl rfl Hth.out Tryz.sizeInclusion (jK rfl) ?_) | fail)
        refine jA (g := w.heap.size) (cs := zeroWay.toArray) rfl rfl Ht.out.box Tryz.underlying51 rfl Tryz.sizeInclusion rfl ?_
        exact .inr ⟨8, Hno.out, by decide, rfl, Ht.out.old⟩
      rw [if_neg (by simpa using hy)] at HD2
      rw [hy]
      have HG := jJ0 (fun W (hR : Rr W g bs s2) => rdigs_any W g bs (n : Int) s2 hR (by omega))
      have Hdg := jJ0 (digsN_dgs bs (n : Int) s2 HS.out.rr.fits.1)
      have Hln := jJ0 (digsN_len bs (n : Int) s2)
      have hbl := HS.out.rr.fits.2
      clear hy
      go_wp2_with fail
      refine (HG.out _ HS.out.rr).mono ?_
      clear HG
      generalize vX bs (n : Int) s2 = t3 at *
      obtain ⟨ds, s3⟩ := t3
      simp only at HD2 Hdg Hln ⊢
      rintro e w5 ⟨A5, c5, rfl, hrd5, hav5, hcap5, hr5, hk5⟩
      have Hold := jJ0 HS.out.old
      have Hlt4 := jJ0 HS.out.box.lt
      replace HS := jJ0 ((HS.out.step hr5 hk5).still ((Kp.refl NoX w5).alloc (.cells #[.int .i64 a, .int .i64 b, .slice A5 ds.length c5] 51)))
      have Hb5 := jJ0 (Blk.new w5 51 #[.int .i64 a, .int .i64 b, .slice A5 ds.length c5])
      have Hrd := jJ0 (hrd5.alloc (.cells #[.int .i64 a, .int .i64 b, .slice A5 ds.length c5] 51))
      have Hav := jJ0 (show Av (fun k => k <= w.heap.size) ds.length A5 from fun hn ad e hx => hav5 hn ad e (by have := Hlt4.out; omega))
      have HDn := jJ0 (fun W (hR : Rr W g bs s3) => jw W g bs s3 hR)
      clear hrd5 hav5 hcap5 hr5 hk5
      go_wp2_with fail
      generalize w5.alloc _ = W5 at *
      generalize w5.heap.size = q at *
      refine (HDn.out _ HS.out.rr).mono ?_
      clear HDn
      generalize jo bs s3 = dn at *
      rintro e w6 ⟨rfl, ho6⟩
      replace HS := jJ0 (HS.out.still ho6)
      have Hb6 := jJ0 (Hb5.out.old ho6)
      have Hrd6 := jJ0 (Hrd.out.old ho6)
      clear ho6 Hb5 Hrd
      by_cases hd : dn = 0
      case neg =>
        have Hno := jJ0 (show D = none by rw [HD2.out, if_neg hd])
        have hd' : (dn != 0) = true := by simpa using hd
        clear hd
        have Hth := jJ0 (HS.out.th zeroWay rfl)
        have Ht := jJ0 (HS.out.told zeroWay rfl)
        go_wp2_with (first | ((with_reducible refine jE 51 (.tmp 2) (.tmp 63) ?_); refine wpList_store_mid rfl 51 (.tmp 2) (.tmp 63) rfl w.heap.size 0 zeroWay.toArray rfl rfl Hth.out Tryz.sizeInclusion (jK rfl) ?_) | fail)
        refine jA (g := w.heap.size) (cs := zeroWay.toArray) rfl rfl Ht.out.box Tryz.underlying51 rfl Tryz.sizeInclusion rfl ?_
        exact .inr ⟨8, Hno.out, by decide, rfl, Ht.out.old⟩
      subst hd
      have Hyes := jJ0 (show D = some (MWay.data ⟨a, b, ds, A5, c5⟩) by rw [HD2.out, if_pos rfl]; rfl)
      have Hth := jJ0 (HS.out.th (MWay.cells ⟨a, b, ds, A5, c5⟩) rfl)
      have Ht := jJ0 (HS.out.told (MWay.cells ⟨a, b, ds, A5, c5⟩) rfl)
      have Hrg := jJ0 (Blk.range (cs := MWay.cells ⟨a, b, ds, A5, c5⟩) Hb6.out)
      go_wp2_with (first | ((with_reducible refine jW 51 (.tmp 12) ?_); refine Tryz.load_w rfl 51 (.tmp 12) rfl q 0 rfl (MWay.cells ⟨a, b, ds, A5, c5⟩) _ Hrg.out Tryz.underlying51 rfl Tryz.sizeInclusion ?_) | ((with_reducible refine jE 51 (.tmp 2) (.tmp 64) ?_); refine wpList_store_mid rfl 51 (.tmp 2) (.tmp 64) rfl w.heap.size 0 (MWay.cells ⟨a, b, ds, A5, c5⟩).toArray rfl rfl Hth.out Tryz.sizeInclusion (jK rfl) ?_) | fail)
      refine jA (g := w.heap.size) (cs := (MWay.cells ⟨a, b, ds, A5, c5⟩).toArray) rfl rfl Ht.out.box Tryz.underlying51 rfl Tryz.sizeInclusion rfl ?_
      exact .inl ⟨⟨a, b, ds, A5, c5⟩, Hyes.out, rfl, ⟨Hdg.out, Hrd6.out.told Ht.out Hav.out, fun hn ad e hx => Hav.out hn ad e (by omega), by have := Hln.out; simp only; omega⟩, Ht.out.old⟩
  · have Hno := jJ0 (show D = none by rw [HD.out]; rfl)
    have HS := jJ0 (Hb.out.old ho1)
    have HO1 := jJ0 (HO.out.old ho1)
    have her' : (er != 0) = true := by simpa using her
    have Hth := jJ0 (HS.out.there 0 3 (by simp))
    have Ht := jJ0 (Blk.setWhole (cs := zeroWay) HS.out zeroWay rfl)
    have HoE := jJ0 (show Old w (w1.setCells w.heap.size 0 zeroWay) from HO1.out.trans (Kp.setCells _ 0 _ _) (fun b hb e => by omega))
    clear ho1 HBg Hb HO
    go_wp2_with (first | ((with_reducible refine jE 51 (.tmp 2) (.tmp 20) ?_); refine wpList_store_mid rfl 51 (.tmp 2) (.tmp 20) rfl w.heap.size 0 zeroWay.toArray rfl rfl Hth.out Tryz.sizeInclusion (jK rfl) ?_) | fail)
    refine jA (g := w.heap.size) (cs := zeroWay.toArray) rfl rfl Ht.out Tryz.underlying51 rfl Tryz.sizeInclusion rfl ?_
    exact .inr ⟨er, Hno.out, her, rfl, HoE.out⟩
theorem deccon_any (w : World) (A : Option Addr) (c : Nat) (bs : List UInt8) (hrd : Rd w 1 A bs.length (bs.map bv)) :
    Calls Tryz.prog 94 #[.slice A bs.length c] w (DecW w (decCon bs)) := by
  have HD := jJ0 (show decCon bs = (kt bs 9000 49).bind (wayN bs betN) from rfl)
  have Hb := jJ0 (Blk.new w 53 zeroWay.toArray)
  have HO := jJ0 ((Kp.refl NoX w).alloc (.cells zeroWay.toArray 53))
  have HBg := jJ0 (fun W (h : Old w W) => begun_any W A c bs 9000 49 (hrd.old h) (by omega))
  generalize decCon bs = D at *
  clear hrd
  unfold zeroWay at Hb HO
  go_enter Tryz.func94, Tryz.ntmps94
  go_wp2_with fail
  generalize w.alloc _ = W at *
  refine (HBg.out W HO.out).mono ?_
  generalize kt bs 9000 49 = B at *
  rintro e w1 (⟨g, s, rfl, rfl, hg, hr1, ho1⟩ | ⟨er, rfl, her, rfl, ho1⟩)
  · have HS := jJ0 (show DecR 53 zeroWay w g bs s w1 from ⟨Hb.out.old ho1, hr1, HO.out.old ho1, by have := Hb.out.lt; omega⟩)
    clear hr1 ho1 hg Hb HO HBg
    have HD2 := jJ0 (show D = wayN bs betN s by rw [HD.out]; rfl)
    have HP1 := jJ0 (fun W (hR : Rr W g bs s) => vq W g bs s hR)
    unfold wayN at HD2
    clear HD
    go_wp2_with fail
    refine (HP1.out _ HS.out.rr).mono ?_
    clear HP1
    generalize ptkN bs s = t1 at *
    obtain ⟨a, f1, s1⟩ := t1
    simp only at HD2 ⊢
    rintro e w2 ⟨rfl, hr2, hk2⟩
    replace HS := jJ0 (HS.out.step hr2 hk2)
    clear hr2 hk2
    have HP1 := jJ0 (fun W (hR : Rr W g bs s1) => vq W g bs s1 hR)
    go_wp2_with fail
    refine (HP1.out _ HS.out.rr).mono ?_
    clear HP1
    generalize ptkN bs s1 = t2 at *
    obtain ⟨b, f2, s2⟩ := t2
    simp only at HD2 ⊢
    rintro e w3 ⟨rfl, hr2, hk2⟩
    replace HS := jJ0 (HS.out.step hr2 hk2)
    clear hr2 hk2
    have HB := jJ0 (fun W => between_any W a b)
    have Hle := jJ0 (fun n (h : betN a b = some n) => betN_le h)
    go_wp2_with fail
    refine (HB.out _).mono ?_
    clear HB
    generalize betN a b = o at *
    rintro e w4 ⟨he, rfl⟩
    cases f1 with
    | false =>
      have Hno := jJ0 (show D = none by rw [HD2.out, if_neg (by simp)])
      rcases o with _ | n
      all_goals
        simp only at he
        subst he
        have Hth := jJ0 (HS.out.th zeroWay rfl)
        have Ht := jJ0 (HS.out.told zeroWay rfl)
        go_wp2_with (first | ((with_reducible refine jE 53 (.tmp 2) (.tmp 53) ?_); refine wpList_store_mid rfl 53 (.tmp 2) (.tmp 53) rfl w.heap.size 0 zeroWay.toArray rfl rfl Hth.out Tryz.sizeConsistency (jK rfl) ?_) | fail)
        refine jA (g := w.heap.size) (cs := zeroWay.toArray) rfl rfl Ht.out.box Tryz.underlying53 rfl Tryz.sizeConsistency rfl ?_
        exact .inr ⟨8, Hno.out, by decide, rfl, Ht.out.old⟩
    | true =>
    cases f2 with
    | false =>
      have Hno := jJ0 (show D = none by rw [HD2.out, if_neg (by simp)])
      rcases o with _ | n
      all_goals
        simp only at he
        subst he
        have Hth := jJ0 (HS.out.th zeroWay rfl)
        have Ht := jJ0 (HS.out.told zeroWay rfl)
        go_wp2_with (first | ((with_reducible refine jE 53 (.tmp 2) (.tmp 53) ?_); refine wpList_store_mid rfl 53 (.tmp 2) (.tmp 53) rfl w.heap.size 0 zeroWay.toArray rfl rfl Hth.out Tryz.sizeConsistency (jK rfl) ?_) | fail)
        refine jA (g := w.heap.size) (cs := zeroWay.toArray) rfl rfl Ht.out.box Tryz.underlying53 rfl Tryz.sizeConsistency rfl ?_
        exact .inr ⟨8, Hno.out, by decide, rfl, Ht.out.old⟩
    | true =>
    rw [if_pos ⟨rfl, rfl⟩] at HD2
    rcases o with _ | n
    · simp only at he HD2
      subst he
      have Hno := jJ0 HD2.out
      have Hth := jJ0 (HS.out.th zeroWay rfl)
      have Ht := jJ0 (HS.out.told zeroWay rfl)
      go_wp2_with (first | ((with_reducible refine jE 53 (.tmp 2) (.tmp 53) ?_); refine wpList_store_mid rfl 53 (.tmp 2) (.tmp 53) rfl w.heap.size 0 zeroWay.toArray rfl rfl Hth.out Tryz.sizeConsistency (jK rfl) ?_) | fail)
      refine jA (g := w.heap.size) (cs := zeroWay.toArray) rfl rfl Ht.out.box Tryz.underlying53 rfl Tryz.sizeConsistency rfl ?_
      exact .inr ⟨8, Hno.out, by decide, rfl, Ht.out.old⟩
    · simp only at he HD2
      subst he
      have hn := Hle.out n rfl
      clear Hle
      unfold wayEnd at HD2
      have HW := jJ0 (fun W (hR : Rr W g bs s2) => jR W g bs s2 hR)
      go_wp2_with fail
      refine (HW.out _ HS.out.rr).mono ?_
      rintro e w5 ⟨rfl, rfl⟩
      clear HW
      by_cases hy : s2.why = 0
      case neg =>
        have Hno := jJ0 (show D = none by rw [HD2.out, if_pos hy])
        have hy' : (s2.why != 0) = true := by simpa using hy
        clear hy
        have Hth := jJ0 (HS.out.th zeroWay rfl)
        have Ht := jJ0 (HS.out.told zeroWay rfl)
        go_wp2_with (first | ((with_reducible refine jE 53 (.tmp 2) (.tmp 53) ?_); refine wpList_store_mid rfl 53 (.tmp 2) (.tmp 53) rfl w.heap.size 0 zeroWay.toArray rfl rfl Hth.out Tryz.sizeConsistency (jK rfl) ?_) | fail)
        refine jA (g := w.heap.size) (cs := zeroWay.toArray) rfl rfl Ht.out.box Tryz.underlying53 rfl Tryz.sizeConsistency rfl ?_
        exact .inr ⟨8, Hno.out, by decide, rfl, Ht.out.old⟩
      rw [if_neg (by simpa using hy)] at HD2
      rw [hy]
      have HG := jJ0 (fun W (hR : Rr W g bs s2) => rdigs_any W g bs (n : Int) s2 hR (by omega))
      have Hdg := jJ0 (digsN_dgs bs (n : Int) s2 HS.out.rr.fits.1)
      have Hln := jJ0 (digsN_len bs (n : Int) s2)
      have hbl := HS.out.rr.fits.2
      clear hy
      go_wp2_with fail
      refine (HG.out _ HS.out.rr).mono ?_
      clear HG
      generalize vX bs (n : Int) s2 = t3 at *
      obtain ⟨ds, s3⟩ := t3
      simp only at HD2 Hdg Hln ⊢
      rintro e w5 ⟨A5, c5, rfl, hrd5, hav5, hcap5, hr5, hk5⟩
      have Hold := jJ0 HS.out.old
      have Hlt4 := jJ0 HS.out.box.lt
      replace HS := jJ0 ((HS.out.step hr5 hk5).still ((Kp.refl NoX w5).alloc (.cells #[.int .i64 a, .int .i64 b, .slice A5 ds.length c5] 53)))
      have Hb5 := jJ0 (Blk.new w5 53 #[.int .i64 a, .int .i64 b, .slice A5 ds.length c5])
      have Hrd := jJ0 (hrd5.alloc (.cells #[.int .i64 a, .int .i64 b, .slice A5 ds.length c5] 53))
      have Hav := jJ0 (show Av (fun k => k <= w.heap.size) ds.length A5 from fun hn ad e hx => hav5 hn ad e (by have := Hlt4.out; omega))
      have HDn := jJ0 (fun W (hR : Rr W g bs s3) => jw W g bs s3 hR)
      clear hrd5 hav5 hcap5 hr5 hk5
      go_wp2_with fail
      generalize w5.alloc _ = W5 at *
      generalize w5.heap.size = q at *
      refine (HDn.out _ HS.out.rr).mono ?_
      clear HDn
      generalize jo bs s3 = dn at *
      rintro e w6 ⟨rfl, ho6⟩
      replace HS := jJ0 (HS.out.still ho6)
      have Hb6 := jJ0 (Hb5.out.old ho6)
      have Hrd6 := jJ0 (Hrd.out.old ho6)
      clear ho6 Hb5 Hrd
      by_cases hd : dn = 0
      case neg =>
        have Hno := jJ0 (show D = none by rw [HD2.out, if_neg hd])
        have hd' : (dn != 0) = true := by simpa using hd
        clear hd
        have Hth := jJ0 (HS.out.th zeroWay rfl)
        have Ht := jJ0 (HS.out.told zeroWay rfl)
        go_wp2_with (first | ((with_reducible refine jE 53 (.tmp 2) (.tmp 63) ?_); refine wpList_store_mid rfl 53 (.tmp 2) (.tmp 63) rfl w.heap.size 0 zeroWay.toArray rfl rfl Hth.out Tryz.sizeConsistency (jK rfl) ?_) | fail)
        refine jA (g := w.heap.size) (cs := zeroWay.toArray) rfl rfl Ht.out.box Tryz.underlying53 rfl Tryz.sizeConsistency rfl ?_
        exact .inr ⟨8, Hno.out, by decide, rfl, Ht.out.old⟩
      subst hd
      have Hyes := jJ0 (show D = some (MWay.data ⟨a, b, ds, A5, c5⟩) by rw [HD2.out, if_pos rfl]; rfl)
      have Hth := jJ0 (HS.out.th (MWay.cells ⟨a, b, ds, A5, c5⟩) rfl)
      have Ht := jJ0 (HS.out.told (MWay.cells ⟨a, b, ds, A5, c5⟩) rfl)
      have Hrg := jJ0 (Blk.range (cs := MWay.cells ⟨a, b, ds, A5, c5⟩) Hb6.out)
      go_wp2_with (first | ((with_reducible refine jW 53 (.tmp 12) ?_); refine Tryz.load_w rfl 53 (.tmp 12) rfl q 0 rfl (MWay.cells ⟨a, b, ds, A5, c5⟩) _ Hrg.out Tryz.underlying53 rfl Tryz.sizeConsistency ?_) | ((with_reducible refine jE 53 (.tmp 2) (.tmp 64) ?_); refine wpList_store_mid rfl 53 (.tmp 2) (.tmp 64) rfl w.heap.size 0 (MWay.cells ⟨a, b, ds, A5, c5⟩).toArray rfl rfl Hth.out Tryz.sizeConsistency (jK rfl) ?_) | fail)
      refine jA (g := w.heap.size) (cs := (MWay.cells ⟨a, b, ds, A5, c5⟩).toArray) rfl rfl Ht.out.box Tryz.underlying53 rfl Tryz.sizeConsistency rfl ?_
      exact .inl ⟨⟨a, b, ds, A5, c5⟩, Hyes.out, rfl, ⟨Hdg.out, Hrd6.out.told Ht.out Hav.out, fun hn ad e hx => Hav.out hn ad e (by omega), by have := Hln.out; simp only; omega⟩, Ht.out.old⟩
  · have Hno := jJ0 (show D = none by rw [HD.out]; rfl)
    have HS := jJ0 (Hb.out.old ho1)
    have HO1 := jJ0 (HO.out.old ho1)
    have her' : (er != 0) = true := by simpa using her
    have Hth := jJ0 (HS.out.there 0 3 (by simp))
    have Ht := jJ0 (Blk.setWhole (cs := zeroWay) HS.out zeroWay rfl)
    have HoE := jJ0 (show Old w (w1.setCells w.heap.size 0 zeroWay) from HO1.out.trans (Kp.setCells _ 0 _ _) (fun b hb e => by omega))
    clear ho1 HBg Hb HO
    go_wp2_with (first | ((with_reducible refine jE 53 (.tmp 2) (.tmp 20) ?_); refine wpList_store_mid rfl 53 (.tmp 2) (.tmp 20) rfl w.heap.size 0 zeroWay.toArray rfl rfl Hth.out Tryz.sizeConsistency (jK rfl) ?_) | fail)
    refine jA (g := w.heap.size) (cs := zeroWay.toArray) rfl rfl Ht.out Tryz.underlying53 rfl Tryz.sizeConsistency rfl ?_
    exact .inr ⟨er, Hno.out, her, rfl, HoE.out⟩
end Go.Proofs.YtnaolhjbapgjgaaGreat
