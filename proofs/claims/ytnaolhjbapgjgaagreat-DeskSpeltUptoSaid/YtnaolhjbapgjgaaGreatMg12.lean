import Derived.Test.YtnaolhjbapgjgaaGreatMg06
import Derived.Test.YtnaolhjbapgjgaaGreatMg11
import Derived.Deep.RegionHeld3
set_option maxRecDepth 100000
set_option maxHeartbeats 3200000
namespace Go.Proofs.YtnaolhjbapgjgaaGreat
open Go.RowKit
structure Idx where
  case_ : ByteArray
  found : Bool
  count : Int
  chain : List UInt8
  bitmap : List UInt8
  way : List (List UInt8)
structure Idx.Ok (x : Idx) : Prop where
  chain : x.chain.length = 32
  bitmap : x.bitmap.length = 32
  way : Dgs x.way
  count : -9223372036854775808 <= x.count /\ x.count <= 9223372036854775807
  big : x.way.length <= 2147483647 /\ x.case_.size <= 9223372036854775807
theorem Tryz.sizeEntry : (Tryz.prog.info? 55).map (·.size) = some 33 := by kernel_rfl
theorem Tryz.guardEntry : Tryz.prog.eqGuardType Tryz.prog.depth 55 = false := by kernel_rfl
def zeroD : List UInt8 := List.replicate 32 0
theorem zero_dcells : jB zeroD = zero32 := by simp [jB, zeroD, zero32, bv, List.replicate]
def Idx.cells (x : Idx) (A : Option Addr) (c : Nat) : List Value := [.string x.case_, .bool x.found, .int .i64 x.count] ++ (jB x.chain ++ (jB x.bitmap ++ [.slice A x.way.length c]))
def entryOk (x : Idx) : Bool := if x.found = true then decide (1 <= x.count /\ x.count <= 1099511627776) else decide (x.count = 0 /\ x.chain = zeroD)
def idxOk (x : Idx) : Bool := entryOk x && (vU x.case_ && decide (onesN x.bitmap = x.way.length))
section
variable {x : Idx} {A : Option Addr} {c : Nat} (k : x.Ok)
include k
theorem Idx.Ok.len : (x.cells A c).length = 68 := by simp [Idx.cells, jD, k.chain, k.bitmap]
theorem Idx.Ok.s35 : Sub (x.cells A c) 35 (jB x.bitmap) := by
  have := Sub.mid_ ([.string x.case_, .bool x.found, .int .i64 x.count] ++ jB x.chain) (jB x.bitmap) [.slice A x.way.length c] 35 (by simp [jD, k.chain])
  simpa [Idx.cells] using this
theorem Idx.Ok.s67 : (x.cells A c)[67]? = some (.slice A x.way.length c) := by
  have := (Sub.end_ ([.string x.case_, .bool x.found, .int .i64 x.count] ++ (jB x.chain ++ jB x.bitmap)) [.slice A x.way.length c] 67 (by simp [jD, k.chain, k.bitmap])) 0 _ rfl
  simpa [Idx.cells] using this
end
theorem Idx.s2 (x : Idx) (A : Option Addr) (c : Nat) : Sub (x.cells A c) 2 (.int .i64 x.count :: jB x.chain) := by
  have := Sub.mid_ [.string x.case_, .bool x.found] (.int .i64 x.count :: jB x.chain) (jB x.bitmap ++ [.slice A x.way.length c]) 2 rfl
  simpa [Idx.cells] using this
theorem Idx.s3 (x : Idx) (A : Option Addr) (c : Nat) : Sub (x.cells A c) 3 (jB x.chain) := Sub.mid_ [.string x.case_, .bool x.found, .int .i64 x.count] _ _ 3 rfl
theorem Tryz.zeroEntry (w : World) : (Instr.build 55 #[]).run Tryz.prog w = .ok (.agg (.int .i64 0 :: zero32).toArray) w := by kernel_rfl
theorem eq_zeroE (W : World) (n : Int) (hn : -9223372036854775808 <= n /\ n <= 9223372036854775807) (d : List UInt8) (hd : d.length = 32) (r : Bool) (hr : decide (n = 0 /\ d = zeroD) = r) :
    (Op.equalIn 10000 55 (.agg (.int .i64 n :: jB d).toArray) (.agg (.int .i64 0 :: zero32).toArray)).run Tryz.prog W = .ok r W := by
  have h := eq_entry W n 0 hn (by omega) d zeroD hd rfl
  rw [zero_dcells, hr] at h
  exact h
structure IdxAt (W : World) (B : Nat) (cl : List Value) (cs : ByteArray) (A : Option Addr) (n c : Nat) (bm : List UInt8) : Prop where
  blk : Blk W B 57 cl.toArray
  s0 : cl[0]? = some (.string cs)
  s67 : cl[67]? = some (.slice A n c)
  sB : Sub cl 35 (jB bm)
section
variable {W W' : World} {B : Nat} {cl : List Value} {cs : ByteArray} {A : Option Addr} {n c : Nat} {bm : List UInt8}
theorem IdxAt.old (h : IdxAt W B cl cs A n c bm) (ho : Old W W') : IdxAt W' B cl cs A n c bm := ⟨h.blk.old ho, h.s0, h.s67, h.sB⟩
theorem IdxAt.all (h : IdxAt W B cl cs A n c bm) : W.cell? ⟨B, 0, none⟩ = some (.string cs) /\ W.cell? ⟨B, 67, none⟩ = some (.slice A n c) /\ W.rangeAt B 35 (jB bm) := by
  have hc : ∀ (i : Nat) (v : Value), cl[i]? = some v -> W.cell? ⟨B, i, none⟩ = some v := fun i v e => h.blk.at_ i (by rw [List.getElem?_toArray]; exact e)
  exact ⟨hc 0 _ h.s0, hc 67 _ h.s67, h.sB.range h.blk⟩
end
theorem indexed_any (w : World) (x : Idx) (A : Option Addr) (c : Nat) (hok : x.Ok) : Calls Tryz.prog 111 #[.agg (x.cells A c).toArray] w fun e w' => e = .returned (.bool (idxOk x)) /\ Old w w' := by
  have Hok := jJ0 hok
  have Hb := Blk.new w 57 (x.cells A c).toArray
  have HA := jJ0 (show IdxAt (w.alloc (.cells (x.cells A c).toArray 57)) w.heap.size (x.cells A c) x.case_ A x.way.length c x.bitmap from ⟨Hb, rfl, hok.s67, hok.s35⟩)
  have Ho := jJ0 ((Kp.refl NoX w).alloc (.cells (x.cells A c).toArray 57))
  have HI := jJ0 (show idxOk x = (entryOk x && (vU x.case_ && decide (onesN x.bitmap = x.way.length))) from rfl)
  have HE := jJ0 (show entryOk x = if x.found = true then decide (1 <= x.count /\ x.count <= 1099511627776) else decide (x.count = 0 /\ x.chain = zeroD) from rfl)
  have c1 := Hb.at_ 1 (v := .bool x.found) (by rw [List.getElem?_toArray]; rfl)
  have c2 := Hb.at_ 2 (v := .int .i64 x.count) (by rw [List.getElem?_toArray]; rfl)
  have Hrg := jJ0 ((x.s2 A c).range Hb)
  generalize idxOk x = R at *
  generalize entryOk x = E0 at *
  clear hok Hb
  generalize x.cells A c = cl at *
  cases hf : x.found with
  | true =>
    rw [hf] at c1 HE
    clear hf
    by_cases h1 : x.count < 1
    · have Hno := jJ0 (show R = false by rw [HI.out, HE.out, if_pos rfl, decide_eq_false (by omega)]; rfl)
      go_enter Tryz.func111, Tryz.ntmps111
      go_wp2
      go_ret
      exact ⟨by rw [Hno.out]; rfl, Ho.out⟩
    · by_cases h2 : 1099511627776 < x.count
      · have Hno := jJ0 (show R = false by rw [HI.out, HE.out, if_pos rfl, decide_eq_false (by omega)]; rfl)
        go_enter Tryz.func111, Tryz.ntmps111
        go_wp2
        go_ret
        exact ⟨by rw [Hno.out]; rfl, Ho.out⟩
      · have HRd := jJ0 (show R = (vU x.case_ && decide (onesN x.bitmap = x.way.length)) by rw [HI.out, HE.out, if_pos rfl, decide_eq_true (by omega)]; rfl)
        go_enter Tryz.func111, Tryz.ntmps111
        go_wp2_with fail
        generalize w.alloc _ = W at *
        clear c1 c2 Hrg HI HE
        by_cases hn : vU x.case_ = true
        · have HN := jJ0 (fun W => named_any W x.case_ Hok.out.big.2)
          have HO := jJ0 (fun W => ones_any W x.bitmap Hok.out.bitmap)
          have HR := jJ0 (show R = ((onesN x.bitmap : Int) == (x.way.length : Int)) by
            rw [HRd.out, hn, Bool.true_and, Bool.eq_iff_iff]
            simp
            omega)
          rw [hn] at HN
          have hu := Tryz.underlying40
          have hi : (Tryz.prog.info? 40).map (·.size) = some (jB x.bitmap).length := by rw [jD, Hok.out.bitmap]; exact Tryz.sizeDigest
          have D := (HA.out.old (Kp.refl NoX W).drew).all
          have HAd := jJ0 (HA.out.old (Kp.refl NoX W).drew)
          generalize onesN x.bitmap = on at *
          clear hn
          go_wp2_with fail
          go_region_held3 (fun w' => w'.cell? ⟨w.heap.size, 0, none⟩ = some (.string x.case_) /\ w'.cell? ⟨w.heap.size, 67, none⟩ = some (.slice A x.way.length c) /\ w'.rangeAt w.heap.size 35 (jB x.bitmap)) (first | exact D | exact E)
            (first
              | (go_at_call 153; refine (HN.out _).mono ?_; rintro e w5 ⟨rfl, rfl⟩)
              | (go_at_call 145; refine (HO.out _).mono ?_; rintro e w6 ⟨rfl, ho6⟩; have E := (HAd.out.old ho6).all; have Ho6 := jJ0 (Ho.out.drew.old ho6))
              | fail)
          all_goals
            go_wp2
            go_ret
            exact ⟨by rw [HR.out]; rfl, Ho6.out⟩
        · have hn' : vU x.case_ = false := by simpa using hn
          have HN := jJ0 (fun W => named_any W x.case_ Hok.out.big.2)
          rw [hn'] at HN
          have Hno := jJ0 (show R = false by rw [HRd.out, hn']; rfl)
          have c0 := HA.out.all.1
          clear hn hn' HRd
          go_wp2_with fail
          go_quiet ((go_at_call 153; exact Calls.quiet_of_same ((HN.out _).mono (fun _ _ h => ⟨h.1, h.2.symm⟩))))
          go_wp2
          go_ret
          exact ⟨by rw [Hno.out]; rfl, Ho.out.drewN _⟩
  | false =>
    rw [hf] at c1 HE
    clear hf
    have Hsz := jJ0 (show (Tryz.prog.info? 55).map (·.size) = some (Value.int .i64 x.count :: jB x.chain).length by rw [List.length_cons, jD, Hok.out.chain]; exact Tryz.sizeEntry)
    by_cases hz : x.count = 0 /\ x.chain = zeroD
    · have Heq := jJ0 (fun W => eq_zeroE W x.count Hok.out.count x.chain Hok.out.chain true (decide_eq_true hz))
      have HRd := jJ0 (show R = (vU x.case_ && decide (onesN x.bitmap = x.way.length)) by rw [HI.out, HE.out, if_neg (by simp), decide_eq_true hz]; rfl)
      clear hz
      go_enter Tryz.func111, Tryz.ntmps111
      go_wp2_with (first | (with_reducible refine at_load 55 (.tmp 22) ?_; refine Tryz.load_w rfl 55 (.tmp 22) rfl w.heap.size 2 rfl (.int .i64 x.count :: jB x.chain) _ Hrg.out Tryz.underlying55 rfl Hsz.out ?_) | (with_reducible refine jU 55 ?_; refine Tryz.wl_zero rfl 55 rfl _ (Tryz.zeroEntry _) ?_) | (with_reducible refine at_bin .neq 55 55 (.tmp 23) (.tmp 24) ?_; refine Tryz.wl_neq rfl 55 55 (.tmp 23) (.tmp 24) rfl _ (.int .i64 0 :: zero32).toArray rfl rfl Tryz.guardEntry true (Heq.out _) ?_) | fail)
      generalize w.alloc _ = W at *
      clear c1 c2 Hrg HI HE
      by_cases hn : vU x.case_ = true
      · have HN := jJ0 (fun W => named_any W x.case_ Hok.out.big.2)
        have HO := jJ0 (fun W => ones_any W x.bitmap Hok.out.bitmap)
        have HR := jJ0 (show R = ((onesN x.bitmap : Int) == (x.way.length : Int)) by
          rw [HRd.out, hn, Bool.true_and, Bool.eq_iff_iff]
          simp
          omega)
        rw [hn] at HN
        have hu := Tryz.underlying40
        have hi : (Tryz.prog.info? 40).map (·.size) = some (jB x.bitmap).length := by rw [jD, Hok.out.bitmap]; exact Tryz.sizeDigest
        have D := (HA.out.old (Kp.refl NoX W).drew).all
        have HAd := jJ0 (HA.out.old (Kp.refl NoX W).drew)
        generalize onesN x.bitmap = on at *
        clear hn
        go_wp2_with fail
        go_region_held3 (fun w' => w'.cell? ⟨w.heap.size, 0, none⟩ = some (.string x.case_) /\ w'.cell? ⟨w.heap.size, 67, none⟩ = some (.slice A x.way.length c) /\ w'.rangeAt w.heap.size 35 (jB x.bitmap)) (first | exact D | exact E)
          (first
            | (go_at_call 153; refine (HN.out _).mono ?_; rintro e w5 ⟨rfl, rfl⟩)
            | (go_at_call 145; refine (HO.out _).mono ?_; rintro e w6 ⟨rfl, ho6⟩; have E := (HAd.out.old ho6).all; have Ho6 := jJ0 (Ho.out.drew.old ho6))
            | fail)
        all_goals
          go_wp2
          go_ret
          exact ⟨by rw [HR.out]; rfl, Ho6.out⟩
      · have hn' : vU x.case_ = false := by simpa using hn
        have HN := jJ0 (fun W => named_any W x.case_ Hok.out.big.2)
        rw [hn'] at HN
        have Hno := jJ0 (show R = false by rw [HRd.out, hn']; rfl)
        have c0 := HA.out.all.1
        clear hn hn' HRd
        go_wp2_with fail
        go_quiet ((go_at_call 153; exact Calls.quiet_of_same ((HN.out _).mono (fun _ _ h => ⟨h.1, h.2.symm⟩))))
        go_wp2
        go_ret
        exact ⟨by rw [Hno.out]; rfl, Ho.out.drewN _⟩
    · have Heq := jJ0 (fun W => eq_zeroE W x.count Hok.out.count x.chain Hok.out.chain false (decide_eq_false hz))
      have Hno := jJ0 (show R = false by rw [HI.out, HE.out, if_neg (by simp), decide_eq_false hz]; rfl)
      clear hz
      go_enter Tryz.func111, Tryz.ntmps111
      go_wp2_with (first | (with_reducible refine at_load 55 (.tmp 22) ?_; refine Tryz.load_w rfl 55 (.tmp 22) rfl w.heap.size 2 rfl (.int .i64 x.count :: jB x.chain) _ Hrg.out Tryz.underlying55 rfl Hsz.out ?_) | (with_reducible refine jU 55 ?_; refine Tryz.wl_zero rfl 55 rfl _ (Tryz.zeroEntry _) ?_) | (with_reducible refine at_bin .neq 55 55 (.tmp 23) (.tmp 24) ?_; refine Tryz.wl_neq rfl 55 55 (.tmp 23) (.tmp 24) rfl _ (.int .i64 0 :: zero32).toArray rfl rfl Tryz.guardEntry false (Heq.out _) ?_) | fail)
      go_wp2
      go_ret
      exact ⟨by rw [Hno.out]; rfl, Ho.out⟩
def vf (x : Idx) : List UInt8 := (if x.found = true then be8 x.count ++ x.chain else []) ++ (x.bitmap ++ x.way.flatten)
def idxB (x : Idx) : Option (List UInt8) := if idxOk x = true then some (be 1 50 ++ (lp 1 (sb x.case_) ++ ([if x.found = true then 1 else 0] ++ vf x))) else none
theorem Tryz.sizeIndexed : (Tryz.prog.info? 57).map (·.size) = some 68 := by kernel_rfl
theorem idxOk_small {x : Idx} (h : idxOk x = true) : x.case_.size <= 64 := by
  unfold idxOk vU at h
  simp only [Bool.and_eq_true, decide_eq_true_eq] at h
  exact h.2.1.1
theorem encidx_any (w : World) (x : Idx) (A : Option Addr) (c : Nat) (hok : x.Ok) (hrd : Rd w 32 A x.way.length (x.way.flatMap jB)) :
    Calls Tryz.prog 60 #[.agg (x.cells A c).toArray] w (EncP w (idxB x) 70000000000) := by
  have Hok := jJ0 hok
  have Hb := jJ0 (Blk.new w 57 (x.cells A c).toArray)
  have Ho := jJ0 ((Kp.refl NoX w).alloc (.cells (x.cells A c).toArray 57))
  have Hrd := jJ0 hrd
  have Hsz := jJ0 (show (Tryz.prog.info? 57).map (·.size) = some (x.cells A c).length by rw [hok.len]; exact Tryz.sizeIndexed)
  have HX := jJ0 (fun W => indexed_any W x A c hok)
  have HI := jJ0 (show idxB x = if idxOk x = true then some (be 1 50 ++ (lp 1 (sb x.case_) ++ ([if x.found = true then 1 else 0] ++ vf x))) else none from rfl)
  have S3 := jJ0 (x.s3 A c)
  have S35 := jJ0 (hok.s35 (A := A) (c := c))
  have s0 := jJ0 (show (x.cells A c)[0]? = some (.string x.case_) from rfl)
  have s1 := jJ0 (show (x.cells A c)[1]? = some (.bool x.found) from rfl)
  have s2 := jJ0 (show (x.cells A c)[2]? = some (.int .i64 x.count) from rfl)
  have s67 := jJ0 (hok.s67 (A := A) (c := c))
  have Hs1 := jJ0 (show (Tryz.prog.info? 40).map (·.size) = some (jB x.chain).length by rw [jD, hok.chain]; exact Tryz.sizeDigest)
  have Hs2 := jJ0 (show (Tryz.prog.info? 40).map (·.size) = some (jB x.bitmap).length by rw [jD, hok.bitmap]; exact Tryz.sizeDigest)
  generalize idxB x = IB at *
  clear hok hrd
  generalize x.cells A c = cl at *
  go_enter Tryz.func60, Tryz.ntmps60
  go_wp2_with (first | (with_reducible refine at_load 57 (.tmp 1) ?_; refine Tryz.load_w rfl 57 (.tmp 1) rfl w.heap.size 0 rfl cl _ Hb.out.range Tryz.underlying57 rfl Hsz.out ?_) | fail)
  generalize w.alloc _ = W at *
  refine (HX.out W).mono ?_
  rintro e w1 ⟨rfl, ho1⟩
  have Hb1 := jJ0 (Hb.out.old ho1)
  have Ho1 := jJ0 (Ho.out.old ho1)
  clear ho1 Hb Ho HX
  by_cases hi : idxOk x = true
  · have Hfin := jJ0 (show IB = some (be 1 50 ++ (lp 1 (sb x.case_) ++ ([if x.found = true then 1 else 0] ++ vf x))) by rw [HI.out, if_pos hi])
    have hsm := idxOk_small hi
    rw [hi]
    clear hi HI
    go_wp2_with fail
    refine (kq _).mono ?_
    rintro e w3 ⟨rfl, hW3, ho3⟩
    have Hb3 := jJ0 (Hb1.out.old ho3)
    have Hr3 := jJ0 ((Hrd.out.old Ho1.out).old ho3)
    have Hav := jJ0 (Av.own (Hrd.out.old Ho1.out) (by decide) (Nat.le_refl w1.heap.size))
    have hlt := Hb1.out.lt
    have Hx := jJ0 (show ¬ WX w1.heap.size none w.heap.size from by
      rintro (e | e)
      · omega
      · cases e)
    have Ho3 := jJ0 (Ho1.out.old ho3)
    have HW3 := jJ0 hW3
    have HgO := jJ0 (show w.heap.size <= w1.heap.size from Ho1.out.size)
    clear hW3 ho3 Hb1
    generalize w1.heap.size = g at *
    go_wp2_with fail
    refine (jV _ g none [] 50 (by decide) (by decide) HW3.out (by simp)).mono ?_
    rintro e w4 ⟨rfl, hst⟩
    obtain ⟨r4, hW4, f4⟩ := hst.kf
    have F4 := jJ0 f4
    have HW4 := jJ0 hW4
    have c0 := (f4.blk Hb3.out Hx.out).at_ 0 (by rw [List.getElem?_toArray]; exact s0.out)
    clear hst hW4 f4
    go_wp2_with fail
    refine (pname_any _ g r4 _ x.case_ HW4.out (by simp [jC]) (by omega)).mono ?_
    rintro e w5 ⟨rfl, hst⟩
    obtain ⟨r5, hW5, f5⟩ := hst.kf
    have F5 := jJ0 (F4.out.trans f5)
    have HW5 := jJ0 hW5
    have c1 := (F5.out.blk Hb3.out Hx.out).at_ 1 (by rw [List.getElem?_toArray]; exact s1.out)
    have Hl5 := jJ0 (show ([] ++ be 1 ((50 : Int)).toNat ++ lp 1 (sb x.case_)).length <= 1000 by simp only [List.length_append, jC, jL, jF, List.length_nil]; omega)
    clear hst hW5 f5 F4 HW4 c0
    go_wp2_with fail
    refine (flag_any _ g r5 _ x.found HW5.out (by have := Hl5.out; omega)).mono ?_
    rintro e w6 ⟨rfl, hst⟩
    obtain ⟨r6, hW6, f6⟩ := hst.kf
    have F6 := jJ0 (F5.out.trans f6)
    have HW6 := jJ0 hW6
    have hb6 := F6.out.blk Hb3.out Hx.out
    have c1' := hb6.at_ 1 (by rw [List.getElem?_toArray]; exact s1.out)
    have c2 := hb6.at_ 2 (by rw [List.getElem?_toArray]; exact s2.out)
    have Hrg3 := jJ0 (S3.out.range hb6)
    clear hst hW6 f6 F5 HW5 c1 hb6
    cases hf : x.found with
    | true =>
      rw [hf] at c1' HW6
      simp only [if_true] at HW6
      go_wp2_with (first | (with_reducible refine at_load 40 (.tmp 26) ?_; refine Tryz.load_w rfl 40 (.tmp 26) rfl w.heap.size 3 rfl (jB x.chain) _ Hrg3.out Tryz.underlying40 rfl Hs1.out ?_) | refine Tryz.wl_dig1 rfl (.tmp 27) rfl x.chain Hok.out.chain rfl ?_ | fail)
      refine (kx _ g r6 _ x.count _ 1 1 [x.chain] rfl (fun d hd => by rw [List.mem_singleton.1 hd]; exact Hok.out.chain) (HW6.out.old ((Kp.refl _ _).alloc _)) (by have := Hl5.out; rw [List.length_append, List.length_singleton]; omega) (by omega) (by
        have := Rd.row_new w6 40 32 1 (jB x.chain) (by rw [jD, Hok.out.chain])
        simpa using this) (Av.new HW6.out)).mono ?_
      rintro e w7 ⟨rfl, hst⟩
      obtain ⟨r7, hW7, f7⟩ := hst.kf
      have F7 := jJ0 (F6.out.trans ((KF.of ((Kp.refl NoX w6).alloc _)).trans f7))
      generalize hpp : [] ++ be 1 ((50 : Int)).toNat ++ lp 1 (sb x.case_) ++ [1] ++ (be8 x.count ++ [x.chain].flatten) = pp at *
      have Hpp := jJ0 hpp
      have HW7 := jJ0 hW7
      clear hst hW7 f7 F6 HW6 c1' c2 Hrg3 hpp
      have Hl7 := jJ0 (show pp.length <= 2000 by have := Hl5.out; rw [<- Hpp.out]; simp only [List.length_append, List.length_cons, List.length_nil, jG, List.flatten_cons, List.flatten_nil, List.append_nil, Hok.out.chain] at *; omega)
      have Hrg := jJ0 (S35.out.range (F7.out.blk Hb3.out Hx.out))
      go_wp2_with (first | (with_reducible refine at_load 40 (.tmp 31) ?_; refine Tryz.load_w rfl 40 (.tmp 31) rfl w.heap.size 35 rfl (jB x.bitmap) _ Hrg.out Tryz.underlying40 rfl Hs2.out ?_) | refine Tryz.wl_dig1 rfl (.tmp 32) rfl x.bitmap Hok.out.bitmap rfl ?_ | fail)
      refine (vj _ g r7 pp _ 1 1 [x.bitmap] rfl (fun d hd => by rw [List.mem_singleton.1 hd]; exact Hok.out.bitmap) (HW7.out.old ((Kp.refl _ _).alloc _)) (by have := Hl7.out; omega) (by omega) (by
        have := Rd.row_new w7 40 32 1 (jB x.bitmap) (by rw [jD, Hok.out.bitmap])
        simpa using this) (Av.new HW7.out)).mono ?_
      rintro e w8 ⟨rfl, hst⟩
      obtain ⟨r8, hW8, f8⟩ := hst.kf
      rw [List.flatten_singleton] at hW8
      have F8 := jJ0 (F7.out.trans ((KF.of ((Kp.refl NoX w7).alloc _)).trans f8))
      have c67 := (F8.out.blk Hb3.out Hx.out).at_ 67 (by rw [List.getElem?_toArray]; exact s67.out)
      have HD := jJ0 (vj w8 g r8 _ A x.way.length c x.way rfl Hok.out.way hW8 (by have := Hl7.out; rw [List.length_append, Hok.out.bitmap]; omega) Hok.out.big.1 (F8.out.rd Hr3.out Hav.out) (F8.out.av Hr3.out (by decide) Hav.out))
      clear hst hW8 f8 F7 HW7 Hrg
      go_wp2_with fail
      refine HD.out.mono ?_
      rintro e w9 ⟨rfl, hst⟩
      obtain ⟨r9, hW9, f9⟩ := hst.kf
      have hbw := Hok.out.big.1
      have hl9 : (pp ++ x.bitmap ++ x.way.flatten).length <= 70000000000 := by
        have := Hl7.out
        rw [List.length_append, List.length_append, Hok.out.bitmap, Hok.out.way.flat]
        omega
      have Hq := jJ0 (show IB = some (pp ++ x.bitmap ++ x.way.flatten) by
        rw [Hfin.out, <- Hpp.out, vf, hf]
        simp only [if_true, List.nil_append, List.append_assoc, List.cons_append, List.flatten_cons, List.flatten_nil, List.append_nil, Option.some.injEq]
        rfl)
      generalize pp ++ x.bitmap ++ x.way.flatten = q at *
      have HO := jJ0 (show Old w w9 from Ho3.out.trans (F8.out.trans f9).kp (fun b hb hx => by
        rcases hx with hx | hx
        · have := HgO.out; omega
        · cases hx))
      clear hst f9 c67 HD hbw
      go_wp2_with fail
      refine (kP _ g r9 q hW9 (by omega)).mono ?_
      rintro e w10 ⟨A8, c8, rfl, hown, ho8⟩
      have Hend := jJ0 (show EncP w IB 70000000000 (.returned (.tuple #[.slice A8 q.length c8, .int .i64 0])) w10 from
        .inl ⟨q, A8, c8, Hq.out, hl9, rfl, Rd.of_own hown, fun hn ad e hx => own_av hown hn ad e (Nat.lt_of_lt_of_le hx HO.out.size), HO.out.old ho8⟩)
      clear hown ho8 hl9
      go_wp2
      go_ret2
      exact Hend.out
    | false =>
      rw [hf] at c1' HW6
      simp only [Bool.false_eq_true, if_false] at HW6
      obtain ⟨r7, rfl⟩ : ∃ r7, r7 = r6 := ⟨_, rfl⟩
      obtain ⟨w7, rfl⟩ : ∃ w7, w7 = w6 := ⟨_, rfl⟩
      have F7 := jJ0 F6.out
      generalize hpp : [] ++ be 1 ((50 : Int)).toNat ++ lp 1 (sb x.case_) ++ [0] = pp at *
      have Hpp := jJ0 hpp
      have HW7 := jJ0 HW6.out
      clear F6 HW6 c2 Hrg3 hpp
      have Hl7 := jJ0 (show pp.length <= 2000 by have := Hl5.out; rw [<- Hpp.out]; simp only [List.length_append, List.length_cons, List.length_nil] at *; omega)
      have Hrg := jJ0 (S35.out.range (F7.out.blk Hb3.out Hx.out))
      go_wp2_with (first | (with_reducible refine at_load 40 (.tmp 31) ?_; refine Tryz.load_w rfl 40 (.tmp 31) rfl w.heap.size 35 rfl (jB x.bitmap) _ Hrg.out Tryz.underlying40 rfl Hs2.out ?_) | refine Tryz.wl_dig1 rfl (.tmp 32) rfl x.bitmap Hok.out.bitmap rfl ?_ | fail)
      refine (vj _ g r7 pp _ 1 1 [x.bitmap] rfl (fun d hd => by rw [List.mem_singleton.1 hd]; exact Hok.out.bitmap) (HW7.out.old ((Kp.refl _ _).alloc _)) (by have := Hl7.out; omega) (by omega) (by
        have := Rd.row_new w7 40 32 1 (jB x.bitmap) (by rw [jD, Hok.out.bitmap])
        simpa using this) (Av.new HW7.out)).mono ?_
      rintro e w8 ⟨rfl, hst⟩
      obtain ⟨r8, hW8, f8⟩ := hst.kf
      rw [List.flatten_singleton] at hW8
      have F8 := jJ0 (F7.out.trans ((KF.of ((Kp.refl NoX w7).alloc _)).trans f8))
      have c67 := (F8.out.blk Hb3.out Hx.out).at_ 67 (by rw [List.getElem?_toArray]; exact s67.out)
      have HD := jJ0 (vj w8 g r8 _ A x.way.length c x.way rfl Hok.out.way hW8 (by have := Hl7.out; rw [List.length_append, Hok.out.bitmap]; omega) Hok.out.big.1 (F8.out.rd Hr3.out Hav.out) (F8.out.av Hr3.out (by decide) Hav.out))
      clear hst hW8 f8 F7 HW7 Hrg
      go_wp2_with fail
      refine HD.out.mono ?_
      rintro e w9 ⟨rfl, hst⟩
      obtain ⟨r9, hW9, f9⟩ := hst.kf
      have hbw := Hok.out.big.1
      have hl9 : (pp ++ x.bitmap ++ x.way.flatten).length <= 70000000000 := by
        have := Hl7.out
        rw [List.length_append, List.length_append, Hok.out.bitmap, Hok.out.way.flat]
        omega
      have Hq := jJ0 (show IB = some (pp ++ x.bitmap ++ x.way.flatten) by
        rw [Hfin.out, <- Hpp.out, vf, hf]
        simp only [Bool.false_eq_true, if_false, List.nil_append, List.append_assoc, List.cons_append, Option.some.injEq]
        rfl)
      generalize pp ++ x.bitmap ++ x.way.flatten = q at *
      have HO := jJ0 (show Old w w9 from Ho3.out.trans (F8.out.trans f9).kp (fun b hb hx => by
        rcases hx with hx | hx
        · have := HgO.out; omega
        · cases hx))
      clear hst f9 c67 HD hbw
      go_wp2_with fail
      refine (kP _ g r9 q hW9 (by omega)).mono ?_
      rintro e w10 ⟨A8, c8, rfl, hown, ho8⟩
      have Hend := jJ0 (show EncP w IB 70000000000 (.returned (.tuple #[.slice A8 q.length c8, .int .i64 0])) w10 from
        .inl ⟨q, A8, c8, Hq.out, hl9, rfl, Rd.of_own hown, fun hn ad e hx => own_av hown hn ad e (Nat.lt_of_lt_of_le hx HO.out.size), HO.out.old ho8⟩)
      clear hown ho8 hl9
      go_wp2
      go_ret2
      exact Hend.out
  · have Hend := jJ0 (show IB = none by rw [HI.out, if_neg hi])
    have hi' : idxOk x = false := by simpa using hi
    rw [hi']
    clear hi hi'
    go_wp2
    go_ret2
    exact .inr ⟨170, Hend.out, by decide, rfl, Ho1.out⟩
theorem Tryz.wl_eql {ops : Array Oper} {rest : List Oper} {op : Oper} {a : Act} {w : World} {Q : Exit -> Act -> World -> Prop} (hw : Region.wanted op (yielded ops a.tmps) = true) (t t' : TypeId) (x y : Operand) (ho : op.op = .binOp .eql t x y t')
    (xs ys : Array Value) (hx : a.eval x = .agg xs) (hy : a.eval y = .agg ys) (hg : Tryz.prog.eqGuardType Tryz.prog.depth t = false) (r : Bool) (hr : (Op.equalIn 10000 t (.agg xs) (.agg ys)).run Tryz.prog w = .ok r w)
    (h : wpList Tryz.prog ops Q rest (a.put op.dst (.bool r)) w) : wpList Tryz.prog ops Q (op :: rest) a w :=
  wpList_step fun K hK => by
    simp only [hw, if_true]
    unfold Oper.wp execOp
    simp only [ho, hx, hy, Sem.run_bind, run_eqGuard_agg w .eql t x y xs ys hg, run_eql_struct, hr, Result.andThen_ok]
    exact hK _ _ h
theorem Tryz.guardDigest : Tryz.prog.eqGuardType Tryz.prog.depth 40 = false := by kernel_rfl
theorem Tryz.zeroDigest (w : World) : (Instr.build 40 #[]).run Tryz.prog w = .ok (.agg zero32.toArray) w := by kernel_rfl
theorem eq_zeroDg (W : World) (d : List UInt8) (hd : d.length = 32) (r : Bool) (hr : decide (d = zeroD) = r) : (Op.equalIn 10000 40 (.agg (jB d).toArray) (.agg zero32.toArray)).run Tryz.prog W = .ok r W := by
  have h := eq_dig W d zeroD hd rfl
  rw [zero_dcells, hr] at h
  exact h
theorem headBytes_any (w : World) (s : ByteArray) (hs : s.size <= 140737488355328) : Calls Tryz.prog 155 #[.string s] w fun e w' => e = .returned (.int .i64 (54 + s.size)) /\ w = w' := by
  go_enter Tryz.func155, Tryz.ntmps155
  go_wp2
  go_ret
  exact ⟨kR (by simp; omega), rfl⟩
theorem rowBytes_any (w : World) (B : Option Addr) (n c2 : Nat) (a b : Int) (A : Option Addr) (k c : Nat) (hn : n <= 2147483647) (hk : k <= 2147483647) :
    Calls Tryz.prog 156 #[.slice B n c2, .agg #[.int .i64 a, .int .i64 b, .slice A k c]] w fun e w' => e = .returned (.int .i64 (12 + n + 32 * k)) /\ Old w w' := by
  have Ho := jJ0 ((Kp.refl NoX w).alloc (.cells #[.int .i64 a, .int .i64 b, .slice A k c] 51))
  go_enter Tryz.func156, Tryz.ntmps156
  go_wp2
  go_ret
  exact ⟨kR (by simp), Ho.out⟩
def rowOk (n : Nat) (a b : Int) (k : Nat) (size : Int) : Bool := decide (besN a b = some k /\ a = size /\ 1 <= n /\ n <= 65536)
theorem row_any (w : World) (B : Option Addr) (n c2 : Nat) (a b : Int) (A : Option Addr) (k c : Nat) (size : Int) :
    Calls Tryz.prog 157 #[.slice B n c2, .agg #[.int .i64 a, .int .i64 b, .slice A k c], .int .i64 size] w fun e w' => e = .returned (.bool (rowOk n a b k size)) /\ Old w w' := by
  have Ho := jJ0 ((Kp.refl NoX w).alloc (.cells #[.int .i64 a, .int .i64 b, .slice A k c] 51))
  have HB := jJ0 (fun W => beside_any W a b)
  have HR := jJ0 (show rowOk n a b k size = decide (besN a b = some k /\ a = size /\ 1 <= n /\ n <= 65536) from rfl)
  have Hb := jJ0 (Blk.new w 51 #[.int .i64 a, .int .i64 b, .slice A k c])
  generalize rowOk n a b k size = R at *
  go_enter Tryz.func157, Tryz.ntmps157
  go_wp2_with fail
  generalize w.alloc _ = W at *
  refine (HB.out W).mono ?_
  rintro e w1 ⟨he, rfl⟩
  have c0 := Hb.out.at_ 0 (v := .int .i64 a) rfl
  have c2' := Hb.out.at_ 2 (v := .slice A k c) rfl
  generalize besN a b = o at *
  rcases o with _ | m
  · simp only at he
    subst he
    have Hno := jJ0 (show R = false by rw [HR.out, decide_eq_false (by simp)])
    go_wp2
    go_ret
    exact ⟨by rw [Hno.out]; rfl, Ho.out⟩
  · simp only at he
    subst he
    by_cases h1 : m = k
    · subst h1
      have b1 : ((m : Int) == (m : Int)) = true := by simp
      by_cases h2 : a = size
      · subst h2
        have b2 : (a == a) = true := by simp
        by_cases h3 : 1 <= n
        · have g3 : (1 : Int) <= (n : Int) := by omega
          by_cases h4 : n <= 65536
          · have g4 : (n : Int) <= 65536 := by omega
            have Hy := jJ0 (show R = true by rw [HR.out, decide_eq_true ⟨rfl, rfl, h3, h4⟩])
            go_wp2
            go_ret
            exact ⟨by rw [Hy.out]; rfl, Ho.out⟩
          · have g4 : decide ((n : Int) <= 65536) = false := decide_eq_false (by omega)
            have Hno := jJ0 (show R = false by rw [HR.out, decide_eq_false (fun h => h4 h.2.2.2)])
            go_wp2
            go_ret
            exact ⟨by rw [Hno.out]; rfl, Ho.out⟩
        · have g3 : ¬ (1 : Int) <= (n : Int) := by omega
          have Hno := jJ0 (show R = false by rw [HR.out, decide_eq_false (fun h => h3 h.2.2.1)])
          go_wp2
          go_ret
          exact ⟨by rw [Hno.out]; rfl, Ho.out⟩
      · have b2 : (a == size) = false := by simpa using h2
        have Hno := jJ0 (show R = false by rw [HR.out, decide_eq_false (fun h => h2 h.2.1)])
        go_wp2
        go_ret
        exact ⟨by rw [Hno.out]; rfl, Ho.out⟩
    · have b1 : ((m : Int) == (k : Int)) = false := by simp; omega
      have Hno := jJ0 (show R = false by rw [HR.out, decide_eq_false (fun h => h1 (Option.some.inj h.1))])
      go_wp2
      go_ret
      exact ⟨by rw [Hno.out]; rfl, Ho.out⟩
def beginsB (s : ByteArray) (first : Int) (before : List UInt8) : Bool := vU s && decide (0 <= first /\ (0 < first \/ before = zeroD))
theorem begins_any (w : World) (s : ByteArray) (first : Int) (d : List UInt8) (hd : d.length = 32) (hs : s.size <= 9223372036854775807) :
    Calls Tryz.prog 154 #[.string s, .int .i64 first, .agg (jB d).toArray] w fun e w' => e = .returned (.bool (beginsB s first d)) /\ Old w w' := by
  have Hb := jJ0 (Blk.new w 40 (jB d).toArray)
  have Ho := jJ0 ((Kp.refl NoX w).alloc (.cells (jB d).toArray 40))
  have Hsz := jJ0 (show (Tryz.prog.info? 40).map (·.size) = some (jB d).length by rw [jD, hd]; exact Tryz.sizeDigest)
  have HN := jJ0 (fun W => named_any W s hs)
  have HR := jJ0 (show beginsB s first d = (vU s && decide (0 <= first /\ (0 < first \/ d = zeroD))) from rfl)
  have Heq := jJ0 (fun W => eq_zeroDg W d hd (decide (d = zeroD)) rfl)
  generalize beginsB s first d = R at *
  clear hs
  go_enter Tryz.func154, Tryz.ntmps154
  go_wp2_with fail
  generalize w.alloc _ = W at *
  refine (HN.out W).mono ?_
  rintro e w1 ⟨rfl, rfl⟩
  by_cases hn : vU s = true
  · rw [hn] at HR ⊢
    by_cases h0 : 0 <= first
    · by_cases h1 : 0 < first
      · have Hy := jJ0 (show R = true by rw [HR.out, decide_eq_true ⟨h0, .inl h1⟩]; rfl)
        clear hn
        go_wp2
        go_ret
        exact ⟨by rw [Hy.out]; rfl, Ho.out⟩
      · have Hy := jJ0 (show R = decide (d = zeroD) by
          rw [HR.out, Bool.true_and]
          exact decide_eq_decide.2 ⟨fun h => h.2.resolve_left h1, fun h => ⟨h0, .inr h⟩⟩)
        generalize decide (d = zeroD) = r at *
        have g1 : decide (0 < first) = false := decide_eq_false h1
        clear hn
        go_wp2_with (first | (with_reducible refine at_load 40 (.tmp 5) ?_; refine Tryz.load_w rfl 40 (.tmp 5) rfl w.heap.size 0 rfl (jB d) _ Hb.out.range Tryz.underlying40 rfl Hsz.out ?_) | (with_reducible refine jU 40 ?_; refine Tryz.wl_zero rfl 40 rfl _ (Tryz.zeroDigest _) ?_) | (with_reducible refine at_bin .eql 40 40 (.tmp 17) (.tmp 18) ?_; refine Tryz.wl_eql rfl 40 40 (.tmp 17) (.tmp 18) rfl _ zero32.toArray rfl rfl Tryz.guardDigest r (Heq.out _) ?_) | fail)
        go_ret
        exact ⟨by rw [Hy.out]; rfl, Ho.out⟩
    · have Hno := jJ0 (show R = false by rw [HR.out, decide_eq_false (fun h => h0 h.1)]; rfl)
      clear hn
      go_wp2
      go_ret
      exact ⟨by rw [Hno.out]; rfl, Ho.out⟩
  · have hn' : vU s = false := by simpa using hn
    have Hno := jJ0 (show R = false by rw [HR.out, hn']; rfl)
    rw [hn']
    clear hn hn'
    go_wp2
    go_ret
    exact ⟨by rw [Hno.out]; rfl, Ho.out⟩
def nth : List Oper -> Nat -> Option Oper
  | [], _ => none
  | o :: _, 0 => some o
  | _ :: l, i + 1 => nth l i
theorem nth_eq : ∀ (l : List Oper) (i : Nat), nth l i = l.toArray[i]?
  | [], i => by simp [nth]
  | o :: l, 0 => by simp [nth]
  | o :: l, i + 1 => by
    have := nth_eq l i
    simpa [nth] using this
section
variable {P : Program} {l : List Oper} {Q : Exit -> Act -> World -> Prop} {S : World -> Prop} {md : Region.Mode}
theorem jJ (i : Nat) {oi : Oper} {d : Option Tmp} {v : Value} {fuel : Nat} {listed : Array Bool} {a : Act} {w : World} (hi : nth l i = some oi) (hd : oi.dst = d)
    (hs : Region.noSelect l.toArray = true) (hf : Region.free md l.toArray listed i = true) (hr : (Region.ready md l.toArray listed).contains i = true)
    (hQ : ∀ c a w, Q (.panic c) (a.put oi.dst v) w -> Q (.panic c) a w) (hw : Region.wanted oi (yielded l.toArray a.tmps) = true) (hS : S w) (hy : ∀ w, S w -> (execOp a.eval oi).run P w = .ok (.value v) w)
    (h : wpAnyH P md l.toArray Q S fuel (listed.setIfInBounds i true) (a.put d v) w) : wpAnyH P md l.toArray Q S (fuel + 1) listed a w := by
  subst hd
  exact wpAnyH_take ((nth_eq l i).symm.trans hi) hs hf hr hQ (.inl ⟨hw, hy⟩) hS h
theorem yA (i : Nat) {oi : Oper} {d : Option Tmp} {fuel : Nat} {listed : Array Bool} {a : Act} {w : World} (hi : nth l i = some oi) (hd : oi.dst = d)
    (hs : Region.noSelect l.toArray = true) (hf : Region.free md l.toArray listed i = true) (hr : (Region.ready md l.toArray listed).contains i = true)
    (hQ : ∀ c a w, Q (.panic c) (a.put oi.dst undef) w -> Q (.panic c) a w) (hw : Region.wanted oi (yielded l.toArray a.tmps) = false) (hS : S w)
    (h : wpAnyH P md l.toArray Q S fuel (listed.setIfInBounds i true) (a.put d undef) w) : wpAnyH P md l.toArray Q S (fuel + 1) listed a w := by
  subst hd
  exact wpAnyH_take ((nth_eq l i).symm.trans hi) hs hf hr hQ (.inr ⟨hw, rfl⟩) hS h
theorem je (i : Nat) {oi : Oper} {fuel : Nat} {listed : Array Bool} {a : Act} {w : World} (hi : nth l i = some oi) (hr : Region.ready md l.toArray listed = [i])
    (h : ∀ K' : Act -> World -> Prop, Shut (∀ a w, S w -> (S w -> wpAnyH P md l.toArray Q S fuel (listed.setIfInBounds i true) a w) -> K' a w) -> if Region.wanted oi (yielded l.toArray a.tmps) = true then Oper.wp P oi a w K' Q else K' (a.put oi.dst undef) w) :
    wpAnyH P md l.toArray Q S (fuel + 1) listed a w :=
  wpAnyH_ready hr (by simp) (AllReadyH.cons ((nth_eq l i).symm.trans hi) h AllReadyH.nil)
end
end Go.Proofs.YtnaolhjbapgjgaaGreat
