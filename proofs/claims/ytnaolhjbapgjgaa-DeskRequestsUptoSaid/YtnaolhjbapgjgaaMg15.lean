import Derived.Test.YtnaolhjbapgjgaaMg10
/- Contract of desk.operation: an operation laid down. -/
namespace Go.Proofs.Ytnaolhjbapgjgaa
open Go.RowKit

set_option maxRecDepth 100000 in
set_option maxHeartbeats 1600000 in
theorem oper_far (m : MOp) (g : Nat) (r : Option Nat) (bs : List UInt8) (w : World) (hW : Wr w g r bs) (hl : bs.length ≤ 500000000000) (hok : m.Ok w (WX g r)) (hop : m.op < 1 ∨ 5 < m.op) :
    Calls Try.prog 13 #[.pointer (some ⟨g, 0, none⟩), .agg m.cells.toArray] w (OpPost w g r bs m.data) := by
  have Hl := Lib.hid hl
  clear hl
  obtain ⟨op, case_, type_, name, value, args, argsA, argsC, source, srcA, srcC, clock⟩ := m
  obtain ⟨hbA, hbS, hbC, hbT, hbN⟩ := hok.big
  simp only [MOp.cells, MOp.data] at *
  go_enter Try.func13, Try.ntmps13
  go_wp2_with fail
  have hrg : 0 ≤ IntKind.u8.wrap op ∧ IntKind.u8.wrap op ≤ 255 := by rw [IntKind.wrap_u8]; omega
  have ho : Kp NoX w (w.alloc (.cells #[.int .i64 op, .string case_, .string type_, .string name, .int .i64 value.v.kind, .int .i64 value.v.n, .string value.v.t, .slice value.A value.v.s.length value.c, .slice argsA args.length argsC, .slice srcA source.length srcC, .int .i64 clock] 29)) := (Kp.refl NoX w).alloc _
  have hb := Blk.new w 29 #[.int .i64 op, .string case_, .string type_, .string name, .int .i64 value.v.kind, .int .i64 value.v.n, .string value.v.t, .slice value.A value.v.s.length value.c, .slice argsA args.length argsC, .slice srcA source.length srcC, .int .i64 clock]
  have hW1 := hW.old ho
  refine (put8_any _ g r bs _ hrg.1 hrg.2 hW1 (Nat.le_trans Hl.out (by decide))).mono ?_
  rintro e w2 ⟨rfl, r2, hW2, hk2, hf2⟩
  have hb2 := hb.kp hk2 (wx_new hW (Nat.le_refl _))
  have hkp := (ho.mono (Y := WX g r) (fun _ _ f => f.elim)).trans hk2 (fun _ _ h => h)
  have hfr : Fr w r r2 := by
    rcases hf2 with rfl | ⟨k, rfl, hle⟩
    · exact .inl rfl
    · exact .inr ⟨k, rfl, Nat.le_trans ho.size hle⟩
  have hok2 := hok.step hkp hfr
  have hbx : ¬ WX g r2 w.heap.size := by
    rintro (e | e)
    · have := hW.lt.1; omega
    · rcases hf2 with rfl | ⟨k, rfl, hle⟩
      · exact wx_new hW (Nat.le_refl _) (.inr e)
      · injection e with e; simp at hle; omega
  have d0 := hb2.at_ 0 rfl
  have hcl : (bs ++ be 1 (IntKind.u8.wrap op).toNat).length ≤ 510000000000 := by rw [List.length_append, be_length]; have := Hl.out; omega
  have Hcl := Lib.hid hcl
  clear hcl hb hf2 hk2 hW1 ho
  have h1 : (op == 1) = false := beq_eq_false_iff_ne.2 (by omega)
  have h2 : (op == 2) = false := beq_eq_false_iff_ne.2 (by omega)
  have h3 : (op == 3) = false := beq_eq_false_iff_ne.2 (by omega)
  have h4 : (op == 4) = false := beq_eq_false_iff_ne.2 (by omega)
  have h5 : (op == 5) = false := beq_eq_false_iff_ne.2 (by omega)
  have Hop := Lib.hid hop
  clear hop
  go_wp2
  go_ret
  refine ⟨false, be 1 (IntKind.u8.wrap op).toNat, rfl, ⟨r2, hW2, hkp, hfr⟩, by rw [be_length]; omega, (fun h => by cases h), fun _ => .inl ?_⟩
  have := Hop.out
  rw [opB, opTail, if_neg (by simp only; omega), if_neg (by simp only; omega), if_neg (by simp only; omega), if_neg (by simp only; omega), if_neg (by simp only; omega)]
  rfl

set_option maxRecDepth 100000 in
set_option maxHeartbeats 1600000 in
theorem oper_5 (m : MOp) (g : Nat) (r : Option Nat) (bs : List UInt8) (w : World) (hW : Wr w g r bs) (hl : bs.length ≤ 500000000000) (hok : m.Ok w (WX g r)) (hop : m.op = 5) :
    Calls Try.prog 13 #[.pointer (some ⟨g, 0, none⟩), .agg m.cells.toArray] w (OpPost w g r bs m.data) := by
  have Hl := Lib.hid hl
  clear hl
  obtain ⟨op, case_, type_, name, value, args, argsA, argsC, source, srcA, srcC, clock⟩ := m
  obtain ⟨hbA, hbS, hbC, hbT, hbN⟩ := hok.big
  simp only [MOp.cells, MOp.data] at *
  subst hop
  go_enter Try.func13, Try.ntmps13
  go_wp2_with fail
  have ho : Kp NoX w (w.alloc (.cells #[.int .i64 5, .string case_, .string type_, .string name, .int .i64 value.v.kind, .int .i64 value.v.n, .string value.v.t, .slice value.A value.v.s.length value.c, .slice argsA args.length argsC, .slice srcA source.length srcC, .int .i64 clock] 29)) := (Kp.refl NoX w).alloc _
  have hb := Blk.new w 29 #[.int .i64 5, .string case_, .string type_, .string name, .int .i64 value.v.kind, .int .i64 value.v.n, .string value.v.t, .slice value.A value.v.s.length value.c, .slice argsA args.length argsC, .slice srcA source.length srcC, .int .i64 clock]
  have hW1 := hW.old ho
  refine (put8_any _ g r bs _ (by omega) (by omega) hW1 (Nat.le_trans Hl.out (by decide))).mono ?_
  rintro e w2 ⟨rfl, r2, hW2, hk2, hf2⟩
  have hb2 := hb.kp hk2 (wx_new hW (Nat.le_refl _))
  have hkp := (ho.mono (Y := WX g r) (fun _ _ f => f.elim)).trans hk2 (fun _ _ h => h)
  have hfr : Fr w r r2 := by
    rcases hf2 with rfl | ⟨k, rfl, hle⟩
    · exact .inl rfl
    · exact .inr ⟨k, rfl, Nat.le_trans ho.size hle⟩
  have hok2 := hok.step hkp hfr
  have hbx : ¬ WX g r2 w.heap.size := by
    rintro (e | e)
    · have := hW.lt.1; omega
    · rcases hf2 with rfl | ⟨k, rfl, hle⟩
      · exact wx_new hW (Nat.le_refl _) (.inr e)
      · injection e with e; simp at hle; omega
  have d0 := hb2.at_ 0 rfl
  have d10 := hb2.at_ 10 rfl
  have hcl : (bs ++ be 1 ((5 : Int)).toNat).length ≤ 510000000000 := by rw [List.length_append, be_length]; have := Hl.out; omega
  have Hcl := Lib.hid hcl
  clear hcl hb hf2 hk2 hW1 ho
  go_wp2_with fail
  refine (dnumber_any _ g r2 _ _ 1 1 [clock] rfl (hW2.old ((Kp.refl _ _).alloc _)) (Nat.le_trans Hcl.out (by decide)) (Rd.arr_new _ _ [.int .i64 clock]) (Av.new hW2) (by decide)).mono ?_
  rintro e w3 ⟨rfl, hst⟩
  have hst1 := WStep.after ((Kp.refl _ _).alloc _) hst
  have Hst := Lib.hid (WStep.trans hkp hfr hst1)
  clear hst hst1
  go_wp2
  go_ret
  refine ⟨true, be 1 (5 : Int).toNat ++ be8 clock, rfl, ?_, by rw [List.length_append, be_length, be8_length]; omega, fun _ => rfl, fun h => by cases h⟩
  have h := Hst.out
  simpa [nums] using h

set_option maxRecDepth 100000 in
set_option maxHeartbeats 1600000 in
theorem oper_3 (m : MOp) (g : Nat) (r : Option Nat) (bs : List UInt8) (w : World) (hW : Wr w g r bs) (hl : bs.length ≤ 500000000000) (hok : m.Ok w (WX g r)) (hop : m.op = 3) :
    Calls Try.prog 13 #[.pointer (some ⟨g, 0, none⟩), .agg m.cells.toArray] w (OpPost w g r bs m.data) := by
  have Hl := Lib.hid hl
  clear hl
  obtain ⟨op, case_, type_, name, value, args, argsA, argsC, source, srcA, srcC, clock⟩ := m
  obtain ⟨hbA, hbS, hbC, hbT, hbN⟩ := hok.big
  simp only [MOp.cells, MOp.data] at *
  subst hop
  go_enter Try.func13, Try.ntmps13
  go_wp2_with fail
  have ho : Kp NoX w (w.alloc (.cells #[.int .i64 3, .string case_, .string type_, .string name, .int .i64 value.v.kind, .int .i64 value.v.n, .string value.v.t, .slice value.A value.v.s.length value.c, .slice argsA args.length argsC, .slice srcA source.length srcC, .int .i64 clock] 29)) := (Kp.refl NoX w).alloc _
  have hb := Blk.new w 29 #[.int .i64 3, .string case_, .string type_, .string name, .int .i64 value.v.kind, .int .i64 value.v.n, .string value.v.t, .slice value.A value.v.s.length value.c, .slice argsA args.length argsC, .slice srcA source.length srcC, .int .i64 clock]
  have hW1 := hW.old ho
  refine (put8_any _ g r bs _ (by omega) (by omega) hW1 (Nat.le_trans Hl.out (by decide))).mono ?_
  rintro e w2 ⟨rfl, r2, hW2, hk2, hf2⟩
  have hb2 := hb.kp hk2 (wx_new hW (Nat.le_refl _))
  have hkp := (ho.mono (Y := WX g r) (fun _ _ f => f.elim)).trans hk2 (fun _ _ h => h)
  have hfr : Fr w r r2 := by
    rcases hf2 with rfl | ⟨k, rfl, hle⟩
    · exact .inl rfl
    · exact .inr ⟨k, rfl, Nat.le_trans ho.size hle⟩
  have hok2 := hok.step hkp hfr
  have hbx : ¬ WX g r2 w.heap.size := by
    rintro (e | e)
    · have := hW.lt.1; omega
    · rcases hf2 with rfl | ⟨k, rfl, hle⟩
      · exact wx_new hW (Nat.le_refl _) (.inr e)
      · injection e with e; simp at hle; omega
  have d0 := hb2.at_ 0 rfl
  have d1 := hb2.at_ 1 rfl
  have d3 := hb2.at_ 3 rfl
  have hcl : (bs ++ be 1 ((3 : Int)).toNat).length ≤ 510000000000 := by rw [List.length_append, be_length]; have := Hl.out; omega
  have Hcl := Lib.hid hcl
  clear hcl hb hf2 hk2 hW1 ho
  go_wp2_with fail
  refine (dtext_any _ g r2 _ _ 2 [case_, name] (hW2.old ((Kp.refl _ _).alloc _)) (Nat.le_trans Hcl.out (by decide)) (Rd.arr_new _ _ [.string case_, .string name]) (Av.new hW2) (by simp) ?_).mono ?_
  · intro k hk
    simp only [List.length_cons, List.length_nil] at hk
    have : k = 0 ∨ k = 1 := by omega
    rcases this with rfl | rfl
    · exact hbC
    · exact hbN
  intro e w3 ht
  rcases ht.two with ⟨rfl, hs1, hs2, hst⟩ | ⟨rfl, hbig, bs', hbl, hst⟩
  ·
    obtain ⟨r3, hW3, hk3, hf3⟩ := hst
    have hb3 := (hb2.alloc _).kp hk3 hbx
    have hok3 := (hok2.old ((Kp.refl _ _).alloc _)).step hk3 hf3
    have hst1 : Kp (WX g r2) w2 w3 := (((Kp.refl NoX w2).alloc _).mono (Y := WX g r2) (fun _ _ f => f.elim)).trans hk3 (fun _ _ h => h)
    have hf3' : Fr w2 r2 r3 := by
      rcases hf3 with rfl | ⟨k, rfl, hle⟩
      · exact .inl rfl
      · exact .inr ⟨k, rfl, Nat.le_trans (by simp) hle⟩
    have hcl3 : (bs ++ be 1 (3 : Int).toNat ++ (lp 4 (sb case_) ++ lp 4 (sb name))).length ≤ 520000000000 := by
      have := Hcl.out
      simp only [List.length_append, lp_length, sb_length, be_length] at *
      omega
    have Hcl3 := Lib.hid hcl3
    clear hcl3
    have e4 := hb3.at_ 4 rfl
    have e5 := hb3.at_ 5 rfl
    have e6 := hb3.at_ 6 rfl
    have e7 := hb3.at_ 7 rfl
    by_cases hR : rightE value.v = 0
    · go_wp2_with fail
      refine (putv_ok value.v value.A value.c g r3 _ _ hW3 (Nat.le_trans Hcl3.out (by decide)) hok3.value.rd hok3.value.av hok3.value.cap hok3.value.big hR).mono ?_
      rintro e w4 ⟨rfl, hst⟩
      have Hst := Lib.hid (WStep.trans hkp hfr (WStep.trans hst1 hf3' hst))
      have HR := Lib.hid hR
      clear hst hR
      go_wp2
      go_ret
      have hvl := valB_length value.v HR.out
      refine ⟨true, be 1 (3 : Int).toNat ++ (lp 4 (sb case_) ++ lp 4 (sb name) ++ valB value.v), rfl, ?_, ?_, fun _ => ?_, fun h => by cases h⟩
      · have h := Hst.out
        simpa only [List.append_assoc] using h
      · rw [List.length_append, List.length_append, List.length_append, be_length, lp_length, lp_length, sb_length, sb_length]
        omega
      · rw [opB, opTail, if_neg (by simp), if_neg (by simp), if_pos rfl, if_pos HR.out]; rfl
    · go_wp2_with fail
      refine (putv_bad value.v value.A value.c g _ hok3.value.rd hok3.value.cap hok3.value.big hR).mono ?_
      rintro e w4 ⟨rfl, ho4⟩
      have Hst := Lib.hid (WStep.trans hkp hfr (WStep.trans hst1 hf3' (hW3.step.old ho4)))
      have HR := Lib.hid hR
      have hRb : (rightE value.v == 0) = false := beq_eq_false_iff_ne.2 hR
      generalize hz : rightE value.v = z at hRb
      have Hz := Lib.hid hz
      clear hR hz
      go_wp2
      go_ret
      refine ⟨false, be 1 (3 : Int).toNat ++ (lp 4 (sb case_) ++ lp 4 (sb name)), rfl, ?_, ?_, (fun h => by cases h), fun _ => .inl ?_⟩
      · have h := Hst.out
        simpa only [List.append_assoc] using h
      · rw [List.length_append, List.length_append, be_length, lp_length, lp_length, sb_length, sb_length]
        omega
      · rw [opB, opTail, if_neg (by simp), if_neg (by simp), if_pos rfl, if_neg HR.out]; rfl
  · have hst1 := WStep.after ((Kp.refl _ _).alloc _) hst
    have Hst := Lib.hid (WStep.trans hkp hfr hst1)
    have Hbig := Lib.hid hbig
    clear hst hst1 hbig
    go_wp2
    go_ret
    refine ⟨false, be 1 (3 : Int).toNat ++ bs', rfl, by rw [← List.append_assoc]; exact Hst.out, by rw [List.length_append, be_length]; omega, (fun h => by cases h), fun _ => ?_⟩
    have hbig := Hbig.out
    by_cases hR : rightE value.v = 0
    · refine .inr ⟨_, by rw [opB, opTail, if_neg (by simp), if_neg (by simp), if_pos rfl, if_pos hR]; rfl, ?_⟩
      rw [List.length_append, List.length_append, List.length_append, be_length, lp_length, lp_length, sb_length, sb_length]
      dsimp only
      omega
    · refine .inl ?_
      rw [opB, opTail, if_neg (by simp), if_neg (by simp), if_pos rfl, if_neg hR]; rfl

set_option maxRecDepth 100000 in
set_option maxHeartbeats 1600000 in
theorem oper_1 (m : MOp) (g : Nat) (r : Option Nat) (bs : List UInt8) (w : World) (hW : Wr w g r bs) (hl : bs.length ≤ 500000000000) (hok : m.Ok w (WX g r)) (hop : m.op = 1) :
    Calls Try.prog 13 #[.pointer (some ⟨g, 0, none⟩), .agg m.cells.toArray] w (OpPost w g r bs m.data) := by
  have Hl := Lib.hid hl
  clear hl
  obtain ⟨op, case_, type_, name, value, args, argsA, argsC, source, srcA, srcC, clock⟩ := m
  obtain ⟨hbA, hbS, hbC, hbT, hbN⟩ := hok.big
  simp only [MOp.cells, MOp.data] at *
  subst hop
  go_enter Try.func13, Try.ntmps13
  go_wp2_with fail
  have ho : Kp NoX w (w.alloc (.cells #[.int .i64 1, .string case_, .string type_, .string name, .int .i64 value.v.kind, .int .i64 value.v.n, .string value.v.t, .slice value.A value.v.s.length value.c, .slice argsA args.length argsC, .slice srcA source.length srcC, .int .i64 clock] 29)) := (Kp.refl NoX w).alloc _
  have hb := Blk.new w 29 #[.int .i64 1, .string case_, .string type_, .string name, .int .i64 value.v.kind, .int .i64 value.v.n, .string value.v.t, .slice value.A value.v.s.length value.c, .slice argsA args.length argsC, .slice srcA source.length srcC, .int .i64 clock]
  have hW1 := hW.old ho
  refine (put8_any _ g r bs _ (by omega) (by omega) hW1 (Nat.le_trans Hl.out (by decide))).mono ?_
  rintro e w2 ⟨rfl, r2, hW2, hk2, hf2⟩
  have hb2 := hb.kp hk2 (wx_new hW (Nat.le_refl _))
  have hkp := (ho.mono (Y := WX g r) (fun _ _ f => f.elim)).trans hk2 (fun _ _ h => h)
  have hfr : Fr w r r2 := by
    rcases hf2 with rfl | ⟨k, rfl, hle⟩
    · exact .inl rfl
    · exact .inr ⟨k, rfl, Nat.le_trans ho.size hle⟩
  have hok2 := hok.step hkp hfr
  have hbx : ¬ WX g r2 w.heap.size := by
    rintro (e | e)
    · have := hW.lt.1; omega
    · rcases hf2 with rfl | ⟨k, rfl, hle⟩
      · exact wx_new hW (Nat.le_refl _) (.inr e)
      · injection e with e; simp at hle; omega
  have d0 := hb2.at_ 0 rfl
  have d2 := hb2.at_ 2 rfl
  have d9 := hb2.at_ 9 rfl
  have hcl : (bs ++ be 1 ((1 : Int)).toNat).length ≤ 510000000000 := by rw [List.length_append, be_length]; have := Hl.out; omega
  have Hcl := Lib.hid hcl
  clear hcl hb hf2 hk2 hW1 ho
  have hcv := fun W (h : Old w2 W) => run_conv_bs (P := Try.prog) W Try.underlying27 Try.underlying5 Try.underlying9 srcA source.length srcC source (hok2.rdSrc.old h)
  have hcv0 := hcv w2 (Kp.refl _ _)
  clear hcv
  go_wp2_with fail
  clear hcv0
  refine (dtext_any _ g r2 _ _ 2 [type_, (⟨source.toArray⟩ : ByteArray)] (hW2.old ((Kp.refl _ _).alloc _)) (Nat.le_trans Hcl.out (by decide)) (Rd.arr_new _ _ [.string type_, .string (⟨source.toArray⟩ : ByteArray)]) (Av.new hW2) (by simp) ?_).mono ?_
  · intro k hk
    simp only [List.length_cons, List.length_nil] at hk
    have : k = 0 ∨ k = 1 := by omega
    rcases this with rfl | rfl
    · exact hbT
    · exact hbS
  intro e w3 ht
  rcases ht.two with ⟨rfl, hs1, hs2, hst⟩ | ⟨rfl, hbig, bs', hbl, hst⟩
  · have hst1 := WStep.after ((Kp.refl _ _).alloc _) hst
    have Hst := Lib.hid (WStep.trans hkp hfr hst1)
    clear hst hst1
    go_wp2
    go_ret
    refine ⟨true, be 1 (1 : Int).toNat ++ (lp 4 (sb type_) ++ lp 4 (sb (⟨source.toArray⟩ : ByteArray))), rfl, by rw [← List.append_assoc]; exact Hst.out, ?_, fun _ => rfl, fun h => by cases h⟩
    rw [List.length_append, List.length_append, be_length, lp_length, lp_length, sb_length, sb_length]
    omega
  · have hst1 := WStep.after ((Kp.refl _ _).alloc _) hst
    have Hst := Lib.hid (WStep.trans hkp hfr hst1)
    have Hbig := Lib.hid hbig
    clear hst hst1 hbig
    go_wp2
    go_ret
    refine ⟨false, be 1 (1 : Int).toNat ++ bs', rfl, by rw [← List.append_assoc]; exact Hst.out, by rw [List.length_append, be_length]; omega, (fun h => by cases h), fun _ => ?_⟩
    have hbig := Hbig.out
    refine .inr ⟨_, rfl, ?_⟩
    rw [List.length_append, List.length_append, be_length, lp_length, lp_length, sb_length]
    have hsz : (⟨source.toArray⟩ : ByteArray).size = source.length := by rw [← sb_length, sb_mk]
    dsimp only
    omega


set_option maxRecDepth 100000 in
set_option maxHeartbeats 1600000 in
theorem oper_2 (m : MOp) (g : Nat) (r : Option Nat) (bs : List UInt8) (w : World) (hW : Wr w g r bs) (hl : bs.length ≤ 500000000000) (hok : m.Ok w (WX g r)) (hop : m.op = 2) :
    Calls Try.prog 13 #[.pointer (some ⟨g, 0, none⟩), .agg m.cells.toArray] w (OpPost w g r bs m.data) := by
  have Hl := Lib.hid hl
  clear hl
  obtain ⟨op, case_, type_, name, value, args, argsA, argsC, source, srcA, srcC, clock⟩ := m
  obtain ⟨hbA, hbS, hbC, hbT, hbN⟩ := hok.big
  simp only [MOp.cells, MOp.data] at *
  subst hop
  go_enter Try.func13, Try.ntmps13
  go_wp2_with fail
  have ho : Kp NoX w (w.alloc (.cells #[.int .i64 2, .string case_, .string type_, .string name, .int .i64 value.v.kind, .int .i64 value.v.n, .string value.v.t, .slice value.A value.v.s.length value.c, .slice argsA args.length argsC, .slice srcA source.length srcC, .int .i64 clock] 29)) := (Kp.refl NoX w).alloc _
  have hb := Blk.new w 29 #[.int .i64 2, .string case_, .string type_, .string name, .int .i64 value.v.kind, .int .i64 value.v.n, .string value.v.t, .slice value.A value.v.s.length value.c, .slice argsA args.length argsC, .slice srcA source.length srcC, .int .i64 clock]
  have hW1 := hW.old ho
  refine (put8_any _ g r bs _ (by omega) (by omega) hW1 (Nat.le_trans Hl.out (by decide))).mono ?_
  rintro e w2 ⟨rfl, r2, hW2, hk2, hf2⟩
  have hb2 := hb.kp hk2 (wx_new hW (Nat.le_refl _))
  have hkp := (ho.mono (Y := WX g r) (fun _ _ f => f.elim)).trans hk2 (fun _ _ h => h)
  have hfr : Fr w r r2 := by
    rcases hf2 with rfl | ⟨k, rfl, hle⟩
    · exact .inl rfl
    · exact .inr ⟨k, rfl, Nat.le_trans ho.size hle⟩
  have hok2 := hok.step hkp hfr
  have hbx : ¬ WX g r2 w.heap.size := by
    rintro (e | e)
    · have := hW.lt.1; omega
    · rcases hf2 with rfl | ⟨k, rfl, hle⟩
      · exact wx_new hW (Nat.le_refl _) (.inr e)
      · injection e with e; simp at hle; omega
  have d0 := hb2.at_ 0 rfl
  have d1 := hb2.at_ 1 rfl
  have d2 := hb2.at_ 2 rfl
  have hcl : (bs ++ be 1 ((2 : Int)).toNat).length ≤ 510000000000 := by rw [List.length_append, be_length]; have := Hl.out; omega
  have Hcl := Lib.hid hcl
  clear hcl hb hf2 hk2 hW1 ho
  go_wp2_with fail
  refine (dtext_any _ g r2 _ _ 2 [case_, type_] (hW2.old ((Kp.refl _ _).alloc _)) (Nat.le_trans Hcl.out (by decide)) (Rd.arr_new _ _ [.string case_, .string type_]) (Av.new hW2) (by simp) ?_).mono ?_
  · intro k hk
    simp only [List.length_cons, List.length_nil] at hk
    have : k = 0 ∨ k = 1 := by omega
    rcases this with rfl | rfl
    · exact hbC
    · exact hbT
  intro e w3 ht
  rcases ht.two with ⟨rfl, hs1, hs2, hst⟩ | ⟨rfl, hbig, bs', hbl, hst⟩
  · have hst1 := WStep.after ((Kp.refl _ _).alloc _) hst
    have Hst := Lib.hid (WStep.trans hkp hfr hst1)
    clear hst hst1
    go_wp2
    go_ret
    refine ⟨true, be 1 (2 : Int).toNat ++ (lp 4 (sb case_) ++ lp 4 (sb type_)), rfl, by rw [← List.append_assoc]; exact Hst.out, ?_, fun _ => rfl, fun h => by cases h⟩
    rw [List.length_append, List.length_append, be_length, lp_length, lp_length, sb_length, sb_length]
    omega
  · have hst1 := WStep.after ((Kp.refl _ _).alloc _) hst
    have Hst := Lib.hid (WStep.trans hkp hfr hst1)
    have Hbig := Lib.hid hbig
    clear hst hst1 hbig
    go_wp2
    go_ret
    refine ⟨false, be 1 (2 : Int).toNat ++ bs', rfl, by rw [← List.append_assoc]; exact Hst.out, by rw [List.length_append, be_length]; omega, (fun h => by cases h), fun _ => ?_⟩
    have hbig := Hbig.out
    refine .inr ⟨_, rfl, ?_⟩
    rw [List.length_append, List.length_append, be_length, lp_length, lp_length, sb_length, sb_length]
    dsimp only
    omega

end Go.Proofs.Ytnaolhjbapgjgaa
