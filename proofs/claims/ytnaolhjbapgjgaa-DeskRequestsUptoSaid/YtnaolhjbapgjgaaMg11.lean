import Derived.Test.YtnaolhjbapgjgaaMg01
import Derived.Test.YtnaolhjbapgjgaaMg07
import Derived.Test.YtnaolhjbapgjgaaMg09
import Derived.Test.YtnaolhjbapgjgaaMg10
import Derived.Deep.DeepCutAuto
import Derived.Laws.ResultCell
/- Contract of docketlaw24.sameOperations: operations that are alike. -/
namespace Go.Proofs.Ytnaolhjbapgjgaa
open Go.RowKit

theorem cell_old {w w' : World} {p : Addr} {v : Value} (h : w.cell? p = some v) (ho : Old w w') : w'.cell? p = some v :=
  (World.cell?_of_block (ho.block p.block (cell_lt h) (fun f => f))).trans h
/-- an operation's cells, its value's and rows' places apart -/
def opC (op : Int) (ca ty na : ByteArray) (vk vn : Int) (vt : ByteArray) (vA : Option Addr) (vl vc : Nat) (aA : Option Addr) (al aC : Nat) (sA : Option Addr) (sl sC : Nat) (clk : Int) : List Value :=
  [.int .i64 op, .string ca, .string ty, .string na, .int .i64 vk, .int .i64 vn, .string vt, .slice vA vl vc, .slice aA al aC, .slice sA sl sC, .int .i64 clk]

set_option maxRecDepth 100000 in
set_option maxHeartbeats 3200000 in
theorem sameo_eq (w : World) (op : Int) (ca ty na : ByteArray) (v : Val) (clk : Int) (src : List UInt8) (args brgs : List MVal) (vA vB aA bA sA tA : Option Addr) (vc vd aC bC sC tC : Nat)
    (h1 : MOp.Ok w NoX ⟨op, ca, ty, na, ⟨v, vA, vc⟩, args, aA, aC, src, sA, sC, clk⟩) (h2 : MOp.Ok w NoX ⟨op, ca, ty, na, ⟨v, vB, vd⟩, brgs, bA, bC, src, tA, tC, clk⟩) (hab : args.map (·.v) = brgs.map (·.v)) :
    Calls Try.prog 44 #[.agg (List.toArray [.int .i64 op, .string ca, .string ty, .string na, .int .i64 v.kind, .int .i64 v.n, .string v.t, .slice vA v.s.length vc, .slice aA args.length aC, .slice sA src.length sC, .int .i64 clk]),
      .agg (List.toArray [.int .i64 op, .string ca, .string ty, .string na, .int .i64 v.kind, .int .i64 v.n, .string v.t, .slice vB v.s.length vd, .slice bA brgs.length bC, .slice tA src.length tC, .int .i64 clk])] w fun e w' => e = .returned (.bool true) ∧ Old w w' := by
  have hlen : brgs.length = args.length := by have := congrArg List.length hab; simpa using this.symm
  have H1 := Lib.hid h1
  have H2 := Lib.hid h2
  have Hab := Lib.hid hab
  have Hl2 := Lib.hid hlen
  have hbig := h1.big.1
  simp only at hbig
  clear h1 h2 hab
  rw [hlen]
  clear hlen
  obtain ⟨vk, vn, vt, vs⟩ := v
  simp only
  have hbA := (Blk.new w 29 (List.toArray [.int .i64 op, .string ca, .string ty, .string na, .int .i64 vk, .int .i64 vn, .string vt, .slice vA vs.length vc, .slice aA args.length aC, .slice sA src.length sC, .int .i64 clk])).alloc (.cells (List.toArray [.int .i64 op, .string ca, .string ty, .string na, .int .i64 vk, .int .i64 vn, .string vt, .slice vB vs.length vd, .slice bA args.length bC, .slice tA src.length tC, .int .i64 clk]) 29)
  have hbB := Blk.new (w.alloc (.cells (List.toArray [.int .i64 op, .string ca, .string ty, .string na, .int .i64 vk, .int .i64 vn, .string vt, .slice vA vs.length vc, .slice aA args.length aC, .slice sA src.length sC, .int .i64 clk]) 29)) 29 (List.toArray [.int .i64 op, .string ca, .string ty, .string na, .int .i64 vk, .int .i64 vn, .string vt, .slice vB vs.length vd, .slice bA args.length bC, .slice tA src.length tC, .int .i64 clk])
  rw [show (w.alloc (.cells (List.toArray [.int .i64 op, .string ca, .string ty, .string na, .int .i64 vk, .int .i64 vn, .string vt, .slice vA vs.length vc, .slice aA args.length aC, .slice sA src.length sC, .int .i64 clk]) 29)).heap.size = w.heap.size + 1 by simp] at hbB
  have ho : Old w _ := ((Kp.refl NoX w).alloc (.cells (List.toArray [.int .i64 op, .string ca, .string ty, .string na, .int .i64 vk, .int .i64 vn, .string vt, .slice vA vs.length vc, .slice aA args.length aC, .slice sA src.length sC, .int .i64 clk]) 29)).alloc (.cells (List.toArray [.int .i64 op, .string ca, .string ty, .string na, .int .i64 vk, .int .i64 vn, .string vt, .slice vB vs.length vd, .slice bA args.length bC, .slice tA src.length tC, .int .i64 clk]) 29)
  have HA := Lib.hid hbA
  have HB := Lib.hid hbB
  have Ho := Lib.hid ho
  clear hbA hbB ho
  go_enter Try.func44, Try.ntmps44
  go_upto_region 1 with (fail)
  generalize (w.alloc _).alloc _ = W at *
  have a0 := HA.out.at_ 0 (v := .int .i64 op) rfl
  have a1 := HA.out.at_ 1 (v := .string ca) rfl
  have a2 := HA.out.at_ 2 (v := .string ty) rfl
  have a3 := HA.out.at_ 3 (v := .string na) rfl
  have a8 := HA.out.at_ 8 (v := .slice aA args.length aC) rfl
  have a10 := HA.out.at_ 10 (v := .int .i64 clk) rfl
  have b0 := HB.out.at_ 0 (v := .int .i64 op) rfl
  have b1 := HB.out.at_ 1 (v := .string ca) rfl
  have b2 := HB.out.at_ 2 (v := .string ty) rfl
  have b3 := HB.out.at_ 3 (v := .string na) rfl
  have b8 := HB.out.at_ 8 (v := .slice bA args.length bC) rfl
  have b10 := HB.out.at_ 10 (v := .int .i64 clk) rfl
  go_wp2_with fail
  clear a0 a1 a2 a3 a8 a10 b0 b1 b2 b3 b8 b10
  go_loopw [5] (fun i wr => ∃ j : Nat, j ≤ args.length ∧ i = .int .i64 j ∧ Old W wr) (fun i _ => args.length - (intOf i).toNat)
  case atStart => exact ⟨0, Nat.zero_le _, rfl, Kp.refl _ _⟩
  case round =>
    obtain ⟨j, hj, rfl, hor⟩ := hrel
    have a8 := cell_old (HA.out.at_ 8 (v := .slice aA args.length aC) rfl) hor
    have b8 := cell_old (HB.out.at_ 8 (v := .slice bA args.length bC) rfl) hor
    have Hor := Lib.hid hor
    have hWr := Lib.hid (Ho.out.old hor)
    clear hor
    by_cases hlt : j < args.length
    · have hlt2 : j < brgs.length := by have := Hl2.out; omega
      obtain ⟨p, o, hAe, q0, q1, q2, q3⟩ := (H1.out.rdArgs.old hWr.out).mval hlt
      obtain ⟨p', o', hBe, r0, r1, r2, r3⟩ := (H2.out.rdArgs.old hWr.out).mval hlt2
      simp only at hAe hBe q0 q1 q2 q3 r0 r1 r2 r3
      subst hAe hBe
      have hok1 := (H1.out.args args[j] (List.getElem_mem hlt)).old hWr.out
      have hok2 := (H2.out.args brgs[j] (List.getElem_mem hlt2)).old hWr.out
      have hv : args[j].v = brgs[j].v := by
        have h3 : (args.map (·.v))[j]'(by simpa using hlt) = (brgs.map (·.v))[j]'(by simpa using hlt2) := by simp only [Hab.out]
        simpa using h3
      generalize args[j] = m1 at *
      generalize brgs[j] = m2 at *
      obtain ⟨⟨k1, n1, t1, s1⟩, A1, c1⟩ := m1
      obtain ⟨⟨k2, n2, t2, s2⟩, A2, c2⟩ := m2
      simp only at hv q0 q1 q2 q3 r0 r1 r2 r3
      injection hv with e1 e2 e3 e4
      subst e1 e2 e3 e4
      have HV := Lib.hid (fun W' (hw : Old wr W') => samev_eq W' ⟨k1, n1, t1, s1⟩ A1 A2 c1 c2 (hok1.rd.old hw) (hok2.rd.old hw) hok1.big)
      simp only [vV] at HV
      clear hok1 hok2
      have g1 : (0 : Int) ≤ (j : Int) := by omega
      have g2 : (j : Int) < (args.length : Int) := by omega
      have g3 : (j : Int).toNat = j := by omega
      have g4 : (j : Int) ≤ 1000000000000 := by omega
      go_upto_region 6 with (fail)
      have HVd := Lib.hid (HV.out wr.drew (Kp.refl NoX wr).drew)
      go_region_held3 (fun w' => w'.cell? ⟨w.heap.size, 8, none⟩ = some (.slice (some ⟨p, o, none⟩) args.length aC) ∧ w'.cell? ⟨w.heap.size + 1, 8, none⟩ = some (.slice (some ⟨p', o', none⟩) args.length bC) ∧ w'.cell? ⟨p, o + j * 4, none⟩ = some (.int .i64 k1) ∧ w'.cell? ⟨p, o + j * 4 + 1, none⟩ = some (.int .i64 n1) ∧ w'.cell? ⟨p, o + j * 4 + 2, none⟩ = some (.string t1) ∧ w'.cell? ⟨p, o + j * 4 + 3, none⟩ = some (.slice A1 s1.length c1) ∧ w'.cell? ⟨p', o' + j * 4, none⟩ = some (.int .i64 k1) ∧ w'.cell? ⟨p', o' + j * 4 + 1, none⟩ = some (.int .i64 n1) ∧ w'.cell? ⟨p', o' + j * 4 + 2, none⟩ = some (.string t1) ∧ w'.cell? ⟨p', o' + j * 4 + 3, none⟩ = some (.slice A2 s1.length c2)) (first | exact ⟨a8, b8, q0, q1, q2, q3, r0, r1, r2, r3⟩ | exact ⟨cell_old a8 ho5, cell_old b8 ho5, cell_old q0 ho5, cell_old q1 ho5, cell_old q2 ho5, cell_old q3 ho5, cell_old r0 ho5, cell_old r1 ho5, cell_old r2 ho5, cell_old r3 ho5⟩ | fail)
        (first
          | (go_at_call_of 63 (Value.string t1); refine HVd.out.mono ?_; rintro e w5 ⟨rfl, ho5d⟩; have ho5 : Old wr w5 := (Kp.refl NoX wr).drew.old ho5d)
          | fail)
      have Ho5 := Lib.hid (Hor.out.old ho5)
      clear ho5 ho5d a8 b8 q0 q1 q2 q3 r0 r1 r2 r3
      go_wp2
      go_roundw
      case rel => exact ⟨j + 1, by omega, by go_num, Ho5.out⟩
      case measure => simp [intOf]; omega
    · obtain rfl : j = args.length := by omega
      have HV := Lib.hid (samev_eq wr ⟨vk, vn, vt, vs⟩ vA vB vc vd (H1.out.value.rd.old hWr.out) (H2.out.value.rd.old hWr.out) H1.out.value.big)
      have HSb := Lib.hid (fun W' (hw : Old wr W') => sameb_any W' sA tA sC tC src src ((H1.out.rdSrc.old hWr.out).old hw) ((H2.out.rdSrc.old hWr.out).old hw) (by have := H1.out.big.2.1; simp only at this; omega))
      simp only [vV] at HV
      have a4 := cell_old (HA.out.at_ 4 (v := .int .i64 vk) rfl) Hor.out
      have a5 := cell_old (HA.out.at_ 5 (v := .int .i64 vn) rfl) Hor.out
      have a6 := cell_old (HA.out.at_ 6 (v := .string vt) rfl) Hor.out
      have a7 := cell_old (HA.out.at_ 7 (v := .slice vA vs.length vc) rfl) Hor.out
      have b4 := cell_old (HB.out.at_ 4 (v := .int .i64 vk) rfl) Hor.out
      have b5 := cell_old (HB.out.at_ 5 (v := .int .i64 vn) rfl) Hor.out
      have b6 := cell_old (HB.out.at_ 6 (v := .string vt) rfl) Hor.out
      have b7 := cell_old (HB.out.at_ 7 (v := .slice vB vs.length vd) rfl) Hor.out
      have a9 := cell_old (HA.out.at_ 9 (v := .slice sA src.length sC) rfl) Hor.out
      have b9 := cell_old (HB.out.at_ 9 (v := .slice tA src.length tC) rfl) Hor.out
      go_wp2_with fail
      refine HV.out.mono ?_
      rintro e w5 ⟨rfl, ho5⟩
      have c9 := cell_old a9 ho5
      have d9 := cell_old b9 ho5
      have HS := Lib.hid (HSb.out w5 ho5)
      have Ho5 := Lib.hid (hWr.out.old ho5)
      clear a4 a5 a6 a7 b4 b5 b6 b7 a9 b9 ho5 HV HSb a8 b8
      go_wp2_with fail
      refine HS.out.mono ?_
      rintro e w6 ⟨rfl, ho6⟩
      go_wp2
      go_ret
      exact ⟨by simp, Ho5.out.old ho6⟩
end Go.Proofs.Ytnaolhjbapgjgaa

/- Contract of docketref1.TakeFlag. -/
namespace Go.Proofs.Ytnaolhjbapgjgaa
open Go.RowKit

theorem ofBe_one (b : List UInt8) (h : 0 < b.length) : ofBe (b.take 1) = (b.getD 0 0).toNat := by
  cases b with
  | nil => simp at h
  | cons x l => simp [ofBe]
set_option maxRecDepth 100000 in
set_option maxHeartbeats 400000 in
theorem rtf_no (w : World) (A : Option Addr) (c : Nat) :
    Calls Try.prog 79 #[.slice A 0 c] w fun e w' => e = .returned (.tuple #[.bool false, .int .i64 0, .int .i64 8]) ∧ w = w' := by
  go_enter Try.func79, Try.ntmps79
  go_wp2
  go_ret3
  exact ⟨rfl, rfl⟩
set_option maxRecDepth 100000 in
set_option maxHeartbeats 400000 in
theorem rtf_big (w : World) (b o c n : Nat) (y : Int) (hc : w.cell? ⟨b, o, none⟩ = some (.int .u8 y)) (hy : 1 < y) :
    Calls Try.prog 79 #[.slice (some ⟨b, o, none⟩) (n + 1) c] w fun e w' => e = .returned (.tuple #[.bool false, .int .i64 0, .int .i64 8]) ∧ w = w' := by
  have h1 : (((n + 1 : Nat) : Int) == 0) = false := beq_eq_false_iff_ne.2 (by omega)
  have h2 : (((n : Int) + 1) == 0) = false := beq_eq_false_iff_ne.2 (by omega)
  have h3 : (0 : Int) < (n : Int) + 1 := by omega
  go_enter Try.func79, Try.ntmps79
  go_wp2
  go_ret3
  exact ⟨rfl, rfl⟩
set_option maxRecDepth 100000 in
set_option maxHeartbeats 400000 in
theorem rtf_0 (w : World) (b o c n : Nat) (hc : w.cell? ⟨b, o, none⟩ = some (.int .u8 0)) :
    Calls Try.prog 79 #[.slice (some ⟨b, o, none⟩) (n + 1) c] w fun e w' => e = .returned (.tuple #[.bool false, .int .i64 1, .int .i64 0]) ∧ w = w' := by
  have h1 : (((n + 1 : Nat) : Int) == 0) = false := beq_eq_false_iff_ne.2 (by omega)
  have h2 : (((n : Int) + 1) == 0) = false := beq_eq_false_iff_ne.2 (by omega)
  have h3 : (0 : Int) < (n : Int) + 1 := by omega
  go_enter Try.func79, Try.ntmps79
  go_wp2
  go_ret3
  exact ⟨rfl, rfl⟩
set_option maxRecDepth 100000 in
set_option maxHeartbeats 400000 in
theorem rtf_1 (w : World) (b o c n : Nat) (hc : w.cell? ⟨b, o, none⟩ = some (.int .u8 1)) :
    Calls Try.prog 79 #[.slice (some ⟨b, o, none⟩) (n + 1) c] w fun e w' => e = .returned (.tuple #[.bool true, .int .i64 1, .int .i64 0]) ∧ w = w' := by
  have h1 : (((n + 1 : Nat) : Int) == 0) = false := beq_eq_false_iff_ne.2 (by omega)
  have h2 : (((n : Int) + 1) == 0) = false := beq_eq_false_iff_ne.2 (by omega)
  have h3 : (0 : Int) < (n : Int) + 1 := by omega
  go_enter Try.func79, Try.ntmps79
  go_wp2
  go_ret3
  exact ⟨rfl, rfl⟩
theorem rtf_any (w : World) (A : Option Addr) (c n : Nat) (b : List UInt8) (hr : Rd w 1 A n (b.map bv)) (hn : n = b.length) :
    Calls Try.prog 79 #[.slice A n c] w fun e w' => e = .returned (.tuple #[.bool (flagN b ⟨0, 0⟩).1, .int .i64 ((flagN b ⟨0, 0⟩).2.at_ : Int), .int .i64 (flagN b ⟨0, 0⟩).2.why]) ∧ w = w' := by
  cases n with
  | zero =>
    have hb0 : b.length < 0 + 1 := by omega
    have e : flagN b ⟨0, 0⟩ = (false, ⟨0, 8⟩) := by
      simp only [flagN, List.drop_zero]
      rw [if_neg (by simp), if_pos (.inl hb0)]
    rw [e]
    exact rtf_no w A c
  | succ n =>
    obtain ⟨bb, o, rfl, hc⟩ := hr.byte (k := 0) (by omega)
    have hb := ofBe_one b (by omega)
    simp only [Nat.add_zero] at hc
    by_cases h1 : 1 < (b.getD 0 0).toNat
    · have e : flagN b ⟨0, 0⟩ = (false, ⟨0, 8⟩) := by
        simp only [flagN, List.drop_zero, hb]
        rw [if_neg (by simp), if_pos (.inr h1)]
      rw [e]
      exact rtf_big w bb o c n _ hc (by omega)
    · have e : flagN b ⟨0, 0⟩ = ((b.getD 0 0).toNat == 1, ⟨1, 0⟩) := by
        simp only [flagN, List.drop_zero, hb]
        rw [if_neg (by simp), if_neg (by omega)]
      rw [e]
      have hy : (b.getD 0 0).toNat = 0 ∨ (b.getD 0 0).toNat = 1 := by omega
      rcases hy with h | h
      · rw [h] at hc ⊢
        exact rtf_0 w bb o c n hc
      · rw [h] at hc ⊢
        exact rtf_1 w bb o c n hc
end Go.Proofs.Ytnaolhjbapgjgaa

/- Structs that are told out of a slot in memory. -/
namespace Go.Proofs.Ytnaolhjbapgjgaa
open Go.RowKit

/-- a struct in a slot in memory, and a value, told together -/
theorem ret_cell_tmp {P : Program} {fn : Func} {R : Ending → World → Prop} {a : Act} {w : World} {p u : Tmp} {ty : TypeId} {g : Nat} {t : TypeId} {cs : Array Value} {d : TypeDesc} (h : fn.results = #[.cell p ty, .tmp u])
    (hp : a.tmps.getD p undef = .pointer (some ⟨g, 0, none⟩)) (hb : Blk w g t cs) (hu : P.underlying ty = some d) (hd : (match d with | .struct _ | .array _ _ => true | _ => false) = true) (hi : (P.info? ty).map (·.size) = some cs.size)
    (hdf : a.defers = []) (hR : R (.returned (.tuple #[.agg cs, a.tmps.getD u undef])) w) : bodyPost P fn R .ret a w := by
  refine bodyPost_ret ?_ hdf hR
  rw [results_cell_tmp h, hp]
  have hl := run_loadVar_row (P := P) w g t ty cs (0, 0) d hb hu hd hi
  simp [asAddr, hl, Result.andThen]
/-- a struct in a slot in memory, told alone -/
theorem ret_cell {P : Program} {fn : Func} {R : Ending → World → Prop} {a : Act} {w : World} {p : Tmp} {ty : TypeId} {g : Nat} {t : TypeId} {cs : Array Value} {d : TypeDesc} (h : fn.results = #[.cell p ty])
    (hp : a.tmps.getD p undef = .pointer (some ⟨g, 0, none⟩)) (hb : Blk w g t cs) (hu : P.underlying ty = some d) (hd : (match d with | .struct _ | .array _ _ => true | _ => false) = true) (hi : (P.info? ty).map (·.size) = some cs.size)
    (hdf : a.defers = []) (hR : R (.returned (.agg cs)) w) : bodyPost P fn R .ret a w := by
  refine bodyPost_ret ?_ hdf hR
  have hl := run_loadVar_row (P := P) w g t ty cs (0, 0) d hb hu hd hi
  simp only [results, h]
  simp only [Array.getD_eq_getD_getElem?] at hp
  simp [hp, asAddr, hl]
end Go.Proofs.Ytnaolhjbapgjgaa
