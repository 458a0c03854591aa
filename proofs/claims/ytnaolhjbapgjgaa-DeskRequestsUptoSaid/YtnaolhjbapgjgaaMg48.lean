import Derived.Test.YtnaolhjbapgjgaaMg11
import Derived.Test.YtnaolhjbapgjgaaMg31
import Derived.Test.YtnaolhjbapgjgaaMg47
import Derived.Deep.DeepCutAuto
/- Contract of docketlaw24.value: some number is told, nothing turns. -/
namespace Go.Proofs.Ytnaolhjbapgjgaa
open Go.RowKit

set_option maxRecDepth 100000 in
set_option maxHeartbeats 400000 in
theorem lvalue_ex (w : World) (left : Int) (v : Val) (A : Option Addr) (c : Nat) (h1 : -1 ≤ left) (h2 : left ≤ 2147483647) (hr : Rd w 1 A v.s.length (v.s.map sv)) (ht : v.t.size ≤ 2147483647) (hx : ∀ x ∈ v.s, x.size ≤ 9223372036854775807) :
    Calls Try.prog 10 #[.int .i64 left, vV v A c] w fun e w' => e = .returned (.int .i64 (textsR (roomN left (100 + (v.t.size : Int))) v.s)) ∧ Old w w' := by
  obtain ⟨k, n, t, s⟩ := v
  simp only [vV] at *
  have hR1 := roomN_le (n := 100 + (t.size : Int)) h2 (by omega)
  have HR := Lib.hid (fun W => room_any W left (100 + (t.size : Int)) h1 h2 (by omega))
  have HT := Lib.hid (fun W (ho : Old w W) => texts_any W (roomN left (100 + (t.size : Int))) A c s.length s hR1.2 hR1.1 (hr.old ho) rfl hx)
  have e100 : IntKind.i64.wrap (100 + (t.size : Int)) = 100 + (t.size : Int) := IntWalk.i64_in _ (by omega)
  have hb := Blk.new w 25 #[.int .i64 k, .int .i64 n, .string t, .slice A s.length c]
  have c2 := hb.at_ 2 (v := .string t) rfl
  have c3 := hb.at_ 3 (v := .slice A s.length c) rfl
  have Ho := Lib.hid ((Kp.refl NoX w).alloc (.cells #[.int .i64 k, .int .i64 n, .string t, .slice A s.length c] 25))
  clear hb hr hx
  go_enter Try.func10, Try.ntmps10
  go_wp2_with fail
  generalize w.alloc _ = W at *
  go_quiet (first | (go_at_call 4; refine Calls.quiet_of_same ((HR.out _).mono (fun _ _ h => ⟨h.1, h.2.symm⟩))) | (go_at_call 27; refine Calls.quiet_of_same ((HT.out _ (Ho.out.drewN _)).mono (fun _ _ h => ⟨h.1, h.2.symm⟩))) | fail)
  go_wp2
  go_ret
  exact ⟨rfl, Ho.out.drewN _⟩
end Go.Proofs.Ytnaolhjbapgjgaa

/- Contract of docketlaw24.asked: some number is told, nothing turns. -/
namespace Go.Proofs.Ytnaolhjbapgjgaa
open Go.RowKit

/-- small texts in a value -/
def smallV (v : Val) : Prop := v.t.size ≤ 2147483647 ∧ ∀ x ∈ v.s, x.size ≤ 9223372036854775807
theorem lval_le {left : Int} {v : Val} (h2 : left ≤ 2147483647) : -1 ≤ textsR (roomN left (100 + (v.t.size : Int))) v.s ∧ textsR (roomN left (100 + (v.t.size : Int))) v.s ≤ 2147483647 := by
  have a := roomN_le (n := 100 + (v.t.size : Int)) h2 (by omega)
  exact textsR_le _ _ a.2 a.1
/-- a number within bounds is told, nothing turns -/
def SomeNum (w : World) (e : Ending) (w' : World) : Prop := ∃ r : Int, e = .returned (.int .i64 r) ∧ -1 ≤ r ∧ r ≤ 2147483647 ∧ Old w w'
theorem lvalue_some (w : World) (left : Int) (v : Val) (A : Option Addr) (c : Nat) (h1 : -1 ≤ left) (h2 : left ≤ 2147483647) (hr : Rd w 1 A v.s.length (v.s.map sv)) (hs : smallV v) :
    Calls Try.prog 10 #[.int .i64 left, vV v A c] w (SomeNum w) := by
  refine (lvalue_ex w left v A c h1 h2 hr hs.1 hs.2).mono ?_
  rintro e w' ⟨rfl, ho⟩
  exact ⟨_, rfl, (lval_le h2).1, (lval_le h2).2, ho⟩
theorem room_some (w : World) (left n : Int) (h1 : -1 ≤ left) (h2 : left ≤ 2147483647) (hn : 0 ≤ n) : Calls Try.prog 4 #[.int .i64 left, .int .i64 n] w fun e w' => ∃ r : Int, e = .returned (.int .i64 r) ∧ -1 ≤ r ∧ r ≤ 2147483647 ∧ w = w' := by
  refine (room_any w left n h1 h2 hn).mono ?_
  rintro e w' ⟨rfl, rfl⟩
  exact ⟨_, rfl, (roomN_le h2 hn).2, (roomN_le h2 hn).1, rfl⟩

set_option maxRecDepth 100000 in
set_option maxHeartbeats 1600000 in
theorem asked_some (w : World) (m : MReq) (hok : m.Ok w) (hv : smallV m.do_.value.v) (ha : ∀ v ∈ m.do_.args, smallV v.v) :
    Calls Try.prog 5 #[.int .i64 2147483647, .agg m.cells.toArray] w (SomeNum w) := by
  obtain ⟨op, ⟨dop, ca, ty, na, ⟨⟨vk, vn, vt, vs⟩, vA, vc⟩, args, aA, aC, src, sA, sC, clk⟩, nm, no, si, fr, to_, fi⟩ := m
  obtain ⟨hokd, hnm⟩ := hok
  simp only at hokd hnm hv ha
  obtain ⟨hbA, hbS, hbC, hbT, hbN⟩ := hokd.big
  simp only at hbA hbS hbC hbT hbN
  simp only [MReq.cells, MOp.cells, List.cons_append, List.nil_append]
  have hb := Blk.new w 31 (List.toArray [.int .i64 op, .int .i64 dop, .string ca, .string ty, .string na, .int .i64 vk, .int .i64 vn, .string vt, .slice vA vs.length vc, .slice aA args.length aC, .slice sA src.length sC, .int .i64 clk, .string nm, .int .i64 no, .int .i64 si, .int .i64 fr, .int .i64 to_, .int .i64 fi])
  have Ho := Lib.hid ((Kp.refl NoX w).alloc (.cells (List.toArray [.int .i64 op, .int .i64 dop, .string ca, .string ty, .string na, .int .i64 vk, .int .i64 vn, .string vt, .slice vA vs.length vc, .slice aA args.length aC, .slice sA src.length sC, .int .i64 clk, .string nm, .int .i64 no, .int .i64 si, .int .i64 fr, .int .i64 to_, .int .i64 fi]) 31))
  have Hok := Lib.hid hokd
  have Hv := Lib.hid hv
  have Ha := Lib.hid ha
  have Hb := Lib.hid hb
  clear hokd hv ha hb
  go_enter Try.func5, Try.ntmps5
  go_upto_region 1 with (fail)
  generalize w.alloc _ = W at *
  have c12 := Hb.out.at_ 12 (v := .string nm) rfl
  have c2 := Hb.out.at_ 2 (v := .string ca) rfl
  have c3 := Hb.out.at_ 3 (v := .string ty) rfl
  have c4 := Hb.out.at_ 4 (v := .string na) rfl
  have c10 := Hb.out.at_ 10 (v := .slice sA src.length sC) rfl
  have c5 := Hb.out.at_ 5 (v := .int .i64 vk) rfl
  have c6 := Hb.out.at_ 6 (v := .int .i64 vn) rfl
  have c7 := Hb.out.at_ 7 (v := .string vt) rfl
  have c8 := Hb.out.at_ 8 (v := .slice vA vs.length vc) rfl
  have e1 : IntKind.i64.wrap (100 + (nm.size : Int)) = 100 + (nm.size : Int) := IntWalk.i64_in _ (by omega)
  have e2 : IntKind.i64.wrap ((ca.size : Int) + (ty.size : Int)) = (ca.size : Int) + (ty.size : Int) := IntWalk.i64_in _ (by omega)
  have e3 : IntKind.i64.wrap ((na.size : Int) + (src.length : Int)) = (na.size : Int) + (src.length : Int) := IntWalk.i64_in _ (by omega)
  go_wp2_with fail
  refine (room_some W 2147483647 (100 + (nm.size : Int)) (by decide) (by decide) (by omega)).mono ?_
  rintro e w' ⟨r1, rfl, h1, h1', rfl⟩
  go_wp2_with fail
  refine (room_some W r1 ((ca.size : Int) + (ty.size : Int)) h1 h1' (by omega)).mono ?_
  rintro e w' ⟨r2, rfl, h2, h2', rfl⟩
  go_wp2_with fail
  refine (room_some W r2 ((na.size : Int) + (src.length : Int)) h2 h2' (by omega)).mono ?_
  rintro e w' ⟨r3, rfl, h3, h3', rfl⟩
  have HV := Lib.hid (lvalue_some W r3 ⟨vk, vn, vt, vs⟩ vA vc h3 h3' (Hok.out.value.rd.old Ho.out) Hv.out)
  simp only [vV] at HV
  go_wp2_with fail
  refine HV.out.mono ?_
  rintro e w2 ⟨r4, rfl, h4, h4', ho2⟩
  have Ho2 := Lib.hid ho2
  clear ho2 c12 c2 c3 c4 c10 c5 c6 c7 c8 e1 e2 e3
  go_wp2_with fail
  go_loopw [0, 5] (fun x i wr => ∃ (j : Nat) (r : Int), j ≤ args.length ∧ i = .int .i64 j ∧ x = .int .i64 r ∧ -1 ≤ r ∧ r ≤ 2147483647 ∧ Old W wr) (fun _ i _ => args.length - (intOf i).toNat)
  case atStart => exact ⟨0, r4, Nat.zero_le _, rfl, rfl, h4, h4', Ho2.out⟩
  case round =>
    obtain ⟨j, r, hj, rfl, rfl, hr1, hr2, hor⟩ := hrel
    have c9 := cell_old (Hb.out.at_ 9 (v := .slice aA args.length aC) rfl) hor
    have Hor := Lib.hid hor
    have Howr := Lib.hid (Ho.out.old hor)
    clear hor
    have hjb : (j : Int) ≤ 1000000000000 := by omega
    by_cases hlt : j < args.length
    · have hltI : (j : Int) < (args.length : Int) := by omega
      by_cases hneg : r < 0
      · have hge : ¬ (0 : Int) ≤ r := by omega
        go_wp2
        go_ret
        exact ⟨r, rfl, hr1, hr2, Howr.out⟩
      · have hge : (0 : Int) ≤ r := by omega
        obtain ⟨p, o, hAe, q0, q1, q2, q3⟩ := (Hok.out.rdArgs.old Howr.out).mval hlt
        simp only at hAe q0 q1 q2 q3
        subst hAe
        have hokv := (Hok.out.args args[j] (List.getElem_mem hlt)).old Howr.out
        have hsm := Ha.out args[j] (List.getElem_mem hlt)
        generalize args[j] = mv at *
        obtain ⟨⟨k1, n1, t1, s1⟩, A1, c1⟩ := mv
        simp only at q0 q1 q2 q3 hsm
        have HV1 := Lib.hid (lvalue_some wr r ⟨k1, n1, t1, s1⟩ A1 c1 hr1 hr2 hokv.rd hsm)
        simp only [vV] at HV1
        clear hokv hsm
        go_wp2_with fail
        refine HV1.out.mono ?_
        rintro e w5 ⟨r5, rfl, h5, h5', ho5⟩
        have Ho5 := Lib.hid (Hor.out.old ho5)
        clear ho5 q0 q1 q2 q3 c9
        go_wp2
        go_roundw
        case rel => exact ⟨j + 1, r5, by omega, by go_num, rfl, h5, h5', Ho5.out⟩
        case measure => simp [intOf]; omega
    · obtain rfl : j = args.length := by omega
      go_wp2
      go_ret
      exact ⟨r, rfl, hr1, hr2, Howr.out⟩
end Go.Proofs.Ytnaolhjbapgjgaa
