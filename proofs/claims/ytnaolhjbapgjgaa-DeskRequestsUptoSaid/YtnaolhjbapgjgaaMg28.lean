import Derived.Test.YtnaolhjbapgjgaaMg27
/- Contract of docketref24.operation: op 4; all. -/
namespace Go.Proofs.Ytnaolhjbapgjgaa
open Go.RowKit

theorem cal {w : World} {p : Addr} {v : Value} (h : w.cell? p = some v) (o : Obj) : (w.alloc o).cell? p = some v := by
  rw [World.cell?_of_block (Below.heap_alloc w o p.block (cell_lt h))]
  exact h
/-- a row of one place that was made while another row grew -/
theorem Rd.one_kp {w w' : World} {base : Nat} {l : List UInt8} {A : Option Addr} {c : Nat} {u : Value} {t : TypeId} (h : BRow w base l A c) (hk : Kp (Just A) (w.alloc (.cells #[u] t)) w') : Rd w' 1 (some ⟨w.heap.size, 0, none⟩) 1 [u] := by
  refine (Rd.one_new w t u).kp hk (fun _ ad e hj => ?_)
  injection e with e
  subst e
  have := (h.own.lt _ (by rw [ownBlock_slice]; exact hj)).2
  simp at this

theorem Try.step_one {w : World} {ops : Array Oper} {o : Oper} {a : Act} {K : Act → World → Prop} {Q : Exit → Act → World → Prop} {E : Prop} (s x : Operand) {base : Nat} {l : List UInt8} {A : Option Addr} {c : Nat} (h : BRow w base l A c) {v : Value} {b : UInt8} (hv : v = bv b) (hl : l.length + 1 ≤ 10000000000000)
    (hgd : o.guard = none) (ho : o.op = .call { callee := .builtin .append, args := #[s, x], argTypes := #[27, 27] }) (hs : a.eval s = .slice A l.length c) (hx : a.eval x = .slice (some ⟨w.heap.size, 0, none⟩) 1 1)
    (hK : ∀ (out : List UInt8) A' c' w', Hid (out = l ++ [b]) → Grew (w.alloc (.cells #[v] 5)) base A w' out A' c' → K (a.put o.dst (.slice A' out.length c')) w') :
    if Region.wanted o (yielded ops a.tmps) = true then Oper.wp Try.prog o a (w.alloc (.cells #[v] 5)) K Q else E := by
  subst hv
  exact Try.step_bytes s x (h.alloc _) (m := [b]) (d := 1) (Rd.one_new w 5 (bv b)) hl hgd ho hs hx hK

set_option maxRecDepth 100000 in
set_option maxHeartbeats 3200000 in
theorem roper_4no (m : MOp) (w : World) (hok : m.Ok w NoX) (hop : m.op = 4) (hn : 255 < m.args.length) :
    Calls Try.prog 18 #[.agg m.cells.toArray] w (MaybeB w (opB m.data)) := by
  obtain ⟨op, case_, type_, name, value, args, argsA, argsC, source, srcA, srcC, clock⟩ := m
  obtain ⟨hbA, hbS, hbC, hbT, hbN⟩ := hok.big
  simp only [MOp.cells, MOp.data] at *
  subst hop
  have HQ := Lib.hid (show opB ⟨4, case_, type_, name, value.v, args.map (·.v), source, clock⟩ = none by simp [opB, opTail]; intro h; omega)
  generalize opB ⟨4, case_, type_, name, value.v, args.map (·.v), source, clock⟩ = TV at HQ ⊢
  have Hok := Lib.hid hok
  clear hok
  go_enter Try.func18, Try.ntmps18
  go_upto_region 13 with (fail)
  obtain ⟨hB, hb, ho⟩ := start_row w #[.int .i64 4, .string case_, .string type_, .string name, .int .i64 value.v.kind, .int .i64 value.v.n, .string value.v.t, .slice value.A value.v.s.length value.c, .slice argsA args.length argsC, .slice srcA source.length srcC, .int .i64 clock] 29 4 (.int .u8 4) rfl
  generalize (w.alloc _).alloc _ = W at *
  have HB := Lib.hid hB
  have Ho := Lib.hid ho
  have Hb := Lib.hid hb
  clear hB ho
  have d8 := hb.at_ 8 (v := .slice argsA args.length argsC) rfl
  clear hb
  have hn' : (255 : Int) < (args.length : Int) := by omega
  clear hn
  go_wp2
  go_ret
  exact .inr ⟨HQ.out, rfl, Ho.out⟩

set_option maxRecDepth 100000 in
set_option maxHeartbeats 3200000 in
theorem roper_4 (m : MOp) (w : World) (hok : m.Ok w NoX) (hop : m.op = 4) (hn : m.args.length ≤ 255) :
    Calls Try.prog 18 #[.agg m.cells.toArray] w (MaybeB w (opB m.data)) := by
  obtain ⟨op, case_, type_, name, value, args, argsA, argsC, source, srcA, srcC, clock⟩ := m
  obtain ⟨hbA, hbS, hbC, hbT, hbN⟩ := hok.big
  simp only [MOp.cells, MOp.data] at *
  subst hop
  have HQ := Lib.hid (show opB ⟨4, case_, type_, name, value.v, args.map (·.v), source, clock⟩ = if (args.all fun v => rightE v.v == 0) = true then some ((([4] ++ lp 4 (sb case_)) ++ lp 4 (sb name)) ++ [UInt8.ofNat args.length] ++ valsB (args.map (·.v))) else none by simp [opB, opTail, be, valsB, hn])
  generalize opB ⟨4, case_, type_, name, value.v, args.map (·.v), source, clock⟩ = TV at HQ ⊢
  have Hok := Lib.hid hok
  clear hok
  go_enter Try.func18, Try.ntmps18
  go_upto_region 13 with (fail)
  obtain ⟨hB, hb, ho⟩ := start_row w #[.int .i64 4, .string case_, .string type_, .string name, .int .i64 value.v.kind, .int .i64 value.v.n, .string value.v.t, .slice value.A value.v.s.length value.c, .slice argsA args.length argsC, .slice srcA source.length srcC, .int .i64 clock] 29 4 (.int .u8 4) rfl
  generalize (w.alloc _).alloc _ = W at *
  have HB := Lib.hid hB
  have Ho := Lib.hid ho
  have Hb := Lib.hid hb
  clear hB ho
  have d8 := hb.at_ 8 (v := .slice argsA args.length argsC) rfl
  have d1 := hb.at_ 1 (v := .string case_) rfl
  have d3 := hb.at_ 3 (v := .string name) rfl
  clear hb
  have hn' : (args.length : Int) ≤ 255 := by omega
  have hw8 : IntKind.u8.wrap (args.length : Int) = (args.length : Int) := by rw [IntKind.wrap_u8]; omega
  have hw9 : (args.length : Int) % 256 = (args.length : Int) := by omega
  have Hone := Lib.hid (show Value.int .u8 (args.length : Int) = bv (UInt8.ofNat args.length) by
    rw [bv_ofNat, Nat.mod_eq_of_lt (by omega)])
  have Hn := Lib.hid hn
  clear hn
  go_upto_region 15 with (fail)
  go_cut [3] (fun s3 wx => ∃ (l : List UInt8) (A' : Option Addr) (c' : Nat), s3 = .slice A' l.length c' ∧ l = (([4] ++ lp 4 (sb case_)) ++ lp 4 (sb name)) ++ [UInt8.ofNat args.length] ∧ BRow wx (w.heap.size + 1) l A' c' ∧ Kp (From (w.heap.size + 1)) W wx)
  case first =>
    have HRd1 := Lib.hid (show ∀ (X w' : World) (l : List UInt8) (A : Option Addr) (c : Nat), BRow X (w.heap.size + 1) l A c → Kp (Just A) (X.alloc (.cells #[.int .u8 (args.length : Int)] 5)) w' → Rd w' 1 (some ⟨X.heap.size, 0, none⟩) [UInt8.ofNat args.length].length (([UInt8.ofNat args.length] : List UInt8).map bv) by
      intro X w' l A c h hk
      have := Rd.one_kp h hk
      rw [Hone.out] at this
      exact this)
    have HW := Lib.hid ((Kp.refl (From (w.heap.size + 1)) W).drew)
    go_region_held3 (fun w' => w'.cell? ⟨w.heap.size, 1, none⟩ = some (.string case_) ∧ w'.cell? ⟨w.heap.size, 3, none⟩ = some (.string name) ∧ w'.cell? ⟨w.heap.size, 8, none⟩ = some (.slice argsA args.length argsC)) (first | exact ⟨d1, d3, d8⟩ | exact ⟨f1, f2, f3⟩ | exact ⟨g1, g2, g3⟩ | exact ⟨j1, j2, j3⟩ | exact ⟨cal d1 _, cal d3 _, cal d8 _⟩ | exact ⟨cal f1 _, cal f2 _, cal f3 _⟩ | exact ⟨cal g1 _, cal g2 _, cal g3 _⟩ | fail)
      (first
        | (go_at_call_of 19 (Value.string case_); refine (rtext_grew _ (w.heap.size + 1) [4] (some ⟨w.heap.size + 1, 0, none⟩) 1 case_ ?_ (by decide) hbC).mono ?_; (first | exact HB.out.drew | exact HB.out.drew.alloc _ | fail); rintro e w3 ⟨l3, A3, c3, e3, rfl, h3⟩; have k3 : Kp (From (w.heap.size + 1)) W w3 := (by first | exact HW.out.trans (h3.from_ HB.out.drew) (fun _ _ h => h) | exact (HW.out.alloc _).trans (h3.from_ (HB.out.drew.alloc _)) (fun _ _ h => h) | fail); have b3 := Hb.out.kp k3 (fun h => absurd h (Nat.not_succ_le_self _)); have f1 := b3.at_ 1 (v := .string case_) rfl; have f2 := b3.at_ 3 (v := .string name) rfl; have f3 := b3.at_ 8 (v := .slice argsA args.length argsC) rfl)
        | (go_at_call_of 19 (Value.string name); refine (rtext_grew _ (w.heap.size + 1) l3 A3 c3 name ?_ ?_ hbN).mono ?_; (first | exact h3.row | exact h3.row.alloc _ | fail); (rw [e3.out, List.length_append, lp_length, sb_length]; simp; omega); rintro e w4 ⟨l4, A4, c4, e4, rfl, h4⟩; have k4 : Kp (From (w.heap.size + 1)) W w4 := (by first | exact k3.trans (h4.from_ h3.row) (fun _ _ h => h) | exact (k3.alloc _).trans (h4.from_ (h3.row.alloc _)) (fun _ _ h => h) | fail); have b4 := Hb.out.kp k4 (fun h => absurd h (Nat.not_succ_le_self _)); have g1 := b4.at_ 1 (v := .string case_) rfl; have g2 := b4.at_ 3 (v := .string name) rfl; have g3 := b4.at_ 8 (v := .slice argsA args.length argsC) rfl)
        | (refine Try.step_one (.tmp 65) (.tmp 70) h4.row Hone.out ?_ rfl rfl rfl rfl ?_; (rw [e4.out, e3.out]; simp only [List.length_append, lp_length, sb_length, List.length_singleton]; omega); intro l5 A5 c5 w5 e5 h5; have k5 : Kp (From (w.heap.size + 1)) W w5 := (k4.alloc _).trans (h5.from_ (h4.row.alloc _)) (fun _ _ h => h); have b5 := Hb.out.kp k5 (fun h => absurd h (Nat.not_succ_le_self _)); have j1 := b5.at_ 1 (v := .string case_) rfl; have j2 := b5.at_ 3 (v := .string name) rfl; have j3 := b5.at_ 8 (v := .slice argsA args.length argsC) rfl)
        | (refine Try.step_bytes (m := [UInt8.ofNat args.length]) (.tmp 65) (.tmp 70) (d := 1) h4.row (HRd1.out _ _ _ _ _ h3.row h4.kp) ?_ rfl rfl rfl rfl ?_; (rw [e4.out, e3.out]; simp only [List.length_append, lp_length, sb_length, List.length_singleton]; omega); intro l5 A5 c5 w5 e5 h5; have k5 : Kp (From (w.heap.size + 1)) W w5 := k4.trans (h5.from_ h4.row) (fun _ _ h => h); have b5 := Hb.out.kp k5 (fun h => absurd h (Nat.not_succ_le_self _)); have j1 := b5.at_ 1 (v := .string case_) rfl; have j2 := b5.at_ 3 (v := .string name) rfl; have j3 := b5.at_ 8 (v := .slice argsA args.length argsC) rfl)
        | (refine Try.step_bytes (m := [UInt8.ofNat args.length]) (.tmp 65) (.tmp 70) (d := 1) h4.row (HRd1.out _ _ _ _ _ HB.out.drew (h3.trans h4).kp) ?_ rfl rfl rfl rfl ?_; (rw [e4.out, e3.out]; simp only [List.length_append, lp_length, sb_length, List.length_singleton]; omega); intro l5 A5 c5 w5 e5 h5; have k5 : Kp (From (w.heap.size + 1)) W w5 := k4.trans (h5.from_ h4.row) (fun _ _ h => h); have b5 := Hb.out.kp k5 (fun h => absurd h (Nat.not_succ_le_self _)); have j1 := b5.at_ 1 (v := .string case_) rfl; have j2 := b5.at_ 3 (v := .string name) rfl; have j3 := b5.at_ 8 (v := .slice argsA args.length argsC) rfl)
        | fail)
    all_goals
      have Hf := Lib.hid (show ∃ (l : List UInt8) (A' : Option Addr) (c' : Nat), Value.slice A5 l5.length c5 = .slice A' l.length c' ∧ l = (([4] ++ lp 4 (sb case_)) ++ lp 4 (sb name)) ++ [UInt8.ofNat args.length] ∧ BRow w5 (w.heap.size + 1) l A' c' ∧ Kp (From (w.heap.size + 1)) W w5 from ⟨l5, A5, c5, rfl, by rw [e5.out, e4.out, e3.out], h5.row, k5⟩)
      clear h3 h4 h5 k3 k4 k5 b3 b4 b5 f1 f2 f3 g1 g2 g3 j1 j2 j3 d1 d3 d8
      go_wp2_with fail
      go_meet
      case rel => exact Hf.out
  case rest =>
    obtain ⟨l0, A0, c0, rfl, hl0, hB0, hk0⟩ := hcut
    have Hl0 := Lib.hid hl0
    have HB0 := Lib.hid hB0
    have Hk0 := Lib.hid hk0
    have Hl0n := Lib.hid (show l0.length ≤ 4294967305 by rw [hl0]; simp only [List.length_append, lp_length, sb_length, List.length_singleton]; omega)
    clear hl0 hB0 hk0 d1 d3 d8 hw8 hw9 Hone
    go_wp2
    go_loopw [3, 6] (fun b i wr => ∃ (k : Nat) (l : List UInt8) (A3 : Option Addr) (c3 : Nat), k ≤ args.length ∧ i = .int .i64 k ∧ b = .slice A3 l.length c3 ∧ l = l0 ++ valsB ((args.map (·.v)).take k) ∧ (∀ j (hj : j < args.length), j < k → rightE args[j].v = 0) ∧ BRow wr (w.heap.size + 1) l A3 c3 ∧ Kp (From (w.heap.size + 1)) W wr) (fun _ i _ => args.length - (intOf i).toNat)
    case atStart => exact ⟨0, l0, A0, c0, Nat.zero_le _, rfl, rfl, by simp [valsB], (fun j hj h => absurd h (Nat.not_lt_zero _)), HB0.out, Hk0.out⟩
    case round =>
      obtain ⟨k, l, A3, c3, hk, rfl, rfl, hl, hright, h3, hk3⟩ := hrel
      have hvl := valsB_length (args.map (·.v)) k (by simpa using hk) (fun j hj hjk => by simpa using hright j (by simpa using hj) hjk)
      have Hright := Lib.hid hright
      have Hl := Lib.hid hl
      have H3 := Lib.hid h3
      have Hk3 := Lib.hid hk3
      have Ho3 := Lib.hid (From.old Ho.out hk3 (Nat.le_succ _))
      have Hb3 := Lib.hid (Hb.out.kp hk3 (fun h => absurd h (Nat.not_succ_le_self _)))
      have Hvl := Lib.hid (show l.length ≤ 4320467305 by rw [hl, List.length_append]; have := Hl0n.out; have := Hn.out; omega)
      clear hright hl h3 hk3 hvl
      have d8 := Hb3.out.at_ 8 (v := .slice argsA args.length argsC) rfl
      by_cases hlt : k < args.length
      · obtain ⟨b, o, hAe, q0, q1, q2, q3⟩ := (Hok.out.rdArgs.old Ho3.out).mval hlt
        simp only at hAe q0 q1 q2 q3
        subst hAe
        have hokv := (Hok.out.args args[k] (List.getElem_mem hlt)).old Ho3.out
        have Hfin := Lib.hid (show l0 ++ valsB ((args.map (·.v)).take (k + 1)) = l ++ valB args[k].v by
          rw [Hl.out, valsB_take_succ _ k (by simpa using hlt)]; simp)
        generalize hmm : args[k] = mv at q0 q1 q2 q3 hokv Hfin
        have Hmm := Lib.hid hmm
        clear hmm
        have b5 : (k : Int) ≤ 255 := by omega
        obtain ⟨⟨vk, vn, vt, vs⟩, mA, mc⟩ := mv
        simp only at q0 q1 q2 q3 Hmm
        by_cases hR : rightE ⟨vk, vn, vt, vs⟩ = 0
        · go_wp2_with fail
          refine (rvalue_any ⟨vk, vn, vt, vs⟩ mA mc _ hokv.rd hokv.big).mono ?_
          rintro e w4 (⟨_, lv, Av, cv, hlv, rfl, hv, ho4⟩ | ⟨hz, _⟩)
          case inr => exact absurd hR hz
          have hvlen : lv.length ≤ 100000 := by rw [hlv]; exact valB_length _ hR
          have Hlv := Lib.hid hlv
          have Hvlen := Lib.hid hvlen
          have H4 := Lib.hid (H3.out.old ho4)
          have Hr4 := Lib.hid hv.rd
          have Hk4 := Lib.hid (Hk3.out.old ho4)
          have HR := Lib.hid hR
          clear hv ho4 hlv hvlen hR
          go_wp2_with (at_builtin; refine Try.app_bytes (.tmp 90) (.tmp 91) H4.out Hr4.out ?_ rfl rfl rfl rfl ?_; (have h1 := Hvl.out; have h2 := Hvlen.out; omega); intro l5 A5 c5 w5 e5 h5 hk5)
          go_roundw
          case rel =>
            refine ⟨k + 1, l5, A5, c5, by omega, by go_num, rfl, by rw [e5.out, Hlv.out, Hfin.out], fun j hj hjk => ?_, h5, Hk4.out.trans hk5 (fun _ _ h => h)⟩
            by_cases e : j = k
            · subst e; rw [Hmm.out]; exact HR.out
            · exact Hright.out j hj (by omega)
          case measure => simp [intOf]; omega
        · have hRb : (rightE ⟨vk, vn, vt, vs⟩ != 0) = true := bne_iff_ne.2 hR
          have HQ2 := Lib.hid (show TV = none by
            rw [HQ.out, if_neg]
            intro h
            rw [List.all_eq_true] at h
            have := h args[k] (List.getElem_mem hlt)
            rw [Hmm.out] at this
            exact hR (by simpa using this))
          have HR := Lib.hid hR
          clear hR
          go_wp2_with fail
          refine (rvalue_any ⟨vk, vn, vt, vs⟩ mA mc _ hokv.rd hokv.big).mono ?_
          rintro e w4 (⟨hz, _⟩ | ⟨_, rfl, ho4⟩)
          · exact absurd hz HR.out
          have Ho4 := Lib.hid (Ho3.out.old ho4)
          clear ho4
          generalize rightE ⟨vk, vn, vt, vs⟩ = R at *
          go_wp2
          go_ret
          exact .inr ⟨HQ2.out, rfl, Ho4.out⟩
      · obtain rfl : k = args.length := by omega
        have HQ2 := Lib.hid (show TV = some (l0 ++ valsB (args.map (·.v))) by
          rw [HQ.out, if_pos, Hl0.out]
          rw [List.all_eq_true]
          intro v hv
          obtain ⟨j, hj, rfl⟩ := List.getElem_of_mem hv
          simpa using Hright.out j hj hj)
        go_wp2
        go_ret
        refine MaybeB.some_ HQ2.out ?_ ?_ H3.out (Nat.le_succ _) Ho3.out
        · rw [Hl.out, List.take_of_length_le (by simp)]
        · rw [Hl0.out]; simp
theorem roper_any (m : MOp) (w : World) (hok : m.Ok w NoX) :
    Calls Try.prog 18 #[.agg m.cells.toArray] w (MaybeB w (opB m.data)) := by
  by_cases h : m.op < 1 ∨ 5 < m.op
  · exact roper_far m w h
  · have hk : m.op = 1 ∨ m.op = 2 ∨ m.op = 3 ∨ m.op = 4 ∨ m.op = 5 := by omega
    rcases hk with h | h | h | h | h
    · exact roper_1 m w hok h
    · exact roper_2 m w hok h
    · by_cases hR : rightE m.value.v = 0
      · exact roper_3 m w hok h hR
      · exact roper_3no m w hok h hR
    · by_cases hn : m.args.length ≤ 255
      · exact roper_4 m w hok h hn
      · exact roper_4no m w hok h (by omega)
    · exact roper_5 m w hok h
end Go.Proofs.Ytnaolhjbapgjgaa
