import Derived.Test.YtnaolhjbapgjgaaMg28
/- Contract of docketref24.Request: ops without fields, 3, 4. -/
namespace Go.Proofs.Ytnaolhjbapgjgaa
open Go.RowKit

set_option maxRecDepth 100000 in
set_option maxHeartbeats 3200000 in
theorem rreq_5 (m : MReq) (w : World) (hok : m.Ok w) (hop : m.op = 5) :
    Calls Try.prog 7 #[.agg m.cells.toArray] w (MaybeB w (encReq m.data)) := by
  obtain ⟨op, do_, name, number, size, from_, to_, first⟩ := m
  simp only [MReq.cells, MOp.cells, MReq.data, List.cons_append, List.nil_append] at *
  subst hop
  obtain ⟨hokd, hname⟩ := hok
  simp only at hokd hname
  have HQ := Lib.hid (show reqB ⟨5, do_.data, name, number, size, from_, to_, first⟩ = some ([5]) by
    rw [reqB, reqTail, if_neg (by simp), if_neg (by simp), if_neg (by simp), if_pos (by simp)]
    simp [be])
  have HE := Lib.hid (show ∀ l : List UInt8, l = [5] → encReq ⟨5, do_.data, name, number, size, from_, to_, first⟩ = if l.length ≤ 1048576 then some l else none from fun l hl => by
    subst hl
    by_cases h : ([5] : List UInt8).length ≤ 1048576
    · rw [encReq_of HQ.out h, if_pos h]
    · rw [encReq_long HQ.out (by omega), if_neg h])
  clear HQ
  generalize encReq ⟨5, do_.data, name, number, size, from_, to_, first⟩ = TV at HE ⊢
  go_enter Try.func7, Try.ntmps7
  go_upto_region 26 with (fail)
  obtain ⟨hB, hb, ho⟩ := start_row w #[.int .i64 5, .int .i64 do_.op, .string do_.case_, .string do_.type_, .string do_.name, .int .i64 do_.value.v.kind, .int .i64 do_.value.v.n, .string do_.value.v.t, .slice do_.value.A do_.value.v.s.length do_.value.c, .slice do_.argsA do_.args.length do_.argsC, .slice do_.srcA do_.source.length do_.srcC, .int .i64 do_.clock, .string name, .int .i64 number, .int .i64 size, .int .i64 from_, .int .i64 to_, .int .i64 first] 31 5 (.int .u8 5) rfl
  generalize (w.alloc _).alloc _ = W at *
  have HB := Lib.hid hB
  have Ho := Lib.hid ho
  have Hb := Lib.hid hb
  clear hB ho
  have Hoz := Ho
  have H := HB
  clear hb
  have HF := Lib.hid (HE.out [5] rfl)
  go_wp2
  go_ret
  exact MaybeB.some_ (HF.out.trans (if_pos (by decide))) rfl (by simp) H.out (Nat.le_succ _) Hoz.out

set_option maxRecDepth 100000 in
set_option maxHeartbeats 3200000 in
theorem rreq_6 (m : MReq) (w : World) (hok : m.Ok w) (hop : m.op = 6) :
    Calls Try.prog 7 #[.agg m.cells.toArray] w (MaybeB w (encReq m.data)) := by
  obtain ⟨op, do_, name, number, size, from_, to_, first⟩ := m
  simp only [MReq.cells, MOp.cells, MReq.data, List.cons_append, List.nil_append] at *
  subst hop
  obtain ⟨hokd, hname⟩ := hok
  simp only at hokd hname
  have HQ := Lib.hid (show reqB ⟨6, do_.data, name, number, size, from_, to_, first⟩ = some ([6]) by
    rw [reqB, reqTail, if_neg (by simp), if_neg (by simp), if_neg (by simp), if_pos (by simp)]
    simp [be])
  have HE := Lib.hid (show ∀ l : List UInt8, l = [6] → encReq ⟨6, do_.data, name, number, size, from_, to_, first⟩ = if l.length ≤ 1048576 then some l else none from fun l hl => by
    subst hl
    by_cases h : ([6] : List UInt8).length ≤ 1048576
    · rw [encReq_of HQ.out h, if_pos h]
    · rw [encReq_long HQ.out (by omega), if_neg h])
  clear HQ
  generalize encReq ⟨6, do_.data, name, number, size, from_, to_, first⟩ = TV at HE ⊢
  go_enter Try.func7, Try.ntmps7
  go_upto_region 26 with (fail)
  obtain ⟨hB, hb, ho⟩ := start_row w #[.int .i64 6, .int .i64 do_.op, .string do_.case_, .string do_.type_, .string do_.name, .int .i64 do_.value.v.kind, .int .i64 do_.value.v.n, .string do_.value.v.t, .slice do_.value.A do_.value.v.s.length do_.value.c, .slice do_.argsA do_.args.length do_.argsC, .slice do_.srcA do_.source.length do_.srcC, .int .i64 do_.clock, .string name, .int .i64 number, .int .i64 size, .int .i64 from_, .int .i64 to_, .int .i64 first] 31 6 (.int .u8 6) rfl
  generalize (w.alloc _).alloc _ = W at *
  have HB := Lib.hid hB
  have Ho := Lib.hid ho
  have Hb := Lib.hid hb
  clear hB ho
  have Hoz := Ho
  have H := HB
  clear hb
  have HF := Lib.hid (HE.out [6] rfl)
  go_wp2
  go_ret
  exact MaybeB.some_ (HF.out.trans (if_pos (by decide))) rfl (by simp) H.out (Nat.le_succ _) Hoz.out

set_option maxRecDepth 100000 in
set_option maxHeartbeats 3200000 in
theorem rreq_7 (m : MReq) (w : World) (hok : m.Ok w) (hop : m.op = 7) :
    Calls Try.prog 7 #[.agg m.cells.toArray] w (MaybeB w (encReq m.data)) := by
  obtain ⟨op, do_, name, number, size, from_, to_, first⟩ := m
  simp only [MReq.cells, MOp.cells, MReq.data, List.cons_append, List.nil_append] at *
  subst hop
  obtain ⟨hokd, hname⟩ := hok
  simp only at hokd hname
  have HQ := Lib.hid (show reqB ⟨7, do_.data, name, number, size, from_, to_, first⟩ = some ([7]) by
    rw [reqB, reqTail, if_neg (by simp), if_neg (by simp), if_neg (by simp), if_pos (by simp)]
    simp [be])
  have HE := Lib.hid (show ∀ l : List UInt8, l = [7] → encReq ⟨7, do_.data, name, number, size, from_, to_, first⟩ = if l.length ≤ 1048576 then some l else none from fun l hl => by
    subst hl
    by_cases h : ([7] : List UInt8).length ≤ 1048576
    · rw [encReq_of HQ.out h, if_pos h]
    · rw [encReq_long HQ.out (by omega), if_neg h])
  clear HQ
  generalize encReq ⟨7, do_.data, name, number, size, from_, to_, first⟩ = TV at HE ⊢
  go_enter Try.func7, Try.ntmps7
  go_upto_region 26 with (fail)
  obtain ⟨hB, hb, ho⟩ := start_row w #[.int .i64 7, .int .i64 do_.op, .string do_.case_, .string do_.type_, .string do_.name, .int .i64 do_.value.v.kind, .int .i64 do_.value.v.n, .string do_.value.v.t, .slice do_.value.A do_.value.v.s.length do_.value.c, .slice do_.argsA do_.args.length do_.argsC, .slice do_.srcA do_.source.length do_.srcC, .int .i64 do_.clock, .string name, .int .i64 number, .int .i64 size, .int .i64 from_, .int .i64 to_, .int .i64 first] 31 7 (.int .u8 7) rfl
  generalize (w.alloc _).alloc _ = W at *
  have HB := Lib.hid hB
  have Ho := Lib.hid ho
  have Hb := Lib.hid hb
  clear hB ho
  have Hoz := Ho
  have H := HB
  clear hb
  have HF := Lib.hid (HE.out [7] rfl)
  go_wp2
  go_ret
  exact MaybeB.some_ (HF.out.trans (if_pos (by decide))) rfl (by simp) H.out (Nat.le_succ _) Hoz.out

set_option maxRecDepth 100000 in
set_option maxHeartbeats 3200000 in
theorem rreq_12 (m : MReq) (w : World) (hok : m.Ok w) (hop : m.op = 12) :
    Calls Try.prog 7 #[.agg m.cells.toArray] w (MaybeB w (encReq m.data)) := by
  obtain ⟨op, do_, name, number, size, from_, to_, first⟩ := m
  simp only [MReq.cells, MOp.cells, MReq.data, List.cons_append, List.nil_append] at *
  subst hop
  obtain ⟨hokd, hname⟩ := hok
  simp only at hokd hname
  have HQ := Lib.hid (show reqB ⟨12, do_.data, name, number, size, from_, to_, first⟩ = some ([12]) by
    rw [reqB, reqTail, if_neg (by simp), if_neg (by simp), if_neg (by simp), if_pos (by simp)]
    simp [be])
  have HE := Lib.hid (show ∀ l : List UInt8, l = [12] → encReq ⟨12, do_.data, name, number, size, from_, to_, first⟩ = if l.length ≤ 1048576 then some l else none from fun l hl => by
    subst hl
    by_cases h : ([12] : List UInt8).length ≤ 1048576
    · rw [encReq_of HQ.out h, if_pos h]
    · rw [encReq_long HQ.out (by omega), if_neg h])
  clear HQ
  generalize encReq ⟨12, do_.data, name, number, size, from_, to_, first⟩ = TV at HE ⊢
  go_enter Try.func7, Try.ntmps7
  go_upto_region 26 with (fail)
  obtain ⟨hB, hb, ho⟩ := start_row w #[.int .i64 12, .int .i64 do_.op, .string do_.case_, .string do_.type_, .string do_.name, .int .i64 do_.value.v.kind, .int .i64 do_.value.v.n, .string do_.value.v.t, .slice do_.value.A do_.value.v.s.length do_.value.c, .slice do_.argsA do_.args.length do_.argsC, .slice do_.srcA do_.source.length do_.srcC, .int .i64 do_.clock, .string name, .int .i64 number, .int .i64 size, .int .i64 from_, .int .i64 to_, .int .i64 first] 31 12 (.int .u8 12) rfl
  generalize (w.alloc _).alloc _ = W at *
  have HB := Lib.hid hB
  have Ho := Lib.hid ho
  have Hb := Lib.hid hb
  clear hB ho
  have Hoz := Ho
  have H := HB
  clear hb
  have HF := Lib.hid (HE.out [12] rfl)
  go_wp2
  go_ret
  exact MaybeB.some_ (HF.out.trans (if_pos (by decide))) rfl (by simp) H.out (Nat.le_succ _) Hoz.out

set_option maxRecDepth 100000 in
set_option maxHeartbeats 1600000 in
theorem rreq_far (m : MReq) (w : World) (hop : m.op < 1 ∨ 12 < m.op) :
    Calls Try.prog 7 #[.agg m.cells.toArray] w (MaybeB w (encReq m.data)) := by
  have HQ := Lib.hid (show encReq m.data = none by
    refine encReq_none ?_
    have : m.data.op = m.op := rfl
    rw [reqTail, this, if_neg (by omega), if_neg (by omega), if_neg (by omega), if_neg (by omega), if_neg (by omega), if_neg (by omega), if_neg (by omega), if_neg (by omega)])
  generalize encReq m.data = TV at HQ ⊢
  obtain ⟨op, do_, name, number, size, from_, to_, first⟩ := m
  simp only [MReq.cells, MOp.cells, List.cons_append, List.nil_append] at *
  have n1 : (op == 1) = false := beq_eq_false_iff_ne.2 (by omega)
  have n2 : (op == 2) = false := beq_eq_false_iff_ne.2 (by omega)
  have n3 : (op == 3) = false := beq_eq_false_iff_ne.2 (by omega)
  have n4 : (op == 4) = false := beq_eq_false_iff_ne.2 (by omega)
  have n5 : (op == 5) = false := beq_eq_false_iff_ne.2 (by omega)
  have n6 : (op == 6) = false := beq_eq_false_iff_ne.2 (by omega)
  have n7 : (op == 7) = false := beq_eq_false_iff_ne.2 (by omega)
  have n8 : (op == 8) = false := beq_eq_false_iff_ne.2 (by omega)
  have n9 : (op == 9) = false := beq_eq_false_iff_ne.2 (by omega)
  have n10 : (op == 10) = false := beq_eq_false_iff_ne.2 (by omega)
  have n11 : (op == 11) = false := beq_eq_false_iff_ne.2 (by omega)
  have n12 : (op == 12) = false := beq_eq_false_iff_ne.2 (by omega)
  clear hop
  go_enter Try.func7, Try.ntmps7
  go_wp2
  go_ret
  exact .inr ⟨HQ.out, rfl, ((Kp.refl NoX w).alloc _).alloc _⟩

set_option maxRecDepth 100000 in
set_option maxHeartbeats 3200000 in
theorem rreq_3 (m : MReq) (w : World) (hok : m.Ok w) (hop : m.op = 3) :
    Calls Try.prog 7 #[.agg m.cells.toArray] w (MaybeB w (encReq m.data)) := by
  obtain ⟨op, do_, name, number, size, from_, to_, first⟩ := m
  simp only [MReq.cells, MOp.cells, MReq.data, List.cons_append, List.nil_append] at *
  subst hop
  obtain ⟨hokd, hname⟩ := hok
  simp only at hokd hname
  have HQ := Lib.hid (show reqB ⟨3, do_.data, name, number, size, from_, to_, first⟩ = some ([3] ++ lp 4 (sb name)) by
    rw [reqB, reqTail, if_neg (by simp), if_pos (by simp)]
    simp [be])
  have HE := Lib.hid (show ∀ l : List UInt8, l = [3] ++ lp 4 (sb name) → encReq ⟨3, do_.data, name, number, size, from_, to_, first⟩ = if l.length ≤ 1048576 then some l else none from fun l hl => by
    subst hl
    by_cases h : ([3] ++ lp 4 (sb name) : List UInt8).length ≤ 1048576
    · rw [encReq_of HQ.out h, if_pos h]
    · rw [encReq_long HQ.out (by omega), if_neg h])
  clear HQ
  generalize encReq ⟨3, do_.data, name, number, size, from_, to_, first⟩ = TV at HE ⊢
  go_enter Try.func7, Try.ntmps7
  go_upto_region 11 with (fail)
  obtain ⟨hB, hb, ho⟩ := start_row w #[.int .i64 3, .int .i64 do_.op, .string do_.case_, .string do_.type_, .string do_.name, .int .i64 do_.value.v.kind, .int .i64 do_.value.v.n, .string do_.value.v.t, .slice do_.value.A do_.value.v.s.length do_.value.c, .slice do_.argsA do_.args.length do_.argsC, .slice do_.srcA do_.source.length do_.srcC, .int .i64 do_.clock, .string name, .int .i64 number, .int .i64 size, .int .i64 from_, .int .i64 to_, .int .i64 first] 31 3 (.int .u8 3) rfl
  generalize (w.alloc _).alloc _ = W at *
  have HB := Lib.hid hB
  have Ho := Lib.hid ho
  have Hb := Lib.hid hb
  clear hB ho
  have d12 := hb.at_ 12 (v := .string name) rfl
  clear hb
  go_wp2_with fail
  refine (rtext_row W (w.heap.size + 1) [3] (some ⟨w.heap.size + 1, 0, none⟩) 1 name HB.out (by decide) hname).mono ?_
  rintro e w3 ⟨l, A3, c3, e3, rfl, h3, hk3⟩
  have H := Lib.hid h3
  have Hl := e3
  have Hoz := Lib.hid (From.old Ho.out hk3 (Nat.le_succ _))
  clear h3 hk3
  by_cases hlen : l.length ≤ 1048576
  · have hl1 : ¬ ((1048576 : Int) < (l.length : Int)) := by omega
    have HF := Lib.hid (HE.out l Hl.out)
    go_wp2
    go_ret
    exact MaybeB.some_ (HF.out.trans (if_pos hlen)) rfl (by rw [Hl.out]; simp) H.out (Nat.le_succ _) Hoz.out
  · have hl1 : (1048576 : Int) < (l.length : Int) := by omega
    have HF := Lib.hid (HE.out l Hl.out)
    go_wp2
    go_ret
    exact .inr ⟨HF.out.trans (if_neg hlen), rfl, Hoz.out⟩

set_option maxRecDepth 100000 in
set_option maxHeartbeats 3200000 in
theorem rreq_4 (m : MReq) (w : World) (hok : m.Ok w) (hop : m.op = 4) :
    Calls Try.prog 7 #[.agg m.cells.toArray] w (MaybeB w (encReq m.data)) := by
  obtain ⟨op, do_, name, number, size, from_, to_, first⟩ := m
  simp only [MReq.cells, MOp.cells, MReq.data, List.cons_append, List.nil_append] at *
  subst hop
  obtain ⟨hokd, hname⟩ := hok
  simp only at hokd hname
  have HQ := Lib.hid (show reqB ⟨4, do_.data, name, number, size, from_, to_, first⟩ = some ([4] ++ be 8 (number % 18446744073709551616).toNat) by
    rw [reqB, reqTail, if_neg (by simp), if_neg (by simp), if_pos (by simp)]
    simp [be, be8])
  have HE := Lib.hid (show ∀ l : List UInt8, l = [4] ++ be 8 (number % 18446744073709551616).toNat → encReq ⟨4, do_.data, name, number, size, from_, to_, first⟩ = if l.length ≤ 1048576 then some l else none from fun l hl => by
    subst hl
    by_cases h : ([4] ++ be 8 (number % 18446744073709551616).toNat : List UInt8).length ≤ 1048576
    · rw [encReq_of HQ.out h, if_pos h]
    · rw [encReq_long HQ.out (by omega), if_neg h])
  clear HQ
  generalize encReq ⟨4, do_.data, name, number, size, from_, to_, first⟩ = TV at HE ⊢
  go_enter Try.func7, Try.ntmps7
  go_upto_region 13 with (fail)
  obtain ⟨hB, hb, ho⟩ := start_row w #[.int .i64 4, .int .i64 do_.op, .string do_.case_, .string do_.type_, .string do_.name, .int .i64 do_.value.v.kind, .int .i64 do_.value.v.n, .string do_.value.v.t, .slice do_.value.A do_.value.v.s.length do_.value.c, .slice do_.argsA do_.args.length do_.argsC, .slice do_.srcA do_.source.length do_.srcC, .int .i64 do_.clock, .string name, .int .i64 number, .int .i64 size, .int .i64 from_, .int .i64 to_, .int .i64 first] 31 4 (.int .u8 4) rfl
  generalize (w.alloc _).alloc _ = W at *
  have HB := Lib.hid hB
  have Ho := Lib.hid ho
  have Hb := Lib.hid hb
  clear hB ho
  have d13 := hb.at_ 13 (v := .int .i64 number) rfl
  clear hb
  go_wp2_with fail
  refine (low8_any _ number).mono ?_
  rintro e w1 ⟨B, d, rfl, hr, _, ho1⟩
  have H1 := Lib.hid (HB.out.old ho1)
  have Hr := Lib.hid hr
  have Ho1 := Lib.hid (Ho.out.old ho1)
  have hl8 := Lib.hid (be_length 8 (number % 18446744073709551616).toNat)
  clear hr ho1
  go_upto_region 26 with (at_builtin; refine Try.app_bytes (.tmp 30) (.tmp 33) H1.out Hr.out ?_ rfl rfl rfl rfl ?_; (rw [hl8.out]; decide); intro l A2 c2 w2 e2 h2 hk2)
  have H := Lib.hid h2
  have Hl := e2
  have Hoz := Lib.hid (From.old Ho1.out hk2 (Nat.le_succ _))
  clear h2 hk2
  by_cases hlen : l.length ≤ 1048576
  · have hl1 : ¬ ((1048576 : Int) < (l.length : Int)) := by omega
    have HF := Lib.hid (HE.out l Hl.out)
    go_wp2
    go_ret
    exact MaybeB.some_ (HF.out.trans (if_pos hlen)) rfl (by rw [Hl.out]; simp) H.out (Nat.le_succ _) Hoz.out
  · have hl1 : (1048576 : Int) < (l.length : Int) := by omega
    have HF := Lib.hid (HE.out l Hl.out)
    go_wp2
    go_ret
    exact .inr ⟨HF.out.trans (if_neg hlen), rfl, Hoz.out⟩

end Go.Proofs.Ytnaolhjbapgjgaa

/- Contract of docketref24.Request: ops 1 and 2. -/
namespace Go.Proofs.Ytnaolhjbapgjgaa
open Go.RowKit

theorem opB_le {m : MOp} {w : World} {X : Nat → Prop} (hok : m.Ok w X) {l : List UInt8} (h : opB m.data = some l) : l.length ≤ 9000000000000 := by
  obtain ⟨hbA, hbS, hbC, hbT, hbN⟩ := hok.big
  unfold opB at h
  obtain ⟨b, hb, rfl⟩ := Option.map_eq_some_iff.1 h
  rw [List.length_append, be_length]
  have e1 : m.data.type_ = m.type_ := rfl
  have e2 : m.data.source = m.source := rfl
  have e3 : m.data.case_ = m.case_ := rfl
  have e4 : m.data.name = m.name := rfl
  unfold opTail at hb
  split at hb
  · injection hb with hb; subst hb
    rw [List.length_append, lp_length, lp_length, sb_length, e1, e2]; omega
  split at hb
  · injection hb with hb; subst hb
    rw [List.length_append, lp_length, lp_length, sb_length, sb_length, e1, e3]; omega
  split at hb
  · split at hb
    · rename_i hR
      injection hb with hb; subst hb
      have := valB_length _ hR
      rw [List.length_append, List.length_append, lp_length, lp_length, sb_length, sb_length, e3, e4]; omega
    · cases hb
  split at hb
  · split at hb
    · rename_i hR
      injection hb with hb; subst hb
      have h1 := valsB_length m.data.args m.data.args.length (Nat.le_refl _) (fun j hj _ => by
        have := List.all_eq_true.1 hR.2 _ (List.getElem_mem hj)
        simpa using this)
      rw [List.take_of_length_le (Nat.le_refl _)] at h1
      rw [List.length_append, List.length_append, List.length_append, be_length, lp_length, lp_length, sb_length, sb_length, e3, e4]
      have h2 : ((m.data.args.map valB).flatten).length ≤ m.data.args.length * 100000 := h1
      have h3 := hR.1
      omega
    · cases hb
  split at hb
  · injection hb with hb; subst hb
    rw [be8_length]; omega
  · cases hb

set_option maxRecDepth 100000 in
set_option maxHeartbeats 3200000 in
theorem rreq_1 (m : MReq) (w : World) (hok : m.Ok w) (hop : m.op = 1) :
    Calls Try.prog 7 #[.agg m.cells.toArray] w (MaybeB w (encReq m.data)) := by
  obtain ⟨op, do_, name, number, size, from_, to_, first⟩ := m
  simp only [MReq.cells, MOp.cells, MReq.data, List.cons_append, List.nil_append] at *
  subst hop
  obtain ⟨hokd, hname⟩ := hok
  simp only at hokd hname
  have hnil := fun (W : World) (a : Option Addr) (n c : Nat) => Lib.run_eql_slice_nil (P := Try.prog) W 27 5 a n c 0 0 Try.underlying27
  have HE0 := Lib.hid (show opB do_.data = none → encReq ⟨1, do_.data, name, number, size, from_, to_, first⟩ = none from fun h => encReq_none (by rw [reqTail, if_pos (by simp)]; exact h))
  have HE := Lib.hid (show ∀ o : List UInt8, opB do_.data = some o → ∀ l : List UInt8, l = [1] ++ o → encReq ⟨1, do_.data, name, number, size, from_, to_, first⟩ = if l.length ≤ 1048576 then some l else none from fun o ho l hl => by
    have hq : reqB ⟨1, do_.data, name, number, size, from_, to_, first⟩ = some l := by
      rw [reqB, reqTail, if_pos (by simp)]
      simp only [ho, hl]
      simp [be]
    by_cases h : l.length ≤ 1048576
    · rw [encReq_of hq h, if_pos h]
    · rw [encReq_long hq (by omega), if_neg h])
  generalize encReq ⟨1, do_.data, name, number, size, from_, to_, first⟩ = TV at HE HE0 ⊢
  go_enter Try.func7, Try.ntmps7
  go_upto_region 6 with (fail)
  obtain ⟨hB, hb, ho⟩ := start_row w #[.int .i64 1, .int .i64 do_.op, .string do_.case_, .string do_.type_, .string do_.name, .int .i64 do_.value.v.kind, .int .i64 do_.value.v.n, .string do_.value.v.t, .slice do_.value.A do_.value.v.s.length do_.value.c, .slice do_.argsA do_.args.length do_.argsC, .slice do_.srcA do_.source.length do_.srcC, .int .i64 do_.clock, .string name, .int .i64 number, .int .i64 size, .int .i64 from_, .int .i64 to_, .int .i64 first] 31 1 (.int .u8 1) rfl
  generalize (w.alloc _).alloc _ = W at *
  have HB := Lib.hid hB
  have Ho := Lib.hid ho
  have Hb := Lib.hid hb
  clear hB ho
  have d1 := hb.at_ 1 (v := .int .i64 do_.op) rfl
  have d2 := hb.at_ 2 (v := .string do_.case_) rfl
  have d3 := hb.at_ 3 (v := .string do_.type_) rfl
  have d4 := hb.at_ 4 (v := .string do_.name) rfl
  have d5 := hb.at_ 5 (v := .int .i64 do_.value.v.kind) rfl
  have d6 := hb.at_ 6 (v := .int .i64 do_.value.v.n) rfl
  have d7 := hb.at_ 7 (v := .string do_.value.v.t) rfl
  have d8 := hb.at_ 8 (v := .slice do_.value.A do_.value.v.s.length do_.value.c) rfl
  have d9 := hb.at_ 9 (v := .slice do_.argsA do_.args.length do_.argsC) rfl
  have d10 := hb.at_ 10 (v := .slice do_.srcA do_.source.length do_.srcC) rfl
  have d11 := hb.at_ 11 (v := .int .i64 do_.clock) rfl
  clear hb
  go_wp2_with fail
  refine (roper_any do_ _ (hokd.old Ho.out)).mono ?_
  rintro e w1 (⟨lo, Ao, co, hlo, hne, rfl, hv, ho1⟩ | ⟨hn, rfl, ho1⟩)
  · obtain ⟨go, rfl, hgo⟩ := hv.some_ hne
    have H1 := Lib.hid (HB.out.old ho1)
    have Hr := Lib.hid hv.rd
    have Ho1 := Lib.hid (Ho.out.old ho1)
    have HEo := Lib.hid (HE.out lo hlo)
    have hln : lo.length ≤ 9000000000000 := opB_le hokd hlo
    have Hln := Lib.hid hln
    clear hv ho1 hlo hne HE HE0 hln
    go_upto_region 26 with (first | (at_builtin; refine Try.app_bytes (.tmp 19) (.tmp 20) H1.out Hr.out ?_ rfl rfl rfl rfl ?_; (have := Hln.out; simp only [List.length_singleton]; omega); intro l A2 c2 w2 e2 h2 hk2) | fail)
    have H := Lib.hid h2
    have Hl := e2
    have Hoz := Lib.hid (From.old Ho1.out hk2 (Nat.le_succ _))
    have HE := HEo
    clear h2 hk2
    by_cases hlen : l.length ≤ 1048576
    · have hl1 : ¬ ((1048576 : Int) < (l.length : Int)) := by omega
      have HF := Lib.hid (HE.out l Hl.out)
      go_wp2
      go_ret
      exact MaybeB.some_ (HF.out.trans (if_pos hlen)) rfl (by rw [Hl.out]; simp) H.out (Nat.le_succ _) Hoz.out
    · have hl1 : (1048576 : Int) < (l.length : Int) := by omega
      have HF := Lib.hid (HE.out l Hl.out)
      go_wp2
      go_ret
      exact .inr ⟨HF.out.trans (if_neg hlen), rfl, Hoz.out⟩
  · have Ho1 := Lib.hid (Ho.out.old ho1)
    have HF := Lib.hid (HE0.out hn)
    clear ho1
    go_wp2
    go_ret
    exact .inr ⟨HF.out, rfl, Ho1.out⟩

set_option maxRecDepth 100000 in
set_option maxHeartbeats 3200000 in
theorem rreq_2 (m : MReq) (w : World) (hok : m.Ok w) (hop : m.op = 2) :
    Calls Try.prog 7 #[.agg m.cells.toArray] w (MaybeB w (encReq m.data)) := by
  obtain ⟨op, do_, name, number, size, from_, to_, first⟩ := m
  simp only [MReq.cells, MOp.cells, MReq.data, List.cons_append, List.nil_append] at *
  subst hop
  obtain ⟨hokd, hname⟩ := hok
  simp only at hokd hname
  have hnil := fun (W : World) (a : Option Addr) (n c : Nat) => Lib.run_eql_slice_nil (P := Try.prog) W 27 5 a n c 0 0 Try.underlying27
  have HE0 := Lib.hid (show opB do_.data = none → encReq ⟨2, do_.data, name, number, size, from_, to_, first⟩ = none from fun h => encReq_none (by rw [reqTail, if_pos (by simp)]; exact h))
  have HE := Lib.hid (show ∀ o : List UInt8, opB do_.data = some o → ∀ l : List UInt8, l = [2] ++ o → encReq ⟨2, do_.data, name, number, size, from_, to_, first⟩ = if l.length ≤ 1048576 then some l else none from fun o ho l hl => by
    have hq : reqB ⟨2, do_.data, name, number, size, from_, to_, first⟩ = some l := by
      rw [reqB, reqTail, if_pos (by simp)]
      simp only [ho, hl]
      simp [be]
    by_cases h : l.length ≤ 1048576
    · rw [encReq_of hq h, if_pos h]
    · rw [encReq_long hq (by omega), if_neg h])
  generalize encReq ⟨2, do_.data, name, number, size, from_, to_, first⟩ = TV at HE HE0 ⊢
  go_enter Try.func7, Try.ntmps7
  go_upto_region 6 with (fail)
  obtain ⟨hB, hb, ho⟩ := start_row w #[.int .i64 2, .int .i64 do_.op, .string do_.case_, .string do_.type_, .string do_.name, .int .i64 do_.value.v.kind, .int .i64 do_.value.v.n, .string do_.value.v.t, .slice do_.value.A do_.value.v.s.length do_.value.c, .slice do_.argsA do_.args.length do_.argsC, .slice do_.srcA do_.source.length do_.srcC, .int .i64 do_.clock, .string name, .int .i64 number, .int .i64 size, .int .i64 from_, .int .i64 to_, .int .i64 first] 31 2 (.int .u8 2) rfl
  generalize (w.alloc _).alloc _ = W at *
  have HB := Lib.hid hB
  have Ho := Lib.hid ho
  have Hb := Lib.hid hb
  clear hB ho
  have d1 := hb.at_ 1 (v := .int .i64 do_.op) rfl
  have d2 := hb.at_ 2 (v := .string do_.case_) rfl
  have d3 := hb.at_ 3 (v := .string do_.type_) rfl
  have d4 := hb.at_ 4 (v := .string do_.name) rfl
  have d5 := hb.at_ 5 (v := .int .i64 do_.value.v.kind) rfl
  have d6 := hb.at_ 6 (v := .int .i64 do_.value.v.n) rfl
  have d7 := hb.at_ 7 (v := .string do_.value.v.t) rfl
  have d8 := hb.at_ 8 (v := .slice do_.value.A do_.value.v.s.length do_.value.c) rfl
  have d9 := hb.at_ 9 (v := .slice do_.argsA do_.args.length do_.argsC) rfl
  have d10 := hb.at_ 10 (v := .slice do_.srcA do_.source.length do_.srcC) rfl
  have d11 := hb.at_ 11 (v := .int .i64 do_.clock) rfl
  clear hb
  go_wp2_with fail
  refine (roper_any do_ _ (hokd.old Ho.out)).mono ?_
  rintro e w1 (⟨lo, Ao, co, hlo, hne, rfl, hv, ho1⟩ | ⟨hn, rfl, ho1⟩)
  · obtain ⟨go, rfl, hgo⟩ := hv.some_ hne
    have H1 := Lib.hid (HB.out.old ho1)
    have Hr := Lib.hid hv.rd
    have Ho1 := Lib.hid (Ho.out.old ho1)
    have HEo := Lib.hid (HE.out lo hlo)
    have hln : lo.length ≤ 9000000000000 := opB_le hokd hlo
    have Hln := Lib.hid hln
    clear hv ho1 hlo hne HE HE0 hln
    go_upto_region 26 with (first | (at_builtin; refine Try.app_bytes (.tmp 19) (.tmp 20) H1.out Hr.out ?_ rfl rfl rfl rfl ?_; (have := Hln.out; simp only [List.length_singleton]; omega); intro l A2 c2 w2 e2 h2 hk2) | fail)
    have H := Lib.hid h2
    have Hl := e2
    have Hoz := Lib.hid (From.old Ho1.out hk2 (Nat.le_succ _))
    have HE := HEo
    clear h2 hk2
    by_cases hlen : l.length ≤ 1048576
    · have hl1 : ¬ ((1048576 : Int) < (l.length : Int)) := by omega
      have HF := Lib.hid (HE.out l Hl.out)
      go_wp2
      go_ret
      exact MaybeB.some_ (HF.out.trans (if_pos hlen)) rfl (by rw [Hl.out]; simp) H.out (Nat.le_succ _) Hoz.out
    · have hl1 : (1048576 : Int) < (l.length : Int) := by omega
      have HF := Lib.hid (HE.out l Hl.out)
      go_wp2
      go_ret
      exact .inr ⟨HF.out.trans (if_neg hlen), rfl, Hoz.out⟩
  · have Ho1 := Lib.hid (Ho.out.old ho1)
    have HF := Lib.hid (HE0.out hn)
    clear ho1
    go_wp2
    go_ret
    exact .inr ⟨HF.out, rfl, Ho1.out⟩

end Go.Proofs.Ytnaolhjbapgjgaa
