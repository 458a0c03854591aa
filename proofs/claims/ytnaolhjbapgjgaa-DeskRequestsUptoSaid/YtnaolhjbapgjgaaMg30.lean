import Derived.Test.YtnaolhjbapgjgaaMg29
/- Contract of docketref24.Request: ops 8 and 9. -/
namespace Go.Proofs.Ytnaolhjbapgjgaa
open Go.RowKit

/-- new memory lies in no block of an older row -/
theorem Av.just {w : World} {base n c : Nat} {l : List UInt8} {A B : Option Addr} (a : Av (fun k => k < w.heap.size) n B) (h : BRow w base l A c) : Av (Just A) n B := fun hn ad e hj =>
  a hn ad e (h.own.lt _ (by rw [ownBlock_slice]; exact hj)).2
theorem Av.grew {w w' : World} {base n c' : Nat} {out : List UInt8} {A A' B : Option Addr} {xs : List Value} (a : Av (Just A) n B) (h : Grew w base A w' out A' c') (hr : Rd w 1 B n xs) : Av (Just A') n B := fun hn ad e hj => by
  rcases h.at_ with e' | ⟨k, e', hle⟩
  · exact a hn ad e (e'.symm.trans hj)
  · have h1 : some k = some ad.block := e'.symm.trans hj
    injection h1 with h1
    have := hr.lt (by decide) hn e
    omega

set_option maxRecDepth 100000 in
set_option maxHeartbeats 3200000 in
theorem rreq_8 (m : MReq) (w : World) (hok : m.Ok w) (hop : m.op = 8) :
    Calls Try.prog 7 #[.agg m.cells.toArray] w (MaybeB w (encReq m.data)) := by
  obtain ⟨op, do_, name, number, size, from_, to_, first⟩ := m
  simp only [MReq.cells, MOp.cells, MReq.data, List.cons_append, List.nil_append] at *
  subst hop
  obtain ⟨hokd, hname⟩ := hok
  simp only at hokd hname
  have HQ := Lib.hid (show reqB ⟨8, do_.data, name, number, size, from_, to_, first⟩ = some ([8] ++ be 8 (number % 18446744073709551616).toNat ++ be 8 (size % 18446744073709551616).toNat) by
    rw [reqB, reqTail, if_neg (by simp), if_neg (by simp), if_neg (by simp), if_neg (by simp), if_pos (by simp)]
    simp [be, be8])
  have HE := Lib.hid (show ∀ l : List UInt8, l = [8] ++ be 8 (number % 18446744073709551616).toNat ++ be 8 (size % 18446744073709551616).toNat → encReq ⟨8, do_.data, name, number, size, from_, to_, first⟩ = if l.length ≤ 1048576 then some l else none from fun l hl => by
    subst hl
    by_cases h : ([8] ++ be 8 (number % 18446744073709551616).toNat ++ be 8 (size % 18446744073709551616).toNat : List UInt8).length ≤ 1048576
    · rw [encReq_of HQ.out h, if_pos h]
    · rw [encReq_long HQ.out (by omega), if_neg h])
  clear HQ
  generalize encReq ⟨8, do_.data, name, number, size, from_, to_, first⟩ = TV at HE ⊢
  go_enter Try.func7, Try.ntmps7
  go_upto_region 19 with (fail)
  obtain ⟨hB, hb, ho⟩ := start_row w #[.int .i64 8, .int .i64 do_.op, .string do_.case_, .string do_.type_, .string do_.name, .int .i64 do_.value.v.kind, .int .i64 do_.value.v.n, .string do_.value.v.t, .slice do_.value.A do_.value.v.s.length do_.value.c, .slice do_.argsA do_.args.length do_.argsC, .slice do_.srcA do_.source.length do_.srcC, .int .i64 do_.clock, .string name, .int .i64 number, .int .i64 size, .int .i64 from_, .int .i64 to_, .int .i64 first] 31 8 (.int .u8 8) rfl
  generalize (w.alloc _).alloc _ = W at *
  have HB := Lib.hid hB
  have Ho := Lib.hid ho
  have Hb := Lib.hid hb
  clear hB ho
  clear hb
  have kk := (Kp.refl (From (w.heap.size + 1)) W).drew
  have hrow := HB.out.drew
  have bb := Hb.out.kp kk (fun h => absurd h (Nat.not_succ_le_self _))
  have c13 := bb.at_ 13 (v := .int .i64 number) rfl
  have c14 := bb.at_ 14 (v := .int .i64 size) rfl
  go_region_held3 (fun w' => w'.cell? ⟨w.heap.size, 13, none⟩ = some (.int .i64 number) ∧ w'.cell? ⟨w.heap.size, 14, none⟩ = some (.int .i64 size)) (first | exact ⟨c13, c14⟩ | fail)
      (first
        | (go_at_call_of 20 (Value.int .i64 number); refine (low8_any _ number).mono ?_; rintro e w0 ⟨B13, d13, rfl, r13, a13, o0⟩; have av13 := a13.just hrow; have hrow := hrow.old o0; have kk := kk.old o0; have bb := Hb.out.kp kk (fun h => absurd h (Nat.not_succ_le_self _)); have c13 := bb.at_ 13 (v := .int .i64 number) rfl; have c14 := bb.at_ 14 (v := .int .i64 size) rfl)
        | (go_at_call_of 20 (Value.int .i64 size); refine (low8_any _ size).mono ?_; rintro e w1 ⟨B14, d14, rfl, r14, a14, o1⟩; have av14 := a14.just hrow; have r13 := r13.old o1; have hrow := hrow.old o1; have kk := kk.old o1; have bb := Hb.out.kp kk (fun h => absurd h (Nat.not_succ_le_self _)); have c13 := bb.at_ 13 (v := .int .i64 number) rfl; have c14 := bb.at_ 14 (v := .int .i64 size) rfl)
        | (go_at_call_of 20 (Value.int .i64 size); refine (low8_any _ size).mono ?_; rintro e w1 ⟨B14, d14, rfl, r14, a14, o1⟩; have av14 := a14.just hrow; have hrow := hrow.old o1; have kk := kk.old o1; have bb := Hb.out.kp kk (fun h => absurd h (Nat.not_succ_le_self _)); have c13 := bb.at_ 13 (v := .int .i64 number) rfl; have c14 := bb.at_ 14 (v := .int .i64 size) rfl)
        | (refine Try.step_bytes (.tmp 42) (.tmp 45) hrow r13 ?_ rfl rfl rfl rfl ?_; (rw [be_length]; decide); intro l20 A20 c20' w20 e20 h20; have r14 := r14.kp h20.kp av14; have av14 := av14.grew h20 r14; have kk := kk.trans (h20.from_ hrow) (fun _ _ h => h); have hrow := h20.row; have bb := Hb.out.kp kk (fun h => absurd h (Nat.not_succ_le_self _)); have c13 := bb.at_ 13 (v := .int .i64 number) rfl; have c14 := bb.at_ 14 (v := .int .i64 size) rfl)
        | (refine Try.step_bytes (.tmp 42) (.tmp 45) hrow r13 ?_ rfl rfl rfl rfl ?_; (rw [be_length]; decide); intro l20 A20 c20' w20 e20 h20; have kk := kk.trans (h20.from_ hrow) (fun _ _ h => h); have hrow := h20.row; have bb := Hb.out.kp kk (fun h => absurd h (Nat.not_succ_le_self _)); have c13 := bb.at_ 13 (v := .int .i64 number) rfl; have c14 := bb.at_ 14 (v := .int .i64 size) rfl)
        | (refine Try.step_bytes (.tmp 46) (.tmp 49) hrow r14 ?_ rfl rfl rfl rfl ?_; (rw [e20.out, be_length]; simp only [List.length_append, List.length_singleton, be_length]; omega); intro l21 A21 c21' w21 e21 h21; have kk := kk.trans (h21.from_ hrow) (fun _ _ h => h); have hrow := h21.row; have bb := Hb.out.kp kk (fun h => absurd h (Nat.not_succ_le_self _)); have c13 := bb.at_ 13 (v := .int .i64 number) rfl; have c14 := bb.at_ 14 (v := .int .i64 size) rfl)
        | fail)
  all_goals
    have Hl := Lib.hid (show l21 = [8] ++ be 8 (number % 18446744073709551616).toNat ++ be 8 (size % 18446744073709551616).toNat by rw [e21.out, e20.out])
    have H := Lib.hid hrow
    have Hoz := Lib.hid (From.old Ho.out kk (Nat.le_succ _))
    clear kk hrow bb c13 c14
    generalize l21 = l at *
    by_cases hlen : l.length ≤ 1048576
    · have hl1 : ¬ ((1048576 : Int) < (l.length : Int)) := by omega
      have HF := Lib.hid (HE.out l Hl.out)
      go_wp2
      go_ret
      exact MaybeB.some_ (HF.out.trans (if_pos hlen)) rfl (by rw [Hl.out]; simp) H.out (Nat.le_succ _) Hoz.out
    · have hl1 : (1048576 : Int) < (l.length : Int) := by omega
      have HF := Lib.hid (HE.out l Hl.out)
      go_wp2
      go_ret
      exact .inr ⟨HF.out.trans (if_neg hlen), rfl, Hoz.out⟩

set_option maxRecDepth 100000 in
set_option maxHeartbeats 3200000 in
theorem rreq_9 (m : MReq) (w : World) (hok : m.Ok w) (hop : m.op = 9) :
    Calls Try.prog 7 #[.agg m.cells.toArray] w (MaybeB w (encReq m.data)) := by
  obtain ⟨op, do_, name, number, size, from_, to_, first⟩ := m
  simp only [MReq.cells, MOp.cells, MReq.data, List.cons_append, List.nil_append] at *
  subst hop
  obtain ⟨hokd, hname⟩ := hok
  simp only at hokd hname
  have HQ := Lib.hid (show reqB ⟨9, do_.data, name, number, size, from_, to_, first⟩ = some ([9] ++ be 8 (from_ % 18446744073709551616).toNat ++ be 8 (to_ % 18446744073709551616).toNat) by
    rw [reqB, reqTail, if_neg (by simp), if_neg (by simp), if_neg (by simp), if_neg (by simp), if_neg (by simp), if_pos (by simp)]
    simp [be, be8])
  have HE := Lib.hid (show ∀ l : List UInt8, l = [9] ++ be 8 (from_ % 18446744073709551616).toNat ++ be 8 (to_ % 18446744073709551616).toNat → encReq ⟨9, do_.data, name, number, size, from_, to_, first⟩ = if l.length ≤ 1048576 then some l else none from fun l hl => by
    subst hl
    by_cases h : ([9] ++ be 8 (from_ % 18446744073709551616).toNat ++ be 8 (to_ % 18446744073709551616).toNat : List UInt8).length ≤ 1048576
    · rw [encReq_of HQ.out h, if_pos h]
    · rw [encReq_long HQ.out (by omega), if_neg h])
  clear HQ
  generalize encReq ⟨9, do_.data, name, number, size, from_, to_, first⟩ = TV at HE ⊢
  go_enter Try.func7, Try.ntmps7
  go_upto_region 21 with (fail)
  obtain ⟨hB, hb, ho⟩ := start_row w #[.int .i64 9, .int .i64 do_.op, .string do_.case_, .string do_.type_, .string do_.name, .int .i64 do_.value.v.kind, .int .i64 do_.value.v.n, .string do_.value.v.t, .slice do_.value.A do_.value.v.s.length do_.value.c, .slice do_.argsA do_.args.length do_.argsC, .slice do_.srcA do_.source.length do_.srcC, .int .i64 do_.clock, .string name, .int .i64 number, .int .i64 size, .int .i64 from_, .int .i64 to_, .int .i64 first] 31 9 (.int .u8 9) rfl
  generalize (w.alloc _).alloc _ = W at *
  have HB := Lib.hid hB
  have Ho := Lib.hid ho
  have Hb := Lib.hid hb
  clear hB ho
  clear hb
  have kk := (Kp.refl (From (w.heap.size + 1)) W).drew
  have hrow := HB.out.drew
  have bb := Hb.out.kp kk (fun h => absurd h (Nat.not_succ_le_self _))
  have c15 := bb.at_ 15 (v := .int .i64 from_) rfl
  have c16 := bb.at_ 16 (v := .int .i64 to_) rfl
  go_region_held3 (fun w' => w'.cell? ⟨w.heap.size, 15, none⟩ = some (.int .i64 from_) ∧ w'.cell? ⟨w.heap.size, 16, none⟩ = some (.int .i64 to_)) (first | exact ⟨c15, c16⟩ | fail)
      (first
        | (go_at_call_of 20 (Value.int .i64 from_); refine (low8_any _ from_).mono ?_; rintro e w0 ⟨B15, d15, rfl, r15, a15, o0⟩; have av15 := a15.just hrow; have hrow := hrow.old o0; have kk := kk.old o0; have bb := Hb.out.kp kk (fun h => absurd h (Nat.not_succ_le_self _)); have c15 := bb.at_ 15 (v := .int .i64 from_) rfl; have c16 := bb.at_ 16 (v := .int .i64 to_) rfl)
        | (go_at_call_of 20 (Value.int .i64 to_); refine (low8_any _ to_).mono ?_; rintro e w1 ⟨B16, d16, rfl, r16, a16, o1⟩; have av16 := a16.just hrow; have r15 := r15.old o1; have hrow := hrow.old o1; have kk := kk.old o1; have bb := Hb.out.kp kk (fun h => absurd h (Nat.not_succ_le_self _)); have c15 := bb.at_ 15 (v := .int .i64 from_) rfl; have c16 := bb.at_ 16 (v := .int .i64 to_) rfl)
        | (go_at_call_of 20 (Value.int .i64 to_); refine (low8_any _ to_).mono ?_; rintro e w1 ⟨B16, d16, rfl, r16, a16, o1⟩; have av16 := a16.just hrow; have hrow := hrow.old o1; have kk := kk.old o1; have bb := Hb.out.kp kk (fun h => absurd h (Nat.not_succ_le_self _)); have c15 := bb.at_ 15 (v := .int .i64 from_) rfl; have c16 := bb.at_ 16 (v := .int .i64 to_) rfl)
        | (refine Try.step_bytes (.tmp 53) (.tmp 56) hrow r15 ?_ rfl rfl rfl rfl ?_; (rw [be_length]; decide); intro l20 A20 c20' w20 e20 h20; have r16 := r16.kp h20.kp av16; have av16 := av16.grew h20 r16; have kk := kk.trans (h20.from_ hrow) (fun _ _ h => h); have hrow := h20.row; have bb := Hb.out.kp kk (fun h => absurd h (Nat.not_succ_le_self _)); have c15 := bb.at_ 15 (v := .int .i64 from_) rfl; have c16 := bb.at_ 16 (v := .int .i64 to_) rfl)
        | (refine Try.step_bytes (.tmp 53) (.tmp 56) hrow r15 ?_ rfl rfl rfl rfl ?_; (rw [be_length]; decide); intro l20 A20 c20' w20 e20 h20; have kk := kk.trans (h20.from_ hrow) (fun _ _ h => h); have hrow := h20.row; have bb := Hb.out.kp kk (fun h => absurd h (Nat.not_succ_le_self _)); have c15 := bb.at_ 15 (v := .int .i64 from_) rfl; have c16 := bb.at_ 16 (v := .int .i64 to_) rfl)
        | (refine Try.step_bytes (.tmp 57) (.tmp 60) hrow r16 ?_ rfl rfl rfl rfl ?_; (rw [e20.out, be_length]; simp only [List.length_append, List.length_singleton, be_length]; omega); intro l21 A21 c21' w21 e21 h21; have kk := kk.trans (h21.from_ hrow) (fun _ _ h => h); have hrow := h21.row; have bb := Hb.out.kp kk (fun h => absurd h (Nat.not_succ_le_self _)); have c15 := bb.at_ 15 (v := .int .i64 from_) rfl; have c16 := bb.at_ 16 (v := .int .i64 to_) rfl)
        | fail)
  all_goals
    have Hl := Lib.hid (show l21 = [9] ++ be 8 (from_ % 18446744073709551616).toNat ++ be 8 (to_ % 18446744073709551616).toNat by rw [e21.out, e20.out])
    have H := Lib.hid hrow
    have Hoz := Lib.hid (From.old Ho.out kk (Nat.le_succ _))
    clear kk hrow bb c15 c16
    generalize l21 = l at *
    by_cases hlen : l.length ≤ 1048576
    · have hl1 : ¬ ((1048576 : Int) < (l.length : Int)) := by omega
      have HF := Lib.hid (HE.out l Hl.out)
      go_wp2
      go_ret
      exact MaybeB.some_ (HF.out.trans (if_pos hlen)) rfl (by rw [Hl.out]; simp) H.out (Nat.le_succ _) Hoz.out
    · have hl1 : (1048576 : Int) < (l.length : Int) := by omega
      have HF := Lib.hid (HE.out l Hl.out)
      go_wp2
      go_ret
      exact .inr ⟨HF.out.trans (if_neg hlen), rfl, Hoz.out⟩

end Go.Proofs.Ytnaolhjbapgjgaa

/- Contract of docketref24.Request: op 10. -/
namespace Go.Proofs.Ytnaolhjbapgjgaa
open Go.RowKit

set_option maxRecDepth 100000 in
set_option maxHeartbeats 3200000 in
theorem rreq_10 (m : MReq) (w : World) (hok : m.Ok w) (hop : m.op = 10) :
    Calls Try.prog 7 #[.agg m.cells.toArray] w (MaybeB w (encReq m.data)) := by
  obtain ⟨op, do_, name, number, size, from_, to_, first⟩ := m
  simp only [MReq.cells, MOp.cells, MReq.data, List.cons_append, List.nil_append] at *
  subst hop
  obtain ⟨hokd, hname⟩ := hok
  simp only at hokd hname
  have HQ := Lib.hid (show reqB ⟨10, do_.data, name, number, size, from_, to_, first⟩ = some ([10] ++ lp 4 (sb name) ++ be 8 (size % 18446744073709551616).toNat) by
    rw [reqB, reqTail, if_neg (by simp), if_neg (by simp), if_neg (by simp), if_neg (by simp), if_neg (by simp), if_neg (by simp), if_pos (by simp)]
    simp [be, be8])
  have HE := Lib.hid (show ∀ l : List UInt8, l = [10] ++ lp 4 (sb name) ++ be 8 (size % 18446744073709551616).toNat → encReq ⟨10, do_.data, name, number, size, from_, to_, first⟩ = if l.length ≤ 1048576 then some l else none from fun l hl => by
    subst hl
    by_cases h : ([10] ++ lp 4 (sb name) ++ be 8 (size % 18446744073709551616).toNat : List UInt8).length ≤ 1048576
    · rw [encReq_of HQ.out h, if_pos h]
    · rw [encReq_long HQ.out (by omega), if_neg h])
  clear HQ
  generalize encReq ⟨10, do_.data, name, number, size, from_, to_, first⟩ = TV at HE ⊢
  go_enter Try.func7, Try.ntmps7
  go_upto_region 23 with (fail)
  obtain ⟨hB, hb, ho⟩ := start_row w #[.int .i64 10, .int .i64 do_.op, .string do_.case_, .string do_.type_, .string do_.name, .int .i64 do_.value.v.kind, .int .i64 do_.value.v.n, .string do_.value.v.t, .slice do_.value.A do_.value.v.s.length do_.value.c, .slice do_.argsA do_.args.length do_.argsC, .slice do_.srcA do_.source.length do_.srcC, .int .i64 do_.clock, .string name, .int .i64 number, .int .i64 size, .int .i64 from_, .int .i64 to_, .int .i64 first] 31 10 (.int .u8 10) rfl
  generalize (w.alloc _).alloc _ = W at *
  have HB := Lib.hid hB
  have Ho := Lib.hid ho
  have Hb := Lib.hid hb
  clear hB ho
  clear hb
  have kk := (Kp.refl (From (w.heap.size + 1)) W).drew
  have hrow := HB.out.drew
  have bb := Hb.out.kp kk (fun h => absurd h (Nat.not_succ_le_self _))
  have c12 := bb.at_ 12 (v := .string name) rfl
  have c14 := bb.at_ 14 (v := .int .i64 size) rfl
  go_region_held3 (fun w' => w'.cell? ⟨w.heap.size, 12, none⟩ = some (.string name) ∧ w'.cell? ⟨w.heap.size, 14, none⟩ = some (.int .i64 size)) (first | exact ⟨c12, c14⟩ | fail)
      (first
        | (go_at_call_of 19 (Value.string name); refine (rtext_grew _ (w.heap.size + 1) _ _ _ name hrow ?_ hname).mono ?_; (decide); rintro e w0 ⟨l0, A0, c0', e0, rfl, h0⟩; have kk := kk.trans (h0.from_ hrow) (fun _ _ h => h); have hrow := h0.row; have bb := Hb.out.kp kk (fun h => absurd h (Nat.not_succ_le_self _)); have c12 := bb.at_ 12 (v := .string name) rfl; have c14 := bb.at_ 14 (v := .int .i64 size) rfl)
        | (go_at_call_of 20 (Value.int .i64 size); refine (low8_any _ size).mono ?_; rintro e w1 ⟨B14, d14, rfl, r14, a14, o1⟩; have av14 := a14.just hrow; have hrow := hrow.old o1; have kk := kk.old o1; have bb := Hb.out.kp kk (fun h => absurd h (Nat.not_succ_le_self _)); have c12 := bb.at_ 12 (v := .string name) rfl; have c14 := bb.at_ 14 (v := .int .i64 size) rfl)
        | (refine Try.step_bytes (.tmp 67) (.tmp 70) hrow r14 ?_ rfl rfl rfl rfl ?_; (rw [e0.out, be_length]; simp only [List.length_append, List.length_singleton, lp_length, sb_length]; omega); intro l21 A21 c21' w21 e21 h21; have kk := kk.trans (h21.from_ hrow) (fun _ _ h => h); have hrow := h21.row; have bb := Hb.out.kp kk (fun h => absurd h (Nat.not_succ_le_self _)); have c12 := bb.at_ 12 (v := .string name) rfl; have c14 := bb.at_ 14 (v := .int .i64 size) rfl)
        | fail)
  all_goals
    have Hl := Lib.hid (show l21 = [10] ++ lp 4 (sb name) ++ be 8 (size % 18446744073709551616).toNat by rw [e21.out, e0.out])
    have H := Lib.hid hrow
    have Hoz := Lib.hid (From.old Ho.out kk (Nat.le_succ _))
    clear kk hrow bb c12 c14
    generalize l21 = l at *
    by_cases hlen : l.length ≤ 1048576
    · have hl1 : ¬ ((1048576 : Int) < (l.length : Int)) := by omega
      have HF := Lib.hid (HE.out l Hl.out)
      go_wp2
      go_ret
      exact MaybeB.some_ (HF.out.trans (if_pos hlen)) rfl (by rw [Hl.out]; simp) H.out (Nat.le_succ _) Hoz.out
    · have hl1 : (1048576 : Int) < (l.length : Int) := by omega
      have HF := Lib.hid (HE.out l Hl.out)
      go_wp2
      go_ret
      exact .inr ⟨HF.out.trans (if_neg hlen), rfl, Hoz.out⟩

end Go.Proofs.Ytnaolhjbapgjgaa

/- Contract of docketref24.Request: op 11. -/
namespace Go.Proofs.Ytnaolhjbapgjgaa
open Go.RowKit

set_option maxRecDepth 100000 in
set_option maxHeartbeats 3200000 in
theorem rreq_11 (m : MReq) (w : World) (hok : m.Ok w) (hop : m.op = 11) :
    Calls Try.prog 7 #[.agg m.cells.toArray] w (MaybeB w (encReq m.data)) := by
  obtain ⟨op, do_, name, number, size, from_, to_, first⟩ := m
  simp only [MReq.cells, MOp.cells, MReq.data, List.cons_append, List.nil_append] at *
  subst hop
  obtain ⟨hokd, hname⟩ := hok
  simp only at hokd hname
  have HQ := Lib.hid (show reqB ⟨11, do_.data, name, number, size, from_, to_, first⟩ = some ([11] ++ lp 4 (sb name) ++ be 8 (size % 18446744073709551616).toNat ++ be 8 (first % 18446744073709551616).toNat) by
    rw [reqB, reqTail, if_neg (by simp), if_neg (by simp), if_neg (by simp), if_neg (by simp), if_neg (by simp), if_neg (by simp), if_neg (by simp), if_pos (by simp)]
    simp [be, be8])
  have HE := Lib.hid (show ∀ l : List UInt8, l = [11] ++ lp 4 (sb name) ++ be 8 (size % 18446744073709551616).toNat ++ be 8 (first % 18446744073709551616).toNat → encReq ⟨11, do_.data, name, number, size, from_, to_, first⟩ = if l.length ≤ 1048576 then some l else none from fun l hl => by
    subst hl
    by_cases h : ([11] ++ lp 4 (sb name) ++ be 8 (size % 18446744073709551616).toNat ++ be 8 (first % 18446744073709551616).toNat : List UInt8).length ≤ 1048576
    · rw [encReq_of HQ.out h, if_pos h]
    · rw [encReq_long HQ.out (by omega), if_neg h])
  clear HQ
  generalize encReq ⟨11, do_.data, name, number, size, from_, to_, first⟩ = TV at HE ⊢
  go_enter Try.func7, Try.ntmps7
  go_upto_region 25 with (fail)
  obtain ⟨hB, hb, ho⟩ := start_row w #[.int .i64 11, .int .i64 do_.op, .string do_.case_, .string do_.type_, .string do_.name, .int .i64 do_.value.v.kind, .int .i64 do_.value.v.n, .string do_.value.v.t, .slice do_.value.A do_.value.v.s.length do_.value.c, .slice do_.argsA do_.args.length do_.argsC, .slice do_.srcA do_.source.length do_.srcC, .int .i64 do_.clock, .string name, .int .i64 number, .int .i64 size, .int .i64 from_, .int .i64 to_, .int .i64 first] 31 11 (.int .u8 11) rfl
  generalize (w.alloc _).alloc _ = W at *
  have HB := Lib.hid hB
  have Ho := Lib.hid ho
  have Hb := Lib.hid hb
  clear hB ho
  clear hb
  have kk := (Kp.refl (From (w.heap.size + 1)) W).drew
  have hrow := HB.out.drew
  have bb := Hb.out.kp kk (fun h => absurd h (Nat.not_succ_le_self _))
  have c12 := bb.at_ 12 (v := .string name) rfl
  have c14 := bb.at_ 14 (v := .int .i64 size) rfl
  have c17 := bb.at_ 17 (v := .int .i64 first) rfl
  go_region_held3 (fun w' => w'.cell? ⟨w.heap.size, 12, none⟩ = some (.string name) ∧ w'.cell? ⟨w.heap.size, 14, none⟩ = some (.int .i64 size) ∧ w'.cell? ⟨w.heap.size, 17, none⟩ = some (.int .i64 first)) (first | exact ⟨c12, c14, c17⟩ | fail)
      (first
        | (go_at_call_of 19 (Value.string name); refine (rtext_grew _ (w.heap.size + 1) _ _ _ name hrow ?_ hname).mono ?_; (decide); rintro e w0 ⟨l0, A0, c0', e0, rfl, h0⟩; have kk := kk.trans (h0.from_ hrow) (fun _ _ h => h); have hrow := h0.row; have bb := Hb.out.kp kk (fun h => absurd h (Nat.not_succ_le_self _)); have c12 := bb.at_ 12 (v := .string name) rfl; have c14 := bb.at_ 14 (v := .int .i64 size) rfl; have c17 := bb.at_ 17 (v := .int .i64 first) rfl)
        | (go_at_call_of 20 (Value.int .i64 size); refine (low8_any _ size).mono ?_; rintro e w1 ⟨B14, d14, rfl, r14, a14, o1⟩; have av14 := a14.just hrow; have hrow := hrow.old o1; have kk := kk.old o1; have bb := Hb.out.kp kk (fun h => absurd h (Nat.not_succ_le_self _)); have c12 := bb.at_ 12 (v := .string name) rfl; have c14 := bb.at_ 14 (v := .int .i64 size) rfl; have c17 := bb.at_ 17 (v := .int .i64 first) rfl)
        | (go_at_call_of 20 (Value.int .i64 first); refine (low8_any _ first).mono ?_; rintro e w2 ⟨B17, d17, rfl, r17, a17, o2⟩; have av17 := a17.just hrow; have r14 := r14.old o2; have hrow := hrow.old o2; have kk := kk.old o2; have bb := Hb.out.kp kk (fun h => absurd h (Nat.not_succ_le_self _)); have c12 := bb.at_ 12 (v := .string name) rfl; have c14 := bb.at_ 14 (v := .int .i64 size) rfl; have c17 := bb.at_ 17 (v := .int .i64 first) rfl)
        | (go_at_call_of 20 (Value.int .i64 first); refine (low8_any _ first).mono ?_; rintro e w2 ⟨B17, d17, rfl, r17, a17, o2⟩; have av17 := a17.just hrow; have hrow := hrow.old o2; have kk := kk.old o2; have bb := Hb.out.kp kk (fun h => absurd h (Nat.not_succ_le_self _)); have c12 := bb.at_ 12 (v := .string name) rfl; have c14 := bb.at_ 14 (v := .int .i64 size) rfl; have c17 := bb.at_ 17 (v := .int .i64 first) rfl)
        | (refine Try.step_bytes (.tmp 77) (.tmp 80) hrow r14 ?_ rfl rfl rfl rfl ?_; (rw [e0.out, be_length]; simp only [List.length_append, List.length_singleton, lp_length, sb_length]; omega); intro l21 A21 c21' w21 e21 h21; have r17 := r17.kp h21.kp av17; have av17 := av17.grew h21 r17; have kk := kk.trans (h21.from_ hrow) (fun _ _ h => h); have hrow := h21.row; have bb := Hb.out.kp kk (fun h => absurd h (Nat.not_succ_le_self _)); have c12 := bb.at_ 12 (v := .string name) rfl; have c14 := bb.at_ 14 (v := .int .i64 size) rfl; have c17 := bb.at_ 17 (v := .int .i64 first) rfl)
        | (refine Try.step_bytes (.tmp 77) (.tmp 80) hrow r14 ?_ rfl rfl rfl rfl ?_; (rw [e0.out, be_length]; simp only [List.length_append, List.length_singleton, lp_length, sb_length]; omega); intro l21 A21 c21' w21 e21 h21; have kk := kk.trans (h21.from_ hrow) (fun _ _ h => h); have hrow := h21.row; have bb := Hb.out.kp kk (fun h => absurd h (Nat.not_succ_le_self _)); have c12 := bb.at_ 12 (v := .string name) rfl; have c14 := bb.at_ 14 (v := .int .i64 size) rfl; have c17 := bb.at_ 17 (v := .int .i64 first) rfl)
        | (refine Try.step_bytes (.tmp 81) (.tmp 84) hrow r17 ?_ rfl rfl rfl rfl ?_; (rw [e21.out, e0.out, be_length]; simp only [List.length_append, List.length_singleton, be_length, lp_length, sb_length]; omega); intro l22 A22 c22' w22 e22 h22; have kk := kk.trans (h22.from_ hrow) (fun _ _ h => h); have hrow := h22.row; have bb := Hb.out.kp kk (fun h => absurd h (Nat.not_succ_le_self _)); have c12 := bb.at_ 12 (v := .string name) rfl; have c14 := bb.at_ 14 (v := .int .i64 size) rfl; have c17 := bb.at_ 17 (v := .int .i64 first) rfl)
        | fail)
  all_goals
    have Hl := Lib.hid (show l22 = [11] ++ lp 4 (sb name) ++ be 8 (size % 18446744073709551616).toNat ++ be 8 (first % 18446744073709551616).toNat by rw [e22.out, e21.out, e0.out])
    have H := Lib.hid hrow
    have Hoz := Lib.hid (From.old Ho.out kk (Nat.le_succ _))
    clear kk hrow bb c12 c14 c17
    generalize l22 = l at *
    by_cases hlen : l.length ≤ 1048576
    · have hl1 : ¬ ((1048576 : Int) < (l.length : Int)) := by omega
      have HF := Lib.hid (HE.out l Hl.out)
      go_wp2
      go_ret
      exact MaybeB.some_ (HF.out.trans (if_pos hlen)) rfl (by rw [Hl.out]; simp) H.out (Nat.le_succ _) Hoz.out
    · have hl1 : (1048576 : Int) < (l.length : Int) := by omega
      have HF := Lib.hid (HE.out l Hl.out)
      go_wp2
      go_ret
      exact .inr ⟨HF.out.trans (if_neg hlen), rfl, Hoz.out⟩

end Go.Proofs.Ytnaolhjbapgjgaa

/- Contract of docketref24.Request: all. -/
namespace Go.Proofs.Ytnaolhjbapgjgaa
open Go.RowKit

theorem rreq_any (m : MReq) (w : World) (hok : m.Ok w) :
    Calls Try.prog 7 #[.agg m.cells.toArray] w (MaybeB w (encReq m.data)) := by
  by_cases h : m.op < 1 ∨ 12 < m.op
  · exact rreq_far m w h
  · have hk : m.op = 1 ∨ m.op = 2 ∨ m.op = 3 ∨ m.op = 4 ∨ m.op = 5 ∨ m.op = 6 ∨ m.op = 7 ∨ m.op = 8 ∨ m.op = 9 ∨ m.op = 10 ∨ m.op = 11 ∨ m.op = 12 := by omega
    rcases hk with h | h | h | h | h | h | h | h | h | h | h | h
    · exact rreq_1 m w hok h
    · exact rreq_2 m w hok h
    · exact rreq_3 m w hok h
    · exact rreq_4 m w hok h
    · exact rreq_5 m w hok h
    · exact rreq_6 m w hok h
    · exact rreq_7 m w hok h
    · exact rreq_8 m w hok h
    · exact rreq_9 m w hok h
    · exact rreq_10 m w hok h
    · exact rreq_11 m w hok h
    · exact rreq_12 m w hok h
end Go.Proofs.Ytnaolhjbapgjgaa
