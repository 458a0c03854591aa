import Derived.Test.YtnaolhjbapgjgaaGreatMg05
set_option maxRecDepth 100000
set_option maxHeartbeats 3200000
namespace Go.Proofs.YtnaolhjbapgjgaaGreat
open Go.RowKit
theorem km {w : World} {B B' : Nat} {e : TypeId} {size : Nat} {v : Value} {n : Nat} {xs : List Value} (h : w.ownsRow B e size v n xs) (hb : B' <= B) : w.ownsRow B' e size v n xs := by
  refine ⟨h.1, ?_⟩
  rcases h.2 with hn | ⟨g, cap, cur, rfl, hbb, hgg, rest⟩
  · exact .inl hn
  · exact .inr ⟨g, cap, cur, rfl, Nat.le_trans hb hbb, hgg, rest⟩
theorem enc_5 (m : MReq) (w : World) (hok : m.Ok w) (hop : m.op = 5) :
    Calls Tryz.prog 6 #[.agg m.cells.toArray] w (EncPost w (jy m.data)) := by
  obtain ⟨op, do_, name, number, size, from_, to_, first⟩ := m
  simp only [MReq.cells, MOp.cells, MReq.data, List.cons_append, List.nil_append] at *
  subst hop
  obtain ⟨hokd, hname⟩ := hok
  simp only at hokd hname
  go_enter Tryz.func6, Tryz.ntmps6
  go_wp2_with fail
  refine (kq _).mono ?_
  rintro e w1 ⟨rfl, hW1, ho1⟩
  have hb1 := (Blk.new w 34 #[.int .i64 5, .int .i64 do_.op, .string do_.case_, .string do_.type_, .string do_.name, .int .i64 do_.value.v.kind, .int .i64 do_.value.v.n, .string do_.value.v.t, .slice do_.value.A do_.value.v.s.length do_.value.c, .slice do_.argsA do_.args.length do_.argsC, .slice do_.srcA do_.source.length do_.srcC, .int .i64 do_.clock, .string name, .int .i64 number, .int .i64 size, .int .i64 from_, .int .i64 to_, .int .i64 first]).old ho1
  have hoo : Old w w1 := ((Kp.refl NoX w).alloc _).old ho1
  have hg : w.heap.size <= (w.alloc (.cells #[.int .i64 5, .int .i64 do_.op, .string do_.case_, .string do_.type_, .string do_.name, .int .i64 do_.value.v.kind, .int .i64 do_.value.v.n, .string do_.value.v.t, .slice do_.value.A do_.value.v.s.length do_.value.c, .slice do_.argsA do_.args.length do_.argsC, .slice do_.srcA do_.source.length do_.srcC, .int .i64 do_.clock, .string name, .int .i64 number, .int .i64 size, .int .i64 from_, .int .i64 to_, .int .i64 first] 34)).heap.size := by simp
  have hgne : w.heap.size ≠ (w.alloc (.cells #[.int .i64 5, .int .i64 do_.op, .string do_.case_, .string do_.type_, .string do_.name, .int .i64 do_.value.v.kind, .int .i64 do_.value.v.n, .string do_.value.v.t, .slice do_.value.A do_.value.v.s.length do_.value.c, .slice do_.argsA do_.args.length do_.argsC, .slice do_.srcA do_.source.length do_.srcC, .int .i64 do_.clock, .string name, .int .i64 number, .int .i64 size, .int .i64 from_, .int .i64 to_, .int .i64 first] 34)).heap.size := by simp
  generalize hgg : (w.alloc (.cells #[.int .i64 5, .int .i64 do_.op, .string do_.case_, .string do_.type_, .string do_.name, .int .i64 do_.value.v.kind, .int .i64 do_.value.v.n, .string do_.value.v.t, .slice do_.value.A do_.value.v.s.length do_.value.c, .slice do_.argsA do_.args.length do_.argsC, .slice do_.srcA do_.source.length do_.srcC, .int .i64 do_.clock, .string name, .int .i64 number, .int .i64 size, .int .i64 from_, .int .i64 to_, .int .i64 first] 34)).heap.size = g at *
  have d0 := hb1.at_ 0 rfl
  clear hgg ho1
  go_wp2_with fail
  refine (jV _ g none [] _ (by omega) (by omega) hW1 (by simp)).mono ?_
  rintro e w2 ⟨rfl, r2, hW2, hk2, hf2⟩
  have hbx : ¬ WX g none w.heap.size := by
    rintro (e | e)
    · exact hgne e
    · cases e
  have hb2 := hb1.kp hk2 hbx
  have hbx2 : ¬ WX g r2 w.heap.size := by
    rintro (e | e)
    · exact hgne e
    · rcases hf2 with rfl | ⟨k, rfl, hle⟩
      · cases e
      · injection e with e
        have := hb1.lt
        omega
  have hst2 : WStep w1 g none w2 ([] ++ be 1 (5 : Int).toNat) := ⟨r2, hW2, hk2, hf2⟩
  have f0 := hb2.at_ 0 rfl
  clear d0
  have hstz := hst2
  have hreq : reqB ⟨5, do_.data, name, number, size, from_, to_, first⟩ = some ([] ++ be 1 (5 : Int).toNat) := by rw [reqB, jq, if_neg (by simp), if_neg (by simp), if_neg (by simp), if_pos (by simp)]; rfl
  obtain ⟨rz, hWz, hkz, hfz⟩ := hstz
  have Hold := jJ0 (WStep.own ⟨rz, hWz, hkz, hfz⟩ hoo hg)
  have Hreq := jJ0 hreq
  clear hreq
  generalize [] ++ be 1 (5 : Int).toNat = cs at hWz Hreq
  by_cases hlen : cs.length <= 1048576
  · have hl1 : ¬ ((1048576 : Int) < (cs.length : Int)) := by omega
    go_wp2_with fail
    refine (kA _ g rz cs hWz).mono ?_
    rintro e w9 ⟨rfl, rfl⟩
    go_wp2_with fail
    refine (kP _ g rz cs hWz (Nat.le_trans hlen (by decide))).mono ?_
    rintro e w8 ⟨A, c, rfl, hown, ho8⟩
    go_wp2
    go_ret2
    exact .inl ⟨cs, A, c, kL Hreq.out hlen, rfl, km hown Hold.out.size, Hold.out.old ho8⟩
  · have hl1 : (1048576 : Int) < (cs.length : Int) := by omega
    go_wp2_with fail
    refine (kA _ g rz cs hWz).mono ?_
    rintro e w9 ⟨rfl, rfl⟩
    go_wp2
    go_ret2
    exact .inr ⟨jm Hreq.out (by omega), rfl, Hold.out⟩
theorem enc_6 (m : MReq) (w : World) (hok : m.Ok w) (hop : m.op = 6) :
    Calls Tryz.prog 6 #[.agg m.cells.toArray] w (EncPost w (jy m.data)) := by
  obtain ⟨op, do_, name, number, size, from_, to_, first⟩ := m
  simp only [MReq.cells, MOp.cells, MReq.data, List.cons_append, List.nil_append] at *
  subst hop
  obtain ⟨hokd, hname⟩ := hok
  simp only at hokd hname
  go_enter Tryz.func6, Tryz.ntmps6
  go_wp2_with fail
  refine (kq _).mono ?_
  rintro e w1 ⟨rfl, hW1, ho1⟩
  have hb1 := (Blk.new w 34 #[.int .i64 6, .int .i64 do_.op, .string do_.case_, .string do_.type_, .string do_.name, .int .i64 do_.value.v.kind, .int .i64 do_.value.v.n, .string do_.value.v.t, .slice do_.value.A do_.value.v.s.length do_.value.c, .slice do_.argsA do_.args.length do_.argsC, .slice do_.srcA do_.source.length do_.srcC, .int .i64 do_.clock, .string name, .int .i64 number, .int .i64 size, .int .i64 from_, .int .i64 to_, .int .i64 first]).old ho1
  have hoo : Old w w1 := ((Kp.refl NoX w).alloc _).old ho1
  have hg : w.heap.size <= (w.alloc (.cells #[.int .i64 6, .int .i64 do_.op, .string do_.case_, .string do_.type_, .string do_.name, .int .i64 do_.value.v.kind, .int .i64 do_.value.v.n, .string do_.value.v.t, .slice do_.value.A do_.value.v.s.length do_.value.c, .slice do_.argsA do_.args.length do_.argsC, .slice do_.srcA do_.source.length do_.srcC, .int .i64 do_.clock, .string name, .int .i64 number, .int .i64 size, .int .i64 from_, .int .i64 to_, .int .i64 first] 34)).heap.size := by simp
  have hgne : w.heap.size ≠ (w.alloc (.cells #[.int .i64 6, .int .i64 do_.op, .string do_.case_, .string do_.type_, .string do_.name, .int .i64 do_.value.v.kind, .int .i64 do_.value.v.n, .string do_.value.v.t, .slice do_.value.A do_.value.v.s.length do_.value.c, .slice do_.argsA do_.args.length do_.argsC, .slice do_.srcA do_.source.length do_.srcC, .int .i64 do_.clock, .string name, .int .i64 number, .int .i64 size, .int .i64 from_, .int .i64 to_, .int .i64 first] 34)).heap.size := by simp
  generalize hgg : (w.alloc (.cells #[.int .i64 6, .int .i64 do_.op, .string do_.case_, .string do_.type_, .string do_.name, .int .i64 do_.value.v.kind, .int .i64 do_.value.v.n, .string do_.value.v.t, .slice do_.value.A do_.value.v.s.length do_.value.c, .slice do_.argsA do_.args.length do_.argsC, .slice do_.srcA do_.source.length do_.srcC, .int .i64 do_.clock, .string name, .int .i64 number, .int .i64 size, .int .i64 from_, .int .i64 to_, .int .i64 first] 34)).heap.size = g at *
  have d0 := hb1.at_ 0 rfl
  clear hgg ho1
  go_wp2_with fail
  refine (jV _ g none [] _ (by omega) (by omega) hW1 (by simp)).mono ?_
  rintro e w2 ⟨rfl, r2, hW2, hk2, hf2⟩
  have hbx : ¬ WX g none w.heap.size := by
    rintro (e | e)
    · exact hgne e
    · cases e
  have hb2 := hb1.kp hk2 hbx
  have hbx2 : ¬ WX g r2 w.heap.size := by
    rintro (e | e)
    · exact hgne e
    · rcases hf2 with rfl | ⟨k, rfl, hle⟩
      · cases e
      · injection e with e
        have := hb1.lt
        omega
  have hst2 : WStep w1 g none w2 ([] ++ be 1 (6 : Int).toNat) := ⟨r2, hW2, hk2, hf2⟩
  have f0 := hb2.at_ 0 rfl
  clear d0
  have hstz := hst2
  have hreq : reqB ⟨6, do_.data, name, number, size, from_, to_, first⟩ = some ([] ++ be 1 (6 : Int).toNat) := by rw [reqB, jq, if_neg (by simp), if_neg (by simp), if_neg (by simp), if_pos (by simp)]; rfl
  obtain ⟨rz, hWz, hkz, hfz⟩ := hstz
  have Hold := jJ0 (WStep.own ⟨rz, hWz, hkz, hfz⟩ hoo hg)
  have Hreq := jJ0 hreq
  clear hreq
  generalize [] ++ be 1 (6 : Int).toNat = cs at hWz Hreq
  by_cases hlen : cs.length <= 1048576
  · have hl1 : ¬ ((1048576 : Int) < (cs.length : Int)) := by omega
    go_wp2_with fail
    refine (kA _ g rz cs hWz).mono ?_
    rintro e w9 ⟨rfl, rfl⟩
    go_wp2_with fail
    refine (kP _ g rz cs hWz (Nat.le_trans hlen (by decide))).mono ?_
    rintro e w8 ⟨A, c, rfl, hown, ho8⟩
    go_wp2
    go_ret2
    exact .inl ⟨cs, A, c, kL Hreq.out hlen, rfl, km hown Hold.out.size, Hold.out.old ho8⟩
  · have hl1 : (1048576 : Int) < (cs.length : Int) := by omega
    go_wp2_with fail
    refine (kA _ g rz cs hWz).mono ?_
    rintro e w9 ⟨rfl, rfl⟩
    go_wp2
    go_ret2
    exact .inr ⟨jm Hreq.out (by omega), rfl, Hold.out⟩
theorem enc_7 (m : MReq) (w : World) (hok : m.Ok w) (hop : m.op = 7) :
    Calls Tryz.prog 6 #[.agg m.cells.toArray] w (EncPost w (jy m.data)) := by
  obtain ⟨op, do_, name, number, size, from_, to_, first⟩ := m
  simp only [MReq.cells, MOp.cells, MReq.data, List.cons_append, List.nil_append] at *
  subst hop
  obtain ⟨hokd, hname⟩ := hok
  simp only at hokd hname
  go_enter Tryz.func6, Tryz.ntmps6
  go_wp2_with fail
  refine (kq _).mono ?_
  rintro e w1 ⟨rfl, hW1, ho1⟩
  have hb1 := (Blk.new w 34 #[.int .i64 7, .int .i64 do_.op, .string do_.case_, .string do_.type_, .string do_.name, .int .i64 do_.value.v.kind, .int .i64 do_.value.v.n, .string do_.value.v.t, .slice do_.value.A do_.value.v.s.length do_.value.c, .slice do_.argsA do_.args.length do_.argsC, .slice do_.srcA do_.source.length do_.srcC, .int .i64 do_.clock, .string name, .int .i64 number, .int .i64 size, .int .i64 from_, .int .i64 to_, .int .i64 first]).old ho1
  have hoo : Old w w1 := ((Kp.refl NoX w).alloc _).old ho1
  have hg : w.heap.size <= (w.alloc (.cells #[.int .i64 7, .int .i64 do_.op, .string do_.case_, .string do_.type_, .string do_.name, .int .i64 do_.value.v.kind, .int .i64 do_.value.v.n, .string do_.value.v.t, .slice do_.value.A do_.value.v.s.length do_.value.c, .slice do_.argsA do_.args.length do_.argsC, .slice do_.srcA do_.source.length do_.srcC, .int .i64 do_.clock, .string name, .int .i64 number, .int .i64 size, .int .i64 from_, .int .i64 to_, .int .i64 first] 34)).heap.size := by simp
  have hgne : w.heap.size ≠ (w.alloc (.cells #[.int .i64 7, .int .i64 do_.op, .string do_.case_, .string do_.type_, .string do_.name, .int .i64 do_.value.v.kind, .int .i64 do_.value.v.n, .string do_.value.v.t, .slice do_.value.A do_.value.v.s.length do_.value.c, .slice do_.argsA do_.args.length do_.argsC, .slice do_.srcA do_.source.length do_.srcC, .int .i64 do_.clock, .string name, .int .i64 number, .int .i64 size, .int .i64 from_, .int .i64 to_, .int .i64 first] 34)).heap.size := by simp
  generalize hgg : (w.alloc (.cells #[.int .i64 7, .int .i64 do_.op, .string do_.case_, .string do_.type_, .string do_.name, .int .i64 do_.value.v.kind, .int .i64 do_.value.v.n, .string do_.value.v.t, .slice do_.value.A do_.value.v.s.length do_.value.c, .slice do_.argsA do_.args.length do_.argsC, .slice do_.srcA do_.source.length do_.srcC, .int .i64 do_.clock, .string name, .int .i64 number, .int .i64 size, .int .i64 from_, .int .i64 to_, .int .i64 first] 34)).heap.size = g at *
  have d0 := hb1.at_ 0 rfl
  clear hgg ho1
  go_wp2_with fail
  refine (jV _ g none [] _ (by omega) (by omega) hW1 (by simp)).mono ?_
  rintro e w2 ⟨rfl, r2, hW2, hk2, hf2⟩
  have hbx : ¬ WX g none w.heap.size := by
    rintro (e | e)
    · exact hgne e
    · cases e
  have hb2 := hb1.kp hk2 hbx
  have hbx2 : ¬ WX g r2 w.heap.size := by
    rintro (e | e)
    · exact hgne e
    · rcases hf2 with rfl | ⟨k, rfl, hle⟩
      · cases e
      · injection e with e
        have := hb1.lt
        omega
  have hst2 : WStep w1 g none w2 ([] ++ be 1 (7 : Int).toNat) := ⟨r2, hW2, hk2, hf2⟩
  have f0 := hb2.at_ 0 rfl
  clear d0
  have hstz := hst2
  have hreq : reqB ⟨7, do_.data, name, number, size, from_, to_, first⟩ = some ([] ++ be 1 (7 : Int).toNat) := by rw [reqB, jq, if_neg (by simp), if_neg (by simp), if_neg (by simp), if_pos (by simp)]; rfl
  obtain ⟨rz, hWz, hkz, hfz⟩ := hstz
  have Hold := jJ0 (WStep.own ⟨rz, hWz, hkz, hfz⟩ hoo hg)
  have Hreq := jJ0 hreq
  clear hreq
  generalize [] ++ be 1 (7 : Int).toNat = cs at hWz Hreq
  by_cases hlen : cs.length <= 1048576
  · have hl1 : ¬ ((1048576 : Int) < (cs.length : Int)) := by omega
    go_wp2_with fail
    refine (kA _ g rz cs hWz).mono ?_
    rintro e w9 ⟨rfl, rfl⟩
    go_wp2_with fail
    refine (kP _ g rz cs hWz (Nat.le_trans hlen (by decide))).mono ?_
    rintro e w8 ⟨A, c, rfl, hown, ho8⟩
    go_wp2
    go_ret2
    exact .inl ⟨cs, A, c, kL Hreq.out hlen, rfl, km hown Hold.out.size, Hold.out.old ho8⟩
  · have hl1 : (1048576 : Int) < (cs.length : Int) := by omega
    go_wp2_with fail
    refine (kA _ g rz cs hWz).mono ?_
    rintro e w9 ⟨rfl, rfl⟩
    go_wp2
    go_ret2
    exact .inr ⟨jm Hreq.out (by omega), rfl, Hold.out⟩
theorem enc_12 (m : MReq) (w : World) (hok : m.Ok w) (hop : m.op = 12) :
    Calls Tryz.prog 6 #[.agg m.cells.toArray] w (EncPost w (jy m.data)) := by
  obtain ⟨op, do_, name, number, size, from_, to_, first⟩ := m
  simp only [MReq.cells, MOp.cells, MReq.data, List.cons_append, List.nil_append] at *
  subst hop
  obtain ⟨hokd, hname⟩ := hok
  simp only at hokd hname
  go_enter Tryz.func6, Tryz.ntmps6
  go_wp2_with fail
  refine (kq _).mono ?_
  rintro e w1 ⟨rfl, hW1, ho1⟩
  have hb1 := (Blk.new w 34 #[.int .i64 12, .int .i64 do_.op, .string do_.case_, .string do_.type_, .string do_.name, .int .i64 do_.value.v.kind, .int .i64 do_.value.v.n, .string do_.value.v.t, .slice do_.value.A do_.value.v.s.length do_.value.c, .slice do_.argsA do_.args.length do_.argsC, .slice do_.srcA do_.source.length do_.srcC, .int .i64 do_.clock, .string name, .int .i64 number, .int .i64 size, .int .i64 from_, .int .i64 to_, .int .i64 first]).old ho1
  have hoo : Old w w1 := ((Kp.refl NoX w).alloc _).old ho1
  have hg : w.heap.size <= (w.alloc (.cells #[.int .i64 12, .int .i64 do_.op, .string do_.case_, .string do_.type_, .string do_.name, .int .i64 do_.value.v.kind, .int .i64 do_.value.v.n, .string do_.value.v.t, .slice do_.value.A do_.value.v.s.length do_.value.c, .slice do_.argsA do_.args.length do_.argsC, .slice do_.srcA do_.source.length do_.srcC, .int .i64 do_.clock, .string name, .int .i64 number, .int .i64 size, .int .i64 from_, .int .i64 to_, .int .i64 first] 34)).heap.size := by simp
  have hgne : w.heap.size ≠ (w.alloc (.cells #[.int .i64 12, .int .i64 do_.op, .string do_.case_, .string do_.type_, .string do_.name, .int .i64 do_.value.v.kind, .int .i64 do_.value.v.n, .string do_.value.v.t, .slice do_.value.A do_.value.v.s.length do_.value.c, .slice do_.argsA do_.args.length do_.argsC, .slice do_.srcA do_.source.length do_.srcC, .int .i64 do_.clock, .string name, .int .i64 number, .int .i64 size, .int .i64 from_, .int .i64 to_, .int .i64 first] 34)).heap.size := by simp
  generalize hgg : (w.alloc (.cells #[.int .i64 12, .int .i64 do_.op, .string do_.case_, .string do_.type_, .string do_.name, .int .i64 do_.value.v.kind, .int .i64 do_.value.v.n, .string do_.value.v.t, .slice do_.value.A do_.value.v.s.length do_.value.c, .slice do_.argsA do_.args.length do_.argsC, .slice do_.srcA do_.source.length do_.srcC, .int .i64 do_.clock, .string name, .int .i64 number, .int .i64 size, .int .i64 from_, .int .i64 to_, .int .i64 first] 34)).heap.size = g at *
  have d0 := hb1.at_ 0 rfl
  clear hgg ho1
  go_wp2_with fail
  refine (jV _ g none [] _ (by omega) (by omega) hW1 (by simp)).mono ?_
  rintro e w2 ⟨rfl, r2, hW2, hk2, hf2⟩
  have hbx : ¬ WX g none w.heap.size := by
    rintro (e | e)
    · exact hgne e
    · cases e
  have hb2 := hb1.kp hk2 hbx
  have hbx2 : ¬ WX g r2 w.heap.size := by
    rintro (e | e)
    · exact hgne e
    · rcases hf2 with rfl | ⟨k, rfl, hle⟩
      · cases e
      · injection e with e
        have := hb1.lt
        omega
  have hst2 : WStep w1 g none w2 ([] ++ be 1 (12 : Int).toNat) := ⟨r2, hW2, hk2, hf2⟩
  have f0 := hb2.at_ 0 rfl
  clear d0
  have hstz := hst2
  have hreq : reqB ⟨12, do_.data, name, number, size, from_, to_, first⟩ = some ([] ++ be 1 (12 : Int).toNat) := by rw [reqB, jq, if_neg (by simp), if_neg (by simp), if_neg (by simp), if_pos (by simp)]; rfl
  obtain ⟨rz, hWz, hkz, hfz⟩ := hstz
  have Hold := jJ0 (WStep.own ⟨rz, hWz, hkz, hfz⟩ hoo hg)
  have Hreq := jJ0 hreq
  clear hreq
  generalize [] ++ be 1 (12 : Int).toNat = cs at hWz Hreq
  by_cases hlen : cs.length <= 1048576
  · have hl1 : ¬ ((1048576 : Int) < (cs.length : Int)) := by omega
    go_wp2_with fail
    refine (kA _ g rz cs hWz).mono ?_
    rintro e w9 ⟨rfl, rfl⟩
    go_wp2_with fail
    refine (kP _ g rz cs hWz (Nat.le_trans hlen (by decide))).mono ?_
    rintro e w8 ⟨A, c, rfl, hown, ho8⟩
    go_wp2
    go_ret2
    exact .inl ⟨cs, A, c, kL Hreq.out hlen, rfl, km hown Hold.out.size, Hold.out.old ho8⟩
  · have hl1 : (1048576 : Int) < (cs.length : Int) := by omega
    go_wp2_with fail
    refine (kA _ g rz cs hWz).mono ?_
    rintro e w9 ⟨rfl, rfl⟩
    go_wp2
    go_ret2
    exact .inr ⟨jm Hreq.out (by omega), rfl, Hold.out⟩
theorem enc_4 (m : MReq) (w : World) (hok : m.Ok w) (hop : m.op = 4) :
    Calls Tryz.prog 6 #[.agg m.cells.toArray] w (EncPost w (jy m.data)) := by
  obtain ⟨op, do_, name, number, size, from_, to_, first⟩ := m
  simp only [MReq.cells, MOp.cells, MReq.data, List.cons_append, List.nil_append] at *
  subst hop
  obtain ⟨hokd, hname⟩ := hok
  simp only at hokd hname
  go_enter Tryz.func6, Tryz.ntmps6
  go_wp2_with fail
  refine (kq _).mono ?_
  rintro e w1 ⟨rfl, hW1, ho1⟩
  have hb1 := (Blk.new w 34 #[.int .i64 4, .int .i64 do_.op, .string do_.case_, .string do_.type_, .string do_.name, .int .i64 do_.value.v.kind, .int .i64 do_.value.v.n, .string do_.value.v.t, .slice do_.value.A do_.value.v.s.length do_.value.c, .slice do_.argsA do_.args.length do_.argsC, .slice do_.srcA do_.source.length do_.srcC, .int .i64 do_.clock, .string name, .int .i64 number, .int .i64 size, .int .i64 from_, .int .i64 to_, .int .i64 first]).old ho1
  have hoo : Old w w1 := ((Kp.refl NoX w).alloc _).old ho1
  have hg : w.heap.size <= (w.alloc (.cells #[.int .i64 4, .int .i64 do_.op, .string do_.case_, .string do_.type_, .string do_.name, .int .i64 do_.value.v.kind, .int .i64 do_.value.v.n, .string do_.value.v.t, .slice do_.value.A do_.value.v.s.length do_.value.c, .slice do_.argsA do_.args.length do_.argsC, .slice do_.srcA do_.source.length do_.srcC, .int .i64 do_.clock, .string name, .int .i64 number, .int .i64 size, .int .i64 from_, .int .i64 to_, .int .i64 first] 34)).heap.size := by simp
  have hgne : w.heap.size ≠ (w.alloc (.cells #[.int .i64 4, .int .i64 do_.op, .string do_.case_, .string do_.type_, .string do_.name, .int .i64 do_.value.v.kind, .int .i64 do_.value.v.n, .string do_.value.v.t, .slice do_.value.A do_.value.v.s.length do_.value.c, .slice do_.argsA do_.args.length do_.argsC, .slice do_.srcA do_.source.length do_.srcC, .int .i64 do_.clock, .string name, .int .i64 number, .int .i64 size, .int .i64 from_, .int .i64 to_, .int .i64 first] 34)).heap.size := by simp
  generalize hgg : (w.alloc (.cells #[.int .i64 4, .int .i64 do_.op, .string do_.case_, .string do_.type_, .string do_.name, .int .i64 do_.value.v.kind, .int .i64 do_.value.v.n, .string do_.value.v.t, .slice do_.value.A do_.value.v.s.length do_.value.c, .slice do_.argsA do_.args.length do_.argsC, .slice do_.srcA do_.source.length do_.srcC, .int .i64 do_.clock, .string name, .int .i64 number, .int .i64 size, .int .i64 from_, .int .i64 to_, .int .i64 first] 34)).heap.size = g at *
  have d0 := hb1.at_ 0 rfl
  clear hgg ho1
  go_wp2_with fail
  refine (jV _ g none [] _ (by omega) (by omega) hW1 (by simp)).mono ?_
  rintro e w2 ⟨rfl, r2, hW2, hk2, hf2⟩
  have hbx : ¬ WX g none w.heap.size := by
    rintro (e | e)
    · exact hgne e
    · cases e
  have hb2 := hb1.kp hk2 hbx
  have hbx2 : ¬ WX g r2 w.heap.size := by
    rintro (e | e)
    · exact hgne e
    · rcases hf2 with rfl | ⟨k, rfl, hle⟩
      · cases e
      · injection e with e
        have := hb1.lt
        omega
  have hst2 : WStep w1 g none w2 ([] ++ be 1 (4 : Int).toNat) := ⟨r2, hW2, hk2, hf2⟩
  have f0 := hb2.at_ 0 rfl
  clear d0
  have f13 := hb2.at_ 13 rfl
  go_wp2_with fail
  refine (kG _ g r2 _ _ 1 1 [number] rfl (hW2.old ((Kp.refl _ _).alloc _)) (by simp [jC]) (Rd.arr_new _ _ [.int .i64 number]) (Av.new hW2) (by decide)).mono ?_
  rintro e w3 ⟨rfl, hst⟩
  have hstz := WStep.trans hk2 hf2 (WStep.after ((Kp.refl _ _).alloc _) hst)
  have hreq : reqB ⟨4, do_.data, name, number, size, from_, to_, first⟩ = some ([] ++ be 1 (4 : Int).toNat ++ nums [number]) := by rw [reqB, jq, if_neg (by simp), if_neg (by simp), if_pos (by simp)]; simp [nums]
  clear hst
  obtain ⟨rz, hWz, hkz, hfz⟩ := hstz
  have Hold := jJ0 (WStep.own ⟨rz, hWz, hkz, hfz⟩ hoo hg)
  have Hreq := jJ0 hreq
  clear hreq
  generalize [] ++ be 1 (4 : Int).toNat ++ nums [number] = cs at hWz Hreq
  by_cases hlen : cs.length <= 1048576
  · have hl1 : ¬ ((1048576 : Int) < (cs.length : Int)) := by omega
    go_wp2_with fail
    refine (kA _ g rz cs hWz).mono ?_
    rintro e w9 ⟨rfl, rfl⟩
    go_wp2_with fail
    refine (kP _ g rz cs hWz (Nat.le_trans hlen (by decide))).mono ?_
    rintro e w8 ⟨A, c, rfl, hown, ho8⟩
    go_wp2
    go_ret2
    exact .inl ⟨cs, A, c, kL Hreq.out hlen, rfl, km hown Hold.out.size, Hold.out.old ho8⟩
  · have hl1 : (1048576 : Int) < (cs.length : Int) := by omega
    go_wp2_with fail
    refine (kA _ g rz cs hWz).mono ?_
    rintro e w9 ⟨rfl, rfl⟩
    go_wp2
    go_ret2
    exact .inr ⟨jm Hreq.out (by omega), rfl, Hold.out⟩
theorem enc_8 (m : MReq) (w : World) (hok : m.Ok w) (hop : m.op = 8) :
    Calls Tryz.prog 6 #[.agg m.cells.toArray] w (EncPost w (jy m.data)) := by
  obtain ⟨op, do_, name, number, size, from_, to_, first⟩ := m
  simp only [MReq.cells, MOp.cells, MReq.data, List.cons_append, List.nil_append] at *
  subst hop
  obtain ⟨hokd, hname⟩ := hok
  simp only at hokd hname
  go_enter Tryz.func6, Tryz.ntmps6
  go_wp2_with fail
  refine (kq _).mono ?_
  rintro e w1 ⟨rfl, hW1, ho1⟩
  have hb1 := (Blk.new w 34 #[.int .i64 8, .int .i64 do_.op, .string do_.case_, .string do_.type_, .string do_.name, .int .i64 do_.value.v.kind, .int .i64 do_.value.v.n, .string do_.value.v.t, .slice do_.value.A do_.value.v.s.length do_.value.c, .slice do_.argsA do_.args.length do_.argsC, .slice do_.srcA do_.source.length do_.srcC, .int .i64 do_.clock, .string name, .int .i64 number, .int .i64 size, .int .i64 from_, .int .i64 to_, .int .i64 first]).old ho1
  have hoo : Old w w1 := ((Kp.refl NoX w).alloc _).old ho1
  have hg : w.heap.size <= (w.alloc (.cells #[.int .i64 8, .int .i64 do_.op, .string do_.case_, .string do_.type_, .string do_.name, .int .i64 do_.value.v.kind, .int .i64 do_.value.v.n, .string do_.value.v.t, .slice do_.value.A do_.value.v.s.length do_.value.c, .slice do_.argsA do_.args.length do_.argsC, .slice do_.srcA do_.source.length do_.srcC, .int .i64 do_.clock, .string name, .int .i64 number, .int .i64 size, .int .i64 from_, .int .i64 to_, .int .i64 first] 34)).heap.size := by simp
  have hgne : w.heap.size ≠ (w.alloc (.cells #[.int .i64 8, .int .i64 do_.op, .string do_.case_, .string do_.type_, .string do_.name, .int .i64 do_.value.v.kind, .int .i64 do_.value.v.n, .string do_.value.v.t, .slice do_.value.A do_.value.v.s.length do_.value.c, .slice do_.argsA do_.args.length do_.argsC, .slice do_.srcA do_.source.length do_.srcC, .int .i64 do_.clock, .string name, .int .i64 number, .int .i64 size, .int .i64 from_, .int .i64 to_, .int .i64 first] 34)).heap.size := by simp
  generalize hgg : (w.alloc (.cells #[.int .i64 8, .int .i64 do_.op, .string do_.case_, .string do_.type_, .string do_.name, .int .i64 do_.value.v.kind, .int .i64 do_.value.v.n, .string do_.value.v.t, .slice do_.value.A do_.value.v.s.length do_.value.c, .slice do_.argsA do_.args.length do_.argsC, .slice do_.srcA do_.source.length do_.srcC, .int .i64 do_.clock, .string name, .int .i64 number, .int .i64 size, .int .i64 from_, .int .i64 to_, .int .i64 first] 34)).heap.size = g at *
  have d0 := hb1.at_ 0 rfl
  clear hgg ho1
  go_wp2_with fail
  refine (jV _ g none [] _ (by omega) (by omega) hW1 (by simp)).mono ?_
  rintro e w2 ⟨rfl, r2, hW2, hk2, hf2⟩
  have hbx : ¬ WX g none w.heap.size := by
    rintro (e | e)
    · exact hgne e
    · cases e
  have hb2 := hb1.kp hk2 hbx
  have hbx2 : ¬ WX g r2 w.heap.size := by
    rintro (e | e)
    · exact hgne e
    · rcases hf2 with rfl | ⟨k, rfl, hle⟩
      · cases e
      · injection e with e
        have := hb1.lt
        omega
  have hst2 : WStep w1 g none w2 ([] ++ be 1 (8 : Int).toNat) := ⟨r2, hW2, hk2, hf2⟩
  have f0 := hb2.at_ 0 rfl
  clear d0
  have f13 := hb2.at_ 13 rfl
  have f14 := hb2.at_ 14 rfl
  go_wp2_with fail
  refine (kG _ g r2 _ _ 2 2 [number, size] rfl (hW2.old ((Kp.refl _ _).alloc _)) (by simp [jC]) (Rd.arr_new _ _ [.int .i64 number, .int .i64 size]) (Av.new hW2) (by decide)).mono ?_
  rintro e w3 ⟨rfl, hst⟩
  have hstz := WStep.trans hk2 hf2 (WStep.after ((Kp.refl _ _).alloc _) hst)
  have hreq : reqB ⟨8, do_.data, name, number, size, from_, to_, first⟩ = some ([] ++ be 1 (8 : Int).toNat ++ nums [number, size]) := by rw [reqB, jq, if_neg (by simp), if_neg (by simp), if_neg (by simp), if_neg (by simp), if_pos (by simp)]; simp [nums]
  clear hst
  obtain ⟨rz, hWz, hkz, hfz⟩ := hstz
  have Hold := jJ0 (WStep.own ⟨rz, hWz, hkz, hfz⟩ hoo hg)
  have Hreq := jJ0 hreq
  clear hreq
  generalize [] ++ be 1 (8 : Int).toNat ++ nums [number, size] = cs at hWz Hreq
  by_cases hlen : cs.length <= 1048576
  · have hl1 : ¬ ((1048576 : Int) < (cs.length : Int)) := by omega
    go_wp2_with fail
    refine (kA _ g rz cs hWz).mono ?_
    rintro e w9 ⟨rfl, rfl⟩
    go_wp2_with fail
    refine (kP _ g rz cs hWz (Nat.le_trans hlen (by decide))).mono ?_
    rintro e w8 ⟨A, c, rfl, hown, ho8⟩
    go_wp2
    go_ret2
    exact .inl ⟨cs, A, c, kL Hreq.out hlen, rfl, km hown Hold.out.size, Hold.out.old ho8⟩
  · have hl1 : (1048576 : Int) < (cs.length : Int) := by omega
    go_wp2_with fail
    refine (kA _ g rz cs hWz).mono ?_
    rintro e w9 ⟨rfl, rfl⟩
    go_wp2
    go_ret2
    exact .inr ⟨jm Hreq.out (by omega), rfl, Hold.out⟩
theorem enc_9 (m : MReq) (w : World) (hok : m.Ok w) (hop : m.op = 9) :
    Calls Tryz.prog 6 #[.agg m.cells.toArray] w (EncPost w (jy m.data)) := by
  obtain ⟨op, do_, name, number, size, from_, to_, first⟩ := m
  simp only [MReq.cells, MOp.cells, MReq.data, List.cons_append, List.nil_append] at *
  subst hop
  obtain ⟨hokd, hname⟩ := hok
  simp only at hokd hname
  go_enter Tryz.func6, Tryz.ntmps6
  go_wp2_with fail
  refine (kq _).mono ?_
  rintro e w1 ⟨rfl, hW1, ho1⟩
  have hb1 := (Blk.new w 34 #[.int .i64 9, .int .i64 do_.op, .string do_.case_, .string do_.type_, .string do_.name, .int .i64 do_.value.v.kind, .int .i64 do_.value.v.n, .string do_.value.v.t, .slice do_.value.A do_.value.v.s.length do_.value.c, .slice do_.argsA do_.args.length do_.argsC, .slice do_.srcA do_.source.length do_.srcC, .int .i64 do_.clock, .string name, .int .i64 number, .int .i64 size, .int .i64 from_, .int .i64 to_, .int .i64 first]).old ho1
  have hoo : Old w w1 := ((Kp.refl NoX w).alloc _).old ho1
  have hg : w.heap.size <= (w.alloc (.cells #[.int .i64 9, .int .i64 do_.op, .string do_.case_, .string do_.type_, .string do_.name, .int .i64 do_.value.v.kind, .int .i64 do_.value.v.n, .string do_.value.v.t, .slice do_.value.A do_.value.v.s.length do_.value.c, .slice do_.argsA do_.args.length do_.argsC, .slice do_.srcA do_.source.length do_.srcC, .int .i64 do_.clock, .string name, .int .i64 number, .int .i64 size, .int .i64 from_, .int .i64 to_, .int .i64 first] 34)).heap.size := by simp
  have hgne : w.heap.size ≠ (w.alloc (.cells #[.int .i64 9, .int .i64 do_.op, .string do_.case_, .string do_.type_, .string do_.name, .int .i64 do_.value.v.kind, .int .i64 do_.value.v.n, .string do_.value.v.t, .slice do_.value.A do_.value.v.s.length do_.value.c, .slice do_.argsA do_.args.length do_.argsC, .slice do_.srcA do_.source.length do_.srcC, .int .i64 do_.clock, .string name, .int .i64 number, .int .i64 size, .int .i64 from_, .int .i64 to_, .int .i64 first] 34)).heap.size := by simp
  generalize hgg : (w.alloc (.cells #[.int .i64 9, .int .i64 do_.op, .string do_.case_, .string do_.type_, .string do_.name, .int .i64 do_.value.v.kind, .int .i64 do_.value.v.n, .string do_.value.v.t, .slice do_.value.A do_.value.v.s.length do_.value.c, .slice do_.argsA do_.args.length do_.argsC, .slice do_.srcA do_.source.length do_.srcC, .int .i64 do_.clock, .string name, .int .i64 number, .int .i64 size, .int .i64 from_, .int .i64 to_, .int .i64 first] 34)).heap.size = g at *
  have d0 := hb1.at_ 0 rfl
  clear hgg ho1
  go_wp2_with fail
  refine (jV _ g none [] _ (by omega) (by omega) hW1 (by simp)).mono ?_
  rintro e w2 ⟨rfl, r2, hW2, hk2, hf2⟩
  have hbx : ¬ WX g none w.heap.size := by
    rintro (e | e)
    · exact hgne e
    · cases e
  have hb2 := hb1.kp hk2 hbx
  have hbx2 : ¬ WX g r2 w.heap.size := by
    rintro (e | e)
    · exact hgne e
    · rcases hf2 with rfl | ⟨k, rfl, hle⟩
      · cases e
      · injection e with e
        have := hb1.lt
        omega
  have hst2 : WStep w1 g none w2 ([] ++ be 1 (9 : Int).toNat) := ⟨r2, hW2, hk2, hf2⟩
  have f0 := hb2.at_ 0 rfl
  clear d0
  have f15 := hb2.at_ 15 rfl
  have f16 := hb2.at_ 16 rfl
  go_wp2_with fail
  refine (kG _ g r2 _ _ 2 2 [from_, to_] rfl (hW2.old ((Kp.refl _ _).alloc _)) (by simp [jC]) (Rd.arr_new _ _ [.int .i64 from_, .int .i64 to_]) (Av.new hW2) (by decide)).mono ?_
  rintro e w3 ⟨rfl, hst⟩
  have hstz := WStep.trans hk2 hf2 (WStep.after ((Kp.refl _ _).alloc _) hst)
  have hreq : reqB ⟨9, do_.data, name, number, size, from_, to_, first⟩ = some ([] ++ be 1 (9 : Int).toNat ++ nums [from_, to_]) := by rw [reqB, jq, if_neg (by simp), if_neg (by simp), if_neg (by simp), if_neg (by simp), if_neg (by simp), if_pos (by simp)]; simp [nums]
  clear hst
  obtain ⟨rz, hWz, hkz, hfz⟩ := hstz
  have Hold := jJ0 (WStep.own ⟨rz, hWz, hkz, hfz⟩ hoo hg)
  have Hreq := jJ0 hreq
  clear hreq
  generalize [] ++ be 1 (9 : Int).toNat ++ nums [from_, to_] = cs at hWz Hreq
  by_cases hlen : cs.length <= 1048576
  · have hl1 : ¬ ((1048576 : Int) < (cs.length : Int)) := by omega
    go_wp2_with fail
    refine (kA _ g rz cs hWz).mono ?_
    rintro e w9 ⟨rfl, rfl⟩
    go_wp2_with fail
    refine (kP _ g rz cs hWz (Nat.le_trans hlen (by decide))).mono ?_
    rintro e w8 ⟨A, c, rfl, hown, ho8⟩
    go_wp2
    go_ret2
    exact .inl ⟨cs, A, c, kL Hreq.out hlen, rfl, km hown Hold.out.size, Hold.out.old ho8⟩
  · have hl1 : (1048576 : Int) < (cs.length : Int) := by omega
    go_wp2_with fail
    refine (kA _ g rz cs hWz).mono ?_
    rintro e w9 ⟨rfl, rfl⟩
    go_wp2
    go_ret2
    exact .inr ⟨jm Hreq.out (by omega), rfl, Hold.out⟩
end Go.Proofs.YtnaolhjbapgjgaaGreat
