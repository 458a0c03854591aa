import Derived.Test.YtnaolhjbapgjgaaGreatMg02
import Derived.Test.YtnaolhjbapgjgaaGreatMg40
set_option maxRecDepth 100000
set_option maxHeartbeats 3200000
namespace Go.Proofs.YtnaolhjbapgjgaaGreat
open Go.RowKit
theorem enc_nob {q : Req} {b : Option (List UInt8)} (h : jq q = b) (hb : NoB b) : jy q = none := by
  rcases hb with rfl | ⟨l, rfl, hl⟩
  · exact encReq_none h
  · refine jm (b := be 1 q.op.toNat ++ l) (by rw [reqB, h]; rfl) ?_
    rw [List.length_append]
    omega
theorem enc_3 (m : MReq) (w : World) (hok : m.Ok w) (hop : m.op = 3) :
    Calls Tryz.prog 6 #[.agg m.cells.toArray] w (EncPost w (jy m.data)) := by
  obtain ⟨op, do_, name, number, size, from_, to_, first⟩ := m
  simp only [MReq.cells, MOp.cells, MReq.data, List.cons_append, List.nil_append] at *
  subst hop
  obtain ⟨hokd, hname⟩ := hok
  simp only at hokd hname
  go_enter Tryz.func6, Tryz.ntmps6
  go_wp2_with fail
  refine (kq _).mono ?_
  rintro e w1 ⟨rfl, hW1, ho1⟩
  have hb1 := (Blk.new w 34 #[.int .i64 3, .int .i64 do_.op, .string do_.case_, .string do_.type_, .string do_.name, .int .i64 do_.value.v.kind, .int .i64 do_.value.v.n, .string do_.value.v.t, .slice do_.value.A do_.value.v.s.length do_.value.c, .slice do_.argsA do_.args.length do_.argsC, .slice do_.srcA do_.source.length do_.srcC, .int .i64 do_.clock, .string name, .int .i64 number, .int .i64 size, .int .i64 from_, .int .i64 to_, .int .i64 first]).old ho1
  have hoo : Old w w1 := ((Kp.refl NoX w).alloc _).old ho1
  have hg : w.heap.size <= (w.alloc (.cells #[.int .i64 3, .int .i64 do_.op, .string do_.case_, .string do_.type_, .string do_.name, .int .i64 do_.value.v.kind, .int .i64 do_.value.v.n, .string do_.value.v.t, .slice do_.value.A do_.value.v.s.length do_.value.c, .slice do_.argsA do_.args.length do_.argsC, .slice do_.srcA do_.source.length do_.srcC, .int .i64 do_.clock, .string name, .int .i64 number, .int .i64 size, .int .i64 from_, .int .i64 to_, .int .i64 first] 34)).heap.size := by simp
  have hgne : w.heap.size ≠ (w.alloc (.cells #[.int .i64 3, .int .i64 do_.op, .string do_.case_, .string do_.type_, .string do_.name, .int .i64 do_.value.v.kind, .int .i64 do_.value.v.n, .string do_.value.v.t, .slice do_.value.A do_.value.v.s.length do_.value.c, .slice do_.argsA do_.args.length do_.argsC, .slice do_.srcA do_.source.length do_.srcC, .int .i64 do_.clock, .string name, .int .i64 number, .int .i64 size, .int .i64 from_, .int .i64 to_, .int .i64 first] 34)).heap.size := by simp
  generalize hgg : (w.alloc (.cells #[.int .i64 3, .int .i64 do_.op, .string do_.case_, .string do_.type_, .string do_.name, .int .i64 do_.value.v.kind, .int .i64 do_.value.v.n, .string do_.value.v.t, .slice do_.value.A do_.value.v.s.length do_.value.c, .slice do_.argsA do_.args.length do_.argsC, .slice do_.srcA do_.source.length do_.srcC, .int .i64 do_.clock, .string name, .int .i64 number, .int .i64 size, .int .i64 from_, .int .i64 to_, .int .i64 first] 34)).heap.size = g at *
  have d0 := hb1.at_ 0 rfl
  clear hgg ho1
  go_wp2_with fail
  refine (jV _ g none [] _ (by omega) (by omega) hW1 (by simp)).mono ?_
  rintro e w2 ⟨rfl, r2, hW2, hk2, hf2⟩
  have hbx : ¬ WX g none w.heap.size := by
    rintro (e | e)
    · exact hgne e
    · cases e
  have hb2 := hb1.kp hk2 hbx
  have hbx2 : ¬ WX g r2 w.heap.size := by
    rintro (e | e)
    · exact hgne e
    · rcases hf2 with rfl | ⟨k, rfl, hle⟩
      · cases e
      · injection e with e
        have := hb1.lt
        omega
  have hst2 : WStep w1 g none w2 ([] ++ be 1 (3 : Int).toNat) := ⟨r2, hW2, hk2, hf2⟩
  have f0 := hb2.at_ 0 rfl
  clear d0
  have f12 := hb2.at_ 12 rfl
  go_wp2_with fail
  refine (vB _ g r2 _ _ 1 [name] (hW2.old ((Kp.refl _ _).alloc _)) (by simp [jC]) (Rd.arr_new _ _ [.string name]) (Av.new hW2) (by simp) ?_).mono ?_
  · intro k hk
    have : k = 0 := by simp only [List.length_cons, List.length_nil] at hk; omega
    subst this
    exact hname
  intro e w3 ht
  have hok3 := ht.one
  rcases hok3 with ⟨rfl, hs1, hst⟩ | ⟨rfl, hbig, hst⟩
  · have hstz := WStep.trans hk2 hf2 (WStep.after ((Kp.refl _ _).alloc _) hst)
    have hreq : reqB ⟨3, do_.data, name, number, size, from_, to_, first⟩ = some ([] ++ be 1 (3 : Int).toNat ++ lp 4 (sb name)) := by rw [reqB, jq, if_neg (by simp), if_pos (by simp)]; rfl
    clear hst
    obtain ⟨rz, hWz, hkz, hfz⟩ := hstz
    have Hold := jJ0 (WStep.own ⟨rz, hWz, hkz, hfz⟩ hoo hg)
    have Hreq := jJ0 hreq
    clear hreq
    generalize [] ++ be 1 (3 : Int).toNat ++ lp 4 (sb name) = cs at hWz Hreq
    by_cases hlen : cs.length <= 1048576
    · have hl1 : ¬ ((1048576 : Int) < (cs.length : Int)) := by omega
      go_wp2_with fail
      refine (kA _ g rz cs hWz).mono ?_
      rintro e w9 ⟨rfl, rfl⟩
      go_wp2_with fail
      refine (kP _ g rz cs hWz (Nat.le_trans hlen (by decide))).mono ?_
      rintro e w8 ⟨A, c, rfl, hown, ho8⟩
      go_wp2
      go_ret2
      exact .inl ⟨cs, A, c, kL Hreq.out hlen, rfl, km hown Hold.out.size, Hold.out.old ho8⟩
    · have hl1 : (1048576 : Int) < (cs.length : Int) := by omega
      go_wp2_with fail
      refine (kA _ g rz cs hWz).mono ?_
      rintro e w9 ⟨rfl, rfl⟩
      go_wp2
      go_ret2
      exact .inr ⟨jm Hreq.out (by omega), rfl, Hold.out⟩
  · have hstz := WStep.trans hk2 hf2 (WStep.after ((Kp.refl _ _).alloc _) hst)
    have Hlong := jJ0 (jm (q := ⟨3, do_.data, name, number, size, from_, to_, first⟩) (b := [] ++ be 1 (3 : Int).toNat ++ lp 4 (sb name)) (by rw [reqB, jq, if_neg (by simp), if_pos (by simp)]; rfl) (by simp only [List.length_append, jC, jL, jF]; omega))
    clear hst hbig
    have Hold := jJ0 (WStep.own hstz hoo hg)
    clear hstz
    go_wp2
    go_ret2
    exact .inr ⟨Hlong.out, rfl, Hold.out⟩
theorem enc_10 (m : MReq) (w : World) (hok : m.Ok w) (hop : m.op = 10) :
    Calls Tryz.prog 6 #[.agg m.cells.toArray] w (EncPost w (jy m.data)) := by
  obtain ⟨op, do_, name, number, size, from_, to_, first⟩ := m
  simp only [MReq.cells, MOp.cells, MReq.data, List.cons_append, List.nil_append] at *
  subst hop
  obtain ⟨hokd, hname⟩ := hok
  simp only at hokd hname
  go_enter Tryz.func6, Tryz.ntmps6
  go_wp2_with fail
  refine (kq _).mono ?_
  rintro e w1 ⟨rfl, hW1, ho1⟩
  have hb1 := (Blk.new w 34 #[.int .i64 10, .int .i64 do_.op, .string do_.case_, .string do_.type_, .string do_.name, .int .i64 do_.value.v.kind, .int .i64 do_.value.v.n, .string do_.value.v.t, .slice do_.value.A do_.value.v.s.length do_.value.c, .slice do_.argsA do_.args.length do_.argsC, .slice do_.srcA do_.source.length do_.srcC, .int .i64 do_.clock, .string name, .int .i64 number, .int .i64 size, .int .i64 from_, .int .i64 to_, .int .i64 first]).old ho1
  have hoo : Old w w1 := ((Kp.refl NoX w).alloc _).old ho1
  have hg : w.heap.size <= (w.alloc (.cells #[.int .i64 10, .int .i64 do_.op, .string do_.case_, .string do_.type_, .string do_.name, .int .i64 do_.value.v.kind, .int .i64 do_.value.v.n, .string do_.value.v.t, .slice do_.value.A do_.value.v.s.length do_.value.c, .slice do_.argsA do_.args.length do_.argsC, .slice do_.srcA do_.source.length do_.srcC, .int .i64 do_.clock, .string name, .int .i64 number, .int .i64 size, .int .i64 from_, .int .i64 to_, .int .i64 first] 34)).heap.size := by simp
  have hgne : w.heap.size ≠ (w.alloc (.cells #[.int .i64 10, .int .i64 do_.op, .string do_.case_, .string do_.type_, .string do_.name, .int .i64 do_.value.v.kind, .int .i64 do_.value.v.n, .string do_.value.v.t, .slice do_.value.A do_.value.v.s.length do_.value.c, .slice do_.argsA do_.args.length do_.argsC, .slice do_.srcA do_.source.length do_.srcC, .int .i64 do_.clock, .string name, .int .i64 number, .int .i64 size, .int .i64 from_, .int .i64 to_, .int .i64 first] 34)).heap.size := by simp
  generalize hgg : (w.alloc (.cells #[.int .i64 10, .int .i64 do_.op, .string do_.case_, .string do_.type_, .string do_.name, .int .i64 do_.value.v.kind, .int .i64 do_.value.v.n, .string do_.value.v.t, .slice do_.value.A do_.value.v.s.length do_.value.c, .slice do_.argsA do_.args.length do_.argsC, .slice do_.srcA do_.source.length do_.srcC, .int .i64 do_.clock, .string name, .int .i64 number, .int .i64 size, .int .i64 from_, .int .i64 to_, .int .i64 first] 34)).heap.size = g at *
  have d0 := hb1.at_ 0 rfl
  clear hgg ho1
  go_wp2_with fail
  refine (jV _ g none [] _ (by omega) (by omega) hW1 (by simp)).mono ?_
  rintro e w2 ⟨rfl, r2, hW2, hk2, hf2⟩
  have hbx : ¬ WX g none w.heap.size := by
    rintro (e | e)
    · exact hgne e
    · cases e
  have hb2 := hb1.kp hk2 hbx
  have hbx2 : ¬ WX g r2 w.heap.size := by
    rintro (e | e)
    · exact hgne e
    · rcases hf2 with rfl | ⟨k, rfl, hle⟩
      · cases e
      · injection e with e
        have := hb1.lt
        omega
  have hst2 : WStep w1 g none w2 ([] ++ be 1 (10 : Int).toNat) := ⟨r2, hW2, hk2, hf2⟩
  have f0 := hb2.at_ 0 rfl
  clear d0
  have f12 := hb2.at_ 12 rfl
  go_wp2_with fail
  refine (vB _ g r2 _ _ 1 [name] (hW2.old ((Kp.refl _ _).alloc _)) (by simp [jC]) (Rd.arr_new _ _ [.string name]) (Av.new hW2) (by simp) ?_).mono ?_
  · intro k hk
    have : k = 0 := by simp only [List.length_cons, List.length_nil] at hk; omega
    subst this
    exact hname
  intro e w3 ht
  have hok3 := ht.one
  rcases hok3 with ⟨rfl, hs1, hst⟩ | ⟨rfl, hbig, hst⟩
  ·
    obtain ⟨r3, hW3, hk3, hf3⟩ := WStep.trans hk2 hf2 (WStep.after ((Kp.refl _ _).alloc _) hst)
    have hb3 : Blk w3 w.heap.size 34 #[.int .i64 10, .int .i64 do_.op, .string do_.case_, .string do_.type_, .string do_.name, .int .i64 do_.value.v.kind, .int .i64 do_.value.v.n, .string do_.value.v.t, .slice do_.value.A do_.value.v.s.length do_.value.c, .slice do_.argsA do_.args.length do_.argsC, .slice do_.srcA do_.source.length do_.srcC, .int .i64 do_.clock, .string name, .int .i64 number, .int .i64 size, .int .i64 from_, .int .i64 to_, .int .i64 first] := by
      obtain ⟨r4, _, hk4, _⟩ := hst
      exact (hb2.alloc _).kp hk4 hbx2
    have g14 := hb3.at_ 14 rfl
    clear hst
    go_wp2_with fail
    refine (kG _ g r3 _ _ 1 1 [size] rfl (hW3.old ((Kp.refl _ _).alloc _)) (by simp only [List.length_append, List.length_nil, jC, jL, jF]; omega) (Rd.arr_new _ _ [.int .i64 size]) (Av.new hW3) (by decide)).mono ?_
    rintro e w4 ⟨rfl, hst⟩
    have hstz := WStep.trans hk3 hf3 (WStep.after ((Kp.refl _ _).alloc _) hst)
    have hreq : reqB ⟨10, do_.data, name, number, size, from_, to_, first⟩ = some ([] ++ be 1 (10 : Int).toNat ++ lp 4 (sb name) ++ nums [size]) := by rw [reqB, jq, if_neg (by simp), if_neg (by simp), if_neg (by simp), if_neg (by simp), if_neg (by simp), if_neg (by simp), if_pos (by simp)]; simp [nums]
    clear hst
    obtain ⟨rz, hWz, hkz, hfz⟩ := hstz
    have Hold := jJ0 (WStep.own ⟨rz, hWz, hkz, hfz⟩ hoo hg)
    have Hreq := jJ0 hreq
    clear hreq
    generalize [] ++ be 1 (10 : Int).toNat ++ lp 4 (sb name) ++ nums [size] = cs at hWz Hreq
    by_cases hlen : cs.length <= 1048576
    · have hl1 : ¬ ((1048576 : Int) < (cs.length : Int)) := by omega
      go_wp2_with fail
      refine (kA _ g rz cs hWz).mono ?_
      rintro e w9 ⟨rfl, rfl⟩
      go_wp2_with fail
      refine (kP _ g rz cs hWz (Nat.le_trans hlen (by decide))).mono ?_
      rintro e w8 ⟨A, c, rfl, hown, ho8⟩
      go_wp2
      go_ret2
      exact .inl ⟨cs, A, c, kL Hreq.out hlen, rfl, km hown Hold.out.size, Hold.out.old ho8⟩
    · have hl1 : (1048576 : Int) < (cs.length : Int) := by omega
      go_wp2_with fail
      refine (kA _ g rz cs hWz).mono ?_
      rintro e w9 ⟨rfl, rfl⟩
      go_wp2
      go_ret2
      exact .inr ⟨jm Hreq.out (by omega), rfl, Hold.out⟩
  ·
    have Hlong := jJ0 (jm (q := ⟨10, do_.data, name, number, size, from_, to_, first⟩) (b := be 1 (10 : Int).toNat ++ (lp 4 (sb name) ++ be8 size)) (by rw [reqB, jq, if_neg (by simp), if_neg (by simp), if_neg (by simp), if_neg (by simp), if_neg (by simp), if_neg (by simp), if_pos (by simp)]; rfl) (by simp only [List.length_append, jC, jL, jF]; omega))
    clear hbig
    obtain ⟨r3, hW3, hk3, hf3⟩ := WStep.trans hk2 hf2 (WStep.after ((Kp.refl _ _).alloc _) hst)
    have hb3 : Blk w3 w.heap.size 34 #[.int .i64 10, .int .i64 do_.op, .string do_.case_, .string do_.type_, .string do_.name, .int .i64 do_.value.v.kind, .int .i64 do_.value.v.n, .string do_.value.v.t, .slice do_.value.A do_.value.v.s.length do_.value.c, .slice do_.argsA do_.args.length do_.argsC, .slice do_.srcA do_.source.length do_.srcC, .int .i64 do_.clock, .string name, .int .i64 number, .int .i64 size, .int .i64 from_, .int .i64 to_, .int .i64 first] := by
      obtain ⟨r4, _, hk4, _⟩ := hst
      exact (hb2.alloc _).kp hk4 hbx2
    have g14 := hb3.at_ 14 rfl
    clear hst
    go_wp2_with fail
    refine (kG _ g r3 _ _ 1 1 [size] rfl (hW3.old ((Kp.refl _ _).alloc _)) (by simp only [List.length_append, List.length_nil, jC]; omega) (Rd.arr_new _ _ [.int .i64 size]) (Av.new hW3) (by decide)).mono ?_
    rintro e w4 ⟨rfl, hst⟩
    have hstz := WStep.trans hk3 hf3 (WStep.after ((Kp.refl _ _).alloc _) hst)
    clear hst
    have Hold := jJ0 (WStep.own hstz hoo hg)
    clear hstz
    go_wp2
    go_ret2
    exact .inr ⟨Hlong.out, rfl, Hold.out⟩
theorem enc_11 (m : MReq) (w : World) (hok : m.Ok w) (hop : m.op = 11) :
    Calls Tryz.prog 6 #[.agg m.cells.toArray] w (EncPost w (jy m.data)) := by
  obtain ⟨op, do_, name, number, size, from_, to_, first⟩ := m
  simp only [MReq.cells, MOp.cells, MReq.data, List.cons_append, List.nil_append] at *
  subst hop
  obtain ⟨hokd, hname⟩ := hok
  simp only at hokd hname
  go_enter Tryz.func6, Tryz.ntmps6
  go_wp2_with fail
  refine (kq _).mono ?_
  rintro e w1 ⟨rfl, hW1, ho1⟩
  have hb1 := (Blk.new w 34 #[.int .i64 11, .int .i64 do_.op, .string do_.case_, .string do_.type_, .string do_.name, .int .i64 do_.value.v.kind, .int .i64 do_.value.v.n, .string do_.value.v.t, .slice do_.value.A do_.value.v.s.length do_.value.c, .slice do_.argsA do_.args.length do_.argsC, .slice do_.srcA do_.source.length do_.srcC, .int .i64 do_.clock, .string name, .int .i64 number, .int .i64 size, .int .i64 from_, .int .i64 to_, .int .i64 first]).old ho1
  have hoo : Old w w1 := ((Kp.refl NoX w).alloc _).old ho1
  have hg : w.heap.size <= (w.alloc (.cells #[.int .i64 11, .int .i64 do_.op, .string do_.case_, .string do_.type_, .string do_.name, .int .i64 do_.value.v.kind, .int .i64 do_.value.v.n, .string do_.value.v.t, .slice do_.value.A do_.value.v.s.length do_.value.c, .slice do_.argsA do_.args.length do_.argsC, .slice do_.srcA do_.source.length do_.srcC, .int .i64 do_.clock, .string name, .int .i64 number, .int .i64 size, .int .i64 from_, .int .i64 to_, .int .i64 first] 34)).heap.size := by simp
  have hgne : w.heap.size ≠ (w.alloc (.cells #[.int .i64 11, .int .i64 do_.op, .string do_.case_, .string do_.type_, .string do_.name, .int .i64 do_.value.v.kind, .int .i64 do_.value.v.n, .string do_.value.v.t, .slice do_.value.A do_.value.v.s.length do_.value.c, .slice do_.argsA do_.args.length do_.argsC, .slice do_.srcA do_.source.length do_.srcC, .int .i64 do_.clock, .string name, .int .i64 number, .int .i64 size, .int .i64 from_, .int .i64 to_, .int .i64 first] 34)).heap.size := by simp
  generalize hgg : (w.alloc (.cells #[.int .i64 11, .int .i64 do_.op, .string do_.case_, .string do_.type_, .string do_.name, .int .i64 do_.value.v.kind, .int .i64 do_.value.v.n, .string do_.value.v.t, .slice do_.value.A do_.value.v.s.length do_.value.c, .slice do_.argsA do_.args.length do_.argsC, .slice do_.srcA do_.source.length do_.srcC, .int .i64 do_.clock, .string name, .int .i64 number, .int .i64 size, .int .i64 from_, .int .i64 to_, .int .i64 first] 34)).heap.size = g at *
  have d0 := hb1.at_ 0 rfl
  clear hgg ho1
  go_wp2_with fail
  refine (jV _ g none [] _ (by omega) (by omega) hW1 (by simp)).mono ?_
  rintro e w2 ⟨rfl, r2, hW2, hk2, hf2⟩
  have hbx : ¬ WX g none w.heap.size := by
    rintro (e | e)
    · exact hgne e
    · cases e
  have hb2 := hb1.kp hk2 hbx
  have hbx2 : ¬ WX g r2 w.heap.size := by
    rintro (e | e)
    · exact hgne e
    · rcases hf2 with rfl | ⟨k, rfl, hle⟩
      · cases e
      · injection e with e
        have := hb1.lt
        omega
  have hst2 : WStep w1 g none w2 ([] ++ be 1 (11 : Int).toNat) := ⟨r2, hW2, hk2, hf2⟩
  have f0 := hb2.at_ 0 rfl
  clear d0
  have f12 := hb2.at_ 12 rfl
  go_wp2_with fail
  refine (vB _ g r2 _ _ 1 [name] (hW2.old ((Kp.refl _ _).alloc _)) (by simp [jC]) (Rd.arr_new _ _ [.string name]) (Av.new hW2) (by simp) ?_).mono ?_
  · intro k hk
    have : k = 0 := by simp only [List.length_cons, List.length_nil] at hk; omega
    subst this
    exact hname
  intro e w3 ht
  have hok3 := ht.one
  rcases hok3 with ⟨rfl, hs1, hst⟩ | ⟨rfl, hbig, hst⟩
  ·
    obtain ⟨r3, hW3, hk3, hf3⟩ := WStep.trans hk2 hf2 (WStep.after ((Kp.refl _ _).alloc _) hst)
    have hb3 : Blk w3 w.heap.size 34 #[.int .i64 11, .int .i64 do_.op, .string do_.case_, .string do_.type_, .string do_.name, .int .i64 do_.value.v.kind, .int .i64 do_.value.v.n, .string do_.value.v.t, .slice do_.value.A do_.value.v.s.length do_.value.c, .slice do_.argsA do_.args.length do_.argsC, .slice do_.srcA do_.source.length do_.srcC, .int .i64 do_.clock, .string name, .int .i64 number, .int .i64 size, .int .i64 from_, .int .i64 to_, .int .i64 first] := by
      obtain ⟨r4, _, hk4, _⟩ := hst
      exact (hb2.alloc _).kp hk4 hbx2
    have g14 := hb3.at_ 14 rfl
    have g17 := hb3.at_ 17 rfl
    clear hst
    go_wp2_with fail
    refine (kG _ g r3 _ _ 2 2 [size, first] rfl (hW3.old ((Kp.refl _ _).alloc _)) (by simp only [List.length_append, List.length_nil, jC, jL, jF]; omega) (Rd.arr_new _ _ [.int .i64 size, .int .i64 first]) (Av.new hW3) (by decide)).mono ?_
    rintro e w4 ⟨rfl, hst⟩
    have hstz := WStep.trans hk3 hf3 (WStep.after ((Kp.refl _ _).alloc _) hst)
    have hreq : reqB ⟨11, do_.data, name, number, size, from_, to_, first⟩ = some ([] ++ be 1 (11 : Int).toNat ++ lp 4 (sb name) ++ nums [size, first]) := by rw [reqB, jq, if_neg (by simp), if_neg (by simp), if_neg (by simp), if_neg (by simp), if_neg (by simp), if_neg (by simp), if_neg (by simp), if_pos (by simp)]; simp [nums]
    clear hst
    obtain ⟨rz, hWz, hkz, hfz⟩ := hstz
    have Hold := jJ0 (WStep.own ⟨rz, hWz, hkz, hfz⟩ hoo hg)
    have Hreq := jJ0 hreq
    clear hreq
    generalize [] ++ be 1 (11 : Int).toNat ++ lp 4 (sb name) ++ nums [size, first] = cs at hWz Hreq
    by_cases hlen : cs.length <= 1048576
    · have hl1 : ¬ ((1048576 : Int) < (cs.length : Int)) := by omega
      go_wp2_with fail
      refine (kA _ g rz cs hWz).mono ?_
      rintro e w9 ⟨rfl, rfl⟩
      go_wp2_with fail
      refine (kP _ g rz cs hWz (Nat.le_trans hlen (by decide))).mono ?_
      rintro e w8 ⟨A, c, rfl, hown, ho8⟩
      go_wp2
      go_ret2
      exact .inl ⟨cs, A, c, kL Hreq.out hlen, rfl, km hown Hold.out.size, Hold.out.old ho8⟩
    · have hl1 : (1048576 : Int) < (cs.length : Int) := by omega
      go_wp2_with fail
      refine (kA _ g rz cs hWz).mono ?_
      rintro e w9 ⟨rfl, rfl⟩
      go_wp2
      go_ret2
      exact .inr ⟨jm Hreq.out (by omega), rfl, Hold.out⟩
  ·
    have Hlong := jJ0 (jm (q := ⟨11, do_.data, name, number, size, from_, to_, first⟩) (b := be 1 (11 : Int).toNat ++ (lp 4 (sb name) ++ (be8 size ++ be8 first))) (by rw [reqB, jq, if_neg (by simp), if_neg (by simp), if_neg (by simp), if_neg (by simp), if_neg (by simp), if_neg (by simp), if_neg (by simp), if_pos (by simp)]; rfl) (by simp only [List.length_append, jC, jL, jF]; omega))
    clear hbig
    obtain ⟨r3, hW3, hk3, hf3⟩ := WStep.trans hk2 hf2 (WStep.after ((Kp.refl _ _).alloc _) hst)
    have hb3 : Blk w3 w.heap.size 34 #[.int .i64 11, .int .i64 do_.op, .string do_.case_, .string do_.type_, .string do_.name, .int .i64 do_.value.v.kind, .int .i64 do_.value.v.n, .string do_.value.v.t, .slice do_.value.A do_.value.v.s.length do_.value.c, .slice do_.argsA do_.args.length do_.argsC, .slice do_.srcA do_.source.length do_.srcC, .int .i64 do_.clock, .string name, .int .i64 number, .int .i64 size, .int .i64 from_, .int .i64 to_, .int .i64 first] := by
      obtain ⟨r4, _, hk4, _⟩ := hst
      exact (hb2.alloc _).kp hk4 hbx2
    have g14 := hb3.at_ 14 rfl
    have g17 := hb3.at_ 17 rfl
    clear hst
    go_wp2_with fail
    refine (kG _ g r3 _ _ 2 2 [size, first] rfl (hW3.old ((Kp.refl _ _).alloc _)) (by simp only [List.length_append, List.length_nil, jC]; omega) (Rd.arr_new _ _ [.int .i64 size, .int .i64 first]) (Av.new hW3) (by decide)).mono ?_
    rintro e w4 ⟨rfl, hst⟩
    have hstz := WStep.trans hk3 hf3 (WStep.after ((Kp.refl _ _).alloc _) hst)
    clear hst
    have Hold := jJ0 (WStep.own hstz hoo hg)
    clear hstz
    go_wp2
    go_ret2
    exact .inr ⟨Hlong.out, rfl, Hold.out⟩
theorem enc_1 (m : MReq) (w : World) (hok : m.Ok w) (hop : m.op = 1) :
    Calls Tryz.prog 6 #[.agg m.cells.toArray] w (EncPost w (jy m.data)) := by
  obtain ⟨op, do_, name, number, size, from_, to_, first⟩ := m
  simp only [MReq.cells, MOp.cells, MReq.data, List.cons_append, List.nil_append] at *
  subst hop
  obtain ⟨hokd, hname⟩ := hok
  simp only at hokd hname
  go_enter Tryz.func6, Tryz.ntmps6
  go_wp2_with fail
  refine (kq _).mono ?_
  rintro e w1 ⟨rfl, hW1, ho1⟩
  have hb1 := (Blk.new w 34 #[.int .i64 1, .int .i64 do_.op, .string do_.case_, .string do_.type_, .string do_.name, .int .i64 do_.value.v.kind, .int .i64 do_.value.v.n, .string do_.value.v.t, .slice do_.value.A do_.value.v.s.length do_.value.c, .slice do_.argsA do_.args.length do_.argsC, .slice do_.srcA do_.source.length do_.srcC, .int .i64 do_.clock, .string name, .int .i64 number, .int .i64 size, .int .i64 from_, .int .i64 to_, .int .i64 first]).old ho1
  have hoo : Old w w1 := ((Kp.refl NoX w).alloc _).old ho1
  have hg : w.heap.size <= (w.alloc (.cells #[.int .i64 1, .int .i64 do_.op, .string do_.case_, .string do_.type_, .string do_.name, .int .i64 do_.value.v.kind, .int .i64 do_.value.v.n, .string do_.value.v.t, .slice do_.value.A do_.value.v.s.length do_.value.c, .slice do_.argsA do_.args.length do_.argsC, .slice do_.srcA do_.source.length do_.srcC, .int .i64 do_.clock, .string name, .int .i64 number, .int .i64 size, .int .i64 from_, .int .i64 to_, .int .i64 first] 34)).heap.size := by simp
  have hgne : w.heap.size ≠ (w.alloc (.cells #[.int .i64 1, .int .i64 do_.op, .string do_.case_, .string do_.type_, .string do_.name, .int .i64 do_.value.v.kind, .int .i64 do_.value.v.n, .string do_.value.v.t, .slice do_.value.A do_.value.v.s.length do_.value.c, .slice do_.argsA do_.args.length do_.argsC, .slice do_.srcA do_.source.length do_.srcC, .int .i64 do_.clock, .string name, .int .i64 number, .int .i64 size, .int .i64 from_, .int .i64 to_, .int .i64 first] 34)).heap.size := by simp
  generalize hgg : (w.alloc (.cells #[.int .i64 1, .int .i64 do_.op, .string do_.case_, .string do_.type_, .string do_.name, .int .i64 do_.value.v.kind, .int .i64 do_.value.v.n, .string do_.value.v.t, .slice do_.value.A do_.value.v.s.length do_.value.c, .slice do_.argsA do_.args.length do_.argsC, .slice do_.srcA do_.source.length do_.srcC, .int .i64 do_.clock, .string name, .int .i64 number, .int .i64 size, .int .i64 from_, .int .i64 to_, .int .i64 first] 34)).heap.size = g at *
  have d0 := hb1.at_ 0 rfl
  clear hgg ho1
  go_wp2_with fail
  refine (jV _ g none [] _ (by omega) (by omega) hW1 (by simp)).mono ?_
  rintro e w2 ⟨rfl, r2, hW2, hk2, hf2⟩
  have hbx : ¬ WX g none w.heap.size := by
    rintro (e | e)
    · exact hgne e
    · cases e
  have hb2 := hb1.kp hk2 hbx
  have hbx2 : ¬ WX g r2 w.heap.size := by
    rintro (e | e)
    · exact hgne e
    · rcases hf2 with rfl | ⟨k, rfl, hle⟩
      · cases e
      · injection e with e
        have := hb1.lt
        omega
  have hst2 : WStep w1 g none w2 ([] ++ be 1 (1 : Int).toNat) := ⟨r2, hW2, hk2, hf2⟩
  have f0 := hb2.at_ 0 rfl
  clear d0
  have f1 := hb2.at_ 1 rfl
  have f2 := hb2.at_ 2 rfl
  have f3 := hb2.at_ 3 rfl
  have f4 := hb2.at_ 4 rfl
  have f5 := hb2.at_ 5 rfl
  have f6 := hb2.at_ 6 rfl
  have f7 := hb2.at_ 7 rfl
  have f8 := hb2.at_ 8 rfl
  have f9 := hb2.at_ 9 rfl
  have f10 := hb2.at_ 10 rfl
  have f11 := hb2.at_ 11 rfl
  have hokd2 := ((hokd.own hg).old hoo).step hk2 hf2
  go_wp2_with fail
  refine (oper_any do_ g r2 _ _ hW2 (by simp [jC]) hokd2).mono ?_
  rintro e w3 ⟨ok, bs', rfl, hst, hbl, hyes, hno⟩
  have hstz := WStep.trans hk2 hf2 hst
  cases ok
  · have Hlong := jJ0 (show jy ⟨1, do_.data, name, number, size, from_, to_, first⟩ = none from enc_nob (by rw [jq, if_pos (by simp)]) (hno rfl))
    clear hst hyes hno
    have Hold := jJ0 (WStep.own hstz hoo hg)
    clear hstz
    go_wp2
    go_ret2
    exact .inr ⟨Hlong.out, rfl, Hold.out⟩
  · have hreq : reqB ⟨1, do_.data, name, number, size, from_, to_, first⟩ = some ([] ++ be 1 (1 : Int).toNat ++ bs') := by rw [reqB, jq, if_pos (by simp), hyes rfl]; rfl
    clear hst hyes hno
    obtain ⟨rz, hWz, hkz, hfz⟩ := hstz
    have Hold := jJ0 (WStep.own ⟨rz, hWz, hkz, hfz⟩ hoo hg)
    have Hreq := jJ0 hreq
    clear hreq
    generalize [] ++ be 1 (1 : Int).toNat ++ bs' = cs at hWz Hreq
    by_cases hlen : cs.length <= 1048576
    · have hl1 : ¬ ((1048576 : Int) < (cs.length : Int)) := by omega
      go_wp2_with fail
      refine (kA _ g rz cs hWz).mono ?_
      rintro e w9 ⟨rfl, rfl⟩
      go_wp2_with fail
      refine (kP _ g rz cs hWz (Nat.le_trans hlen (by decide))).mono ?_
      rintro e w8 ⟨A, c, rfl, hown, ho8⟩
      go_wp2
      go_ret2
      exact .inl ⟨cs, A, c, kL Hreq.out hlen, rfl, km hown Hold.out.size, Hold.out.old ho8⟩
    · have hl1 : (1048576 : Int) < (cs.length : Int) := by omega
      go_wp2_with fail
      refine (kA _ g rz cs hWz).mono ?_
      rintro e w9 ⟨rfl, rfl⟩
      go_wp2
      go_ret2
      exact .inr ⟨jm Hreq.out (by omega), rfl, Hold.out⟩
theorem enc_2 (m : MReq) (w : World) (hok : m.Ok w) (hop : m.op = 2) :
    Calls Tryz.prog 6 #[.agg m.cells.toArray] w (EncPost w (jy m.data)) := by
  obtain ⟨op, do_, name, number, size, from_, to_, first⟩ := m
  simp only [MReq.cells, MOp.cells, MReq.data, List.cons_append, List.nil_append] at *
  subst hop
  obtain ⟨hokd, hname⟩ := hok
  simp only at hokd hname
  go_enter Tryz.func6, Tryz.ntmps6
  go_wp2_with fail
  refine (kq _).mono ?_
  rintro e w1 ⟨rfl, hW1, ho1⟩
  have hb1 := (Blk.new w 34 #[.int .i64 2, .int .i64 do_.op, .string do_.case_, .string do_.type_, .string do_.name, .int .i64 do_.value.v.kind, .int .i64 do_.value.v.n, .string do_.value.v.t, .slice do_.value.A do_.value.v.s.length do_.value.c, .slice do_.argsA do_.args.length do_.argsC, .slice do_.srcA do_.source.length do_.srcC, .int .i64 do_.clock, .string name, .int .i64 number, .int .i64 size, .int .i64 from_, .int .i64 to_, .int .i64 first]).old ho1
  have hoo : Old w w1 := ((Kp.refl NoX w).alloc _).old ho1
  have hg : w.heap.size <= (w.alloc (.cells #[.int .i64 2, .int .i64 do_.op, .string do_.case_, .string do_.type_, .string do_.name, .int .i64 do_.value.v.kind, .int .i64 do_.value.v.n, .string do_.value.v.t, .slice do_.value.A do_.value.v.s.length do_.value.c, .slice do_.argsA do_.args.length do_.argsC, .slice do_.srcA do_.source.length do_.srcC, .int .i64 do_.clock, .string name, .int .i64 number, .int .i64 size, .int .i64 from_, .int .i64 to_, .int .i64 first] 34)).heap.size := by simp
  have hgne : w.heap.size ≠ (w.alloc (.cells #[.int .i64 2, .int .i64 do_.op, .string do_.case_, .string do_.type_, .string do_.name, .int .i64 do_.value.v.kind, .int .i64 do_.value.v.n, .string do_.value.v.t, .slice do_.value.A do_.value.v.s.length do_.value.c, .slice do_.argsA do_.args.length do_.argsC, .slice do_.srcA do_.source.length do_.srcC, .int .i64 do_.clock, .string name, .int .i64 number, .int .i64 size, .int .i64 from_, .int .i64 to_, .int .i64 first] 34)).heap.size := by simp
  generalize hgg : (w.alloc (.cells #[.int .i64 2, .int .i64 do_.op, .string do_.case_, .string do_.type_, .string do_.name, .int .i64 do_.value.v.kind, .int .i64 do_.value.v.n, .string do_.value.v.t, .slice do_.value.A do_.value.v.s.length do_.value.c, .slice do_.argsA do_.args.length do_.argsC, .slice do_.srcA do_.source.length do_.srcC, .int .i64 do_.clock, .string name, .int .i64 number, .int .i64 size, .int .i64 from_, .int .i64 to_, .int .i64 first] 34)).heap.size = g at *
  have d0 := hb1.at_ 0 rfl
  clear hgg ho1
  go_wp2_with fail
  refine (jV _ g none [] _ (by omega) (by omega) hW1 (by simp)).mono ?_
  rintro e w2 ⟨rfl, r2, hW2, hk2, hf2⟩
  have hbx : ¬ WX g none w.heap.size := by
    rintro (e | e)
    · exact hgne e
    · cases e
  have hb2 := hb1.kp hk2 hbx
  have hbx2 : ¬ WX g r2 w.heap.size := by
    rintro (e | e)
    · exact hgne e
    · rcases hf2 with rfl | ⟨k, rfl, hle⟩
      · cases e
      · injection e with e
        have := hb1.lt
        omega
  have hst2 : WStep w1 g none w2 ([] ++ be 1 (2 : Int).toNat) := ⟨r2, hW2, hk2, hf2⟩
  have f0 := hb2.at_ 0 rfl
  clear d0
  have f1 := hb2.at_ 1 rfl
  have f2 := hb2.at_ 2 rfl
  have f3 := hb2.at_ 3 rfl
  have f4 := hb2.at_ 4 rfl
  have f5 := hb2.at_ 5 rfl
  have f6 := hb2.at_ 6 rfl
  have f7 := hb2.at_ 7 rfl
  have f8 := hb2.at_ 8 rfl
  have f9 := hb2.at_ 9 rfl
  have f10 := hb2.at_ 10 rfl
  have f11 := hb2.at_ 11 rfl
  have hokd2 := ((hokd.own hg).old hoo).step hk2 hf2
  go_wp2_with fail
  refine (oper_any do_ g r2 _ _ hW2 (by simp [jC]) hokd2).mono ?_
  rintro e w3 ⟨ok, bs', rfl, hst, hbl, hyes, hno⟩
  have hstz := WStep.trans hk2 hf2 hst
  cases ok
  · have Hlong := jJ0 (show jy ⟨2, do_.data, name, number, size, from_, to_, first⟩ = none from enc_nob (by rw [jq, if_pos (by simp)]) (hno rfl))
    clear hst hyes hno
    have Hold := jJ0 (WStep.own hstz hoo hg)
    clear hstz
    go_wp2
    go_ret2
    exact .inr ⟨Hlong.out, rfl, Hold.out⟩
  · have hreq : reqB ⟨2, do_.data, name, number, size, from_, to_, first⟩ = some ([] ++ be 1 (2 : Int).toNat ++ bs') := by rw [reqB, jq, if_pos (by simp), hyes rfl]; rfl
    clear hst hyes hno
    obtain ⟨rz, hWz, hkz, hfz⟩ := hstz
    have Hold := jJ0 (WStep.own ⟨rz, hWz, hkz, hfz⟩ hoo hg)
    have Hreq := jJ0 hreq
    clear hreq
    generalize [] ++ be 1 (2 : Int).toNat ++ bs' = cs at hWz Hreq
    by_cases hlen : cs.length <= 1048576
    · have hl1 : ¬ ((1048576 : Int) < (cs.length : Int)) := by omega
      go_wp2_with fail
      refine (kA _ g rz cs hWz).mono ?_
      rintro e w9 ⟨rfl, rfl⟩
      go_wp2_with fail
      refine (kP _ g rz cs hWz (Nat.le_trans hlen (by decide))).mono ?_
      rintro e w8 ⟨A, c, rfl, hown, ho8⟩
      go_wp2
      go_ret2
      exact .inl ⟨cs, A, c, kL Hreq.out hlen, rfl, km hown Hold.out.size, Hold.out.old ho8⟩
    · have hl1 : (1048576 : Int) < (cs.length : Int) := by omega
      go_wp2_with fail
      refine (kA _ g rz cs hWz).mono ?_
      rintro e w9 ⟨rfl, rfl⟩
      go_wp2
      go_ret2
      exact .inr ⟨jm Hreq.out (by omega), rfl, Hold.out⟩
theorem enc_far (m : MReq) (w : World) (hop : m.op < 1 \/ 12 < m.op) :
    Calls Tryz.prog 6 #[.agg m.cells.toArray] w (EncPost w (jy m.data)) := by
  have Hno := jJ0 (show jy m.data = none from encReq_none (by
    rw [jq, if_neg (by simp only [MReq.data]; omega), if_neg (by simp only [MReq.data]; omega), if_neg (by simp only [MReq.data]; omega), if_neg (by simp only [MReq.data]; omega), if_neg (by simp only [MReq.data]; omega), if_neg (by simp only [MReq.data]; omega), if_neg (by simp only [MReq.data]; omega), if_neg (by simp only [MReq.data]; omega)]))
  generalize jy m.data = z at Hno
  obtain ⟨op, do_, name, number, size, from_, to_, first⟩ := m
  simp only [MReq.cells, MOp.cells, List.cons_append, List.nil_append] at *
  rcases hop with h | h
  · go_enter Tryz.func6, Tryz.ntmps6
    go_wp2
    go_ret2
    exact .inr ⟨Hno.out, rfl, (Kp.refl _ _).alloc _⟩
  · have h' : ¬ op < 1 := by omega
    go_enter Tryz.func6, Tryz.ntmps6
    go_wp2
    go_ret2
    exact .inr ⟨Hno.out, rfl, (Kp.refl _ _).alloc _⟩
theorem enc_any (m : MReq) (w : World) (hok : m.Ok w) :
    Calls Tryz.prog 6 #[.agg m.cells.toArray] w (EncPost w (jy m.data)) := by
  by_cases h : m.op < 1 \/ 12 < m.op
  · exact enc_far m w h
  · have hk : m.op = 1 \/ m.op = 2 \/ m.op = 3 \/ m.op = 4 \/ m.op = 5 \/ m.op = 6 \/ m.op = 7 \/ m.op = 8 \/ m.op = 9 \/ m.op = 10 \/ m.op = 11 \/ m.op = 12 := by omega
    rcases hk with h | h | h | h | h | h | h | h | h | h | h | h
    · exact enc_1 m w hok h
    · exact enc_2 m w hok h
    · exact enc_3 m w hok h
    · exact enc_4 m w hok h
    · exact enc_5 m w hok h
    · exact enc_6 m w hok h
    · exact enc_7 m w hok h
    · exact enc_8 m w hok h
    · exact enc_9 m w hok h
    · exact enc_10 m w hok h
    · exact enc_11 m w hok h
    · exact enc_12 m w hok h
theorem sameb_any (w : World) (A B : Option Addr) (c d : Nat) (x y : List UInt8) (hx : Rd w 1 A x.length (x.map bv)) (hy : Rd w 1 B y.length (y.map bv)) (hxl : x.length <= 1000000000000) :
    Calls Tryz.prog 9 #[.slice A x.length c, .slice B y.length d] w fun e w' => e = .returned (.bool (decide (x = y))) /\ Old w w' := by
  by_cases hl : x.length = y.length
  case neg =>
    have hne : x ≠ y := fun e => hl (by rw [e])
    have h1 : ((x.length : Int) != (y.length : Int)) = true := bne_iff_ne.2 (by omega)
    rw [decide_eq_false hne]
    go_enter Tryz.func9, Tryz.ntmps9
    go_wp2
    go_ret
    exact ⟨rfl, Kp.refl _ _⟩
  have h1 : ((x.length : Int) != (y.length : Int)) = false := bne_eq_false_iff_eq.2 (by omega)
  have Hxy := jJ0 hl
  rw [<- hl] at hy ⊢
  clear hl
  go_enter Tryz.func9, Tryz.ntmps9
  go_wp2
  go_loopw [5] (fun i wr => ∃ k : Nat, k <= x.length /\ i = .int .i64 k /\ x.take k = y.take k /\ Old w wr) (fun i _ => x.length - (intOf i).toNat)
  case atStart => exact ⟨0, by omega, rfl, rfl, Kp.refl _ _⟩
  case round =>
    obtain ⟨k, hk, rfl, hpre, hold⟩ := hrel
    by_cases hlt : k < x.length
    · have hly : k < y.length := by have := Hxy.out; omega
      obtain ⟨b1, o1, u1, rfl, hu1, hc1⟩ := (hx.old hold).at_ hlt
      obtain ⟨b2, o2, u2, rfl, hu2, hc2⟩ := (hy.old hold).at_ hlt
      rw [List.getElem?_map, List.getElem?_eq_getElem hlt] at hu1
      rw [List.getElem?_map, List.getElem?_eq_getElem hly] at hu2
      simp only [Option.map_some, Option.some.injEq, bv] at hu1 hu2
      subst hu1 hu2
      have hn1 : (x[k].toNat : Int) <= 255 := by have := x[k].toNat_lt; omega
      have hn2 : (y[k].toNat : Int) <= 255 := by have := y[k].toNat_lt; omega
      have b5 : (k : Int) <= 1000000000000 := by omega
      have b6 : (0 : Int) <= (k : Int) := by omega
      have b7 : (k : Int) < (x.length : Int) := by omega
      have b8 : (k : Int).toNat = k := by omega
      have Hp := jJ0 hpre
      have Ho := jJ0 hold
      clear hpre hold
      by_cases he : x[k] = y[k]
      · have hq : ((x[k].toNat : Int) != (y[k].toNat : Int)) = false := by simp [he]
        have Hnext := jJ0 (show x.take (k + 1) = y.take (k + 1) by rw [List.take_succ_eq_append_getElem hlt, List.take_succ_eq_append_getElem hly, Hp.out, he])
        clear he
        generalize (x[k].toNat : Int) = xa at *
        generalize (y[k].toNat : Int) = ya at *
        go_wp2
        go_quiet (fail)
        go_wp2
        go_roundw
        case rel => exact ⟨k + 1, by omega, by go_num, Hnext.out, Ho.out.drewN _⟩
        case measure => simp [intOf]; omega
      · have hq : ((x[k].toNat : Int) != (y[k].toNat : Int)) = true := by
          simp only [bne_iff_ne, ne_eq]
          intro h
          exact he (UInt8.toNat_inj.1 (by omega))
        have hne : x ≠ y := fun e => he (by subst e; rfl)
        clear he
        generalize (x[k].toNat : Int) = xa at *
        generalize (y[k].toNat : Int) = ya at *
        go_wp2
        go_quiet (fail)
        go_wp2
        go_ret
        exact ⟨kR (kr (decide_eq_false hne).symm), Ho.out.drewN _⟩
    · obtain rfl : k = x.length := by omega
      have he : x = y := by
        rw [List.take_length, Hxy.out, List.take_length] at hpre
        exact hpre
      have Ho := jJ0 hold
      clear hold
      go_wp2
      go_ret
      exact ⟨kR (kr (decide_eq_true he).symm), Ho.out⟩
end Go.Proofs.YtnaolhjbapgjgaaGreat
