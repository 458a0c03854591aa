import Derived.Test.YtmmjcbbogokmfaaGreatDoorMg31
/- Contracts of the reader's stage, milestone. -/
namespace Go.Proofs.YtmmjcbbogokmfaaGreatDoor
open Go.RowKit

theorem one_stg (x : Stg) : ∀ u ∈ sgC x, u.oneCell' = true := by
  intro u hu
  simp only [sgC, iv, List.mem_cons, List.mem_nil_iff, or_false] at hu
  rcases hu with rfl | rfl | rfl | rfl | rfl | rfl | rfl <;> rfl
theorem one_mil (x : Mil) : ∀ u ∈ miC x, u.oneCell' = true := by
  intro u hu
  simp only [miC, iv, List.mem_cons, List.mem_nil_iff, or_false] at hu
  rcases hu with rfl | rfl | rfl | rfl | rfl | rfl <;> rfl
set_option maxRecDepth 100000 in
set_option maxHeartbeats 3200000 in
theorem stage_any (w : World) (g : Nat) (src : ByteArray) (f : Nat) (r r' : Rdr) (s : Sl) (h : St w g src r s) (hk : stageN (sb src) f r = some r') :
    Calls Tryz.prog 138 #[.pointer (some ⟨g, 0, none⟩)] w (Ex w g src s r' (.tuple #[])) := by
  unfold stageN at hk
  obtain ⟨⟨nm, at_, od, r1⟩, hd, hk⟩ := Option.bind_eq_some_iff.1 hk
  obtain ⟨⟨inn, ia, r2⟩, hin, hk⟩ := Option.bind_eq_some_iff.1 hk
  obtain ⟨r3, hn1, hk⟩ := Option.bind_eq_some_iff.1 hk
  obtain ⟨⟨op, r4⟩, hg1, hk⟩ := Option.bind_eq_some_iff.1 hk
  obtain ⟨⟨cl, r5⟩, hg2, hk⟩ := Option.bind_eq_some_iff.1 hk
  obtain ⟨r6, hn2, hk⟩ := Option.bind_eq_some_iff.1 hk
  split at hk
  case isFalse => cases hk
  rename_i hlt
  injection hk with hk
  have HZ := Lib.hid h.zlt
  have HR' := Lib.hid hk
  have HLt := Lib.hid hlt
  have D0 := Lib.hid hd
  have I0 := Lib.hid hin
  have N1 := Lib.hid hn1
  have G1 := Lib.hid hg1
  have G2 := Lib.hid hg2
  have N2 := Lib.hid hn2
  clear hd hin hn1 hg1 hg2 hn2
  have K0 := Lib.hid ((Ks.start h).alloc (.cells [.string ⟨#[]⟩, .int .i64 0, .int .i64 0, .string ⟨#[]⟩, .int .i64 0, .int .i64 0, .int .i64 0].toArray 117))
  have B0 := Lib.hid (Blk.new w 117 [.string ⟨#[]⟩, .int .i64 0, .int .i64 0, .string ⟨#[]⟩, .int .i64 0, .int .i64 0, .int .i64 0].toArray)
  clear h hk hlt
  generalize ha : w.heap.size = a at *
  have hm : a ∈ [a] := List.mem_singleton.2 rfl
  go_enter Tryz.func138, Tryz.ntmps138
  go_wp2_with (first | (go_at_call 166; (refine (declared_any _ g src _ _ _ _ _ _ K0.out.st D0.out).mono ?_; rintro e w1 ⟨rfl, hX⟩; have K1a := Lib.hid (K0.out.step hX.1 hX.2); have B1a := Lib.hid (K0.out.blk hm B0.out hX.2); clear hX; have b0 := B1a.out.at_ 0 rfl; have z0 := B1a.out.frozen 0; have b1 := B1a.out.at_ 1 rfl; have z1 := B1a.out.frozen 1; have b2 := B1a.out.at_ 2 rfl; have z2 := B1a.out.frozen 2; have K1 := Lib.hid (((K1a.out.put hm 0 (.string nm)).put hm 1 (.int .i64 at_)).put hm 2 (.int .i64 od)); have B1 := Lib.hid (((B1a.out.setL 0 (.string nm)).setL 1 (.int .i64 at_)).setL 2 (.int .i64 od)); clear K1a B1a; (try unfold iv))) | (go_at_call 170; (refine (in_any _ g src _ _ _ _ _ K1.out.st I0.out).mono ?_; rintro e w2 ⟨rfl, hX⟩; have K2a := Lib.hid (K1.out.step hX.1 hX.2); have B2a := Lib.hid (K1.out.blk hm B1.out hX.2); clear hX; have b3 := B2a.out.at_ 3 rfl; have z3 := B2a.out.frozen 3; have b4 := B2a.out.at_ 4 rfl; have z4 := B2a.out.frozen 4; have K2 := Lib.hid ((K2a.out.put hm 3 (.string inn)).put hm 4 (.int .i64 ia)); have B2 := Lib.hid ((B2a.out.setL 3 (.string inn)).setL 4 (.int .i64 ia)); clear K2a B2a; (try unfold iv))) | (go_at_call 135; first | (refine (next_st _ g src _ _ _ K5.out.st N2.out).mono ?_; rintro e w6 ⟨rfl, hX⟩; have K6a := Lib.hid (K5.out.step hX.1 hX.2); have B6a := Lib.hid (K5.out.blk hm B5.out hX.2); clear hX; have K6 := Lib.hid K6a.out; have B6 := Lib.hid B6a.out; clear K6a B6a; (try unfold iv)) | (refine (next_st _ g src _ _ _ K2.out.st N1.out).mono ?_; rintro e w3 ⟨rfl, hX⟩; have K3a := Lib.hid (K2.out.step hX.1 hX.2); have B3a := Lib.hid (K2.out.blk hm B2.out hX.2); clear hX; have K3 := Lib.hid K3a.out; have B3 := Lib.hid B3a.out; clear K3a B3a; (try unfold iv))) | (go_at_call 171; first | (refine (ruled30 _ g src f _ _ _ K4.out.st G2.out).mono ?_; rintro e w5 ⟨rfl, s5, hX⟩; have K5a := Lib.hid (K4.out.step hX.1 hX.2); have B5a := Lib.hid (K4.out.blk hm B4.out hX.2); clear hX; have b6 := B5a.out.at_ 6 rfl; have z6 := B5a.out.frozen 6; have K5 := Lib.hid (K5a.out.put hm 6 (.int .i64 cl)); have B5 := Lib.hid (B5a.out.setL 6 (.int .i64 cl)); clear K5a B5a; (try unfold iv)) | (refine (ruled29 _ g src f _ _ _ K3.out.st G1.out).mono ?_; rintro e w4 ⟨rfl, s4, hX⟩; have K4a := Lib.hid (K3.out.step hX.1 hX.2); have B4a := Lib.hid (K3.out.blk hm B3.out hX.2); clear hX; have b5 := B4a.out.at_ 5 rfl; have z5 := B4a.out.frozen 5; have K4 := Lib.hid (K4a.out.put hm 5 (.int .i64 op)); have B4 := Lib.hid (B4a.out.setL 5 (.int .i64 op)); clear K4a B4a; (try unfold iv))) | fail)
  clear K0 B0 K1 B1 K2 B2 K3 B3 K4 B4 K5 B5 b0 z0 b1 z1 b2 z2 b3 z3 b4 z4 b5 z5 b6 z6
  have HX := Lib.hid (show Blk w6 a 117 (sgC ⟨nm, at_, od, inn, ia, op, cl⟩).toArray from B6.out)
  clear B6
  obtain ⟨ns, ps, hR⟩ := K6.out.st.rows
  have HR := Lib.hid hR
  clear hR
  obtain ⟨i0, hi, hz0, hz1, hz2⟩ := info_parts Tryz.infoStage
  have H63 := Lib.hid (show r6.tree.stages.length + 1 ≤ maxLen by have := HLt.out; unfold maxLen; omega)
  have H47 := Lib.hid (show (r6.tree.stages.length + 1) * 72 ≤ 140737488355328 by have := HLt.out; omega)
  have hc7 : w6.cell? ⟨g, 8, none⟩ = some (.slice s5.gA r6.tree.stages.length s5.gc) := Blk.at_ K6.out.st.box 8 rfl
  have hz7 := K6.out.st.box.z 8
  have hgl := K6.out.st.lt
  have hal := HX.out.lt
  have c0 : w6.cell? ⟨a, 0, none⟩ = some (.string nm) := HX.out.at_ 0 rfl
  have c1 : w6.cell? ⟨a, 1, none⟩ = some (.int .i64 at_) := HX.out.at_ 1 rfl
  have c2 : w6.cell? ⟨a, 2, none⟩ = some (.int .i64 od) := HX.out.at_ 2 rfl
  have c3 : w6.cell? ⟨a, 3, none⟩ = some (.string inn) := HX.out.at_ 3 rfl
  have c4 : w6.cell? ⟨a, 4, none⟩ = some (.int .i64 ia) := HX.out.at_ 4 rfl
  have c5 : w6.cell? ⟨a, 5, none⟩ = some (.int .i64 op) := HX.out.at_ 5 rfl
  have c6 : w6.cell? ⟨a, 6, none⟩ = some (.int .i64 cl) := HX.out.at_ 6 rfl
  have HO := Lib.hid ((Kp.refl NoX w6).drew.alloc (.cells (sgC ⟨nm, at_, od, inn, ia, op, cl⟩).toArray 117))
  go_region_law ((refine step_append_any _ rfl (.tmp 34) (.tmp 36) 23 rfl 8 117 i0 _ 7 72 Tryz.underlying23 hi hz0 hz1 hz2 rfl (by decide) (.slice s5.gA r6.tree.stages.length s5.gc) r6.tree.stages.length (r6.tree.stages.flatMap sgC) rfl (own_kp HR.out.rG HO.out (fun _ _ e => e)) _ 1 1 (sgC ⟨nm, at_, od, inn, ia, op, cl⟩) rfl (Rd.row_new _ _ 7 1 _ rfl) (one_stg _) H63.out H47.out (Nat.le_trans K6.out.st.eight HO.out.size) ?_; intro A1 c1 w9 hown hgrow hat; rw [ownBlock_slice] at hgrow hat; have hb2 := K6.out.st.pastG HR.out HO.out hgrow; have HG := Lib.hid (K6.out.st.growG HR.out ⟨nm, at_, od, inn, ia, op, cl⟩ True.intro HO.out hgrow hat hown); have hc7 : w9.cell? ⟨g, 8, none⟩ = some (.slice s5.gA r6.tree.stages.length s5.gc) := Blk.at_ hb2 8 rfl; have hz7 := hb2.z 8; clear hown hgrow hat hb2))
  all_goals
    have HE := Lib.hid ((K6.out.step HG.out.1 HG.out.2).done (fun b e => by rw [ha]; exact HZ.out b e))
    go_wp2
    go_end0
    rw [← HR'.out]
    exact ⟨rfl, _, HE.out.1, HE.out.2⟩
set_option maxRecDepth 100000 in
set_option maxHeartbeats 3200000 in
theorem milestone_any (w : World) (g : Nat) (src : ByteArray) (f : Nat) (r r' : Rdr) (s : Sl) (h : St w g src r s) (hk : mileN (sb src) f r = some r') :
    Calls Tryz.prog 139 #[.pointer (some ⟨g, 0, none⟩)] w (Ex w g src s r' (.tuple #[])) := by
  unfold mileN at hk
  obtain ⟨⟨nm, at_, od, r1⟩, hd, hk⟩ := Option.bind_eq_some_iff.1 hk
  obtain ⟨⟨inn, ia, r2⟩, hin, hk⟩ := Option.bind_eq_some_iff.1 hk
  obtain ⟨⟨wh, r3⟩, hg1, hk⟩ := Option.bind_eq_some_iff.1 hk
  split at hk
  case isFalse => cases hk
  rename_i hlt
  injection hk with hk
  have HZ := Lib.hid h.zlt
  have HR' := Lib.hid hk
  have HLt := Lib.hid hlt
  have D0 := Lib.hid hd
  have I0 := Lib.hid hin
  have G1 := Lib.hid hg1
  clear hd hin hg1
  have K0 := Lib.hid ((Ks.start h).alloc (.cells [.string ⟨#[]⟩, .int .i64 0, .int .i64 0, .string ⟨#[]⟩, .int .i64 0, .int .i64 0].toArray 64))
  have B0 := Lib.hid (Blk.new w 64 [.string ⟨#[]⟩, .int .i64 0, .int .i64 0, .string ⟨#[]⟩, .int .i64 0, .int .i64 0].toArray)
  clear h hk hlt
  generalize ha : w.heap.size = a at *
  have hm : a ∈ [a] := List.mem_singleton.2 rfl
  go_enter Tryz.func139, Tryz.ntmps139
  go_wp2_with (first | (go_at_call 166; (refine (declared_any _ g src _ _ _ _ _ _ K0.out.st D0.out).mono ?_; rintro e w1 ⟨rfl, hX⟩; have K1a := Lib.hid (K0.out.step hX.1 hX.2); have B1a := Lib.hid (K0.out.blk hm B0.out hX.2); clear hX; have b0 := B1a.out.at_ 0 rfl; have z0 := B1a.out.frozen 0; have b1 := B1a.out.at_ 1 rfl; have z1 := B1a.out.frozen 1; have b2 := B1a.out.at_ 2 rfl; have z2 := B1a.out.frozen 2; have K1 := Lib.hid (((K1a.out.put hm 0 (.string nm)).put hm 1 (.int .i64 at_)).put hm 2 (.int .i64 od)); have B1 := Lib.hid (((B1a.out.setL 0 (.string nm)).setL 1 (.int .i64 at_)).setL 2 (.int .i64 od)); clear K1a B1a; (try unfold iv))) | (go_at_call 170; (refine (in_any _ g src _ _ _ _ _ K1.out.st I0.out).mono ?_; rintro e w2 ⟨rfl, hX⟩; have K2a := Lib.hid (K1.out.step hX.1 hX.2); have B2a := Lib.hid (K1.out.blk hm B1.out hX.2); clear hX; have b3 := B2a.out.at_ 3 rfl; have z3 := B2a.out.frozen 3; have b4 := B2a.out.at_ 4 rfl; have z4 := B2a.out.frozen 4; have K2 := Lib.hid ((K2a.out.put hm 3 (.string inn)).put hm 4 (.int .i64 ia)); have B2 := Lib.hid ((B2a.out.setL 3 (.string inn)).setL 4 (.int .i64 ia)); clear K2a B2a; (try unfold iv))) | (go_at_call 171; (refine (ruled31 _ g src f _ _ _ K2.out.st G1.out).mono ?_; rintro e w3 ⟨rfl, s3, hX⟩; have K3a := Lib.hid (K2.out.step hX.1 hX.2); have B3a := Lib.hid (K2.out.blk hm B2.out hX.2); clear hX; have b5 := B3a.out.at_ 5 rfl; have z5 := B3a.out.frozen 5; have K3 := Lib.hid (K3a.out.put hm 5 (.int .i64 wh)); have B3 := Lib.hid (B3a.out.setL 5 (.int .i64 wh)); clear K3a B3a; (try unfold iv))) | fail)
  clear K0 B0 K1 B1 K2 B2 b0 z0 b1 z1 b2 z2 b3 z3 b4 z4 b5 z5
  generalize w3.setCell ⟨a, 5, none⟩ (.int .i64 wh) = w33 at *
  have HX := Lib.hid (show Blk w33 a 64 (miC ⟨nm, at_, od, inn, ia, wh⟩).toArray from B3.out)
  clear B3
  obtain ⟨ns, ps, hR⟩ := K3.out.st.rows
  have HR := Lib.hid hR
  clear hR
  obtain ⟨i0, hi, hz0, hz1, hz2⟩ := info_parts Tryz.infoMile
  have H63 := Lib.hid (show r3.tree.miles.length + 1 ≤ maxLen by have := HLt.out; unfold maxLen; omega)
  have H47 := Lib.hid (show (r3.tree.miles.length + 1) * 64 ≤ 140737488355328 by have := HLt.out; omega)
  have hc7 : w33.cell? ⟨g, 9, none⟩ = some (.slice s3.mA r3.tree.miles.length s3.mc) := Blk.at_ K3.out.st.box 9 rfl
  have hz7 := K3.out.st.box.z 9
  have hgl := K3.out.st.lt
  have hal := HX.out.lt
  have c0 : w33.cell? ⟨a, 0, none⟩ = some (.string nm) := HX.out.at_ 0 rfl
  have c1 : w33.cell? ⟨a, 1, none⟩ = some (.int .i64 at_) := HX.out.at_ 1 rfl
  have c2 : w33.cell? ⟨a, 2, none⟩ = some (.int .i64 od) := HX.out.at_ 2 rfl
  have c3 : w33.cell? ⟨a, 3, none⟩ = some (.string inn) := HX.out.at_ 3 rfl
  have c4 : w33.cell? ⟨a, 4, none⟩ = some (.int .i64 ia) := HX.out.at_ 4 rfl
  have c5 : w33.cell? ⟨a, 5, none⟩ = some (.int .i64 wh) := HX.out.at_ 5 rfl
  have HO := Lib.hid ((Kp.refl NoX w33).drew.alloc (.cells (miC ⟨nm, at_, od, inn, ia, wh⟩).toArray 64))
  go_region_law ((refine step_append_any _ rfl (.tmp 27) (.tmp 29) 24 rfl 8 64 i0 _ 6 64 Tryz.underlying24 hi hz0 hz1 hz2 rfl (by decide) (.slice s3.mA r3.tree.miles.length s3.mc) r3.tree.miles.length (r3.tree.miles.flatMap miC) rfl (own_kp HR.out.rM HO.out (fun _ _ e => e)) _ 1 1 (miC ⟨nm, at_, od, inn, ia, wh⟩) rfl (Rd.row_new _ _ 6 1 _ rfl) (one_mil _) H63.out H47.out (Nat.le_trans K3.out.st.eight HO.out.size) ?_; intro A1 c1 w9 hown hgrow hat; rw [ownBlock_slice] at hgrow hat; have hb2 := K3.out.st.pastM HR.out HO.out hgrow; have HG := Lib.hid (K3.out.st.growM HR.out ⟨nm, at_, od, inn, ia, wh⟩ True.intro HO.out hgrow hat hown); have hc7 : w9.cell? ⟨g, 9, none⟩ = some (.slice s3.mA r3.tree.miles.length s3.mc) := Blk.at_ hb2 9 rfl; have hz7 := hb2.z 9; clear hown hgrow hat hb2))
  all_goals
    have HE := Lib.hid ((K3.out.step HG.out.1 HG.out.2).done (fun b e => by rw [ha]; exact HZ.out b e))
    go_wp2
    go_end0
    rw [← HR'.out]
    exact ⟨rfl, _, HE.out.1, HE.out.2⟩
end Go.Proofs.YtmmjcbbogokmfaaGreatDoor

/- The reader's step: a box and two rows of its own, kept beside the reader. -/
namespace Go.Proofs.YtmmjcbbogokmfaaGreatDoor
open Go.RowKit

/-- the box of a step being read (block a; its cell i is the row that grows), the row that grows, the row that stays -/
structure Rw (src : ByteArray) (w : World) (g : Nat) (s : Sl) (a : Nat) (T : TypeId) (z : Nat) (pre post : List Value) (T2 : TypeId) (z2 : Nat) (A2 : Option Addr) (n2 c2 : Nat) (xs2 : List Value)
    (r : Rdr) (L : List Nat) (s' : Sl) (A : Option Addr) (n c : Nat) (xs : List Value) (W : World) : Prop where
  ks : Ks src w g s r L s' W
  ain : a ∈ L
  box : Blk W a 111 (pre ++ .slice A n c :: post).toArray
  own : W.ownsRow w.heap.size T z (.slice A n c) n xs
  inl : ∀ b, A.map (·.block) = some b → b ∈ L
  own2 : W.ownsRow w.heap.size T2 z2 (.slice A2 n2 c2) n2 xs2
  inl2 : ∀ b, A2.map (·.block) = some b → b ∈ L
section
variable {src : ByteArray} {w W W1 W2 W3 : World} {g : Nat} {s s' s1 : Sl} {a : Nat} {T : TypeId} {z : Nat} {pre post : List Value} {T2 : TypeId} {z2 : Nat} {A2 : Option Addr} {n2 c2 : Nat} {xs2 : List Value} {r r1 : Rdr} {L : List Nat} {A : Option Addr} {n c : Nat} {xs : List Value}
theorem Rw.step (h : Rw src w g s a T z pre post T2 z2 A2 n2 c2 xs2 r L s' A n c xs W) (h1 : St W1 g src r1 s1) (f : Fr g s' s1 W W1) : Rw src w g s a T z pre post T2 z2 A2 n2 c2 xs2 r1 L s1 A n c xs W1 :=
  ⟨h.ks.step h1 f, h.ain, h.ks.blk h.ain h.box f, h.ks.own h.own h.inl f, h.inl, h.ks.own h.own2 h.inl2 f, h.inl2⟩
theorem Rw.alloc (h : Rw src w g s a T z pre post T2 z2 A2 n2 c2 xs2 r L s' A n c xs W) (o : Obj) : Rw src w g s a T z pre post T2 z2 A2 n2 c2 xs2 r (W.heap.size :: L) { s' with z := zL s (W.heap.size :: L) } A n c xs (W.alloc o) :=
  ⟨h.ks.alloc o, List.mem_cons_of_mem _ h.ain, h.box.alloc o, own_kp h.own ((Kp.refl NoX W).alloc o) (fun _ _ e => e), fun b e => List.mem_cons_of_mem _ (h.inl b e), own_kp h.own2 ((Kp.refl NoX W).alloc o) (fun _ _ e => e), fun b e => List.mem_cons_of_mem _ (h.inl2 b e)⟩
/-- block p is none of these -/
structure Off (a : Nat) (A A2 : Option Addr) (L : List Nat) (p : Nat) : Prop where
  inl : p ∈ L
  box : p ≠ a
  own : A.map (·.block) ≠ some p
  own2 : A2.map (·.block) ≠ some p
theorem Rw.off (h : Rw src w g s a T z pre post T2 z2 A2 n2 c2 xs2 r L s' A n c xs W) : Off a A A2 (W.heap.size :: L) W.heap.size :=
  ⟨List.mem_cons_self, fun e => by have := h.box.lt; omega, fun e => by have := (own_ge h.own e).2; omega, fun e => by have := (own_ge h.own2 e).2; omega⟩
theorem Rw.put (h : Rw src w g s a T z pre post T2 z2 A2 n2 c2 xs2 r L s' A n c xs W) {p : Nat} (hp : Off a A A2 L p) (i : Nat) (u : Value) : Rw src w g s a T z pre post T2 z2 A2 n2 c2 xs2 r L s' A n c xs (W.setCell ⟨p, i, none⟩ u) := by
  have hk : Kp (fun k => k = p) W (W.setCell ⟨p, i, none⟩ u) := (Kp.refl (fun k => k = p) W).setCell (p := ⟨p, i, none⟩) (fun _ => rfl) u
  exact ⟨h.ks.put hp.inl i u, h.ain, h.box.kp hk (fun e => hp.box e.symm), own_kp h.own hk (fun b e e2 => hp.own (by rw [← ownBlock_slice, e]; exact congrArg some e2)), h.inl, own_kp h.own2 hk (fun b e e2 => hp.own2 (by rw [← ownBlock_slice, e]; exact congrArg some e2)), h.inl2⟩
theorem Rw.grow (h : Rw src w g s a T z pre post T2 z2 A2 n2 c2 xs2 r L s' A n c xs W) (hT : T ≠ 111) (hT2 : T2 ≠ T) (hT3 : T2 ≠ 111) (ho : Old W W2) {A' : Option Addr} {c' : Nat} {xs' : List Value} (hg : W2.grownBy W3 (A.map (·.block)))
    (ha : A'.map (·.block) = A.map (·.block) ∨ A'.map (·.block) = some W2.heap.size) (hown : W3.ownsRow w.heap.size T z (.slice A' (n + 1) c') (n + 1) xs') :
    Blk W3 a 111 (pre ++ .slice A n c :: post).toArray ∧ Rw src w g s a T z pre post T2 z2 A2 n2 c2 xs2 r ((A'.map (·.block)).toList ++ L) { s' with z := zL s ((A'.map (·.block)).toList ++ L) } A' (n + 1) c' xs' (W3.setCell ⟨a, pre.length, none⟩ (.slice A' (n + 1) c')) := by
  have hne : A.map (·.block) ≠ some a := by rw [← ownBlock_slice]; exact own_blk_ne h.own h.box hT
  have hk2 : Kp (fun b => A.map (·.block) = some b) W W3 := Kp.grown (ho.mono (fun _ _ e => e.elim)) hg (fun _ e _ => e)
  have hb3 : Blk W3 a 111 (pre ++ .slice A n c :: post).toArray := h.box.kp hk2 hne
  have hk3 : Kp (fun k => k = a) W3 (W3.setCell ⟨a, pre.length, none⟩ (.slice A' (n + 1) c')) := (Kp.refl (fun k => k = a) W3).setCell (p := ⟨a, pre.length, none⟩) (fun _ => rfl) _
  have hb4 := hb3.setL pre.length (.slice A' (n + 1) c')
  rw [List.set_append_right _ _ (Nat.le_refl _), Nat.sub_self, List.set_cons_zero] at hb4
  have hne2 : ∀ k, (Value.slice A2 n2 c2).ownBlock = some k → (Value.slice A n c).ownBlock ≠ some k := own_own_ne h.own2 h.own hT2
  refine ⟨hb3, (h.ks.grow ho h.inl hg ha hown).put (List.mem_append.2 (.inr h.ain)) _ _, List.mem_append.2 (.inr h.ain), hb4, ?_, fun b e => List.mem_append.2 (.inl (Option.mem_toList.2 e)), ?_, fun b e => List.mem_append.2 (.inr (h.inl2 b e))⟩
  · exact own_kp hown hk3 (fun k e e2 => own_blk_ne hown hb3 hT (by rw [e]; exact congrArg some e2))
  · refine own_kp (own_kp h.own2 hk2 (fun k e e2 => hne2 k e (by rw [ownBlock_slice]; exact e2))) hk3 (fun k e e2 => own_blk_ne h.own2 h.box hT3 (by rw [e]; exact congrArg some e2))
end
/-- between the rows: the box whole, the row that stays -/
structure Md (src : ByteArray) (w : World) (g : Nat) (s : Sl) (a : Nat) (T : TypeId) (z : Nat) (cs : List Value) (r : Rdr) (L : List Nat) (s' : Sl) (A : Option Addr) (n c : Nat) (xs : List Value) (W : World) : Prop where
  ks : Ks src w g s r L s' W
  ain : a ∈ L
  box : Blk W a 111 cs.toArray
  own : W.ownsRow w.heap.size T z (.slice A n c) n xs
  inl : ∀ b, A.map (·.block) = some b → b ∈ L
section
variable {src : ByteArray} {w W W1 : World} {g : Nat} {s s' s1 : Sl} {a : Nat} {T : TypeId} {z : Nat} {pre post cs : List Value} {T2 : TypeId} {z2 : Nat} {A2 : Option Addr} {n2 c2 : Nat} {xs2 : List Value} {r r1 : Rdr} {L : List Nat} {A : Option Addr} {n c : Nat} {xs : List Value}
theorem Rw.md (h : Rw src w g s a T z pre post T2 z2 A2 n2 c2 xs2 r L s' A n c xs W) : Md src w g s a T z (pre ++ .slice A n c :: post) r L s' A n c xs W := ⟨h.ks, h.ain, h.box, h.own, h.inl⟩
theorem Md.step (h : Md src w g s a T z cs r L s' A n c xs W) (h1 : St W1 g src r1 s1) (f : Fr g s' s1 W W1) : Md src w g s a T z cs r1 L s1 A n c xs W1 := ⟨h.ks.step h1 f, h.ain, h.ks.blk h.ain h.box f, h.ks.own h.own h.inl f, h.inl⟩
theorem Md.put (h : Md src w g s a T z cs r L s' A n c xs W) (hT : T ≠ 111) (i : Nat) (u : Value) : Md src w g s a T z (cs.set i u) r L s' A n c xs (W.setCell ⟨a, i, none⟩ u) := by
  have hk : Kp (fun k => k = a) W (W.setCell ⟨a, i, none⟩ u) := (Kp.refl (fun k => k = a) W).setCell (p := ⟨a, i, none⟩) (fun _ => rfl) u
  exact ⟨h.ks.put h.ain i u, h.ain, h.box.setL i u, own_kp h.own hk (fun k e e2 => own_blk_ne h.own h.box hT (by rw [e]; exact congrArg some e2)), h.inl⟩
theorem Md.rw (h : Md src w g s a T z (pre ++ [.slice none 0 0]) r L s' A n c xs W) (T' : TypeId) (z' : Nat) : Rw src w g s a T' z' pre [] T z A n c xs r L s' none 0 0 [] W :=
  ⟨h.ks, h.ain, h.box, World.ownsRow_nil _ _ _ _, fun b e => by (cases e), h.own, h.inl⟩
end
end Go.Proofs.YtmmjcbbogokmfaaGreatDoor
