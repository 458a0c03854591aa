import Derived.Test.YtmmjcbbogokmfaaGreatDoorMn01
import Derived.Test.YtmmjcbbogokmfaaGreatDoorMn33
import Derived.Defers
import Derived.Recover
/- Contracts of text.begun and its deferred closure. -/
namespace Go.Proofs.YtmmjcbbogokmfaaGreatDoor
open Go.RowKit

theorem Tryz.assertW (v : Value) (w : World) : (Instr.typeAssert (.iface 215 v) 20 215 true).run Tryz.prog w = .ok (.tuple #[v, .bool true]) w := by
  simp [Instr.typeAssert, run_underlying Tryz.underlying215]
set_option maxRecDepth 100000 in
set_option maxHeartbeats 1000000 in
theorem caught (w : World) (pa pb : Addr) (x : Int) (y : Bool) (k : Nat) (ha : w.cell? pa = some (.int .i64 x)) (hb : w.cell? pb = some (.bool y)) (hza : w.frozen? pa = false) (hzb : w.frozen? pb = false) (hne : pa.block ≠ pb.block) :
    CallsD Tryz.prog 133 #[.pointer (some pa), .pointer (some pb)] (.panicking (wrongV k)) w fun e u' w' =>
      e = .returned (.tuple #[]) ∧ u' = .panicking [{ v := .iface 215 (.int .i64 (k : Int)), recovered := true }] ∧ w' = (w.setCell pa (.int .i64 (k : Int))).setCell pb (.bool false) := by
  refine callsD_of_wpS Tryz.func133 rfl fun c₀ cs hu => ?_
  unfold wrongV at hu
  apply wpS_seq
  apply wpS_region
  simp [wpOpsS, go_sem, recoverD, hu, Tryz.ntmps133, Exit.thenS]
  refine wpS_of_wp ?_
  clear hu
  simp only [Array.replicate_succ, Array.replicate_zero, List.push_toArray, List.append_toArray, List.nil_append, List.cons_append, List.setIfInBounds_toArray, List.set_cons_zero, List.set_cons_succ]
  have hta := fun w => Tryz.assertW (.int .i64 (k : Int)) w
  have hb2 : (w.setCell pa (.int .i64 (k : Int))).cell? pb = some (.bool y) := (World.cell?_of_block (Below.heap_setCell w pa _ pb.block (Ne.symm hne))).trans hb
  have hzb2 : (w.setCell pa (.int .i64 (k : Int))).frozen? pb = false := (World.frozen?_of_block (Below.heap_setCell w pa _ pb.block (Ne.symm hne))).trans hzb
  go_wp2
  simp [bodyPostS, results, Tryz.results133]
set_option maxRecDepth 100000 in
set_option maxHeartbeats 1000000 in
theorem caught_not (w : World) (pa pb : Addr) :
    CallsD Tryz.prog 133 #[.pointer (some pa), .pointer (some pb)] .returning w fun e u' w' => e = .returned (.tuple #[]) ∧ u' = .returning ∧ w' = w := by
  refine callsD_of_wpS Tryz.func133 rfl fun c₀ cs hu => ?_
  apply wpS_seq
  apply wpS_region
  simp [wpOpsS, go_sem, recoverD, hu, Tryz.ntmps133, Exit.thenS]
  refine wpS_of_wp ?_
  simp only [Array.replicate_succ, Array.replicate_zero, List.push_toArray, List.append_toArray, List.nil_append, List.cons_append, List.setIfInBounds_toArray, List.set_cons_zero, List.set_cons_succ]
  go_wp2
  cases c₀
  simp_all [bodyPostS, results, Tryz.results133]
/-- what begun tells -/
def Begun (w : World) (src : ByteArray) (o : Out) (e : Ending) (w' : World) : Prop :=
  match o with
  | .ok m => ∃ g r A c, e = .returned (.tuple #[.pointer (some ⟨g, 0, none⟩), .int .i64 (src.size : Int), .bool true]) ∧ Mac w' g r src m A c ∧ Old w w' ∧ w.heap.size ≤ g ∧ (∀ k, r = some k → w.heap.size ≤ k)
  | .error k => ∃ p, e = .returned (.tuple #[.pointer p, .int .i64 (k : Int), .bool false]) ∧ Old w w'
theorem mac_start (w : World) (src : ByteArray) (h8 : 8 ≤ w.heap.size) :
    Mac ((w.alloc (.cells #[.int .u8 5, .int .u8 58, .int .u8 4, .int .u8 1, .int .u8 23] 163)).alloc (.cells #[.string src, .int .i64 0, .slice (some ⟨w.heap.size, 0, none⟩) 5 5, .int .u8 0, .int .i64 0] 162)) (w.heap.size + 1) (some w.heap.size) src startM (some ⟨w.heap.size, 0, none⟩) 5 := by
  have e1 : (w.alloc (.cells #[.int .u8 5, .int .u8 58, .int .u8 4, .int .u8 1, .int .u8 23] 163)).heap.size = w.heap.size + 1 := by simp
  refine ⟨by omega, ?_, ?_, rfl, by decide⟩
  · rw [← e1]
    exact Blk.new _ _ _
  · refine ⟨rfl, .inr ⟨w.heap.size, 5, #[.int .u8 5, .int .u8 58, .int .u8 4, .int .u8 1, .int .u8 23], rfl, h8, ?_, by decide, by decide, rfl, rfl⟩⟩
    exact (Blk.new w 163 #[.int .u8 5, .int .u8 58, .int .u8 4, .int .u8 1, .int .u8 23]).alloc _
set_option maxRecDepth 100000 in
set_option maxHeartbeats 3200000 in
theorem begun_any (w : World) (hg : Sg w) (src : ByteArray) (hs : src.size ≤ 60000) (h8 : 8 ≤ w.heap.size) : Calls Tryz.prog 76 #[.string src] w (Begun w src (begunN (sb src))) := by
  have hmf : ∀ (fn : Fn) (first cap : Array Value) (w : World), (Instr.makeFunc fn first cap).run Tryz.prog w = .ok (.func fn first cap) w := fun _ _ _ _ => rfl
  go_enter_defers Tryz.func76, Tryz.ntmps76
  go_wp2_with fail
  have hA : ((w.alloc (.cells #[.int .i64 0] 3)).alloc (.cells #[.bool false] 4)).heap.size = w.heap.size + 1 + 1 := by simp
  have hM := mac_start ((w.alloc (.cells #[.int .i64 0] 3)).alloc (.cells #[.bool false] 4)) src (by omega)
  rw [hA] at hM
  have hO : Old w ((((w.alloc (.cells #[.int .i64 0] 3)).alloc (.cells #[.bool false] 4)).alloc (.cells #[.int .u8 5, .int .u8 58, .int .u8 4, .int .u8 1, .int .u8 23] 163)).alloc (.cells #[.string src, .int .i64 0, .slice (some ⟨w.heap.size + 1 + 1, 0, none⟩) 5 5, .int .u8 0, .int .i64 0] 162)) := ((((Kp.refl NoX w).alloc _).alloc _).alloc _).alloc _
  have hb1 : Blk ((((w.alloc (.cells #[.int .i64 0] 3)).alloc (.cells #[.bool false] 4)).alloc (.cells #[.int .u8 5, .int .u8 58, .int .u8 4, .int .u8 1, .int .u8 23] 163)).alloc (.cells #[.string src, .int .i64 0, .slice (some ⟨w.heap.size + 1 + 1, 0, none⟩) 5 5, .int .u8 0, .int .i64 0] 162)) w.heap.size 3 #[.int .i64 0] := (((Blk.new w 3 #[.int .i64 0]).alloc _).alloc _).alloc _
  have hb2 : Blk ((((w.alloc (.cells #[.int .i64 0] 3)).alloc (.cells #[.bool false] 4)).alloc (.cells #[.int .u8 5, .int .u8 58, .int .u8 4, .int .u8 1, .int .u8 23] 163)).alloc (.cells #[.string src, .int .i64 0, .slice (some ⟨w.heap.size + 1 + 1, 0, none⟩) 5 5, .int .u8 0, .int .i64 0] 162)) (w.heap.size + 1) 4 #[.bool false] := by
    have := Blk.new (w.alloc (.cells #[.int .i64 0] 3)) 4 #[.bool false]
    rw [show (w.alloc (.cells #[.int .i64 0] 3)).heap.size = w.heap.size + 1 by simp] at this
    exact (this.alloc _).alloc _
  generalize ((((w.alloc (.cells #[.int .i64 0] 3)).alloc (.cells #[.bool false] 4)).alloc (.cells #[.int .u8 5, .int .u8 58, .int .u8 4, .int .u8 1, .int .u8 23] 163)).alloc (.cells #[.string src, .int .i64 0, .slice (some ⟨w.heap.size + 1 + 1, 0, none⟩) 5 5, .int .u8 0, .int .i64 0] 162)) = W at *
  refine (run_any W (hg.old hO) _ _ src _ _ hM hs).mono ?_
  clear hM hA
  intro e w1 hout
  generalize begunN (sb src) = X at *
  generalize hS : w.heap.size = S at *
  cases X with
  | ok m =>
    obtain ⟨rfl, r2, A2, c2, hM2, hk, hf⟩ := hout
    have hb1 := hb1.kp hk (fun h => by rcases h with e | e; omega; have := Option.some.inj e; omega)
    have hb2 := hb2.kp hk (fun h => by rcases h with e | e; omega; have := Option.some.inj e; omega)
    have q1 : w1.cell? ⟨S, 0, none⟩ = some (.int .i64 0) := hb1.at_ 0 rfl
    have q2 : w1.cell? ⟨S + 1, 0, none⟩ = some (.bool false) := hb2.at_ 0 rfl
    have z1 := hb1.frozen 0
    have z2 := hb2.frozen 0
    have hb1' := (hb1.set_ 0 (.int .i64 (src.size : Int))).far (p := ⟨S + 1, 0, none⟩) (by simp) (.bool true)
    have hb2' := (hb2.far (p := ⟨S, 0, none⟩) (by simp) (.int .i64 (src.size : Int))).set_ 0 (.bool true)
    have hk2 : Kp (fun k => k = S ∨ k = S + 1) w1 ((w1.setCell ⟨S, 0, none⟩ (.int .i64 (src.size : Int))).setCell ⟨S + 1, 0, none⟩ (.bool true)) :=
      ((Kp.refl _ w1).setCell (p := ⟨S, 0, none⟩) (fun _ => .inl rfl) _).setCell (p := ⟨S + 1, 0, none⟩) (fun _ => .inr rfl) _
    have hrow : ∀ k, r2 = some k → ¬ (k = S ∨ k = S + 1) := by
      intro k hk' he
      rcases hf with rfl | ⟨k2, rfl, hle⟩
      · have := Option.some.inj hk'; omega
      · have := Option.some.inj hk'
        have := hb2.lt
        have h9 := (‹Blk W (S + 1) _ _›).lt
        omega
    have Hfin := Lib.hid (show Begun w src (.ok m) (.returned (.tuple #[.pointer (some ⟨S + 1 + 1 + 1, 0, none⟩), .int .i64 (src.size : Int), .bool true])) ((w1.setCell ⟨S, 0, none⟩ (.int .i64 (src.size : Int))).setCell ⟨S + 1, 0, none⟩ (.bool true)) from by
      refine ⟨S + 1 + 1 + 1, r2, A2, c2, rfl, hM2.kp hk2 (by omega) hrow, ?_, by omega, fun k hk' => ?_⟩
      · refine (hO.trans hk (fun b hb hx => ?_)).trans hk2 (fun b hb hx => ?_)
        · rcases hx with hx | hx
          · omega
          · have := Option.some.inj hx; omega
        · rcases hx with hx | hx <;> omega
      · have := hrow k hk'
        rcases hf with rfl | ⟨k2, rfl, hle⟩
        · have := Option.some.inj hk'; omega
        · have := Option.some.inj hk'
          have := hO.size
          omega)
    clear hM2 hk hf hk2 hrow hO
    go_wp2
    generalize ((w1.setCell ⟨S, 0, none⟩ (.int .i64 (src.size : Int))).setCell ⟨S + 1, 0, none⟩ (.bool true)) = WF at *
    have f1 : WF.cell? ⟨S, 0, none⟩ = some (.int .i64 (src.size : Int)) := hb1'.at_ 0 rfl
    have f2 : WF.cell? ⟨S + 1, 0, none⟩ = some (.bool true) := hb2'.at_ 0 rfl
    refine leaves_cons (f := 133) (args := #[.pointer (some ⟨S, 0, none⟩), .pointer (some ⟨S + 1, 0, none⟩)]) (by simp) (by simp [go_sem]) ?_
    refine (caught_not WF ⟨S, 0, none⟩ ⟨S + 1, 0, none⟩).mono ?_
    rintro e u' w'' ⟨rfl, rfl, rfl⟩
    simp [Leaves, settle, results, Tryz.results76, go_sem, f1, f2]
    exact Hfin.out
  | error k =>
    obtain ⟨rfl, hk⟩ := hout
    have hb1 := hb1.kp hk (fun h => by rcases h with e | e; omega; have := Option.some.inj e; omega)
    have hb2 := hb2.kp hk (fun h => by rcases h with e | e; omega; have := Option.some.inj e; omega)
    have q1 : w1.cell? ⟨S, 0, none⟩ = some (.int .i64 0) := hb1.at_ 0 rfl
    have q2 : w1.cell? ⟨S + 1, 0, none⟩ = some (.bool false) := hb2.at_ 0 rfl
    have z1 := hb1.frozen 0
    have z2 := hb2.frozen 0
    have hb1' := (hb1.set_ 0 (.int .i64 (k : Int))).far (p := ⟨S + 1, 0, none⟩) (by simp) (.bool false)
    have hb2' := (hb2.far (p := ⟨S, 0, none⟩) (by simp) (.int .i64 (k : Int))).set_ 0 (.bool false)
    have hk2 : Kp (fun k => k = S ∨ k = S + 1) w1 ((w1.setCell ⟨S, 0, none⟩ (.int .i64 (k : Int))).setCell ⟨S + 1, 0, none⟩ (.bool false)) :=
      ((Kp.refl _ w1).setCell (p := ⟨S, 0, none⟩) (fun _ => .inl rfl) _).setCell (p := ⟨S + 1, 0, none⟩) (fun _ => .inr rfl) _
    have Hfin := Lib.hid (show Begun w src (.error k) (.returned (.tuple #[.pointer (some ⟨S + 1 + 1 + 1, 0, none⟩), .int .i64 (k : Int), .bool false])) ((w1.setCell ⟨S, 0, none⟩ (.int .i64 (k : Int))).setCell ⟨S + 1, 0, none⟩ (.bool false)) from by
      refine ⟨_, rfl, (hO.trans hk (fun b hb hx => ?_)).trans hk2 (fun b hb hx => ?_)⟩
      · rcases hx with hx | hx
        · omega
        · have := Option.some.inj hx; omega
      · rcases hx with hx | hx <;> omega)
    have Hc := Lib.hid (caught w1 ⟨S, 0, none⟩ ⟨S + 1, 0, none⟩ 0 false k q1 q2 z1 z2 (by simp))
    clear hk hk2 hO
    go_wp2
    refine leaves_cons (f := 133) (args := #[.pointer (some ⟨S, 0, none⟩), .pointer (some ⟨S + 1, 0, none⟩)]) (by simp) (by simp [go_sem]) ?_
    refine Hc.out.mono ?_
    rintro e u' w'' ⟨rfl, rfl, rfl⟩
    generalize ((w1.setCell ⟨S, 0, none⟩ (.int .i64 (k : Int))).setCell ⟨S + 1, 0, none⟩ (.bool false)) = WF at *
    have f1 : WF.cell? ⟨S, 0, none⟩ = some (.int .i64 (k : Int)) := hb1'.at_ 0 rfl
    have f2 : WF.cell? ⟨S + 1, 0, none⟩ = some (.bool false) := hb2'.at_ 0 rfl
    simp [Leaves, settle, results, Tryz.results76, go_sem, f1, f2]
    exact Hfin.out
end Go.Proofs.YtmmjcbbogokmfaaGreatDoor

/- Ropes: rows of pieces in memory. Contracts of rope's length, behind, bytes. -/
namespace Go.Proofs.YtmmjcbbogokmfaaGreatDoor
open Go.RowKit

/-- a rope that holds these bytes -/
inductive Rp (w : World) : Option Addr → List UInt8 → Prop
  | nil : Rp w none []
  | cons (g : Nat) (p : ByteArray) (nx : Option Addr) (l : List UInt8) : 0 < p.size → Blk w g 225 #[.string p, .pointer nx, .int .i64 ((sb p ++ l).length : Int)] → Rp w nx l → Rp w (some ⟨g, 0, none⟩) (sb p ++ l)
theorem Rp.old {w w1 : World} {a : Option Addr} {l : List UInt8} (h : Rp w a l) (ho : Old w w1) : Rp w1 a l := by
  induction h with
  | nil => exact .nil
  | cons g p nx l hp hb _ ih => exact .cons g p nx l hp (hb.old ho) ih
theorem Rp.kp {X : Nat → Prop} {w w1 : World} {n : Nat} {a : Option Addr} {l : List UInt8} (h : Rp w a l) (hn : w.heap.size ≤ n) (ho : Kp X w w1) (hx : ∀ b, b < n → ¬ X b) : Rp w1 a l := by
  induction h with
  | nil => exact .nil
  | cons g p nx l hp hb _ ih => exact .cons g p nx l hp (hb.kp ho (hx g (Nat.lt_of_lt_of_le hb.lt hn))) ih
theorem Rp.nil_of {w : World} {l : List UInt8} (h : Rp w none l) : l = [] := by cases h; rfl
theorem Rp.nil_iff {w : World} {a : Option Addr} {l : List UInt8} (h : Rp w a l) : a = none ↔ l = [] := by
  cases h with
  | nil => simp
  | cons g p nx l hp _ _ =>
    constructor
    · intro e; cases e
    · intro e
      have := congrArg List.length e
      rw [List.length_append, sb_length, List.length_nil] at this
      omega
set_option maxRecDepth 100000 in
theorem length_any (w : World) (a : Option Addr) (l : List UInt8) (h : Rp w a l) : Calls Tryz.prog 174 #[.pointer a] w fun e w' => e = .returned (.int .i64 (l.length : Int)) ∧ w = w' := by
  cases h with
  | nil =>
    go_enter Tryz.func174, Tryz.ntmps174
    go_wp2
    go_ret
    exact ⟨rfl, rfl⟩
  | cons g p nx l hp hb _ =>
    have h2 := hb.at_ 2 (v := .int .i64 ((sb p ++ l).length : Int)) rfl
    generalize (sb p ++ l).length = n at *
    go_enter Tryz.func174, Tryz.ntmps174
    go_wp2
    go_ret
    exact ⟨rfl, rfl⟩
set_option maxRecDepth 100000 in
set_option maxHeartbeats 800000 in
theorem rbehind_any (w : World) (a : Option Addr) (l : List UInt8) (h : Rp w a l) (p : ByteArray) (hl : p.size + l.length ≤ 1000000000000) :
    Calls Tryz.prog 142 #[.pointer a, .string p] w fun e w' => ∃ b, e = .returned (.pointer b) ∧ Rp w' b (sb p ++ l) ∧ Old w w' := by
  have HL := Lib.hid (length_any w a l h)
  by_cases h0 : p.size = 0
  · have hp0 : p = ⟨#[]⟩ := sb_inj (List.eq_nil_of_length_eq_zero (by rw [sb_length]; exact h0))
    subst hp0
    have Hr := Lib.hid h
    clear h h0 HL
    go_enter Tryz.func142, Tryz.ntmps142
    go_wp2
    go_ret
    exact ⟨a, rfl, Hr.out, Kp.refl _ _⟩
  · have hne : (p.toList == []) = false := beq_eq_false_iff_ne.2 (fun e => h0 (by rw [ByteArray.toList_eq] at e; rw [← sb_length]; show (sb p).length = 0; unfold sb; rw [e]; rfl))
    have ew : IntKind.i64.wrap ((p.size : Int) + (l.length : Int)) = (p.size : Int) + (l.length : Int) := IntWalk.i64_in _ (by omega)
    have Hr := Lib.hid (show Rp (w.alloc (.cells #[.string p, .pointer a, .int .i64 ((p.size : Int) + (l.length : Int))] 225)) (some ⟨w.heap.size, 0, none⟩) (sb p ++ l) from by
      refine .cons w.heap.size p a l (by omega) ?_ (h.old ((Kp.refl _ _).alloc _))
      rw [List.length_append, sb_length, show ((p.size + l.length : Nat) : Int) = (p.size : Int) + (l.length : Int) by omega]
      exact Blk.new _ _ _)
    clear h h0
    generalize l.length = n at *
    go_enter Tryz.func142, Tryz.ntmps142
    go_wp2_with (go_at_call 174; refine HL.out.mono ?_; rintro e w1 ⟨rfl, rfl⟩)
    go_ret
    exact ⟨_, rfl, Hr.out, (Kp.refl _ _).alloc _⟩
theorem Tryz.infoByte : (Tryz.prog.info? 5).map (fun i => (i.zero, i.size, i.bytes)) = some (some (.int .u8 0), 1, 1) := by kernel_rfl
/-- a rope's length, as it says -/
def rlen (v : Value) (w : World) : Nat := match v with | .pointer (some ad) => (intOf ((w.cell? ⟨ad.block, 2, none⟩).getD undef)).toNat | _ => 0
theorem Rp.rlen {w : World} {a : Option Addr} {l : List UInt8} (h : Rp w a l) : rlen (.pointer a) w = l.length := by
  cases h with
  | nil => rfl
  | cons g p nx l hp hb _ =>
    show (intOf ((w.cell? ⟨g, 2, none⟩).getD undef)).toNat = _
    rw [hb.at_ 2 (v := .int .i64 ((sb p ++ l).length : Int)) rfl]
    exact Int.toNat_natCast _
structure RopSt (w : World) (l : List UInt8) (wr : World) (a : Option Addr) (acc rest : List UInt8) (A : Option Addr) (c : Nat) : Prop where
  eq : l = acc ++ rest
  own : wr.ownsRow w.heap.size 5 1 (.slice A acc.length c) acc.length (acc.map bv)
  old : Old w wr
  src : Rp w a rest
set_option maxRecDepth 100000 in
set_option maxHeartbeats 1600000 in
theorem rbytes_any (w : World) (a : Option Addr) (l : List UInt8) (h : Rp w a l) (hl : l.length ≤ 1000000000000) :
    Calls Tryz.prog 80 #[.pointer a] w fun e w' => ∃ A c, e = .returned (.slice A l.length c) ∧ w'.ownsRow w.heap.size 5 1 (.slice A l.length c) l.length (l.map bv) ∧ Old w w' := by
  obtain ⟨i0, hi, hz0, hz1', hz2'⟩ := info_parts Tryz.infoByte
  have H0 := Lib.hid (show RopSt w l w a [] l none 0 from ⟨rfl, World.ownsRow_nil _ _ _ _, Kp.refl _ _, h⟩)
  clear h
  go_enter Tryz.func80, Tryz.ntmps80
  go_wp2
  go_loopw [0, 3] (fun p v wr => ∃ a acc rest A c, p = .pointer a ∧ v = .slice A acc.length c ∧ RopSt w l wr a acc rest A c) (fun p _ wr => rlen p wr)
  case atStart => exact ⟨a, [], l, none, 0, rfl, rfl, H0.out⟩
  case round =>
    clear H0
    obtain ⟨a, acc, rest, A, c, rfl, rfl, hst⟩ := hrel
    have Hme := Lib.hid ((hst.src.old hst.old).rlen)
    have heq := hst.eq
    have hown := hst.own
    have hsrc := hst.src
    have Hold := Lib.hid hst.old
    clear hst
    cases hsrc with
    | nil =>
      rw [List.append_nil] at heq
      subst heq
      have Hown := Lib.hid hown
      clear hown
      go_wp2
      go_ret
      exact ⟨A, c, rfl, Hown.out, Hold.out⟩
    | cons g p nx l2 hp hb hn =>
      have hb' := hb.old Hold.out
      have hc0 := hb'.at_ 0 (v := .string p) rfl
      have Hb := Lib.hid hb
      have Hn := Lib.hid hn
      have Heq := Lib.hid heq
      have hlen : acc.length + p.size ≤ 1000000000000 := by
        have := congrArg List.length heq
        rw [List.length_append, List.length_append, sb_length] at this
        omega
      clear hb hn heq hb'
      have H63 := Lib.hid (show acc.length + p.size ≤ maxLen by unfold maxLen; omega)
      have Hle := Lib.hid Hold.out.size
      generalize hk : acc.length = k at *
      go_wp2_with (at_builtin; refine wpList_append_str _ rfl (.tmp 10) (.tmp 14) 33 9 rfl w.heap.size 5 i0 Tryz.underlying33 Tryz.underlying9 hi hz0 hz1' hz2' (.slice A k c) k (acc.map bv) rfl hown p rfl H63.out (by omega) Hle.out ?_; intro A' c' w3 hown3 hgrow hat; have hold3 : Old w w3 := Hold.out.grown hgrow (fun k e hlt => by have := (hown.lt k e).1; omega); have hc1' : w3.cell? ⟨g, 1, none⟩ = some (.pointer nx) := (Hb.out.old hold3).at_ 1 rfl; have Hold3 := Lib.hid hold3; clear hold3)
      have hst : RopSt w l w3 nx (acc ++ sb p) l2 A' c' := ⟨by rw [Heq.out, List.append_assoc], by
        rw [List.length_append, sb_length, hk, List.map_append]
        exact hown3, Hold3.out, Hn.out⟩
      refine ⟨⟨nx, acc ++ sb p, l2, A', c', rfl, by rw [List.length_append, sb_length, hk], hst⟩, ?_⟩
      rw [Hme.out, (Hn.out.old Hold3.out).rlen, List.length_append, sb_length]
      omega
end Go.Proofs.YtmmjcbbogokmfaaGreatDoor

/- Contracts of a symbol's spelling, of the machine behind a terminal more. -/
namespace Go.Proofs.YtmmjcbbogokmfaaGreatDoor
open Go.RowKit

set_option maxRecDepth 100000 in
set_option maxHeartbeats 800000 in
theorem rspelled_any (w : World) (hg : Sg w) (n : Nat) (h1 : 1 ≤ n) (h2 : n < 58) : Calls Tryz.prog 203 #[yv n] w fun e w' => e = .returned (.string ⟨(spelledN n).toArray⟩) ∧ w = w' := by
  unfold yv
  by_cases e1 : n = 1
  · subst e1
    clear hg
    go_enter Tryz.func203, Tryz.ntmps203
    go_wp2
    go_ret
    exact ⟨rfl, rfl⟩
  by_cases e2 : n = 2
  · subst e2
    clear hg
    go_enter Tryz.func203, Tryz.ntmps203
    go_wp2
    go_ret
    exact ⟨rfl, rfl⟩
  by_cases e3 : n = 3
  · subst e3
    clear hg
    go_enter Tryz.func203, Tryz.ntmps203
    go_wp2
    go_ret
    exact ⟨rfl, rfl⟩
  have b1 : ((n : Int) == 1) = false := beq_eq_false_iff_ne.2 (by omega)
  have b2 : ((n : Int) == 2) = false := beq_eq_false_iff_ne.2 (by omega)
  have b3 : ((n : Int) == 3) = false := beq_eq_false_iff_ne.2 (by omega)
  by_cases h23 : n < 23
  · obtain ⟨j, rfl⟩ : ∃ j, n = j + 4 := ⟨n - 4, by omega⟩
    have hj : j < 19 := by omega
    have hc := hg.sig j _ (wvs_at signL j hj)
    rw [Nat.zero_add] at hc
    have Hs := Lib.hid (show spelledN (j + 4) = signL[j]'hj from by
      unfold spelledN
      rw [if_neg e1, if_neg e2, if_neg e3, if_pos h23, Nat.add_sub_cancel, List.getD, List.getElem?_eq_getElem (show j < signL.length from hj)]
      rfl)
    have b4 : ((j + 4 : Nat) : Int) < 23 := by omega
    have b5 : IntKind.u8.wrap (((j + 4 : Nat) : Int) - 4) = (j : Int) := by rw [show ((j + 4 : Nat) : Int) - 4 = (j : Int) by omega]; exact IntWalk.u8_in _ (by omega)
    have b6 : (0 : Int) ≤ (j : Int) := by omega
    have b7 : (j : Int) < 19 := by omega
    have b8 : (j : Int).toNat = j := by omega
    rw [Hs.out]
    clear hg e1 e2 e3 h1 h2 h23 Hs
    generalize signL[j]'hj = x at *
    generalize ((j + 4 : Nat) : Int) = z at *
    go_enter Tryz.func203, Tryz.ntmps203
    go_wp2
    go_ret
    exact ⟨rfl, rfl⟩
  · obtain ⟨j, rfl⟩ : ∃ j, n = j + 23 := ⟨n - 23, by omega⟩
    have hj : j < 35 := by omega
    have hc := hg.res j _ (wvs_at resL j hj)
    rw [Nat.zero_add] at hc
    have Hs := Lib.hid (show spelledN (j + 23) = resL[j]'hj from by
      unfold spelledN
      rw [if_neg e1, if_neg e2, if_neg e3, if_neg h23, Nat.add_sub_cancel, List.getD, List.getElem?_eq_getElem (show j < resL.length from hj)]
      rfl)
    have b4 : ¬ ((j + 23 : Nat) : Int) < 23 := by omega
    have b5 : IntKind.u8.wrap (((j + 23 : Nat) : Int) - 23) = (j : Int) := by rw [show ((j + 23 : Nat) : Int) - 23 = (j : Int) by omega]; exact IntWalk.u8_in _ (by omega)
    have b6 : (0 : Int) ≤ (j : Int) := by omega
    have b7 : (j : Int) < 35 := by omega
    have b8 : (j : Int).toNat = j := by omega
    rw [Hs.out]
    clear hg e1 e2 e3 h1 h2 h23 Hs
    generalize resL[j]'hj = x at *
    generalize ((j + 23 : Nat) : Int) = z at *
    go_enter Tryz.func203, Tryz.ntmps203
    go_wp2
    go_ret
    exact ⟨rfl, rfl⟩
theorem own_low {w : World} {base base' : Nat} {e : TypeId} {size : Nat} {v : Value} {n : Nat} {xs : List Value} (h : w.ownsRow base e size v n xs) (hb : base' ≤ base) : w.ownsRow base' e size v n xs := by
  refine ⟨h.1, ?_⟩
  rcases h.2 with hn | ⟨g, cap, cur, rfl, hg, rest⟩
  · exact .inl hn
  · exact .inr ⟨g, cap, cur, rfl, Nat.le_trans hb hg, rest⟩
set_option maxRecDepth 100000 in
set_option maxHeartbeats 1600000 in
theorem with_any (w : World) (g : Nat) (r : Option Nat) (src : ByteArray) (m : Mc) (A : Option Addr) (c : Nat) (h : Mac w g r src m A c) (t n : Nat) (k : List Nat) (ht : t < 58) (hT : Takes t n m.stack k) (hb : m.stack.length + 11 * n ≤ 100000000) :
    Calls Tryz.prog 144 #[.pointer (some ⟨g, 0, none⟩), yv t] w fun e w' => ∃ g' r' A' c', e = .returned (.pointer (some ⟨g', 0, none⟩)) ∧ Mac w' g' r' ⟨#[]⟩ ⟨0, k, 0, 0⟩ A' c' ∧ Old w w' := by
  obtain ⟨i0, hi, hz0, hz1', hz2'⟩ := info_parts Tryz.infoSym
  have hc2 := h.c2
  have hrd := h.own.rd
  have H8 := Lib.hid (show 8 ≤ w.heap.size from by have := h.low; have := h.blk.lt; omega)
  have H5 := Lib.hid h.sym
  have HT := Lib.hid hT
  have Hb := Lib.hid hb
  clear h hT
  generalize m.stack = st at *
  generalize hL : st.length = L at *
  have HL := Lib.hid hL
  clear hL
  have H63 := Lib.hid (show 0 + L ≤ maxLen by unfold maxLen; omega)
  have H47 := Lib.hid (show (0 + L) * 1 ≤ 140737488355328 by omega)
  unfold yv
  go_enter Tryz.func144, Tryz.ntmps144
  go_wp2_with (at_builtin; refine wpList_append_any _ rfl (.const (.slice none 0 0)) (.tmp 9) 159 rfl w.heap.size 163 i0 (.int .u8 0) 1 1 Tryz.underlying159 hi hz0 hz1' hz2' rfl (by decide) (.slice none 0 0) 0 [] rfl (World.ownsRow_nil _ _ _ _) A L c (st.reverse.map yv) rfl hrd (one_yv _) H63.out H47.out (Nat.le_refl _) ?_; intro A' c' w1 hown hgrow hat)
  have hO1 : Old w w1 := (Kp.refl NoX w).grown hgrow (fun k e _ => by cases e)
  have hW : w1.heap.size ≥ w.heap.size := hO1.size
  have hrow : ∀ k, A'.map (·.block) = some k → w.heap.size ≤ k := fun k e => (hown.lt k (by rw [ownBlock_slice]; exact e)).1
  have hM : Mac (w1.alloc (.cells #[.string ⟨#[]⟩, .int .i64 0, .slice A' L c', .int .u8 0, .int .i64 0] 162)) w1.heap.size (A'.map (·.block)) ⟨#[]⟩ ⟨0, st, 0, 0⟩ A' c' := by
    refine ⟨by have := H8.out; omega, ?_, ?_, rfl, H5.out⟩
    · show Blk _ _ _ #[_, _, .slice A' st.length c', _, _]
      rw [HL.out]
      exact Blk.new _ _ _
    · have h2 := own_low hown H8.out
      rw [Nat.zero_add, List.nil_append] at h2
      unfold Stk
      rw [HL.out]
      exact own_kp h2 ((Kp.refl NoX w1).alloc _) (fun _ _ f => f)
  have Hcall := Lib.hid (take_any9 _ _ _ _ _ _ _ hM t n k ht HT.out (by show st.length + _ ≤ _; rw [HL.out]; exact Hb.out))
  unfold yv at Hcall
  have HO := Lib.hid (hO1.alloc (.cells #[.string ⟨#[]⟩, .int .i64 0, .slice A' L c', .int .u8 0, .int .i64 0] 162))
  clear hM hO1 hown hgrow hat
  go_wp2_with (go_at_call 179; refine Hcall.out.mono ?_; rintro e w2 ⟨rfl, r2, A2, c2, hM2, hk2, hf2⟩)
  go_ret
  refine ⟨_, r2, A2, c2, rfl, hM2, HO.out.trans hk2 (fun b hb hx => ?_)⟩
  rcases hx with hx | hx
  · omega
  · have := hrow b hx.symm
    omega
end Go.Proofs.YtmmjcbbogokmfaaGreatDoor
