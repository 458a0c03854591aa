/-
  Proved: for every row of bytes whose bulk is at most 1048576 the law TextShortest returns true, and its arguments read as it did; the listed variables tied to the program's text (the card).
-/
import Derived.Test.YtmmjcbbogokmfaaGreatDoorMt48
import Derived.Test.YtmmjcbbogokmfaaGreatDoorMt49
import Derived.Test.YtmmjcbbogokmfaaGreatDoorCards
import Derived.Test.YtmmjcbbogokmfaaGreatDoorTie
import Derived.ProofKit
import Derived.OpenShut
import Derived.JoinedCond
import Derived.Carry
import Derived.Deep.DeepHandedRow
import Derived.Deep.DeepWitnessRowRef
set_option maxRecDepth 100000
set_option maxHeartbeats 25600000
namespace Go.Proofs.YtmmjcbbogokmfaaGreatDoor.textShortest
open Go.ChangeShapes Go.WideShapes Go.ChangeAt Go.RowKit
theorem own : ownKnob Tryz.prog.godebug = none := by kernel_rfl
theorem laidOut : laidOutB Tryz.prog = true := by kernel_rfl
theorem bytesReads : Tryz.prog.readableRec 33 = true := by kernel_rfl
theorem byteReads : Tryz.prog.readableRec 5 = true := by kernel_rfl
theorem byteRow : 5 < Tryz.prog.types.size := of_decide_eq_true (by kernel_rfl)
theorem byte_of {n : Int} (h0 : 0 <= n) (h1 : n <= 255) : ∃ x : UInt8, Value.int .u8 n = bv x := by
  refine ⟨UInt8.ofNat n.toNat, ?_⟩
  unfold bv
  have e : (UInt8.ofNat n.toNat).toNat = n.toNat := by
    rw [UInt8.toNat_ofNat']
    exact Nat.mod_eq_of_lt (by omega)
  rw [e, Int.toNat_of_nonneg h0]
theorem byte_wf {n : Int} (h : (Lit.int .u8 n).wf = true) : ∃ x : UInt8, Value.int .u8 n = bv x := by
  have h' : (decide (IntKind.u8.min <= n) && decide (n <= IntKind.u8.max)) = true := h
  rw [Bool.and_eq_true, decide_eq_true_iff, decide_eq_true_iff, show IntKind.u8.min = 0 by rfl, show IntKind.u8.max = 255 by rfl] at h'
  exact byte_of h'.1 h'.2
theorem bytesRow : 33 < Tryz.prog.types.size := of_decide_eq_true (by kernel_rfl)
theorem contract (H : Type) (enc : TypeId × Value -> H) (W : World) (base : Nat) (args : Array Value) (ds gs : List (DataW H)) (before : List MemPlace)
    (hval : ∀ (j : Nat) t v, Tryz.f6.params[j]? = some t -> args[j]? = some v -> Value.okWide Tryz.prog W .any base t v)
    (hW : DataW.Whole enc Tryz.prog Tryz.f6.params.toList Rows.textShortestSpec.vars false W args.toList ds gs before) (hk : Rows.uptoSmall H (ds ++ gs) = true) (hL : laidMet Tryz.prog Rows.textShortestUptoRow.laid W) :
    Calls Tryz.prog 6 args W fun e W' => ∃ v, e = .returned v /\ Rows.textShortestSpec.post enc Tryz.prog Tryz.f6 false true false false W args v W' := by
  have hW' := hW
  obtain ⟨p, q, hA0, hV, rfl, hfz, hnd⟩ := hW
  have hA : DataW.TrodAll enc Tryz.prog W 0 (fun _ => true) true Tryz.f6.params.toList args.toList ds p := hA0
  rw [Tryz.params6] at hA hval
  obtain ⟨v0, vs0, d0, ds0, p0, q0, hargs, rfl, rfl, h0, r0⟩ := trodAll_cons hA
  obtain ⟨v1, vs1, d1, ds1, p1, q1, rfl, rfl, rfl, h1, r1⟩ := trodAll_cons r0
  obtain ⟨rfl, rfl, rfl⟩ := trodAll_nil r1
  obtain rfl : args = #[v0, v1] := by cases args; simp_all
  obtain ⟨rfl, rfl⟩ := trodVars_none hV
  clear hA0
  simp only [List.append_nil] at hW' hk
  have hB : Rows.uptoBulkAll [d0, d1] <= 1048576 := of_decide_eq_true hk
  simp only [Rows.uptoBulkAll] at hB
  have hlt := hW'.lt
  obtain ⟨a0, len, cap, rfl⟩ := okWide_slice Tryz.underlying33 (hval 0 33 v0 rfl rfl)
  obtain ⟨n1, hv1, -, -, hw1⟩ := open_int Tryz.underlying5 (hval 1 5 v1 rfl rfl) h1
  obtain ⟨x, hx⟩ := byte_wf hw1
  obtain rfl : v1 = bv x := hv1.trans hx
  clear hv1 hw1 hx
  have h0' := h0
  obtain ⟨fuel0, hf0⟩ := h0
  obtain ⟨A, c, l, hl, hrd, hc, hb⟩ := open_bytes hf0
  have hl' : [Value.slice a0 len cap] = [.slice A l.length c] := hl
  simp only [List.cons.injEq, Value.slice.injEq, and_true] at hl'
  obtain ⟨rfl, rfl, rfl⟩ := hl'
  obtain ⟨hg, h8⟩ := sg_laid hL (by simp [Rows.textShortestUptoRow]) (by simp [Rows.textShortestUptoRow]) (by simp [Rows.textShortestUptoRow])
  refine (short9_any W hg h8 a0 cap l hrd (by simp only at hb; omega) x).mono fun e W' ⟨he, ho⟩ => ?_
  subst he
  refine ⟨_, rfl, post_of_old (pa := p0 ++ p1) (pv := []) hW' (fun _ _ _ => trodAll_cons_mk (shut_bool Tryz.underlying4 _) trodAll_mk0) (fun sp hsp => ?_) (fun _ _ => rfl) (by simp) ho (ok_one (by kernel_rfl) rfl (okWide_bool_mk Tryz.underlying4 _))⟩
  have hb0 := Kp.below ho
  rw [Tryz.params6]
  refine trodAll_mk2 ?_ ?_
  · exact WideElems.Trod_stays laidOut bytesReads bytesRow h0' (fun x hx => hb0.same (hlt x (by simp [hx]))) (fun x hx => hsp x (by simp [hx]))
  · exact WideElems.Trod_stays laidOut byteReads byteRow h1 (fun x hx => hb0.same (hlt x (by simp [hx]))) (fun x hx => hsp x (by simp [hx]))
theorem laid_met (os : Os) (args : Array Value) : laidMet Tryz.prog Rows.textShortestUptoRow.laid ((laidWorld os).forCall (fun _ _ => 0) ⟨#[], args, []⟩).memory :=
  laidMet_of_run' 8 (by kernel_rfl) (by kernel_rfl)
theorem reads (os : Os) {H : Type} (enc : TypeId × Value -> H) : ∃ places, DataW.whole enc Tryz.prog ((laidWorld os).forCall (fun _ _ => 0) ⟨#[], #[.slice none 0 0, .int .u8 0], []⟩).memory Tryz.f6.params.toList Rows.textShortestSpec.vars false #[Value.slice none 0 0, .int .u8 0].toList 8 = some ([.nil, .lit (.int .u8 0)], [], places) :=
  ⟨[], by kernel_rfl⟩
theorem lifted (os : Os) (started : os.Started) (H : Type) (enc : TypeId × Value -> H) (F : Stop.Interp) :
    ReturnsInHanded {} Tryz.checked os 6 .any ((Rows.OpenSpec.upto Rows.textShortestSpec).preRow enc Tryz.prog Tryz.f6 Rows.textShortestUptoRow.domain false Rows.textShortestUptoRow.laid) (((Rows.OpenSpec.upto Rows.textShortestSpec).at F).post enc Tryz.prog Tryz.f6 false true false false) := by
  obtain ⟨places, hx⟩ := reads os enc
  refine returnsInHanded_of_row (C := Tryz.checked) (s := Rows.OpenSpec.upto Rows.textShortestSpec) own started (by kernel_rfl) Tryz.func6
    (witness_row_atRef (enc := enc) (C := Tryz.checked) false (laidWorld os) #[.slice none 0 0, .int .u8 0] rfl (by kernel_rfl) (by kernel_rfl) (by kernel_rfl)
      (OpenSpec.preRow_of_cond 8 hx (by kernel_rfl) (fun k hk => by cases hk; kernel_rfl) (by kernel_rfl) (laid_met os _))) ?_
  intro W base args ds gs before hval hW _ hcond _ hL _ _
  exact contract H enc W base args ds gs before hval hW (hcond _ rfl) hL
theorem saidUpto : Rows.TextShortestUptoSaid :=
  OpenClaim.holds_of_cond 6 Tryz.f6 rfl rfl rfl rfl rfl rfl rfl ⟨rfl, rfl, rfl, rfl, rfl⟩ rfl rfl rfl rfl rfl (by kernel_rfl) Tryz.func6 (by kernel_rfl)
    (of_decide_eq_true (by kernel_rfl)) (by unfold Func.isWrapper; first | (rw [if_pos (by decide +kernel)]; kernel_rfl) | (rw [if_neg (by decide +kernel)]; exact ⟨rfl, rfl⟩))
    (fun os started H enc _ F => by rw [OpenClaim.pre_eq_preRow]; exact lifted os started H enc F)
theorem plain (f : FuncId) (fn : Func) (hf : Tryz.pinned.checked.prog.funcNamed "docket/docketlaw9.TextShortest" = some f) (hfn : Tryz.pinned.checked.prog.funcs[f]? = some fn) :
    true = Tryz.pinned.checked.prog.looks [] /\ ∀ (j : Nat) t, fn.params[j]? = some t -> Tryz.pinned.checked.prog.wantsStandIn t = false := by
  obtain rfl : f = 6 := Option.some.inj ((show Tryz.prog.funcNamed "docket/docketlaw9.TextShortest" = some 6 by kernel_rfl).symm.trans hf) |>.symm
  obtain rfl : fn = Tryz.f6 := (Option.some.inj (Tryz.func6.symm.trans hfn)).symm
  refine ⟨by kernel_rfl, fun j t ht => ?_⟩
  rw [Tryz.params6] at ht
  have ht' : t = 33 \/ t = 5 := by simpa using Array.mem_of_getElem? ht
  rcases ht' with rfl | rfl
  · exact (show Tryz.prog.wantsStandIn 33 = false by kernel_rfl)
  · exact (show Tryz.prog.wantsStandIn 5 = false by kernel_rfl)
theorem proved : Rows.TextShortestUptoCardSaid :=
  Claim7.holds_tied_plain_at .later [] _ _ _ _ saidUpto (fun _ h => by cases h) (by kernel_rfl) (fun _ h => by cases h) textShortestUpto_row_tie rfl ⟨rfl, rfl⟩ (by kernel_rfl) rfl plain (by kernel_rfl)
#print axioms proved
end Go.Proofs.YtmmjcbbogokmfaaGreatDoor.textShortest
