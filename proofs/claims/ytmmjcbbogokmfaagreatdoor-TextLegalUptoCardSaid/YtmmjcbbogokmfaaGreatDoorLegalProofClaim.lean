/-
  Proved: for every word and every node whose bulk is at most 1048576 the law TextLegal returns true, and its arguments read as they did; the listed variables tied to the program's text (the card).
-/
import Derived.Test.YtmmjcbbogokmfaaGreatDoorMg44
import Derived.Test.YtmmjcbbogokmfaaGreatDoorMg45
import Derived.Test.YtmmjcbbogokmfaaGreatDoorCards
import Derived.Test.YtmmjcbbogokmfaaGreatDoorTie
import Derived.ProofKit
import Derived.OpenShut
import Derived.JoinedCond
import Derived.Carry
import Derived.Deep.DeepHandedRow
import Derived.Deep.DeepWitnessRowRef
namespace Go.Proofs.YtmmjcbbogokmfaaGreatDoor.textLegal
open Go.ChangeShapes Go.WideShapes Go.ChangeAt Go.RowKit

theorem own : ownKnob Tryz.prog.godebug = none := by kernel_rfl
theorem laidOut : laidOutB Tryz.prog = true := by kernel_rfl
theorem strReads : Tryz.prog.readableRec 9 = true := by kernel_rfl
theorem strRow : 9 < Tryz.prog.types.size := of_decide_eq_true (by kernel_rfl)
theorem nodeReads : Tryz.prog.readableRec 46 = true := by kernel_rfl
theorem nodeRow : 46 < Tryz.prog.types.size := of_decide_eq_true (by kernel_rfl)

set_option maxRecDepth 100000 in
theorem contract (H : Type) (enc : TypeId × Value → H) (W : World) (base : Nat) (args : Array Value) (ds gs : List (DataW H)) (before : List MemPlace)
    (hval : ∀ (j : Nat) t v, Tryz.f4.params[j]? = some t → args[j]? = some v → Value.okWide Tryz.prog W .any base t v)
    (hW : DataW.Whole enc Tryz.prog Tryz.f4.params.toList Rows.textLegalSpec.vars false W args.toList ds gs before) (hk : Rows.uptoSmall H (ds ++ gs) = true) (hL : laidMet Tryz.prog Rows.textLegalUptoRow.laid W) :
    Calls Tryz.prog 4 args W fun e W' => ∃ v, e = .returned v ∧ Rows.textLegalSpec.post enc Tryz.prog Tryz.f4 false true false false W args v W' := by
  have hW' := hW
  obtain ⟨p, q, hA0, hV, rfl, hfz, hnd⟩ := hW
  have hA : DataW.TrodAll enc Tryz.prog W 0 (fun _ => true) true Tryz.f4.params.toList args.toList ds p := hA0
  rw [Tryz.params4] at hA hval
  obtain ⟨v0, vs0, d0, ds0, p0, q0, hargs, rfl, rfl, h0, r0⟩ := trodAll_cons hA
  obtain ⟨v1, vs1, d1, ds1, p1, q1, rfl, rfl, rfl, h1, r1⟩ := trodAll_cons r0
  obtain ⟨rfl, rfl, rfl⟩ := trodAll_nil r1
  obtain rfl : args = #[v0, v1] := by cases args; simp_all
  obtain ⟨rfl, rfl⟩ := trodVars_none hV
  clear hA0
  simp only [List.append_nil] at hW' hk
  have hB : Rows.uptoBulkAll [d0, d1] ≤ 1048576 := of_decide_eq_true hk
  simp only [Rows.uptoBulkAll] at hB
  have hlt := hW'.lt
  obtain ⟨word, hword⟩ : ∃ s : ByteArray, v0 = .string s := by
    obtain ⟨fuel0, hf0⟩ := h0
    obtain ⟨s, hs, _⟩ := open_text hf0
    have hv0 := hval 0 9 v0 rfl rfl
    cases v0 <;> simp only [Value.cells, List.cons.injEq, and_true] at hs <;> first | exact ⟨s, hs⟩ | skip
    simp [Value.okWide, Cell.okWide, Tryz.underlying9, Cell.ok] at hv0
  subst hword
  have hv1 := hval 1 46 v1 rfl rfl
  unfold Value.okWide at hv1
  rw [Tryz.underlying46] at hv1
  obtain ⟨cs, rfl, _⟩ := hv1
  have h0' := h0
  have h1' := h1
  obtain ⟨fuel1, hf1⟩ := h1
  obtain ⟨m, hm, hk1, hk2, hb1, hb2⟩ := open_node hf1
  obtain rfl : cs = (ndC m).toArray := by
    have e : cs.toList = ndC m := hm
    rw [← e]
  obtain ⟨hg, h8⟩ := sg_laid hL (by simp [Rows.textLegalUptoRow]) (by simp [Rows.textLegalUptoRow]) (by simp [Rows.textLegalUptoRow])
  have hgR := sgR_laid hL (by simp [Rows.textLegalUptoRow])
  refine (legal9_any W hg hgR h8 word m hk1 hk2 (by simp only at hb1; omega) (by simp only at hb2; omega)).mono fun e W' ⟨he, ho⟩ => ?_
  subst he
  refine ⟨_, rfl, post_of_old (pa := p0 ++ p1) (pv := []) hW' (fun _ _ _ => trodAll_cons_mk (shut_bool Tryz.underlying4 _) trodAll_mk0) (fun sp hsp => ?_) (fun _ _ => rfl) (by simp) ho (ok_one (by kernel_rfl) rfl (okWide_bool_mk Tryz.underlying4 _))⟩
  have hb0 := Kp.below ho
  rw [Tryz.params4]
  refine trodAll_mk2 ?_ ?_
  · exact WideElems.Trod_stays laidOut strReads strRow h0' (fun x hx => hb0.same (hlt x (List.mem_append_left _ hx))) (fun x hx => hsp x (List.mem_append_left _ hx))
  · exact WideElems.Trod_stays laidOut nodeReads nodeRow h1' (fun x hx => hb0.same (hlt x (List.mem_append_right _ hx))) (fun x hx => hsp x (List.mem_append_right _ hx))

theorem laid_met (os : Os) (args : Array Value) : laidMet Tryz.prog Rows.textLegalUptoRow.laid ((laidWorld os).forCall (fun _ _ => 0) ⟨#[], args, []⟩).memory :=
  laidMet_of_run' 8 (by kernel_rfl) (by kernel_rfl)
theorem reads (os : Os) {H : Type} (enc : TypeId × Value → H) : ∃ places, DataW.whole enc Tryz.prog ((laidWorld os).forCall (fun _ _ => 0) ⟨#[], #[.string ⟨#[]⟩, .agg #[.int .i64 0, .string ⟨#[]⟩, .int .i64 0, .int .i64 0, .string ⟨#[]⟩, .slice none 0 0, .slice none 0 0]], []⟩).memory Tryz.f4.params.toList Rows.textLegalSpec.vars false #[Value.string ⟨#[]⟩, .agg #[.int .i64 0, .string ⟨#[]⟩, .int .i64 0, .int .i64 0, .string ⟨#[]⟩, .slice none 0 0, .slice none 0 0]].toList 8 = some ([.lit (.string []), .agg [.lit (.int .i64 0), .lit (.string []), .agg [.lit (.int .i64 0), .lit (.int .i64 0), .lit (.string []), .nil], .nil]], [], places) :=
  ⟨[], by kernel_rfl⟩
set_option maxRecDepth 100000 in
theorem lifted (os : Os) (started : os.Started) (H : Type) (enc : TypeId × Value → H) (F : Stop.Interp) :
    ReturnsInHanded {} Tryz.checked os 4 .any ((Rows.OpenSpec.upto Rows.textLegalSpec).preRow enc Tryz.prog Tryz.f4 Rows.textLegalUptoRow.domain false Rows.textLegalUptoRow.laid) (((Rows.OpenSpec.upto Rows.textLegalSpec).at F).post enc Tryz.prog Tryz.f4 false true false false) := by
  obtain ⟨places, hx⟩ := reads os enc
  refine returnsInHanded_of_row (C := Tryz.checked) (s := Rows.OpenSpec.upto Rows.textLegalSpec) own started (by kernel_rfl) Tryz.func4
    (witness_row_atRef (enc := enc) (C := Tryz.checked) false (laidWorld os) #[.string ⟨#[]⟩, .agg #[.int .i64 0, .string ⟨#[]⟩, .int .i64 0, .int .i64 0, .string ⟨#[]⟩, .slice none 0 0, .slice none 0 0]] rfl (by kernel_rfl) (by kernel_rfl) (by kernel_rfl)
      (OpenSpec.preRow_of_cond 8 hx (by kernel_rfl) (fun k hk => by cases hk; kernel_rfl) (by kernel_rfl) (laid_met os _))) ?_
  intro W base args ds gs before hval hW _ hcond _ hL _ _
  exact contract H enc W base args ds gs before hval hW (hcond _ rfl) hL
theorem saidUpto : Rows.TextLegalUptoSaid :=
  OpenClaim.holds_of_cond 4 Tryz.f4 rfl rfl rfl rfl rfl rfl rfl ⟨rfl, rfl, rfl, rfl, rfl⟩ rfl rfl rfl rfl rfl (by kernel_rfl) Tryz.func4 (by kernel_rfl)
    (of_decide_eq_true (by kernel_rfl)) (by unfold Func.isWrapper; first | (rw [if_pos (by decide +kernel)]; kernel_rfl) | (rw [if_neg (by decide +kernel)]; exact ⟨rfl, rfl⟩))
    (fun os started H enc _ F => by rw [OpenClaim.pre_eq_preRow]; exact lifted os started H enc F)
/-- no parameter wants a stand-in -/
theorem plain (f : FuncId) (fn : Func) (hf : Tryz.pinned.checked.prog.funcNamed "docket/docketlaw9.TextLegal" = some f) (hfn : Tryz.pinned.checked.prog.funcs[f]? = some fn) :
    true = Tryz.pinned.checked.prog.looks [] ∧ ∀ (j : Nat) t, fn.params[j]? = some t → Tryz.pinned.checked.prog.wantsStandIn t = false := by
  obtain rfl : f = 4 := Option.some.inj ((show Tryz.prog.funcNamed "docket/docketlaw9.TextLegal" = some 4 by kernel_rfl).symm.trans hf) |>.symm
  obtain rfl : fn = Tryz.f4 := (Option.some.inj (Tryz.func4.symm.trans hfn)).symm
  refine ⟨by kernel_rfl, fun j t ht => ?_⟩
  rw [Tryz.params4] at ht
  have hm : t = 9 ∨ t = 46 := by simpa using Array.mem_of_getElem? ht
  rcases hm with rfl | rfl
  · exact (show Tryz.prog.wantsStandIn 9 = false by kernel_rfl)
  · exact (show Tryz.prog.wantsStandIn 46 = false by kernel_rfl)
/-- the statement -/
theorem proved : Rows.TextLegalUptoCardSaid :=
  Claim7.holds_tied_plain_at .later [] _ _ _ _ saidUpto (fun _ h => by cases h) (by kernel_rfl) (fun _ h => by cases h) textLegalUpto_row_tie rfl ⟨rfl, rfl⟩ (by kernel_rfl) rfl plain (by kernel_rfl)
#print axioms proved
end Go.Proofs.YtmmjcbbogokmfaaGreatDoor.textLegal
