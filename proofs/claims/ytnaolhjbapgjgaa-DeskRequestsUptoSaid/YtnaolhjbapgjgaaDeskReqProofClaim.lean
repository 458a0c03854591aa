/-
  Proved: for every request and every row of bytes whose bulk is at most 1048576 the law DeskRequests returns true, and its arguments read as they did. (The wide form is false by size: REPORT.md.)
  (The frame follows the seat's page on upto statements.)
-/
import Derived.Test.YtnaolhjbapgjgaaMg51
import Derived.ProofKit
import Derived.OpenShut
import Derived.JoinedCond
import Derived.Carry
namespace Go.Proofs.Ytnaolhjbapgjgaa.deskRequests
open Go.ChangeShapes Go.WideShapes Go.ChangeAt Go.RowKit
set_option linter.unusedVariables false

theorem own : ownKnob Try.prog.godebug = none := by kernel_rfl
theorem laidOut : laidOutB Try.prog = true := by kernel_rfl
theorem reqReads : Try.prog.readableRec 31 = true := by kernel_rfl
theorem reqRow : 31 < Try.prog.types.size := of_decide_eq_true (by kernel_rfl)
theorem bytesReads : Try.prog.readableRec 27 = true := by kernel_rfl
theorem bytesRow : 27 < Try.prog.types.size := of_decide_eq_true (by kernel_rfl)

set_option maxRecDepth 100000 in
theorem contract (H : Type) (enc : TypeId × Value → H) (W : World) (base : Nat) (args : Array Value) (ds gs : List (DataW H)) (before : List MemPlace)
    (hval : ∀ (j : Nat) t v, Try.f3.params[j]? = some t → args[j]? = some v → Value.okWide Try.prog W .any base t v)
    (hW : DataW.Whole enc Try.prog Try.f3.params.toList Rows.deskRequestsSpec.vars false W args.toList ds gs before) (hk : Rows.uptoSmall H (ds ++ gs) = true) :
    Calls Try.prog 3 args W fun e W' => ∃ v, e = .returned v ∧ Rows.deskRequestsSpec.post enc Try.prog Try.f3 false true false false W args v W' := by
  have hW' := hW
  obtain ⟨p, q, hA0, hV, rfl, hfz, hnd⟩ := hW
  have hA : DataW.TrodAll enc Try.prog W 0 (fun _ => true) true Try.f3.params.toList args.toList ds p := hA0
  rw [Try.params3] at hA hval
  obtain ⟨v0, vs0, d0, ds0, p0, q0, hargs, rfl, rfl, h0, r0⟩ := trodAll_cons hA
  obtain ⟨v1, vs1, d1, ds1, p1, q1, rfl, rfl, rfl, h1, r1⟩ := trodAll_cons r0
  obtain ⟨rfl, rfl, rfl⟩ := trodAll_nil r1
  obtain rfl : args = #[v0, v1] := by cases args; simp_all
  obtain ⟨rfl, rfl⟩ := trodVars_none hV
  clear hA0
  simp only [List.append_nil] at hW' hk
  have hB : Rows.uptoBulkAll [d0, d1] ≤ 1048576 := of_decide_eq_true hk
  simp only [Rows.uptoBulkAll] at hB
  have hlt := hW'.lt
  have hv0 := hval 0 31 v0 rfl rfl
  unfold Value.okWide at hv0
  rw [Try.underlying31] at hv0
  obtain ⟨cs, rfl, _⟩ := hv0
  obtain ⟨a0, len, cap, rfl⟩ := okWide_slice Try.underlying27 (hval 1 27 v1 rfl rfl)
  have h0' := h0
  have h1' := h1
  obtain ⟨fuel0, hf0⟩ := h0
  obtain ⟨fuel1, hf1⟩ := h1
  obtain ⟨m, hm, hok, hv, ha⟩ := open_req hf0 (by simp only; omega)
  obtain rfl : cs = m.cells.toArray := by
    have e : cs.toList = m.cells := hm
    rw [← e]
  obtain ⟨A, c, l, hl, hrd, hc, hb⟩ := open_bytes hf1
  have hl' : [Value.slice a0 len cap] = [.slice A l.length c] := hl
  simp only [List.cons.injEq, Value.slice.injEq, and_true] at hl'
  obtain ⟨rfl, rfl, rfl⟩ := hl'
  refine (dreq_any W m a0 cap l hok hv ha hrd hc (by simp only at hb; omega)).mono fun e W' ⟨he, ho⟩ => ?_
  subst he
  refine ⟨_, rfl, post_of_old (pa := p0 ++ p1) (pv := []) hW' (fun _ _ _ => trodAll_cons_mk (shut_bool Try.underlying4 _) trodAll_mk0) (fun sp hsp => ?_) (fun _ _ => rfl) (by simp) ho (ok_one (by kernel_rfl) rfl (okWide_bool_mk Try.underlying4 _))⟩
  have hb0 := Kp.below ho
  rw [Try.params3]
  refine trodAll_mk2 ?_ ?_
  · exact WideElems.Trod_stays laidOut reqReads reqRow h0' (fun x hx => hb0.same (hlt x (List.mem_append_left _ hx))) (fun x hx => hsp x (List.mem_append_left _ hx))
  · exact WideElems.Trod_stays laidOut bytesReads bytesRow h1' (fun x hx => hb0.same (hlt x (List.mem_append_right _ hx))) (fun x hx => hsp x (List.mem_append_right _ hx))

set_option maxRecDepth 100000 in
theorem lifted (os : Os) (started : os.Started) (H : Type) (enc : TypeId × Value → H) (F : Stop.Interp) :
    ReturnsInHanded {} Try.checked os 3 .any ((Rows.OpenSpec.upto Rows.deskRequestsSpec).pre6 enc Try.prog Try.f3 Rows.deskRequestsUptoRow.domain false) (((Rows.OpenSpec.upto Rows.deskRequestsSpec).at F).post enc Try.prog Try.f3 false true false false) := by
  refine returnsInHanded_of_cond (C := Try.checked) (s := Rows.OpenSpec.upto Rows.deskRequestsSpec) (k := Rows.uptoSmall) rfl own started (by kernel_rfl) Try.func3
    (OpenSpec.witness (enc := enc) (C := Try.checked) (s := Rows.OpenSpec.upto Rows.deskRequestsSpec) (k := Rows.uptoSmall) rfl false
      ⟨#[], #[.agg #[.int .i64 0, .int .i64 0, .string ⟨#[]⟩, .string ⟨#[]⟩, .string ⟨#[]⟩, .int .i64 0, .int .i64 0, .string ⟨#[]⟩, .slice none 0 0, .slice none 0 0, .slice none 0 0, .int .i64 0, .string ⟨#[]⟩, .int .i64 0, .int .i64 0, .int .i64 0, .int .i64 0, .int .i64 0], .slice none 0 0], []⟩ 8 (by kernel_rfl) (by kernel_rfl) (by kernel_rfl)
      (x := ([.agg [.lit (.int .i64 0), .agg [.lit (.int .i64 0), .lit (.string []), .lit (.string []), .lit (.string []), .agg [.lit (.int .i64 0), .lit (.int .i64 0), .lit (.string []), .nil], .nil, .nil, .lit (.int .i64 0)], .lit (.string []), .lit (.int .i64 0), .lit (.int .i64 0), .lit (.int .i64 0), .lit (.int .i64 0), .lit (.int .i64 0)], .nil], [], [])) (by kernel_rfl) rfl (by kernel_rfl)) ?_
  intro W base args ds gs before hval hW _ hk _
  exact contract H enc W base args ds gs before hval hW hk

theorem over : Rows.deskRequestsUptoRow.holds Try.pinned (Rows.OpenSpec.upto Rows.deskRequestsSpec) :=
  OpenClaim.holds_of_cond 3 Try.f3 rfl rfl rfl rfl rfl rfl rfl ⟨rfl, rfl, rfl, rfl, rfl⟩ rfl rfl rfl rfl rfl (by kernel_rfl) Try.func3 (by kernel_rfl)
    (of_decide_eq_true (by kernel_rfl)) (by unfold Func.isWrapper; first | (rw [if_pos (by decide +kernel)]; kernel_rfl) | (rw [if_neg (by decide +kernel)]; exact ⟨rfl, rfl⟩))
    (fun os started H enc _ F => lifted os started H enc F)

/-- the statement -/
theorem proved : Rows.DeskRequestsUptoSaid :=
  over
#print axioms proved
end Go.Proofs.Ytnaolhjbapgjgaa.deskRequests
