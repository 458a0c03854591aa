/-
  Proved: for every request, number, reply and row of bytes whose bulk together is at most 1048576 the law DeskSpelt returns true, and its arguments read as they did.
  (The frame follows the seat's page on upto statements.)
-/
import Derived.Test.YtnaolhjbapgjgaaGreatMg42
import Derived.Test.YtnaolhjbapgjgaaGreatMg44
import Derived.ProofKit
import Derived.OpenShut
import Derived.JoinedCond
import Derived.Carry
set_option maxRecDepth 100000
set_option maxHeartbeats 3200000
namespace Go.Proofs.YtnaolhjbapgjgaaGreat.deskSpelt
open Go.ChangeShapes Go.WideShapes Go.ChangeAt Go.RowKit
set_option linter.unusedVariables false
theorem own : ownKnob Tryz.prog.godebug = none := by kernel_rfl
theorem laidOut : laidOutB Tryz.prog = true := by kernel_rfl
theorem reqReads : Tryz.prog.readableRec 34 = true := by kernel_rfl
theorem reqRow : 34 < Tryz.prog.types.size := of_decide_eq_true (by kernel_rfl)
theorem intReads : Tryz.prog.readableRec 3 = true := by kernel_rfl
theorem intRow : 3 < Tryz.prog.types.size := of_decide_eq_true (by kernel_rfl)
theorem repReads : Tryz.prog.readableRec 63 = true := by kernel_rfl
theorem repRow : 63 < Tryz.prog.types.size := of_decide_eq_true (by kernel_rfl)
theorem bytesReads : Tryz.prog.readableRec 22 = true := by kernel_rfl
theorem bytesRow : 22 < Tryz.prog.types.size := of_decide_eq_true (by kernel_rfl)
theorem contract (H : Type) (enc : TypeId × Value -> H) (W : World) (base : Nat) (args : Array Value) (ds gs : List (DataW H)) (before : List MemPlace)
    (hval : ∀ (j : Nat) t v, Tryz.f5.params[j]? = some t -> args[j]? = some v -> Value.okWide Tryz.prog W .any base t v)
    (hW : DataW.Whole enc Tryz.prog Tryz.f5.params.toList Rows.deskSpeltSpec.vars false W args.toList ds gs before) (hk : Rows.uptoSmall H (ds ++ gs) = true) :
    Calls Tryz.prog 5 args W fun e W' => ∃ v, e = .returned v /\ Rows.deskSpeltSpec.post enc Tryz.prog Tryz.f5 false true false false W args v W' := by
  have hW' := hW
  obtain ⟨p, q, hA0, hV, rfl, hfz, hnd⟩ := hW
  have hA : DataW.TrodAll enc Tryz.prog W 0 (fun _ => true) true Tryz.f5.params.toList args.toList ds p := hA0
  rw [Tryz.params5] at hA hval
  obtain ⟨v0, vs0, d0, ds0, p0, q0, hargs, rfl, rfl, h0, r0⟩ := trodAll_cons hA
  obtain ⟨v1, vs1, d1, ds1, p1, q1, rfl, rfl, rfl, h1, r1⟩ := trodAll_cons r0
  obtain ⟨v2, vs2, d2, ds2, p2, q2, rfl, rfl, rfl, h2, r2⟩ := trodAll_cons r1
  obtain ⟨v3, vs3, d3, ds3, p3, q3, rfl, rfl, rfl, h3, r3⟩ := trodAll_cons r2
  obtain ⟨rfl, rfl, rfl⟩ := trodAll_nil r3
  obtain rfl : args = #[v0, v1, v2, v3] := by cases args; simp_all
  obtain ⟨rfl, rfl⟩ := trodVars_none hV
  clear hA0
  simp only [List.append_nil] at hW' hk
  have hB : Rows.uptoBulkAll [d0, d1, d2, d3] <= 1048576 := of_decide_eq_true hk
  simp only [Rows.uptoBulkAll] at hB
  have hlt := hW'.lt
  have hv0 := hval 0 34 v0 rfl rfl
  unfold Value.okWide at hv0
  rw [Tryz.underlying34] at hv0
  obtain ⟨cs, rfl, _⟩ := hv0
  obtain ⟨op, rfl⟩ := okWide_int Tryz.underlying3 (hval 1 3 v1 rfl rfl)
  have hv2 := hval 2 63 v2 rfl rfl
  unfold Value.okWide at hv2
  rw [Tryz.underlying63] at hv2
  obtain ⟨cr, rfl, _⟩ := hv2
  obtain ⟨a0, len, cap, rfl⟩ := okWide_slice Tryz.underlying22 (hval 3 22 v3 rfl rfl)
  have h0' := h0
  have h1' := h1
  have h2' := h2
  have h3' := h3
  obtain ⟨fuel0, hf0⟩ := h0
  obtain ⟨fuel2, hf2⟩ := h2
  obtain ⟨fuel3, hf3⟩ := h3
  obtain ⟨m, hm, hok, hv, ha⟩ := open_req hf0 (by simp only; omega)
  obtain rfl : cs = m.cells.toArray := by
    have e : cs.toList = m.cells := hm
    rw [<- e]
  obtain ⟨r, hr, hokr, hvr⟩ := open_reply hf2 (by simp only; omega)
  obtain rfl : cr = r.cells.toArray := by
    have e : cr.toList = r.cells := hr
    rw [<- e]
  obtain ⟨A, c, l, hl, hrd, hc, hb⟩ := open_bytes hf3
  have hl' : [Value.slice a0 len cap] = [.slice A l.length c] := hl
  simp only [List.cons.injEq, Value.slice.injEq, and_true] at hl'
  obtain ⟨rfl, rfl, rfl⟩ := hl'
  refine (dspelt_any W m op r a0 cap l hok hv ha hokr hvr hrd (by simp only at hb; omega)).mono fun e W' ⟨he, ho⟩ => ?_
  subst he
  refine ⟨_, rfl, post_of_old (pa := p0 ++ (p1 ++ (p2 ++ p3))) (pv := []) hW' (fun _ _ _ => trodAll_cons_mk (shut_bool Tryz.underlying4 _) trodAll_mk0) (fun sp hsp => ?_) (fun _ _ => rfl) (by simp) ho (ok_one (by kernel_rfl) rfl (okWide_bool_mk Tryz.underlying4 _))⟩
  have hb0 := Kp.below ho
  rw [Tryz.params5]
  refine trodAll_mk4 ?_ ?_ ?_ ?_
  · exact WideElems.Trod_stays laidOut reqReads reqRow h0' (fun x hx => hb0.same (hlt x (by simp [hx]))) (fun x hx => hsp x (by simp [hx]))
  · exact WideElems.Trod_stays laidOut intReads intRow h1' (fun x hx => hb0.same (hlt x (by simp [hx]))) (fun x hx => hsp x (by simp [hx]))
  · exact WideElems.Trod_stays laidOut repReads repRow h2' (fun x hx => hb0.same (hlt x (by simp [hx]))) (fun x hx => hsp x (by simp [hx]))
  · exact WideElems.Trod_stays laidOut bytesReads bytesRow h3' (fun x hx => hb0.same (hlt x (by simp [hx]))) (fun x hx => hsp x (by simp [hx]))
theorem lifted (os : Os) (started : os.Started) (H : Type) (enc : TypeId × Value -> H) (F : Stop.Interp) :
    ReturnsInHanded {} Tryz.checked os 5 .any ((Rows.OpenSpec.upto Rows.deskSpeltSpec).pre6 enc Tryz.prog Tryz.f5 Rows.deskSpeltUptoRow.domain false) (((Rows.OpenSpec.upto Rows.deskSpeltSpec).at F).post enc Tryz.prog Tryz.f5 false true false false) := by
  refine returnsInHanded_of_cond (C := Tryz.checked) (s := Rows.OpenSpec.upto Rows.deskSpeltSpec) (k := Rows.uptoSmall) rfl own started (by kernel_rfl) Tryz.func5
    (OpenSpec.witness (enc := enc) (C := Tryz.checked) (s := Rows.OpenSpec.upto Rows.deskSpeltSpec) (k := Rows.uptoSmall) rfl false
      ⟨#[], #[.agg #[.int .i64 0, .int .i64 0, .string ⟨#[]⟩, .string ⟨#[]⟩, .string ⟨#[]⟩, .int .i64 0, .int .i64 0, .string ⟨#[]⟩, .slice none 0 0, .slice none 0 0, .slice none 0 0, .int .i64 0, .string ⟨#[]⟩, .int .i64 0, .int .i64 0, .int .i64 0, .int .i64 0, .int .i64 0], .int .i64 0, .agg zeroMR.cells.toArray, .slice none 0 0], []⟩ 8 (by kernel_rfl) (by kernel_rfl) (by kernel_rfl)
      (x := ([.agg [.lit (.int .i64 0), .agg [.lit (.int .i64 0), .lit (.string []), .lit (.string []), .lit (.string []), .agg [.lit (.int .i64 0), .lit (.int .i64 0), .lit (.string []), .nil], .nil, .nil, .lit (.int .i64 0)], .lit (.string []), .lit (.int .i64 0), .lit (.int .i64 0), .lit (.int .i64 0), .lit (.int .i64 0), .lit (.int .i64 0)], .lit (.int .i64 0), .agg [.lit (.int .i64 0), .agg [.lit (.int .i64 0), .lit (.int .i64 0), .lit (.int .i64 0)], .lit (.int .i64 0), .nil, .agg [.lit (.string []), .lit (.string []), .lit (.int .i64 0), .agg (List.replicate 32 (.lit (.int .u8 0))), .nil, .nil, .nil, .nil], .nil, .lit (.int .i64 0), .agg [.agg [.agg (List.replicate 32 (.lit (.int .u8 0))), .lit (.int .i64 0), .agg (List.replicate 32 (.lit (.int .u8 0))), .agg (List.replicate 32 (.lit (.int .u8 0))), .lit (.int .i64 0)], .nil], .agg [.lit (.int .i64 0), .lit (.int .i64 0), .nil], .agg [.lit (.int .i64 0), .lit (.int .i64 0), .nil], .agg [.lit (.string []), .lit (.bool false), .agg [.lit (.int .i64 0), .agg (List.replicate 32 (.lit (.int .u8 0)))], .agg (List.replicate 32 (.lit (.int .u8 0))), .nil], .agg [.lit (.string []), .lit (.int .i64 0), .agg (List.replicate 32 (.lit (.int .u8 0))), .nil, .nil]], .nil], [], [])) (by kernel_rfl) rfl (by kernel_rfl)) ?_
  intro W base args ds gs before hval hW _ hk _
  exact contract H enc W base args ds gs before hval hW hk
theorem nameFact : Tryz.pinned.checked.prog.funcNamed Rows.deskSpeltUptoRow.func = some 5 := by kernel_rfl
theorem closedFacts : joinedFacts Tryz.pinned.checked.prog 5 Tryz.f5 (Rows.OpenSpec.upto Rows.deskSpeltSpec).bare Rows.deskSpeltUptoRow = true := by kernel_rfl
theorem instFact : Tryz.f5.isInstance Tryz.pinned.checked.prog Rows.deskSpeltUptoRow.origin Rows.deskSpeltUptoRow.targs := of_decide_eq_true (by kernel_rfl)
theorem wrapFact : Tryz.f5.isWrapper Tryz.pinned.checked.prog Rows.deskSpeltUptoRow.wrapper Rows.deskSpeltUptoRow.mainSum := by
  unfold Func.isWrapper
  first | (rw [if_pos (by decide +kernel)]; kernel_rfl) | (rw [if_neg (by decide +kernel)]; exact ⟨rfl, rfl⟩)
theorem over : Rows.deskSpeltUptoRow.holds Tryz.pinned (Rows.OpenSpec.upto Rows.deskSpeltSpec) :=
  OpenClaim.holds_of_cond 5 Tryz.f5 rfl rfl rfl rfl rfl rfl rfl ⟨rfl, rfl, rfl, rfl, rfl⟩ rfl rfl rfl rfl rfl nameFact Tryz.func5 closedFacts
    instFact wrapFact
    (fun os started H enc _ F => lifted os started H enc F)
theorem proved : Rows.DeskSpeltUptoSaid :=
  over
#print axioms proved
end Go.Proofs.YtnaolhjbapgjgaaGreat.deskSpelt
