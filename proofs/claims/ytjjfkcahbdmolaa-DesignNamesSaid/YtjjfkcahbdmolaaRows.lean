/-
  No cell of these rows narrows 'for every input' (looked for: loops, veiled, ifaces, maps, wideKeys, modest, calm, conditions, laid).
  DERIVED. THE GIVEN ROWS OF THIS SEAT. 4 by the template 'for every input the law returns true; each argument reads behind the call as it read before'; 0 by the template 'total and deterministic' (their statements: YtjjfkcahbdmolaaTotals.lean).
  GIVEN WITH THE SEED: the statements are not yours to turn. If you find one false, say at which input.
  Laid BY PROGRAM, IN A SANDBOX (cutbox-rows.mjs): the forced cells as the released guide's own fill.sh prints them over the translation dd35bfe6ad84d9cd… (all of the seat's roots in one cut). By AI agents, Wed Nov 11 2026. No macro, syntax, notation, axiom, sorry.
-/
import Derived.Test.YtjjfkcahbdmolaaChecked
import GoSem.Claim
import GoSem.ClaimJoined
import GoSem.ClaimMapViews
import Derived.JoinedTies
import Derived.KernelRfl
namespace Go.Proofs.Ytjjfkcahbdmolaa
/- THE CELL 'sum', in the pinned program and in every row, IS THE sha256 OF THE DUMP (.gsa) THAT YtjjfkcahbdmolaaProg.lean LOADS. Nothing in Lean hashes anything: it is a label: what it is worth is what the hold of that sum in a sandbox is worth. -/
noncomputable def Try.pinned : Pinned := { name := "ytjjfkcahbdmolaa", sum := "dd35bfe6ad84d9cd8f499dc46e30f8b9c7e5d68b7715f178b2b90e19bb59cc25", checked := Try.checked }
namespace Rows
def none {H : Type} : Left H := { results := [], args := [] }

/-- 'docketlaw9.TextNames': WHATEVER THE INPUT: true; the input reads as it did. -/
def textNamesSpec : ChangeSpec := { name := "textNames", fn := fun _ => fun
  | [] => { results := [.lit (.bool true)], args := [] }
  | _ => none }
def textNamesRow : OpenClaim := { program := "ytjjfkcahbdmolaa", sum := "dd35bfe6ad84d9cd8f499dc46e30f8b9c7e5d68b7715f178b2b90e19bb59cc25", func := "docket/docketlaw9.TextNames", spec := "textNames", apart := false }
def TextNamesSaid : Prop := textNamesRow.holds Try.pinned (OpenSpec.ofChange textNamesSpec)

/-- ITS FALSE NEIGHBOUR: 'it returns false'. Refute it at one input. -/
def textNamesWrong : ChangeSpec := { name := "textNames", fn := fun _ => fun
  | [] => { results := [.lit (.bool false)], args := [] }
  | _ => none }
def TextNamesWrongFalsely : Prop := textNamesRow.holds Try.pinned (OpenSpec.ofChange textNamesWrong)

/-- 'docketlaw12.DesignNames': WHATEVER THE INPUT: true; the input reads as it did. -/
def designNamesSpec : ChangeSpec := { name := "designNames", fn := fun _ => fun
  | [] => { results := [.lit (.bool true)], args := [] }
  | _ => none }
def designNamesRow : OpenClaim := { program := "ytjjfkcahbdmolaa", sum := "dd35bfe6ad84d9cd8f499dc46e30f8b9c7e5d68b7715f178b2b90e19bb59cc25", func := "docket/docketlaw12.DesignNames", spec := "designNames", apart := false }
def DesignNamesSaid : Prop := designNamesRow.holds Try.pinned (OpenSpec.ofChange designNamesSpec)

/-- ITS FALSE NEIGHBOUR: 'it returns false'. Refute it at one input. -/
def designNamesWrong : ChangeSpec := { name := "designNames", fn := fun _ => fun
  | [] => { results := [.lit (.bool false)], args := [] }
  | _ => none }
def DesignNamesWrongFalsely : Prop := designNamesRow.holds Try.pinned (OpenSpec.ofChange designNamesWrong)

/-- 'docketlaw13.SurgeNames': WHATEVER THE INPUT: true; the input reads as it did. -/
def surgeNamesSpec : ChangeSpec := { name := "surgeNames", fn := fun _ => fun
  | [] => { results := [.lit (.bool true)], args := [] }
  | _ => none }
def surgeNamesRow : OpenClaim := { program := "ytjjfkcahbdmolaa", sum := "dd35bfe6ad84d9cd8f499dc46e30f8b9c7e5d68b7715f178b2b90e19bb59cc25", func := "docket/docketlaw13.SurgeNames", spec := "surgeNames", apart := false }
def SurgeNamesSaid : Prop := surgeNamesRow.holds Try.pinned (OpenSpec.ofChange surgeNamesSpec)

/-- ITS FALSE NEIGHBOUR: 'it returns false'. Refute it at one input. -/
def surgeNamesWrong : ChangeSpec := { name := "surgeNames", fn := fun _ => fun
  | [] => { results := [.lit (.bool false)], args := [] }
  | _ => none }
def SurgeNamesWrongFalsely : Prop := surgeNamesRow.holds Try.pinned (OpenSpec.ofChange surgeNamesWrong)

/-- 'docketlaw15.FoldNames': WHATEVER THE INPUT: true; the input reads as it did. -/
def foldNamesSpec : ChangeSpec := { name := "foldNames", fn := fun _ => fun
  | [] => { results := [.lit (.bool true)], args := [] }
  | _ => none }
def foldNamesRow : OpenClaim := { program := "ytjjfkcahbdmolaa", sum := "dd35bfe6ad84d9cd8f499dc46e30f8b9c7e5d68b7715f178b2b90e19bb59cc25", func := "docket/docketlaw15.FoldNames", spec := "foldNames", apart := false }
def FoldNamesSaid : Prop := foldNamesRow.holds Try.pinned (OpenSpec.ofChange foldNamesSpec)

/-- ITS FALSE NEIGHBOUR: 'it returns false'. Refute it at one input. -/
def foldNamesWrong : ChangeSpec := { name := "foldNames", fn := fun _ => fun
  | [] => { results := [.lit (.bool false)], args := [] }
  | _ => none }
def FoldNamesWrongFalsely : Prop := foldNamesRow.holds Try.pinned (OpenSpec.ofChange foldNamesWrong)

/- THE SECOND FORM. 'bulk': how many values and letters a reading holds, each counted each time it is reached (what is shared counts as often as it is met; a slice's spare places count too). A statement '..UptoSaid' is the law's where the arguments, and the package variables that the reading takes, are together of bulk at most 1048576: NARROWER than '..Said'. Prove '..Said' where nothing that the law and all that it calls make is longer than what came in: it says more and counts as full. Else prove '..UptoSaid'. A law counts once. -/
mutual
def uptoBulk {H : Type} : DataW H → Nat
  | .lit (.string bytes) => bytes.length + 1
  | .lit _ => 1
  | .nil => 1
  | .ptr d => uptoBulk d + 1
  | .slice elems spare => uptoBulkAll elems + uptoBulkAll spare + 1
  | .agg parts => uptoBulkAll parts + 1
  | .iface _ d => uptoBulk d + 1
  | .map entries => uptoBulkEntries entries + 1
  | .held _ => 1
def uptoBulkAll {H : Type} : List (DataW H) → Nat
  | [] => 0
  | d :: r => uptoBulk d + uptoBulkAll r
def uptoBulkEntries {H : Type} : List (Lit × DataW H) → Nat
  | [] => 0
  | x :: r => uptoBulkEntry x + uptoBulkEntries r
def uptoBulkEntry {H : Type} : Lit × DataW H → Nat
  | (.string bytes, d) => bytes.length + uptoBulk d + 1
  | (_, d) => uptoBulk d + 1
 end
def uptoSmall : (H : Type) → List (DataW H) → Bool := fun _ ds => decide (uptoBulkAll ds ≤ 1048576)
def OpenSpec.upto (s : _root_.Go.ChangeSpec) : _root_.Go.OpenSpec := { _root_.Go.OpenSpec.ofChange s with cond := some uptoSmall }

/-- 'docketlaw9.TextNames', WHERE WHAT IT READS IS OF BULK AT MOST 1048576: true; the input reads as it did. -/
def textNamesUptoRow : OpenClaim := { program := "ytjjfkcahbdmolaa", sum := "dd35bfe6ad84d9cd8f499dc46e30f8b9c7e5d68b7715f178b2b90e19bb59cc25", func := "docket/docketlaw9.TextNames", spec := "textNames", apart := false, narrowed := true }
def TextNamesUptoSaid : Prop := textNamesUptoRow.holds Try.pinned (OpenSpec.upto textNamesSpec)

/-- 'docketlaw12.DesignNames', WHERE WHAT IT READS IS OF BULK AT MOST 1048576: true; the input reads as it did. -/
def designNamesUptoRow : OpenClaim := { program := "ytjjfkcahbdmolaa", sum := "dd35bfe6ad84d9cd8f499dc46e30f8b9c7e5d68b7715f178b2b90e19bb59cc25", func := "docket/docketlaw12.DesignNames", spec := "designNames", apart := false, narrowed := true }
def DesignNamesUptoSaid : Prop := designNamesUptoRow.holds Try.pinned (OpenSpec.upto designNamesSpec)

/-- 'docketlaw13.SurgeNames', WHERE WHAT IT READS IS OF BULK AT MOST 1048576: true; the input reads as it did. -/
def surgeNamesUptoRow : OpenClaim := { program := "ytjjfkcahbdmolaa", sum := "dd35bfe6ad84d9cd8f499dc46e30f8b9c7e5d68b7715f178b2b90e19bb59cc25", func := "docket/docketlaw13.SurgeNames", spec := "surgeNames", apart := false, narrowed := true }
def SurgeNamesUptoSaid : Prop := surgeNamesUptoRow.holds Try.pinned (OpenSpec.upto surgeNamesSpec)

/-- 'docketlaw15.FoldNames', WHERE WHAT IT READS IS OF BULK AT MOST 1048576: true; the input reads as it did. -/
def foldNamesUptoRow : OpenClaim := { program := "ytjjfkcahbdmolaa", sum := "dd35bfe6ad84d9cd8f499dc46e30f8b9c7e5d68b7715f178b2b90e19bb59cc25", func := "docket/docketlaw15.FoldNames", spec := "foldNames", apart := false, narrowed := true }
def FoldNamesUptoSaid : Prop := foldNamesUptoRow.holds Try.pinned (OpenSpec.upto foldNamesSpec)

end Rows
end Go.Proofs.Ytjjfkcahbdmolaa
