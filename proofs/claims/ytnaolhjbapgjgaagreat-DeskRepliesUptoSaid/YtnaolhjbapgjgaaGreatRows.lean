/-
  No cell of these rows narrows 'for every input' (looked for: loops, veiled, ifaces, maps, wideKeys, modest, calm, conditions, laid).
  DERIVED. THE GIVEN ROWS OF THIS SEAT. 3 by the template 'for every input the law returns true; each argument reads behind the call as it read before'; 0 by the template 'total and deterministic' (their statements: YtnaolhjbapgjgaaGreatTotals.lean).
  GIVEN WITH THE SEED: the statements are not yours to turn. If you find one false, say at which input.
  Laid BY PROGRAM, IN A SANDBOX (cutbox-rows.mjs): the forced cells as the released guide's own fill.sh prints them over the translation a497a9a92fbd340c… (all of the seat's roots in one cut). By AI agents, Wed Nov 11 2026. No macro, syntax, notation, axiom, sorry.
-/
import Derived.Test.YtnaolhjbapgjgaaGreatChecked
import GoSem.Claim
import GoSem.ClaimJoined
import GoSem.ClaimMapViews
import Derived.JoinedTies
import Derived.KernelRfl
namespace Go.Proofs.YtnaolhjbapgjgaaGreat
/- THE CELL 'sum', in the pinned program and in every row, IS THE sha256 OF THE DUMP (.gsa) THAT YtnaolhjbapgjgaaGreatProg.lean LOADS. Nothing in Lean hashes anything: it is a label: what it is worth is what the hold of that sum in a sandbox is worth. -/
noncomputable def Tryz.pinned : Pinned := { name := "ytnaolhjbapgjgaagreat", sum := "a497a9a92fbd340ca515e50499fa0904b1db76fb932dea53e235b4e15d37fb08", checked := Tryz.checked }
namespace Rows
def none {H : Type} : Left H := { results := [], args := [] }

/-- 'docketlaw24.DeskNumbers': WHATEVER THE INPUT: true; the input reads as it did. -/
def deskNumbersSpec : ChangeSpec := { name := "deskNumbers", fn := fun _ => fun
  | [] => { results := [.lit (.bool true)], args := [] }
  | _ => none }
def deskNumbersRow : OpenClaim := { program := "ytnaolhjbapgjgaagreat", sum := "a497a9a92fbd340ca515e50499fa0904b1db76fb932dea53e235b4e15d37fb08", func := "docket/docketlaw24.DeskNumbers", spec := "deskNumbers", inPlace := ["internal/bytealg.Compare"], unfollowed := true, recurses := true, plainKeys := false, apart := false }
def DeskNumbersSaid : Prop := deskNumbersRow.holds Tryz.pinned (OpenSpec.ofChange deskNumbersSpec)

/-- ITS FALSE NEIGHBOUR: 'it returns false'. Refute it at one input. -/
def deskNumbersWrong : ChangeSpec := { name := "deskNumbers", fn := fun _ => fun
  | [] => { results := [.lit (.bool false)], args := [] }
  | _ => none }
def DeskNumbersWrongFalsely : Prop := deskNumbersRow.holds Tryz.pinned (OpenSpec.ofChange deskNumbersWrong)

/-- 'docketlaw24.DeskReplies': WHATEVER THE INPUT: true; the input reads as it did. -/
def deskRepliesSpec : ChangeSpec := { name := "deskReplies", fn := fun _ => fun
  | [d1, d2, d3] => { results := [.lit (.bool true)], args := [d1, d2, d3] }
  | _ => none }
def deskRepliesRow : OpenClaim := { program := "ytnaolhjbapgjgaagreat", sum := "a497a9a92fbd340ca515e50499fa0904b1db76fb932dea53e235b4e15d37fb08", func := "docket/docketlaw24.DeskReplies", spec := "deskReplies", inPlace := ["internal/bytealg.Compare"], unfollowed := true, recurses := true, plainKeys := false, apart := false }
def DeskRepliesSaid : Prop := deskRepliesRow.holds Tryz.pinned (OpenSpec.ofChange deskRepliesSpec)

/-- ITS FALSE NEIGHBOUR: 'it returns false'. Refute it at one input. -/
def deskRepliesWrong : ChangeSpec := { name := "deskReplies", fn := fun _ => fun
  | [d1, d2, d3] => { results := [.lit (.bool false)], args := [d1, d2, d3] }
  | _ => none }
def DeskRepliesWrongFalsely : Prop := deskRepliesRow.holds Tryz.pinned (OpenSpec.ofChange deskRepliesWrong)

/-- 'docketlaw24.DeskSpelt': WHATEVER THE INPUT: true; the input reads as it did. -/
def deskSpeltSpec : ChangeSpec := { name := "deskSpelt", fn := fun _ => fun
  | [d1, d2, d3, d4] => { results := [.lit (.bool true)], args := [d1, d2, d3, d4] }
  | _ => none }
def deskSpeltRow : OpenClaim := { program := "ytnaolhjbapgjgaagreat", sum := "a497a9a92fbd340ca515e50499fa0904b1db76fb932dea53e235b4e15d37fb08", func := "docket/docketlaw24.DeskSpelt", spec := "deskSpelt", inPlace := ["internal/bytealg.Compare"], unfollowed := true, recurses := true, plainKeys := false, apart := false }
def DeskSpeltSaid : Prop := deskSpeltRow.holds Tryz.pinned (OpenSpec.ofChange deskSpeltSpec)

/-- ITS FALSE NEIGHBOUR: 'it returns false'. Refute it at one input. -/
def deskSpeltWrong : ChangeSpec := { name := "deskSpelt", fn := fun _ => fun
  | [d1, d2, d3, d4] => { results := [.lit (.bool false)], args := [d1, d2, d3, d4] }
  | _ => none }
def DeskSpeltWrongFalsely : Prop := deskSpeltRow.holds Tryz.pinned (OpenSpec.ofChange deskSpeltWrong)

/- THE SECOND FORM. 'bulk': how many values and letters a reading holds, each counted each time it is reached (what is shared counts as often as it is met; a slice's spare places count too). A statement '..UptoSaid' is the law's where the arguments, and the package variables that the reading takes, are together of bulk at most 1048576: NARROWER than '..Said'. Prove '..Said' where nothing that the law and all that it calls make is longer than what came in: it says more and counts as full. Else prove '..UptoSaid'. A law counts once. -/
mutual
def uptoBulk {H : Type} : DataW H → Nat
  | .lit (.string bytes) => bytes.length + 1
  | .lit _ => 1
  | .nil => 1
  | .ptr d => uptoBulk d + 1
  | .slice elems spare => uptoBulkAll elems + uptoBulkAll spare + 1
  | .agg parts => uptoBulkAll parts + 1
  | .iface _ d => uptoBulk d + 1
  | .map entries => uptoBulkEntries entries + 1
  | .held _ => 1
def uptoBulkAll {H : Type} : List (DataW H) → Nat
  | [] => 0
  | d :: r => uptoBulk d + uptoBulkAll r
def uptoBulkEntries {H : Type} : List (Lit × DataW H) → Nat
  | [] => 0
  | x :: r => uptoBulkEntry x + uptoBulkEntries r
def uptoBulkEntry {H : Type} : Lit × DataW H → Nat
  | (.string bytes, d) => bytes.length + uptoBulk d + 1
  | (_, d) => uptoBulk d + 1
 end
def uptoSmall : (H : Type) → List (DataW H) → Bool := fun _ ds => decide (uptoBulkAll ds ≤ 1048576)
def OpenSpec.upto (s : _root_.Go.ChangeSpec) : _root_.Go.OpenSpec := { _root_.Go.OpenSpec.ofChange s with cond := some uptoSmall }

/-- 'docketlaw24.DeskNumbers', WHERE WHAT IT READS IS OF BULK AT MOST 1048576: true; the input reads as it did. -/
def deskNumbersUptoRow : OpenClaim := { program := "ytnaolhjbapgjgaagreat", sum := "a497a9a92fbd340ca515e50499fa0904b1db76fb932dea53e235b4e15d37fb08", func := "docket/docketlaw24.DeskNumbers", spec := "deskNumbers", inPlace := ["internal/bytealg.Compare"], unfollowed := true, recurses := true, plainKeys := false, apart := false, narrowed := true }
def DeskNumbersUptoSaid : Prop := deskNumbersUptoRow.holds Tryz.pinned (OpenSpec.upto deskNumbersSpec)

/-- 'docketlaw24.DeskReplies', WHERE WHAT IT READS IS OF BULK AT MOST 1048576: true; the input reads as it did. -/
def deskRepliesUptoRow : OpenClaim := { program := "ytnaolhjbapgjgaagreat", sum := "a497a9a92fbd340ca515e50499fa0904b1db76fb932dea53e235b4e15d37fb08", func := "docket/docketlaw24.DeskReplies", spec := "deskReplies", inPlace := ["internal/bytealg.Compare"], unfollowed := true, recurses := true, plainKeys := false, apart := false, narrowed := true }
def DeskRepliesUptoSaid : Prop := deskRepliesUptoRow.holds Tryz.pinned (OpenSpec.upto deskRepliesSpec)

/-- 'docketlaw24.DeskSpelt', WHERE WHAT IT READS IS OF BULK AT MOST 1048576: true; the input reads as it did. -/
def deskSpeltUptoRow : OpenClaim := { program := "ytnaolhjbapgjgaagreat", sum := "a497a9a92fbd340ca515e50499fa0904b1db76fb932dea53e235b4e15d37fb08", func := "docket/docketlaw24.DeskSpelt", spec := "deskSpelt", inPlace := ["internal/bytealg.Compare"], unfollowed := true, recurses := true, plainKeys := false, apart := false, narrowed := true }
def DeskSpeltUptoSaid : Prop := deskSpeltUptoRow.holds Tryz.pinned (OpenSpec.upto deskSpeltSpec)

end Rows
end Go.Proofs.YtnaolhjbapgjgaaGreat
