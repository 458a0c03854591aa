/-
  DERIVED. GIVEN WITH THE SEED: THE CARDS: each row of YtmmjcbbogokmfaaGreatDoorRows.lean that lists a variable, with what it lists TIED to the program's text (the seventh form; the later family's looks); each row that meets fmt, with fmt's text TOLD by the authors' own Lean function (tested against real Go, not proved from fmt's source: count such statements apart). THE CARD IS WHAT COUNTS. Prove the row's statement (the work); the ties are given (YtmmjcbbogokmfaaGreatDoorTie.lean); close each card by the builder's one call (the guide's Derived/Test/ToyasCard.lean, 'card_holds'). Laid BY PROGRAM, IN A SANDBOX (cutbox-door.mjs). By AI agents, Wed Nov 11 2026. No macro, syntax, notation, axiom, sorry.
-/
import Derived.Test.YtmmjcbbogokmfaaGreatDoorRows
import GoSem.ClaimSeven
namespace Go.Proofs.YtmmjcbbogokmfaaGreatDoor
namespace Rows

/-- THE TIED CARD OF 'docketlaw9.TextPrints'. -/
def textPrintsCard : Claim7 := { stood := { row := textPrintsRow, standIns := [], harness := (true, "2b1c8d4a0f01459a13a0615065e097e7250bb4e32212d2505a5157d85e74ae61"), looks := true }, kinds := [], alts := [], laidByText := true, laidKinds := [.data, .data, .data, .data, .sentinel, .sentinel, .data, .data], laidTests := true, laidLooks := .later }
def TextPrintsCardSaid : Prop := Claim7.holds Tryz.pinned (.plain (OpenSpec.ofChange textPrintsSpec)) textPrintsCard

/-- THE TIED CARD OF 'docketlaw9.TextLegal'. -/
def textLegalCard : Claim7 := { stood := { row := textLegalRow, standIns := [], harness := (true, "2b1c8d4a0f01459a13a0615065e097e7250bb4e32212d2505a5157d85e74ae61"), looks := true }, kinds := [], alts := [], laidByText := true, laidKinds := [.data, .data, .data, .data, .sentinel, .sentinel, .data, .data], laidTests := true, laidLooks := .later }
def TextLegalCardSaid : Prop := Claim7.holds Tryz.pinned (.plain (OpenSpec.ofChange textLegalSpec)) textLegalCard

/-- THE TIED CARD OF 'docketlaw9.TextFirst'. -/
def textFirstCard : Claim7 := { stood := { row := textFirstRow, standIns := [], harness := (true, "2b1c8d4a0f01459a13a0615065e097e7250bb4e32212d2505a5157d85e74ae61"), looks := true }, kinds := [], alts := [], laidByText := true, laidKinds := [.data, .data, .data, .sentinel, .sentinel, .data, .data], laidTests := true, laidLooks := .later }
def TextFirstCardSaid : Prop := Claim7.holds Tryz.pinned (.plain (OpenSpec.ofChange textFirstSpec)) textFirstCard

/-- THE TIED CARD OF 'docketlaw9.TextShortest'. -/
def textShortestCard : Claim7 := { stood := { row := textShortestRow, standIns := [], harness := (true, "2b1c8d4a0f01459a13a0615065e097e7250bb4e32212d2505a5157d85e74ae61"), looks := true }, kinds := [], alts := [], laidByText := true, laidKinds := [.data, .data, .data, .sentinel, .sentinel, .data, .data], laidTests := true, laidLooks := .later }
def TextShortestCardSaid : Prop := Claim7.holds Tryz.pinned (.plain (OpenSpec.ofChange textShortestSpec)) textShortestCard

/-- THE TIED CARD OF 'docketlaw9.TextBlanks'. -/
def textBlanksCard : Claim7 := { stood := { row := textBlanksRow, standIns := [], harness := (true, "2b1c8d4a0f01459a13a0615065e097e7250bb4e32212d2505a5157d85e74ae61"), looks := true }, kinds := [], alts := [], laidByText := true, laidKinds := [.data, .data, .data, .sentinel, .sentinel, .data, .data], laidTests := true, laidLooks := .later }
def TextBlanksCardSaid : Prop := Claim7.holds Tryz.pinned (.plain (OpenSpec.ofChange textBlanksSpec)) textBlanksCard

/-- THE TIED CARD OF 'docketlaw9.TextNests'. -/
def textNestsCard : Claim7 := { stood := { row := textNestsRow, standIns := [], harness := (true, "2b1c8d4a0f01459a13a0615065e097e7250bb4e32212d2505a5157d85e74ae61"), looks := true }, kinds := [], alts := [], laidByText := true, laidKinds := [.data, .data, .data, .sentinel, .sentinel, .data, .data], laidTests := true, laidLooks := .later }
def TextNestsCardSaid : Prop := Claim7.holds Tryz.pinned (.plain (OpenSpec.ofChange textNestsSpec)) textNestsCard

/-- THE TIED CARD OF 'docketlaw9.TextKept'. -/
def textKeptCard : Claim7 := { stood := { row := textKeptRow, standIns := [], harness := (true, "2b1c8d4a0f01459a13a0615065e097e7250bb4e32212d2505a5157d85e74ae61"), looks := true }, kinds := [], alts := [], laidByText := true, laidKinds := [.data, .data, .data, .data, .sentinel, .sentinel, .data, .data], laidTests := true, laidLooks := .later }
def TextKeptCardSaid : Prop := Claim7.holds Tryz.pinned (.plain (OpenSpec.ofChange textKeptSpec)) textKeptCard

/-- THE TIED CARD OF 'docketlaw9.TextAsked'. -/
def textAskedCard : Claim7 := { stood := { row := textAskedRow, standIns := [], harness := (true, "2b1c8d4a0f01459a13a0615065e097e7250bb4e32212d2505a5157d85e74ae61"), looks := true }, kinds := [], alts := [], laidByText := true, laidKinds := [.data, .data, .data, .sentinel, .sentinel, .data, .data], laidTests := true, laidLooks := .later }
def TextAskedCardSaid : Prop := Claim7.holds Tryz.pinned (.plain (OpenSpec.ofChange textAskedSpec)) textAskedCard

/-- THE SECOND FORM's CARD OF 'docketlaw9.TextPrints'. -/
def textPrintsUptoCard : Claim7 := { stood := { row := textPrintsUptoRow, standIns := [], harness := (true, "2b1c8d4a0f01459a13a0615065e097e7250bb4e32212d2505a5157d85e74ae61"), looks := true }, kinds := [], alts := [], laidByText := true, laidKinds := [.data, .data, .data, .data, .sentinel, .sentinel, .data, .data], laidTests := true, laidLooks := .later }
def TextPrintsUptoCardSaid : Prop := Claim7.holds Tryz.pinned (.plain (OpenSpec.upto textPrintsSpec)) textPrintsUptoCard

/-- THE SECOND FORM's CARD OF 'docketlaw9.TextLegal'. -/
def textLegalUptoCard : Claim7 := { stood := { row := textLegalUptoRow, standIns := [], harness := (true, "2b1c8d4a0f01459a13a0615065e097e7250bb4e32212d2505a5157d85e74ae61"), looks := true }, kinds := [], alts := [], laidByText := true, laidKinds := [.data, .data, .data, .data, .sentinel, .sentinel, .data, .data], laidTests := true, laidLooks := .later }
def TextLegalUptoCardSaid : Prop := Claim7.holds Tryz.pinned (.plain (OpenSpec.upto textLegalSpec)) textLegalUptoCard

/-- THE SECOND FORM's CARD OF 'docketlaw9.TextFirst'. -/
def textFirstUptoCard : Claim7 := { stood := { row := textFirstUptoRow, standIns := [], harness := (true, "2b1c8d4a0f01459a13a0615065e097e7250bb4e32212d2505a5157d85e74ae61"), looks := true }, kinds := [], alts := [], laidByText := true, laidKinds := [.data, .data, .data, .sentinel, .sentinel, .data, .data], laidTests := true, laidLooks := .later }
def TextFirstUptoCardSaid : Prop := Claim7.holds Tryz.pinned (.plain (OpenSpec.upto textFirstSpec)) textFirstUptoCard

/-- THE SECOND FORM's CARD OF 'docketlaw9.TextShortest'. -/
def textShortestUptoCard : Claim7 := { stood := { row := textShortestUptoRow, standIns := [], harness := (true, "2b1c8d4a0f01459a13a0615065e097e7250bb4e32212d2505a5157d85e74ae61"), looks := true }, kinds := [], alts := [], laidByText := true, laidKinds := [.data, .data, .data, .sentinel, .sentinel, .data, .data], laidTests := true, laidLooks := .later }
def TextShortestUptoCardSaid : Prop := Claim7.holds Tryz.pinned (.plain (OpenSpec.upto textShortestSpec)) textShortestUptoCard

/-- THE SECOND FORM's CARD OF 'docketlaw9.TextBlanks'. -/
def textBlanksUptoCard : Claim7 := { stood := { row := textBlanksUptoRow, standIns := [], harness := (true, "2b1c8d4a0f01459a13a0615065e097e7250bb4e32212d2505a5157d85e74ae61"), looks := true }, kinds := [], alts := [], laidByText := true, laidKinds := [.data, .data, .data, .sentinel, .sentinel, .data, .data], laidTests := true, laidLooks := .later }
def TextBlanksUptoCardSaid : Prop := Claim7.holds Tryz.pinned (.plain (OpenSpec.upto textBlanksSpec)) textBlanksUptoCard

/-- THE SECOND FORM's CARD OF 'docketlaw9.TextNests'. -/
def textNestsUptoCard : Claim7 := { stood := { row := textNestsUptoRow, standIns := [], harness := (true, "2b1c8d4a0f01459a13a0615065e097e7250bb4e32212d2505a5157d85e74ae61"), looks := true }, kinds := [], alts := [], laidByText := true, laidKinds := [.data, .data, .data, .sentinel, .sentinel, .data, .data], laidTests := true, laidLooks := .later }
def TextNestsUptoCardSaid : Prop := Claim7.holds Tryz.pinned (.plain (OpenSpec.upto textNestsSpec)) textNestsUptoCard

/-- THE SECOND FORM's CARD OF 'docketlaw9.TextKept'. -/
def textKeptUptoCard : Claim7 := { stood := { row := textKeptUptoRow, standIns := [], harness := (true, "2b1c8d4a0f01459a13a0615065e097e7250bb4e32212d2505a5157d85e74ae61"), looks := true }, kinds := [], alts := [], laidByText := true, laidKinds := [.data, .data, .data, .data, .sentinel, .sentinel, .data, .data], laidTests := true, laidLooks := .later }
def TextKeptUptoCardSaid : Prop := Claim7.holds Tryz.pinned (.plain (OpenSpec.upto textKeptSpec)) textKeptUptoCard

/-- THE SECOND FORM's CARD OF 'docketlaw9.TextAsked'. -/
def textAskedUptoCard : Claim7 := { stood := { row := textAskedUptoRow, standIns := [], harness := (true, "2b1c8d4a0f01459a13a0615065e097e7250bb4e32212d2505a5157d85e74ae61"), looks := true }, kinds := [], alts := [], laidByText := true, laidKinds := [.data, .data, .data, .sentinel, .sentinel, .data, .data], laidTests := true, laidLooks := .later }
def TextAskedUptoCardSaid : Prop := Claim7.holds Tryz.pinned (.plain (OpenSpec.upto textAskedSpec)) textAskedUptoCard
end Rows
end Go.Proofs.YtmmjcbbogokmfaaGreatDoor
