/-
  DERIVED. GIVEN WITH THE SEED: THE CARDS: each row of YtifbhcfdealfaaaGreatDoorRows.lean that lists a variable, with what it lists TIED to the program's text (the seventh form; the later family's looks); each row that meets fmt, with fmt's text TOLD by the authors' own Lean function (tested against real Go, not proved from fmt's source: count such statements apart). THE CARD IS WHAT COUNTS. Prove the row's statement (the work); the ties are given (YtifbhcfdealfaaaGreatDoorTie.lean); close each card by the builder's one call (the guide's Derived/Test/ToyasCard.lean, 'card_holds'). Laid BY PROGRAM, IN A SANDBOX (cutbox-door.mjs). By AI agents, Wed Nov 11 2026. No macro, syntax, notation, axiom, sorry.
-/
import Derived.Test.YtifbhcfdealfaaaGreatDoorRows
import GoSem.ClaimSeven
namespace Go.Proofs.YtifbhcfdealfaaaGreatDoor
namespace Rows

/-- THE TIED CARD OF 'docketlaw12.DesignPlaces'. -/
def designPlacesCard : Claim7 := { stood := { row := designPlacesRow, standIns := [], harness := (true, "2b1e2920257601982dae9d1d960d132f41c48c1dcfdd9af88f411c5a99ec8bf7"), looks := true }, kinds := [], alts := [], laidByText := true, laidKinds := [.data, .data, .data, .sentinel, .sentinel, .data, .data, .data], laidTests := true, laidLooks := .later }
def DesignPlacesCardSaid : Prop := Claim7.holds Tryz.pinned (.plain (OpenSpec.ofChange designPlacesSpec)) designPlacesCard

/-- THE TIED CARD OF 'docketlaw12.DesignLimits'. -/
def designLimitsCard : Claim7 := { stood := { row := designLimitsRow, standIns := [], harness := (true, "2b1e2920257601982dae9d1d960d132f41c48c1dcfdd9af88f411c5a99ec8bf7"), looks := true }, kinds := [], alts := [], laidByText := true, laidKinds := [.data, .data, .data, .sentinel, .sentinel, .data, .data, .data], laidTests := true, laidLooks := .later }
def DesignLimitsCardSaid : Prop := Claim7.holds Tryz.pinned (.plain (OpenSpec.ofChange designLimitsSpec)) designLimitsCard

/-- THE TIED CARD OF 'docketlaw12.DesignSound'. -/
def designSoundCard : Claim7 := { stood := { row := designSoundRow, standIns := [], harness := (true, "2b1e2920257601982dae9d1d960d132f41c48c1dcfdd9af88f411c5a99ec8bf7"), looks := true }, kinds := [], alts := [], laidByText := true, laidKinds := [.data, .data, .data, .sentinel, .sentinel, .data, .data, .data], laidTests := true, laidLooks := .later }
def DesignSoundCardSaid : Prop := Claim7.holds Tryz.pinned (.plain (OpenSpec.ofChange designSoundSpec)) designSoundCard

/-- THE TIED CARD OF 'docketlaw13.SurgeSees'. -/
def surgeSeesCard : Claim7 := { stood := { row := surgeSeesRow, standIns := [], harness := (true, "2b1e2920257601982dae9d1d960d132f41c48c1dcfdd9af88f411c5a99ec8bf7"), looks := true }, kinds := [], alts := [], laidByText := true, laidKinds := [.data, .data, .data, .sentinel, .sentinel, .data, .data, .data], laidTests := true, laidLooks := .later }
def SurgeSeesCardSaid : Prop := Claim7.holds Tryz.pinned (.plain (OpenSpec.ofChange surgeSeesSpec)) surgeSeesCard

/-- THE TIED CARD OF 'docketlaw13.SurgeSettles'. -/
def surgeSettlesCard : Claim7 := { stood := { row := surgeSettlesRow, standIns := [], harness := (true, "2b1e2920257601982dae9d1d960d132f41c48c1dcfdd9af88f411c5a99ec8bf7"), looks := true }, kinds := [], alts := [], laidByText := true, laidKinds := [.data, .data, .data, .sentinel, .sentinel, .data, .data, .data], laidTests := true, laidLooks := .later }
def SurgeSettlesCardSaid : Prop := Claim7.holds Tryz.pinned (.plain (OpenSpec.ofChange surgeSettlesSpec)) surgeSettlesCard

/-- THE TIED CARD OF 'docketlaw13.SurgeLawful'. -/
def surgeLawfulCard : Claim7 := { stood := { row := surgeLawfulRow, standIns := [], harness := (true, "2b1e2920257601982dae9d1d960d132f41c48c1dcfdd9af88f411c5a99ec8bf7"), looks := true }, kinds := [], alts := [], laidByText := true, laidKinds := [.data, .data, .data, .sentinel, .sentinel, .data, .data, .data], laidTests := true, laidLooks := .later }
def SurgeLawfulCardSaid : Prop := Claim7.holds Tryz.pinned (.plain (OpenSpec.ofChange surgeLawfulSpec)) surgeLawfulCard

/-- THE TIED CARD OF 'docketlaw13.SurgeLocal'. -/
def surgeLocalCard : Claim7 := { stood := { row := surgeLocalRow, standIns := [], harness := (true, "2b1e2920257601982dae9d1d960d132f41c48c1dcfdd9af88f411c5a99ec8bf7"), looks := true }, kinds := [], alts := [], laidByText := true, laidKinds := [.data, .data, .data, .sentinel, .sentinel, .data, .data, .data], laidTests := true, laidLooks := .later }
def SurgeLocalCardSaid : Prop := Claim7.holds Tryz.pinned (.plain (OpenSpec.ofChange surgeLocalSpec)) surgeLocalCard

/-- THE TIED CARD OF 'docketlaw13.SurgeBack'. -/
def surgeBackCard : Claim7 := { stood := { row := surgeBackRow, standIns := [], harness := (true, "2b1e2920257601982dae9d1d960d132f41c48c1dcfdd9af88f411c5a99ec8bf7"), looks := true }, kinds := [], alts := [], laidByText := true, laidKinds := [.data, .data, .data, .sentinel, .sentinel, .data, .data, .data], laidTests := true, laidLooks := .later }
def SurgeBackCardSaid : Prop := Claim7.holds Tryz.pinned (.plain (OpenSpec.ofChange surgeBackSpec)) surgeBackCard

/-- THE TIED CARD OF 'docketlaw12.DesignPrints'. -/
def designPrintsCard : Claim7 := { stood := { row := designPrintsRow, standIns := [], harness := (true, "2b1e2920257601982dae9d1d960d132f41c48c1dcfdd9af88f411c5a99ec8bf7"), looks := true }, kinds := [], alts := [], laidByText := true, laidKinds := [.data, .data, .data, .sentinel, .sentinel, .data, .data, .data], laidTests := true, laidLooks := .later }
def DesignPrintsCardSaid : Prop := Claim7.holds Tryz.pinned (.plain (OpenSpec.ofChange designPrintsSpec)) designPrintsCard

/-- THE SECOND FORM's CARD OF 'docketlaw12.DesignPlaces'. -/
def designPlacesUptoCard : Claim7 := { stood := { row := designPlacesUptoRow, standIns := [], harness := (true, "2b1e2920257601982dae9d1d960d132f41c48c1dcfdd9af88f411c5a99ec8bf7"), looks := true }, kinds := [], alts := [], laidByText := true, laidKinds := [.data, .data, .data, .sentinel, .sentinel, .data, .data, .data], laidTests := true, laidLooks := .later }
def DesignPlacesUptoCardSaid : Prop := Claim7.holds Tryz.pinned (.plain (OpenSpec.upto designPlacesSpec)) designPlacesUptoCard

/-- THE SECOND FORM's CARD OF 'docketlaw12.DesignLimits'. -/
def designLimitsUptoCard : Claim7 := { stood := { row := designLimitsUptoRow, standIns := [], harness := (true, "2b1e2920257601982dae9d1d960d132f41c48c1dcfdd9af88f411c5a99ec8bf7"), looks := true }, kinds := [], alts := [], laidByText := true, laidKinds := [.data, .data, .data, .sentinel, .sentinel, .data, .data, .data], laidTests := true, laidLooks := .later }
def DesignLimitsUptoCardSaid : Prop := Claim7.holds Tryz.pinned (.plain (OpenSpec.upto designLimitsSpec)) designLimitsUptoCard

/-- THE SECOND FORM's CARD OF 'docketlaw12.DesignSound'. -/
def designSoundUptoCard : Claim7 := { stood := { row := designSoundUptoRow, standIns := [], harness := (true, "2b1e2920257601982dae9d1d960d132f41c48c1dcfdd9af88f411c5a99ec8bf7"), looks := true }, kinds := [], alts := [], laidByText := true, laidKinds := [.data, .data, .data, .sentinel, .sentinel, .data, .data, .data], laidTests := true, laidLooks := .later }
def DesignSoundUptoCardSaid : Prop := Claim7.holds Tryz.pinned (.plain (OpenSpec.upto designSoundSpec)) designSoundUptoCard

/-- THE SECOND FORM's CARD OF 'docketlaw13.SurgeSees'. -/
def surgeSeesUptoCard : Claim7 := { stood := { row := surgeSeesUptoRow, standIns := [], harness := (true, "2b1e2920257601982dae9d1d960d132f41c48c1dcfdd9af88f411c5a99ec8bf7"), looks := true }, kinds := [], alts := [], laidByText := true, laidKinds := [.data, .data, .data, .sentinel, .sentinel, .data, .data, .data], laidTests := true, laidLooks := .later }
def SurgeSeesUptoCardSaid : Prop := Claim7.holds Tryz.pinned (.plain (OpenSpec.upto surgeSeesSpec)) surgeSeesUptoCard

/-- THE SECOND FORM's CARD OF 'docketlaw13.SurgeSettles'. -/
def surgeSettlesUptoCard : Claim7 := { stood := { row := surgeSettlesUptoRow, standIns := [], harness := (true, "2b1e2920257601982dae9d1d960d132f41c48c1dcfdd9af88f411c5a99ec8bf7"), looks := true }, kinds := [], alts := [], laidByText := true, laidKinds := [.data, .data, .data, .sentinel, .sentinel, .data, .data, .data], laidTests := true, laidLooks := .later }
def SurgeSettlesUptoCardSaid : Prop := Claim7.holds Tryz.pinned (.plain (OpenSpec.upto surgeSettlesSpec)) surgeSettlesUptoCard

/-- THE SECOND FORM's CARD OF 'docketlaw13.SurgeLawful'. -/
def surgeLawfulUptoCard : Claim7 := { stood := { row := surgeLawfulUptoRow, standIns := [], harness := (true, "2b1e2920257601982dae9d1d960d132f41c48c1dcfdd9af88f411c5a99ec8bf7"), looks := true }, kinds := [], alts := [], laidByText := true, laidKinds := [.data, .data, .data, .sentinel, .sentinel, .data, .data, .data], laidTests := true, laidLooks := .later }
def SurgeLawfulUptoCardSaid : Prop := Claim7.holds Tryz.pinned (.plain (OpenSpec.upto surgeLawfulSpec)) surgeLawfulUptoCard

/-- THE SECOND FORM's CARD OF 'docketlaw13.SurgeLocal'. -/
def surgeLocalUptoCard : Claim7 := { stood := { row := surgeLocalUptoRow, standIns := [], harness := (true, "2b1e2920257601982dae9d1d960d132f41c48c1dcfdd9af88f411c5a99ec8bf7"), looks := true }, kinds := [], alts := [], laidByText := true, laidKinds := [.data, .data, .data, .sentinel, .sentinel, .data, .data, .data], laidTests := true, laidLooks := .later }
def SurgeLocalUptoCardSaid : Prop := Claim7.holds Tryz.pinned (.plain (OpenSpec.upto surgeLocalSpec)) surgeLocalUptoCard

/-- THE SECOND FORM's CARD OF 'docketlaw13.SurgeBack'. -/
def surgeBackUptoCard : Claim7 := { stood := { row := surgeBackUptoRow, standIns := [], harness := (true, "2b1e2920257601982dae9d1d960d132f41c48c1dcfdd9af88f411c5a99ec8bf7"), looks := true }, kinds := [], alts := [], laidByText := true, laidKinds := [.data, .data, .data, .sentinel, .sentinel, .data, .data, .data], laidTests := true, laidLooks := .later }
def SurgeBackUptoCardSaid : Prop := Claim7.holds Tryz.pinned (.plain (OpenSpec.upto surgeBackSpec)) surgeBackUptoCard

/-- THE SECOND FORM's CARD OF 'docketlaw12.DesignPrints'. -/
def designPrintsUptoCard : Claim7 := { stood := { row := designPrintsUptoRow, standIns := [], harness := (true, "2b1e2920257601982dae9d1d960d132f41c48c1dcfdd9af88f411c5a99ec8bf7"), looks := true }, kinds := [], alts := [], laidByText := true, laidKinds := [.data, .data, .data, .sentinel, .sentinel, .data, .data, .data], laidTests := true, laidLooks := .later }
def DesignPrintsUptoCardSaid : Prop := Claim7.holds Tryz.pinned (.plain (OpenSpec.upto designPrintsSpec)) designPrintsUptoCard
end Rows
end Go.Proofs.YtifbhcfdealfaaaGreatDoor
