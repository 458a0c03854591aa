/-
  NARROWER THAN 'FOR EVERY INPUT', by the rows' own cells (each row's printed sentence says how): DesignPlaces: laid · DesignLimits: laid · DesignSound: laid · SurgeSees: laid · SurgeSettles: laid · SurgeLawful: laid · SurgeLocal: laid · SurgeBack: laid · DesignPrints: laid.
  DERIVED. THE GIVEN ROWS OF THIS SEAT. 9 by the template 'for every input the law returns true; each argument reads behind the call as it read before'; 0 by the template 'total and deterministic' (their statements: YtifbhcfdealfaaaGreatDoorTotals.lean).
  GIVEN WITH THE SEED: the statements are not yours to turn. If you find one false, say at which input.
  Laid BY PROGRAM, IN A SANDBOX (cutbox-rows.mjs): the forced cells as the released guide's own fill.sh prints them over the translation c61e40887c447ef7… (all of the seat's roots in one cut). By AI agents, Wed Nov 11 2026. No macro, syntax, notation, axiom, sorry.
-/
import Derived.Test.YtifbhcfdealfaaaGreatDoorChecked
import GoSem.Claim
import GoSem.ClaimJoined
import GoSem.ClaimMapViews
import Derived.JoinedTies
import Derived.KernelRfl
namespace Go.Proofs.YtifbhcfdealfaaaGreatDoor
/- THE CELL 'sum', in the pinned program and in every row, IS THE sha256 OF THE DUMP (.gsa) THAT YtifbhcfdealfaaaGreatDoorProg.lean LOADS. Nothing in Lean hashes anything: it is a label: what it is worth is what the hold of that sum in a sandbox is worth. -/
noncomputable def Tryz.pinned : Pinned := { name := "ytifbhcfdealfaaagreatdoor", sum := "c61e40887c447ef78d40223633fbb9c3e39ba720b6dacc331ebaeb382a08bfa9", checked := Tryz.checked }
namespace Rows
def none {H : Type} : Left H := { results := [], args := [] }

/- WHAT THE LISTED PACKAGE-LEVEL VARIABLES READ AS WHEN THE CALL BEGINS. Each datum BY PROGRAM (the guide's laid-datum.mjs) off the statement by which the dump's own 'gosem.cut.vars' lays the variable. In a bare row this is a premise. The card (YtifbhcfdealfaaaGreatDoorCards.lean) ties it to the program's text. -/
def laid_math_bits_deBruijn32tab {H : Type} : DataW H := .agg [.lit (.int .u8 0), .lit (.int .u8 1), .lit (.int .u8 28), .lit (.int .u8 2), .lit (.int .u8 29), .lit (.int .u8 14), .lit (.int .u8 24), .lit (.int .u8 3), .lit (.int .u8 30), .lit (.int .u8 22), .lit (.int .u8 20), .lit (.int .u8 15), .lit (.int .u8 25), .lit (.int .u8 17), .lit (.int .u8 4), .lit (.int .u8 8), .lit (.int .u8 31), .lit (.int .u8 27), .lit (.int .u8 13), .lit (.int .u8 23), .lit (.int .u8 21), .lit (.int .u8 19), .lit (.int .u8 16), .lit (.int .u8 7), .lit (.int .u8 26), .lit (.int .u8 12), .lit (.int .u8 18), .lit (.int .u8 6), .lit (.int .u8 11), .lit (.int .u8 5), .lit (.int .u8 10), .lit (.int .u8 9)]
def laid_math_bits_deBruijn64tab {H : Type} : DataW H := .agg [.lit (.int .u8 0), .lit (.int .u8 1), .lit (.int .u8 56), .lit (.int .u8 2), .lit (.int .u8 57), .lit (.int .u8 49), .lit (.int .u8 28), .lit (.int .u8 3), .lit (.int .u8 61), .lit (.int .u8 58), .lit (.int .u8 42), .lit (.int .u8 50), .lit (.int .u8 38), .lit (.int .u8 29), .lit (.int .u8 17), .lit (.int .u8 4), .lit (.int .u8 62), .lit (.int .u8 47), .lit (.int .u8 59), .lit (.int .u8 36), .lit (.int .u8 45), .lit (.int .u8 43), .lit (.int .u8 51), .lit (.int .u8 22), .lit (.int .u8 53), .lit (.int .u8 39), .lit (.int .u8 33), .lit (.int .u8 30), .lit (.int .u8 24), .lit (.int .u8 18), .lit (.int .u8 12), .lit (.int .u8 5), .lit (.int .u8 63), .lit (.int .u8 55), .lit (.int .u8 48), .lit (.int .u8 27), .lit (.int .u8 60), .lit (.int .u8 41), .lit (.int .u8 37), .lit (.int .u8 16), .lit (.int .u8 46), .lit (.int .u8 35), .lit (.int .u8 44), .lit (.int .u8 21), .lit (.int .u8 52), .lit (.int .u8 32), .lit (.int .u8 23), .lit (.int .u8 11), .lit (.int .u8 54), .lit (.int .u8 26), .lit (.int .u8 40), .lit (.int .u8 15), .lit (.int .u8 34), .lit (.int .u8 20), .lit (.int .u8 31), .lit (.int .u8 10), .lit (.int .u8 25), .lit (.int .u8 14), .lit (.int .u8 19), .lit (.int .u8 9), .lit (.int .u8 13), .lit (.int .u8 8), .lit (.int .u8 7), .lit (.int .u8 6)]
def laid_internal_strconv_uint64pow10 {H : Type} : DataW H := .agg [.lit (.int .u64 1), .lit (.int .u64 10), .lit (.int .u64 100), .lit (.int .u64 1000), .lit (.int .u64 10000), .lit (.int .u64 100000), .lit (.int .u64 1000000), .lit (.int .u64 10000000), .lit (.int .u64 100000000), .lit (.int .u64 1000000000), .lit (.int .u64 10000000000), .lit (.int .u64 100000000000), .lit (.int .u64 1000000000000), .lit (.int .u64 10000000000000), .lit (.int .u64 100000000000000), .lit (.int .u64 1000000000000000), .lit (.int .u64 10000000000000000), .lit (.int .u64 100000000000000000), .lit (.int .u64 1000000000000000000), .lit (.int .u64 10000000000000000000)]
def laid_strconv_ErrRange {H : Type} : DataW H := .iface "*errors.errorString" (.ptr (.agg [.lit (.string [118, 97, 108, 117, 101, 32, 111, 117, 116, 32, 111, 102, 32, 114, 97, 110, 103, 101])]))
def laid_strconv_ErrSyntax {H : Type} : DataW H := .iface "*errors.errorString" (.ptr (.agg [.lit (.string [105, 110, 118, 97, 108, 105, 100, 32, 115, 121, 110, 116, 97, 120])]))
def laid_docket_text_signs {H : Type} : DataW H := .agg [.lit (.string [123]), .lit (.string [125]), .lit (.string [40]), .lit (.string [41]), .lit (.string [44]), .lit (.string [59]), .lit (.string [58]), .lit (.string [58, 61]), .lit (.string [61]), .lit (.string [33, 61]), .lit (.string [60]), .lit (.string [60, 61]), .lit (.string [62]), .lit (.string [62, 61]), .lit (.string [43]), .lit (.string [45]), .lit (.string [42]), .lit (.string [47]), .lit (.string [37])]
def laid_docket_text_reserved {H : Type} : DataW H := .agg [.lit (.string [116, 121, 112, 101]), .lit (.string [97, 116, 116, 114, 105, 98, 117, 116, 101]), .lit (.string [115, 116, 97, 103, 101]), .lit (.string [109, 105, 108, 101, 115, 116, 111, 110, 101]), .lit (.string [115, 116, 101, 112]), .lit (.string [105, 110]), .lit (.string [111, 112, 101, 110, 115]), .lit (.string [99, 108, 111, 115, 101, 115]), .lit (.string [114, 101, 97, 99, 104, 101, 100]), .lit (.string [119, 104, 101, 110]), .lit (.string [114, 101, 111, 112, 101, 110]), .lit (.string [105, 110, 116]), .lit (.string [98, 111, 111, 108]), .lit (.string [116, 101, 120, 116]), .lit (.string [116, 105, 109, 101]), .lit (.string [115, 101, 116]), .lit (.string [111, 112, 116, 105, 111, 110, 97, 108]), .lit (.string [105, 102]), .lit (.string [116, 104, 101, 110]), .lit (.string [101, 108, 115, 101]), .lit (.string [111, 114]), .lit (.string [97, 110, 100]), .lit (.string [110, 111, 116]), .lit (.string [116, 114, 117, 101]), .lit (.string [102, 97, 108, 115, 101]), .lit (.string [110, 111, 116, 104, 105, 110, 103]), .lit (.string [104, 97, 115]), .lit (.string [115, 105, 122, 101]), .lit (.string [106, 111, 105, 110]), .lit (.string [111, 112, 101, 110]), .lit (.string [99, 108, 111, 99, 107]), .lit (.string [115, 116, 101, 112, 115]), .lit (.string [109, 105, 110]), .lit (.string [109, 97, 120]), .lit (.string [100, 101, 102, 97, 117, 108, 116])]
def laid_docket_kinds_nothing {H : Type} : DataW H := .agg [.lit (.int .i64 0), .lit (.bool true)]

/-- 'docketlaw12.DesignPlaces': WHATEVER THE INPUT: true; the input reads as it did. -/
def designPlacesSpec : ChangeSpec := { name := "designPlaces", fn := fun _ => fun
  | [d1, d2] => { results := [.lit (.bool true)], args := [d1, d2] }
  | _ => none }
def designPlacesRow : OpenClaim := { program := "ytifbhcfdealfaaagreatdoor", sum := "c61e40887c447ef78d40223633fbb9c3e39ba720b6dacc331ebaeb382a08bfa9", func := "docket/docketlaw12.DesignPlaces", spec := "designPlaces", inPlace := ["internal/bytealg.Count", "internal/bytealg.IndexByte", "internal/bytealg.Index", "internal/abi.NoEscape", "internal/bytealg.MakeNoZero", "internal/bytealg.abigen_runtime_cmpstring"], unfollowed := true, recurses := true, named := ["docket/text.reserved", "internal/bytealg.MaxLen", "docket/text.signs", "strconv.ErrSyntax", "strconv.ErrRange", "internal/strconv.uint64pow10", "math/bits.deBruijn32tab", "math/bits.deBruijn64tab", "docket/kinds.nothing"], plainKeys := false, apart := false, laid := [("math/bits.deBruijn32tab", laid_math_bits_deBruijn32tab), ("math/bits.deBruijn64tab", laid_math_bits_deBruijn64tab), ("internal/strconv.uint64pow10", laid_internal_strconv_uint64pow10), ("strconv.ErrRange", laid_strconv_ErrRange), ("strconv.ErrSyntax", laid_strconv_ErrSyntax), ("docket/text.signs", laid_docket_text_signs), ("docket/text.reserved", laid_docket_text_reserved), ("docket/kinds.nothing", laid_docket_kinds_nothing)] }
def DesignPlacesSaid : Prop := designPlacesRow.holds Tryz.pinned (OpenSpec.ofChange designPlacesSpec)

/-- ITS FALSE NEIGHBOUR: 'it returns false'. Refute it at one input. -/
def designPlacesWrong : ChangeSpec := { name := "designPlaces", fn := fun _ => fun
  | [d1, d2] => { results := [.lit (.bool false)], args := [d1, d2] }
  | _ => none }
def DesignPlacesWrongFalsely : Prop := designPlacesRow.holds Tryz.pinned (OpenSpec.ofChange designPlacesWrong)

/-- 'docketlaw12.DesignLimits': WHATEVER THE INPUT: true; the input reads as it did. -/
def designLimitsSpec : ChangeSpec := { name := "designLimits", fn := fun _ => fun
  | [d1, d2] => { results := [.lit (.bool true)], args := [d1, d2] }
  | _ => none }
def designLimitsRow : OpenClaim := { program := "ytifbhcfdealfaaagreatdoor", sum := "c61e40887c447ef78d40223633fbb9c3e39ba720b6dacc331ebaeb382a08bfa9", func := "docket/docketlaw12.DesignLimits", spec := "designLimits", inPlace := ["internal/bytealg.Count", "internal/bytealg.IndexByte", "internal/bytealg.Index", "internal/bytealg.abigen_runtime_cmpstring"], unfollowed := true, recurses := true, named := ["docket/text.reserved", "internal/bytealg.MaxLen", "docket/text.signs", "strconv.ErrSyntax", "strconv.ErrRange", "internal/strconv.uint64pow10", "math/bits.deBruijn32tab", "math/bits.deBruijn64tab", "docket/kinds.nothing"], plainKeys := false, apart := false, laid := [("math/bits.deBruijn32tab", laid_math_bits_deBruijn32tab), ("math/bits.deBruijn64tab", laid_math_bits_deBruijn64tab), ("internal/strconv.uint64pow10", laid_internal_strconv_uint64pow10), ("strconv.ErrRange", laid_strconv_ErrRange), ("strconv.ErrSyntax", laid_strconv_ErrSyntax), ("docket/text.signs", laid_docket_text_signs), ("docket/text.reserved", laid_docket_text_reserved), ("docket/kinds.nothing", laid_docket_kinds_nothing)] }
def DesignLimitsSaid : Prop := designLimitsRow.holds Tryz.pinned (OpenSpec.ofChange designLimitsSpec)

/-- ITS FALSE NEIGHBOUR: 'it returns false'. Refute it at one input. -/
def designLimitsWrong : ChangeSpec := { name := "designLimits", fn := fun _ => fun
  | [d1, d2] => { results := [.lit (.bool false)], args := [d1, d2] }
  | _ => none }
def DesignLimitsWrongFalsely : Prop := designLimitsRow.holds Tryz.pinned (OpenSpec.ofChange designLimitsWrong)

/-- 'docketlaw12.DesignSound': WHATEVER THE INPUT: true; the input reads as it did. -/
def designSoundSpec : ChangeSpec := { name := "designSound", fn := fun _ => fun
  | [d1, d2, d3, d4] => { results := [.lit (.bool true)], args := [d1, d2, d3, d4] }
  | _ => none }
def designSoundRow : OpenClaim := { program := "ytifbhcfdealfaaagreatdoor", sum := "c61e40887c447ef78d40223633fbb9c3e39ba720b6dacc331ebaeb382a08bfa9", func := "docket/docketlaw12.DesignSound", spec := "designSound", inPlace := ["internal/bytealg.Count", "internal/bytealg.IndexByte", "internal/bytealg.Index", "internal/bytealg.abigen_runtime_cmpstring"], unfollowed := true, recurses := true, named := ["docket/text.reserved", "internal/bytealg.MaxLen", "docket/text.signs", "strconv.ErrSyntax", "strconv.ErrRange", "internal/strconv.uint64pow10", "math/bits.deBruijn32tab", "math/bits.deBruijn64tab", "docket/kinds.nothing"], plainKeys := false, apart := false, laid := [("math/bits.deBruijn32tab", laid_math_bits_deBruijn32tab), ("math/bits.deBruijn64tab", laid_math_bits_deBruijn64tab), ("internal/strconv.uint64pow10", laid_internal_strconv_uint64pow10), ("strconv.ErrRange", laid_strconv_ErrRange), ("strconv.ErrSyntax", laid_strconv_ErrSyntax), ("docket/text.signs", laid_docket_text_signs), ("docket/text.reserved", laid_docket_text_reserved), ("docket/kinds.nothing", laid_docket_kinds_nothing)] }
def DesignSoundSaid : Prop := designSoundRow.holds Tryz.pinned (OpenSpec.ofChange designSoundSpec)

/-- ITS FALSE NEIGHBOUR: 'it returns false'. Refute it at one input. -/
def designSoundWrong : ChangeSpec := { name := "designSound", fn := fun _ => fun
  | [d1, d2, d3, d4] => { results := [.lit (.bool false)], args := [d1, d2, d3, d4] }
  | _ => none }
def DesignSoundWrongFalsely : Prop := designSoundRow.holds Tryz.pinned (OpenSpec.ofChange designSoundWrong)

/-- 'docketlaw13.SurgeSees': WHATEVER THE INPUT: true; the input reads as it did. -/
def surgeSeesSpec : ChangeSpec := { name := "surgeSees", fn := fun _ => fun
  | [d1, d2, d3] => { results := [.lit (.bool true)], args := [d1, d2, d3] }
  | _ => none }
def surgeSeesRow : OpenClaim := { program := "ytifbhcfdealfaaagreatdoor", sum := "c61e40887c447ef78d40223633fbb9c3e39ba720b6dacc331ebaeb382a08bfa9", func := "docket/docketlaw13.SurgeSees", spec := "surgeSees", inPlace := ["internal/bytealg.Count", "internal/bytealg.IndexByte", "internal/bytealg.Index"], unfollowed := true, recurses := true, named := ["docket/text.reserved", "internal/bytealg.MaxLen", "docket/text.signs", "strconv.ErrSyntax", "strconv.ErrRange", "internal/strconv.uint64pow10", "math/bits.deBruijn32tab", "math/bits.deBruijn64tab", "docket/kinds.nothing"], plainKeys := false, apart := false, laid := [("math/bits.deBruijn32tab", laid_math_bits_deBruijn32tab), ("math/bits.deBruijn64tab", laid_math_bits_deBruijn64tab), ("internal/strconv.uint64pow10", laid_internal_strconv_uint64pow10), ("strconv.ErrRange", laid_strconv_ErrRange), ("strconv.ErrSyntax", laid_strconv_ErrSyntax), ("docket/text.signs", laid_docket_text_signs), ("docket/text.reserved", laid_docket_text_reserved), ("docket/kinds.nothing", laid_docket_kinds_nothing)] }
def SurgeSeesSaid : Prop := surgeSeesRow.holds Tryz.pinned (OpenSpec.ofChange surgeSeesSpec)

/-- ITS FALSE NEIGHBOUR: 'it returns false'. Refute it at one input. -/
def surgeSeesWrong : ChangeSpec := { name := "surgeSees", fn := fun _ => fun
  | [d1, d2, d3] => { results := [.lit (.bool false)], args := [d1, d2, d3] }
  | _ => none }
def SurgeSeesWrongFalsely : Prop := surgeSeesRow.holds Tryz.pinned (OpenSpec.ofChange surgeSeesWrong)

/-- 'docketlaw13.SurgeSettles': WHATEVER THE INPUT: true; the input reads as it did. -/
def surgeSettlesSpec : ChangeSpec := { name := "surgeSettles", fn := fun _ => fun
  | [d1, d2, d3, d4] => { results := [.lit (.bool true)], args := [d1, d2, d3, d4] }
  | _ => none }
def surgeSettlesRow : OpenClaim := { program := "ytifbhcfdealfaaagreatdoor", sum := "c61e40887c447ef78d40223633fbb9c3e39ba720b6dacc331ebaeb382a08bfa9", func := "docket/docketlaw13.SurgeSettles", spec := "surgeSettles", inPlace := ["internal/bytealg.Count", "internal/bytealg.IndexByte", "internal/bytealg.Index"], unfollowed := true, recurses := true, named := ["docket/text.reserved", "internal/bytealg.MaxLen", "docket/text.signs", "strconv.ErrSyntax", "strconv.ErrRange", "internal/strconv.uint64pow10", "math/bits.deBruijn32tab", "math/bits.deBruijn64tab", "docket/kinds.nothing"], plainKeys := false, apart := false, laid := [("math/bits.deBruijn32tab", laid_math_bits_deBruijn32tab), ("math/bits.deBruijn64tab", laid_math_bits_deBruijn64tab), ("internal/strconv.uint64pow10", laid_internal_strconv_uint64pow10), ("strconv.ErrRange", laid_strconv_ErrRange), ("strconv.ErrSyntax", laid_strconv_ErrSyntax), ("docket/text.signs", laid_docket_text_signs), ("docket/text.reserved", laid_docket_text_reserved), ("docket/kinds.nothing", laid_docket_kinds_nothing)] }
def SurgeSettlesSaid : Prop := surgeSettlesRow.holds Tryz.pinned (OpenSpec.ofChange surgeSettlesSpec)

/-- ITS FALSE NEIGHBOUR: 'it returns false'. Refute it at one input. -/
def surgeSettlesWrong : ChangeSpec := { name := "surgeSettles", fn := fun _ => fun
  | [d1, d2, d3, d4] => { results := [.lit (.bool false)], args := [d1, d2, d3, d4] }
  | _ => none }
def SurgeSettlesWrongFalsely : Prop := surgeSettlesRow.holds Tryz.pinned (OpenSpec.ofChange surgeSettlesWrong)

/-- 'docketlaw13.SurgeLawful': WHATEVER THE INPUT: true; the input reads as it did. -/
def surgeLawfulSpec : ChangeSpec := { name := "surgeLawful", fn := fun _ => fun
  | [d1, d2, d3, d4] => { results := [.lit (.bool true)], args := [d1, d2, d3, d4] }
  | _ => none }
def surgeLawfulRow : OpenClaim := { program := "ytifbhcfdealfaaagreatdoor", sum := "c61e40887c447ef78d40223633fbb9c3e39ba720b6dacc331ebaeb382a08bfa9", func := "docket/docketlaw13.SurgeLawful", spec := "surgeLawful", inPlace := ["internal/bytealg.Count", "internal/bytealg.IndexByte", "internal/bytealg.Index"], unfollowed := true, recurses := true, named := ["docket/text.reserved", "internal/bytealg.MaxLen", "docket/text.signs", "strconv.ErrSyntax", "strconv.ErrRange", "internal/strconv.uint64pow10", "math/bits.deBruijn32tab", "math/bits.deBruijn64tab", "docket/kinds.nothing"], plainKeys := false, apart := false, laid := [("math/bits.deBruijn32tab", laid_math_bits_deBruijn32tab), ("math/bits.deBruijn64tab", laid_math_bits_deBruijn64tab), ("internal/strconv.uint64pow10", laid_internal_strconv_uint64pow10), ("strconv.ErrRange", laid_strconv_ErrRange), ("strconv.ErrSyntax", laid_strconv_ErrSyntax), ("docket/text.signs", laid_docket_text_signs), ("docket/text.reserved", laid_docket_text_reserved), ("docket/kinds.nothing", laid_docket_kinds_nothing)] }
def SurgeLawfulSaid : Prop := surgeLawfulRow.holds Tryz.pinned (OpenSpec.ofChange surgeLawfulSpec)

/-- ITS FALSE NEIGHBOUR: 'it returns false'. Refute it at one input. -/
def surgeLawfulWrong : ChangeSpec := { name := "surgeLawful", fn := fun _ => fun
  | [d1, d2, d3, d4] => { results := [.lit (.bool false)], args := [d1, d2, d3, d4] }
  | _ => none }
def SurgeLawfulWrongFalsely : Prop := surgeLawfulRow.holds Tryz.pinned (OpenSpec.ofChange surgeLawfulWrong)

/-- 'docketlaw13.SurgeLocal': WHATEVER THE INPUT: true; the input reads as it did. -/
def surgeLocalSpec : ChangeSpec := { name := "surgeLocal", fn := fun _ => fun
  | [d1, d2, d3, d4, d5, d6] => { results := [.lit (.bool true)], args := [d1, d2, d3, d4, d5, d6] }
  | _ => none }
def surgeLocalRow : OpenClaim := { program := "ytifbhcfdealfaaagreatdoor", sum := "c61e40887c447ef78d40223633fbb9c3e39ba720b6dacc331ebaeb382a08bfa9", func := "docket/docketlaw13.SurgeLocal", spec := "surgeLocal", inPlace := ["internal/bytealg.Count", "internal/bytealg.IndexByte", "internal/bytealg.Index"], unfollowed := true, recurses := true, named := ["docket/text.reserved", "internal/bytealg.MaxLen", "docket/text.signs", "strconv.ErrSyntax", "strconv.ErrRange", "internal/strconv.uint64pow10", "math/bits.deBruijn32tab", "math/bits.deBruijn64tab", "docket/kinds.nothing"], plainKeys := false, apart := false, laid := [("math/bits.deBruijn32tab", laid_math_bits_deBruijn32tab), ("math/bits.deBruijn64tab", laid_math_bits_deBruijn64tab), ("internal/strconv.uint64pow10", laid_internal_strconv_uint64pow10), ("strconv.ErrRange", laid_strconv_ErrRange), ("strconv.ErrSyntax", laid_strconv_ErrSyntax), ("docket/text.signs", laid_docket_text_signs), ("docket/text.reserved", laid_docket_text_reserved), ("docket/kinds.nothing", laid_docket_kinds_nothing)] }
def SurgeLocalSaid : Prop := surgeLocalRow.holds Tryz.pinned (OpenSpec.ofChange surgeLocalSpec)

/-- ITS FALSE NEIGHBOUR: 'it returns false'. Refute it at one input. -/
def surgeLocalWrong : ChangeSpec := { name := "surgeLocal", fn := fun _ => fun
  | [d1, d2, d3, d4, d5, d6] => { results := [.lit (.bool false)], args := [d1, d2, d3, d4, d5, d6] }
  | _ => none }
def SurgeLocalWrongFalsely : Prop := surgeLocalRow.holds Tryz.pinned (OpenSpec.ofChange surgeLocalWrong)

/-- 'docketlaw13.SurgeBack': WHATEVER THE INPUT: true; the input reads as it did. -/
def surgeBackSpec : ChangeSpec := { name := "surgeBack", fn := fun _ => fun
  | [d1, d2, d3, d4] => { results := [.lit (.bool true)], args := [d1, d2, d3, d4] }
  | _ => none }
def surgeBackRow : OpenClaim := { program := "ytifbhcfdealfaaagreatdoor", sum := "c61e40887c447ef78d40223633fbb9c3e39ba720b6dacc331ebaeb382a08bfa9", func := "docket/docketlaw13.SurgeBack", spec := "surgeBack", inPlace := ["internal/bytealg.Count", "internal/bytealg.IndexByte", "internal/bytealg.Index"], unfollowed := true, recurses := true, named := ["docket/text.reserved", "internal/bytealg.MaxLen", "docket/text.signs", "strconv.ErrSyntax", "strconv.ErrRange", "internal/strconv.uint64pow10", "math/bits.deBruijn32tab", "math/bits.deBruijn64tab", "docket/kinds.nothing"], plainKeys := false, apart := false, laid := [("math/bits.deBruijn32tab", laid_math_bits_deBruijn32tab), ("math/bits.deBruijn64tab", laid_math_bits_deBruijn64tab), ("internal/strconv.uint64pow10", laid_internal_strconv_uint64pow10), ("strconv.ErrRange", laid_strconv_ErrRange), ("strconv.ErrSyntax", laid_strconv_ErrSyntax), ("docket/text.signs", laid_docket_text_signs), ("docket/text.reserved", laid_docket_text_reserved), ("docket/kinds.nothing", laid_docket_kinds_nothing)] }
def SurgeBackSaid : Prop := surgeBackRow.holds Tryz.pinned (OpenSpec.ofChange surgeBackSpec)

/-- ITS FALSE NEIGHBOUR: 'it returns false'. Refute it at one input. -/
def surgeBackWrong : ChangeSpec := { name := "surgeBack", fn := fun _ => fun
  | [d1, d2, d3, d4] => { results := [.lit (.bool false)], args := [d1, d2, d3, d4] }
  | _ => none }
def SurgeBackWrongFalsely : Prop := surgeBackRow.holds Tryz.pinned (OpenSpec.ofChange surgeBackWrong)

/-- 'docketlaw12.DesignPrints': WHATEVER THE INPUT: true; the input reads as it did. -/
def designPrintsSpec : ChangeSpec := { name := "designPrints", fn := fun _ => fun
  | [d1, d2] => { results := [.lit (.bool true)], args := [d1, d2] }
  | _ => none }
def designPrintsRow : OpenClaim := { program := "ytifbhcfdealfaaagreatdoor", sum := "c61e40887c447ef78d40223633fbb9c3e39ba720b6dacc331ebaeb382a08bfa9", func := "docket/docketlaw12.DesignPrints", spec := "designPrints", inPlace := ["internal/bytealg.Count", "internal/bytealg.IndexByte", "internal/bytealg.Index", "internal/bytealg.abigen_runtime_cmpstring"], unfollowed := true, recurses := true, named := ["docket/text.reserved", "docket/text.signs", "strconv.ErrSyntax", "strconv.ErrRange", "internal/strconv.uint64pow10", "math/bits.deBruijn32tab", "math/bits.deBruijn64tab", "internal/bytealg.MaxLen", "docket/kinds.nothing"], plainKeys := false, apart := false, laid := [("math/bits.deBruijn32tab", laid_math_bits_deBruijn32tab), ("math/bits.deBruijn64tab", laid_math_bits_deBruijn64tab), ("internal/strconv.uint64pow10", laid_internal_strconv_uint64pow10), ("strconv.ErrRange", laid_strconv_ErrRange), ("strconv.ErrSyntax", laid_strconv_ErrSyntax), ("docket/text.signs", laid_docket_text_signs), ("docket/text.reserved", laid_docket_text_reserved), ("docket/kinds.nothing", laid_docket_kinds_nothing)] }
def DesignPrintsSaid : Prop := designPrintsRow.holds Tryz.pinned (OpenSpec.ofChange designPrintsSpec)

/-- ITS FALSE NEIGHBOUR: 'it returns false'. Refute it at one input. -/
def designPrintsWrong : ChangeSpec := { name := "designPrints", fn := fun _ => fun
  | [d1, d2] => { results := [.lit (.bool false)], args := [d1, d2] }
  | _ => none }
def DesignPrintsWrongFalsely : Prop := designPrintsRow.holds Tryz.pinned (OpenSpec.ofChange designPrintsWrong)

/- THE SECOND FORM. 'bulk': how many values and letters a reading holds, each counted each time it is reached (what is shared counts as often as it is met; a slice's spare places count too). A statement '..UptoSaid' is the law's where the arguments, and the package variables that the reading takes, are together of bulk at most 1048576: NARROWER than '..Said'. Prove '..Said' where nothing that the law and all that it calls make is longer than what came in: it says more and counts as full. Else prove '..UptoSaid'. A law counts once. -/
mutual
def uptoBulk {H : Type} : DataW H → Nat
  | .lit (.string bytes) => bytes.length + 1
  | .lit _ => 1
  | .nil => 1
  | .ptr d => uptoBulk d + 1
  | .slice elems spare => uptoBulkAll elems + uptoBulkAll spare + 1
  | .agg parts => uptoBulkAll parts + 1
  | .iface _ d => uptoBulk d + 1
  | .map entries => uptoBulkEntries entries + 1
  | .held _ => 1
def uptoBulkAll {H : Type} : List (DataW H) → Nat
  | [] => 0
  | d :: r => uptoBulk d + uptoBulkAll r
def uptoBulkEntries {H : Type} : List (Lit × DataW H) → Nat
  | [] => 0
  | x :: r => uptoBulkEntry x + uptoBulkEntries r
def uptoBulkEntry {H : Type} : Lit × DataW H → Nat
  | (.string bytes, d) => bytes.length + uptoBulk d + 1
  | (_, d) => uptoBulk d + 1
 end
def uptoSmall : (H : Type) → List (DataW H) → Bool := fun _ ds => decide (uptoBulkAll ds ≤ 1048576)
def OpenSpec.upto (s : _root_.Go.ChangeSpec) : _root_.Go.OpenSpec := { _root_.Go.OpenSpec.ofChange s with cond := some uptoSmall }

/-- 'docketlaw12.DesignPlaces', WHERE WHAT IT READS IS OF BULK AT MOST 1048576: true; the input reads as it did. -/
def designPlacesUptoRow : OpenClaim := { program := "ytifbhcfdealfaaagreatdoor", sum := "c61e40887c447ef78d40223633fbb9c3e39ba720b6dacc331ebaeb382a08bfa9", func := "docket/docketlaw12.DesignPlaces", spec := "designPlaces", inPlace := ["internal/bytealg.Count", "internal/bytealg.IndexByte", "internal/bytealg.Index", "internal/abi.NoEscape", "internal/bytealg.MakeNoZero", "internal/bytealg.abigen_runtime_cmpstring"], unfollowed := true, recurses := true, named := ["docket/text.reserved", "internal/bytealg.MaxLen", "docket/text.signs", "strconv.ErrSyntax", "strconv.ErrRange", "internal/strconv.uint64pow10", "math/bits.deBruijn32tab", "math/bits.deBruijn64tab", "docket/kinds.nothing"], plainKeys := false, apart := false, laid := [("math/bits.deBruijn32tab", laid_math_bits_deBruijn32tab), ("math/bits.deBruijn64tab", laid_math_bits_deBruijn64tab), ("internal/strconv.uint64pow10", laid_internal_strconv_uint64pow10), ("strconv.ErrRange", laid_strconv_ErrRange), ("strconv.ErrSyntax", laid_strconv_ErrSyntax), ("docket/text.signs", laid_docket_text_signs), ("docket/text.reserved", laid_docket_text_reserved), ("docket/kinds.nothing", laid_docket_kinds_nothing)], narrowed := true }
def DesignPlacesUptoSaid : Prop := designPlacesUptoRow.holds Tryz.pinned (OpenSpec.upto designPlacesSpec)

/-- 'docketlaw12.DesignLimits', WHERE WHAT IT READS IS OF BULK AT MOST 1048576: true; the input reads as it did. -/
def designLimitsUptoRow : OpenClaim := { program := "ytifbhcfdealfaaagreatdoor", sum := "c61e40887c447ef78d40223633fbb9c3e39ba720b6dacc331ebaeb382a08bfa9", func := "docket/docketlaw12.DesignLimits", spec := "designLimits", inPlace := ["internal/bytealg.Count", "internal/bytealg.IndexByte", "internal/bytealg.Index", "internal/bytealg.abigen_runtime_cmpstring"], unfollowed := true, recurses := true, named := ["docket/text.reserved", "internal/bytealg.MaxLen", "docket/text.signs", "strconv.ErrSyntax", "strconv.ErrRange", "internal/strconv.uint64pow10", "math/bits.deBruijn32tab", "math/bits.deBruijn64tab", "docket/kinds.nothing"], plainKeys := false, apart := false, laid := [("math/bits.deBruijn32tab", laid_math_bits_deBruijn32tab), ("math/bits.deBruijn64tab", laid_math_bits_deBruijn64tab), ("internal/strconv.uint64pow10", laid_internal_strconv_uint64pow10), ("strconv.ErrRange", laid_strconv_ErrRange), ("strconv.ErrSyntax", laid_strconv_ErrSyntax), ("docket/text.signs", laid_docket_text_signs), ("docket/text.reserved", laid_docket_text_reserved), ("docket/kinds.nothing", laid_docket_kinds_nothing)], narrowed := true }
def DesignLimitsUptoSaid : Prop := designLimitsUptoRow.holds Tryz.pinned (OpenSpec.upto designLimitsSpec)

/-- 'docketlaw12.DesignSound', WHERE WHAT IT READS IS OF BULK AT MOST 1048576: true; the input reads as it did. -/
def designSoundUptoRow : OpenClaim := { program := "ytifbhcfdealfaaagreatdoor", sum := "c61e40887c447ef78d40223633fbb9c3e39ba720b6dacc331ebaeb382a08bfa9", func := "docket/docketlaw12.DesignSound", spec := "designSound", inPlace := ["internal/bytealg.Count", "internal/bytealg.IndexByte", "internal/bytealg.Index", "internal/bytealg.abigen_runtime_cmpstring"], unfollowed := true, recurses := true, named := ["docket/text.reserved", "internal/bytealg.MaxLen", "docket/text.signs", "strconv.ErrSyntax", "strconv.ErrRange", "internal/strconv.uint64pow10", "math/bits.deBruijn32tab", "math/bits.deBruijn64tab", "docket/kinds.nothing"], plainKeys := false, apart := false, laid := [("math/bits.deBruijn32tab", laid_math_bits_deBruijn32tab), ("math/bits.deBruijn64tab", laid_math_bits_deBruijn64tab), ("internal/strconv.uint64pow10", laid_internal_strconv_uint64pow10), ("strconv.ErrRange", laid_strconv_ErrRange), ("strconv.ErrSyntax", laid_strconv_ErrSyntax), ("docket/text.signs", laid_docket_text_signs), ("docket/text.reserved", laid_docket_text_reserved), ("docket/kinds.nothing", laid_docket_kinds_nothing)], narrowed := true }
def DesignSoundUptoSaid : Prop := designSoundUptoRow.holds Tryz.pinned (OpenSpec.upto designSoundSpec)

/-- 'docketlaw13.SurgeSees', WHERE WHAT IT READS IS OF BULK AT MOST 1048576: true; the input reads as it did. -/
def surgeSeesUptoRow : OpenClaim := { program := "ytifbhcfdealfaaagreatdoor", sum := "c61e40887c447ef78d40223633fbb9c3e39ba720b6dacc331ebaeb382a08bfa9", func := "docket/docketlaw13.SurgeSees", spec := "surgeSees", inPlace := ["internal/bytealg.Count", "internal/bytealg.IndexByte", "internal/bytealg.Index"], unfollowed := true, recurses := true, named := ["docket/text.reserved", "internal/bytealg.MaxLen", "docket/text.signs", "strconv.ErrSyntax", "strconv.ErrRange", "internal/strconv.uint64pow10", "math/bits.deBruijn32tab", "math/bits.deBruijn64tab", "docket/kinds.nothing"], plainKeys := false, apart := false, laid := [("math/bits.deBruijn32tab", laid_math_bits_deBruijn32tab), ("math/bits.deBruijn64tab", laid_math_bits_deBruijn64tab), ("internal/strconv.uint64pow10", laid_internal_strconv_uint64pow10), ("strconv.ErrRange", laid_strconv_ErrRange), ("strconv.ErrSyntax", laid_strconv_ErrSyntax), ("docket/text.signs", laid_docket_text_signs), ("docket/text.reserved", laid_docket_text_reserved), ("docket/kinds.nothing", laid_docket_kinds_nothing)], narrowed := true }
def SurgeSeesUptoSaid : Prop := surgeSeesUptoRow.holds Tryz.pinned (OpenSpec.upto surgeSeesSpec)

/-- 'docketlaw13.SurgeSettles', WHERE WHAT IT READS IS OF BULK AT MOST 1048576: true; the input reads as it did. -/
def surgeSettlesUptoRow : OpenClaim := { program := "ytifbhcfdealfaaagreatdoor", sum := "c61e40887c447ef78d40223633fbb9c3e39ba720b6dacc331ebaeb382a08bfa9", func := "docket/docketlaw13.SurgeSettles", spec := "surgeSettles", inPlace := ["internal/bytealg.Count", "internal/bytealg.IndexByte", "internal/bytealg.Index"], unfollowed := true, recurses := true, named := ["docket/text.reserved", "internal/bytealg.MaxLen", "docket/text.signs", "strconv.ErrSyntax", "strconv.ErrRange", "internal/strconv.uint64pow10", "math/bits.deBruijn32tab", "math/bits.deBruijn64tab", "docket/kinds.nothing"], plainKeys := false, apart := false, laid := [("math/bits.deBruijn32tab", laid_math_bits_deBruijn32tab), ("math/bits.deBruijn64tab", laid_math_bits_deBruijn64tab), ("internal/strconv.uint64pow10", laid_internal_strconv_uint64pow10), ("strconv.ErrRange", laid_strconv_ErrRange), ("strconv.ErrSyntax", laid_strconv_ErrSyntax), ("docket/text.signs", laid_docket_text_signs), ("docket/text.reserved", laid_docket_text_reserved), ("docket/kinds.nothing", laid_docket_kinds_nothing)], narrowed := true }
def SurgeSettlesUptoSaid : Prop := surgeSettlesUptoRow.holds Tryz.pinned (OpenSpec.upto surgeSettlesSpec)

/-- 'docketlaw13.SurgeLawful', WHERE WHAT IT READS IS OF BULK AT MOST 1048576: true; the input reads as it did. -/
def surgeLawfulUptoRow : OpenClaim := { program := "ytifbhcfdealfaaagreatdoor", sum := "c61e40887c447ef78d40223633fbb9c3e39ba720b6dacc331ebaeb382a08bfa9", func := "docket/docketlaw13.SurgeLawful", spec := "surgeLawful", inPlace := ["internal/bytealg.Count", "internal/bytealg.IndexByte", "internal/bytealg.Index"], unfollowed := true, recurses := true, named := ["docket/text.reserved", "internal/bytealg.MaxLen", "docket/text.signs", "strconv.ErrSyntax", "strconv.ErrRange", "internal/strconv.uint64pow10", "math/bits.deBruijn32tab", "math/bits.deBruijn64tab", "docket/kinds.nothing"], plainKeys := false, apart := false, laid := [("math/bits.deBruijn32tab", laid_math_bits_deBruijn32tab), ("math/bits.deBruijn64tab", laid_math_bits_deBruijn64tab), ("internal/strconv.uint64pow10", laid_internal_strconv_uint64pow10), ("strconv.ErrRange", laid_strconv_ErrRange), ("strconv.ErrSyntax", laid_strconv_ErrSyntax), ("docket/text.signs", laid_docket_text_signs), ("docket/text.reserved", laid_docket_text_reserved), ("docket/kinds.nothing", laid_docket_kinds_nothing)], narrowed := true }
def SurgeLawfulUptoSaid : Prop := surgeLawfulUptoRow.holds Tryz.pinned (OpenSpec.upto surgeLawfulSpec)

/-- 'docketlaw13.SurgeLocal', WHERE WHAT IT READS IS OF BULK AT MOST 1048576: true; the input reads as it did. -/
def surgeLocalUptoRow : OpenClaim := { program := "ytifbhcfdealfaaagreatdoor", sum := "c61e40887c447ef78d40223633fbb9c3e39ba720b6dacc331ebaeb382a08bfa9", func := "docket/docketlaw13.SurgeLocal", spec := "surgeLocal", inPlace := ["internal/bytealg.Count", "internal/bytealg.IndexByte", "internal/bytealg.Index"], unfollowed := true, recurses := true, named := ["docket/text.reserved", "internal/bytealg.MaxLen", "docket/text.signs", "strconv.ErrSyntax", "strconv.ErrRange", "internal/strconv.uint64pow10", "math/bits.deBruijn32tab", "math/bits.deBruijn64tab", "docket/kinds.nothing"], plainKeys := false, apart := false, laid := [("math/bits.deBruijn32tab", laid_math_bits_deBruijn32tab), ("math/bits.deBruijn64tab", laid_math_bits_deBruijn64tab), ("internal/strconv.uint64pow10", laid_internal_strconv_uint64pow10), ("strconv.ErrRange", laid_strconv_ErrRange), ("strconv.ErrSyntax", laid_strconv_ErrSyntax), ("docket/text.signs", laid_docket_text_signs), ("docket/text.reserved", laid_docket_text_reserved), ("docket/kinds.nothing", laid_docket_kinds_nothing)], narrowed := true }
def SurgeLocalUptoSaid : Prop := surgeLocalUptoRow.holds Tryz.pinned (OpenSpec.upto surgeLocalSpec)

/-- 'docketlaw13.SurgeBack', WHERE WHAT IT READS IS OF BULK AT MOST 1048576: true; the input reads as it did. -/
def surgeBackUptoRow : OpenClaim := { program := "ytifbhcfdealfaaagreatdoor", sum := "c61e40887c447ef78d40223633fbb9c3e39ba720b6dacc331ebaeb382a08bfa9", func := "docket/docketlaw13.SurgeBack", spec := "surgeBack", inPlace := ["internal/bytealg.Count", "internal/bytealg.IndexByte", "internal/bytealg.Index"], unfollowed := true, recurses := true, named := ["docket/text.reserved", "internal/bytealg.MaxLen", "docket/text.signs", "strconv.ErrSyntax", "strconv.ErrRange", "internal/strconv.uint64pow10", "math/bits.deBruijn32tab", "math/bits.deBruijn64tab", "docket/kinds.nothing"], plainKeys := false, apart := false, laid := [("math/bits.deBruijn32tab", laid_math_bits_deBruijn32tab), ("math/bits.deBruijn64tab", laid_math_bits_deBruijn64tab), ("internal/strconv.uint64pow10", laid_internal_strconv_uint64pow10), ("strconv.ErrRange", laid_strconv_ErrRange), ("strconv.ErrSyntax", laid_strconv_ErrSyntax), ("docket/text.signs", laid_docket_text_signs), ("docket/text.reserved", laid_docket_text_reserved), ("docket/kinds.nothing", laid_docket_kinds_nothing)], narrowed := true }
def SurgeBackUptoSaid : Prop := surgeBackUptoRow.holds Tryz.pinned (OpenSpec.upto surgeBackSpec)

/-- 'docketlaw12.DesignPrints', WHERE WHAT IT READS IS OF BULK AT MOST 1048576: true; the input reads as it did. -/
def designPrintsUptoRow : OpenClaim := { program := "ytifbhcfdealfaaagreatdoor", sum := "c61e40887c447ef78d40223633fbb9c3e39ba720b6dacc331ebaeb382a08bfa9", func := "docket/docketlaw12.DesignPrints", spec := "designPrints", inPlace := ["internal/bytealg.Count", "internal/bytealg.IndexByte", "internal/bytealg.Index", "internal/bytealg.abigen_runtime_cmpstring"], unfollowed := true, recurses := true, named := ["docket/text.reserved", "docket/text.signs", "strconv.ErrSyntax", "strconv.ErrRange", "internal/strconv.uint64pow10", "math/bits.deBruijn32tab", "math/bits.deBruijn64tab", "internal/bytealg.MaxLen", "docket/kinds.nothing"], plainKeys := false, apart := false, laid := [("math/bits.deBruijn32tab", laid_math_bits_deBruijn32tab), ("math/bits.deBruijn64tab", laid_math_bits_deBruijn64tab), ("internal/strconv.uint64pow10", laid_internal_strconv_uint64pow10), ("strconv.ErrRange", laid_strconv_ErrRange), ("strconv.ErrSyntax", laid_strconv_ErrSyntax), ("docket/text.signs", laid_docket_text_signs), ("docket/text.reserved", laid_docket_text_reserved), ("docket/kinds.nothing", laid_docket_kinds_nothing)], narrowed := true }
def DesignPrintsUptoSaid : Prop := designPrintsUptoRow.holds Tryz.pinned (OpenSpec.upto designPrintsSpec)

end Rows
end Go.Proofs.YtifbhcfdealfaaaGreatDoor
