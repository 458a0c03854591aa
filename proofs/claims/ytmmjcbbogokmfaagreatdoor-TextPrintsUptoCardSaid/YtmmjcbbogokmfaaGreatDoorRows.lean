/-
  NARROWER THAN 'FOR EVERY INPUT', by the rows' own cells (each row's printed sentence says how): TextPrints: laid · TextLegal: laid · TextFirst: laid · TextShortest: laid · TextBlanks: laid · TextNests: laid · TextKept: laid · TextAsked: laid.
  DERIVED. THE GIVEN ROWS OF THIS SEAT. 8 by the template 'for every input the law returns true; each argument reads behind the call as it read before'; 0 by the template 'total and deterministic' (their statements: YtmmjcbbogokmfaaGreatDoorTotals.lean).
  GIVEN WITH THE SEED: the statements are not yours to turn. If you find one false, say at which input.
  Laid BY PROGRAM, IN A SANDBOX (cutbox-rows.mjs): the forced cells as the released guide's own fill.sh prints them over the translation 4e1a425b9f93ae8b… (all of the seat's roots in one cut). By AI agents, Wed Nov 11 2026. No macro, syntax, notation, axiom, sorry.
-/
import Derived.Test.YtmmjcbbogokmfaaGreatDoorChecked
import GoSem.Claim
import GoSem.ClaimJoined
import GoSem.ClaimMapViews
import Derived.JoinedTies
import Derived.KernelRfl
namespace Go.Proofs.YtmmjcbbogokmfaaGreatDoor
/- THE CELL 'sum', in the pinned program and in every row, IS THE sha256 OF THE DUMP (.gsa) THAT YtmmjcbbogokmfaaGreatDoorProg.lean LOADS. Nothing in Lean hashes anything: it is a label: what it is worth is what the hold of that sum in a sandbox is worth. -/
noncomputable def Tryz.pinned : Pinned := { name := "ytmmjcbbogokmfaagreatdoor", sum := "4e1a425b9f93ae8bc9c7db5da89063429fcbc5810c779ee113c4d51d0dc55eba", checked := Tryz.checked }
namespace Rows
def none {H : Type} : Left H := { results := [], args := [] }

/- WHAT THE LISTED PACKAGE-LEVEL VARIABLES READ AS WHEN THE CALL BEGINS. Each datum BY PROGRAM (the guide's laid-datum.mjs) off the statement by which the dump's own 'gosem.cut.vars' lays the variable. In a bare row this is a premise. The card (YtmmjcbbogokmfaaGreatDoorCards.lean) ties it to the program's text. -/
def laid_docket_docketref9_reserved {H : Type} : DataW H := .agg [.lit (.string [116, 121, 112, 101]), .lit (.string [97, 116, 116, 114, 105, 98, 117, 116, 101]), .lit (.string [115, 116, 97, 103, 101]), .lit (.string [109, 105, 108, 101, 115, 116, 111, 110, 101]), .lit (.string [115, 116, 101, 112]), .lit (.string [105, 110]), .lit (.string [111, 112, 101, 110, 115]), .lit (.string [99, 108, 111, 115, 101, 115]), .lit (.string [114, 101, 97, 99, 104, 101, 100]), .lit (.string [119, 104, 101, 110]), .lit (.string [114, 101, 111, 112, 101, 110]), .lit (.string [105, 110, 116]), .lit (.string [98, 111, 111, 108]), .lit (.string [116, 101, 120, 116]), .lit (.string [116, 105, 109, 101]), .lit (.string [115, 101, 116]), .lit (.string [111, 112, 116, 105, 111, 110, 97, 108]), .lit (.string [105, 102]), .lit (.string [116, 104, 101, 110]), .lit (.string [101, 108, 115, 101]), .lit (.string [111, 114]), .lit (.string [97, 110, 100]), .lit (.string [110, 111, 116]), .lit (.string [116, 114, 117, 101]), .lit (.string [102, 97, 108, 115, 101]), .lit (.string [110, 111, 116, 104, 105, 110, 103]), .lit (.string [104, 97, 115]), .lit (.string [115, 105, 122, 101]), .lit (.string [106, 111, 105, 110]), .lit (.string [111, 112, 101, 110]), .lit (.string [99, 108, 111, 99, 107]), .lit (.string [115, 116, 101, 112, 115]), .lit (.string [109, 105, 110]), .lit (.string [109, 97, 120]), .lit (.string [100, 101, 102, 97, 117, 108, 116])]
def laid_math_bits_deBruijn32tab {H : Type} : DataW H := .agg [.lit (.int .u8 0), .lit (.int .u8 1), .lit (.int .u8 28), .lit (.int .u8 2), .lit (.int .u8 29), .lit (.int .u8 14), .lit (.int .u8 24), .lit (.int .u8 3), .lit (.int .u8 30), .lit (.int .u8 22), .lit (.int .u8 20), .lit (.int .u8 15), .lit (.int .u8 25), .lit (.int .u8 17), .lit (.int .u8 4), .lit (.int .u8 8), .lit (.int .u8 31), .lit (.int .u8 27), .lit (.int .u8 13), .lit (.int .u8 23), .lit (.int .u8 21), .lit (.int .u8 19), .lit (.int .u8 16), .lit (.int .u8 7), .lit (.int .u8 26), .lit (.int .u8 12), .lit (.int .u8 18), .lit (.int .u8 6), .lit (.int .u8 11), .lit (.int .u8 5), .lit (.int .u8 10), .lit (.int .u8 9)]
def laid_math_bits_deBruijn64tab {H : Type} : DataW H := .agg [.lit (.int .u8 0), .lit (.int .u8 1), .lit (.int .u8 56), .lit (.int .u8 2), .lit (.int .u8 57), .lit (.int .u8 49), .lit (.int .u8 28), .lit (.int .u8 3), .lit (.int .u8 61), .lit (.int .u8 58), .lit (.int .u8 42), .lit (.int .u8 50), .lit (.int .u8 38), .lit (.int .u8 29), .lit (.int .u8 17), .lit (.int .u8 4), .lit (.int .u8 62), .lit (.int .u8 47), .lit (.int .u8 59), .lit (.int .u8 36), .lit (.int .u8 45), .lit (.int .u8 43), .lit (.int .u8 51), .lit (.int .u8 22), .lit (.int .u8 53), .lit (.int .u8 39), .lit (.int .u8 33), .lit (.int .u8 30), .lit (.int .u8 24), .lit (.int .u8 18), .lit (.int .u8 12), .lit (.int .u8 5), .lit (.int .u8 63), .lit (.int .u8 55), .lit (.int .u8 48), .lit (.int .u8 27), .lit (.int .u8 60), .lit (.int .u8 41), .lit (.int .u8 37), .lit (.int .u8 16), .lit (.int .u8 46), .lit (.int .u8 35), .lit (.int .u8 44), .lit (.int .u8 21), .lit (.int .u8 52), .lit (.int .u8 32), .lit (.int .u8 23), .lit (.int .u8 11), .lit (.int .u8 54), .lit (.int .u8 26), .lit (.int .u8 40), .lit (.int .u8 15), .lit (.int .u8 34), .lit (.int .u8 20), .lit (.int .u8 31), .lit (.int .u8 10), .lit (.int .u8 25), .lit (.int .u8 14), .lit (.int .u8 19), .lit (.int .u8 9), .lit (.int .u8 13), .lit (.int .u8 8), .lit (.int .u8 7), .lit (.int .u8 6)]
def laid_internal_strconv_uint64pow10 {H : Type} : DataW H := .agg [.lit (.int .u64 1), .lit (.int .u64 10), .lit (.int .u64 100), .lit (.int .u64 1000), .lit (.int .u64 10000), .lit (.int .u64 100000), .lit (.int .u64 1000000), .lit (.int .u64 10000000), .lit (.int .u64 100000000), .lit (.int .u64 1000000000), .lit (.int .u64 10000000000), .lit (.int .u64 100000000000), .lit (.int .u64 1000000000000), .lit (.int .u64 10000000000000), .lit (.int .u64 100000000000000), .lit (.int .u64 1000000000000000), .lit (.int .u64 10000000000000000), .lit (.int .u64 100000000000000000), .lit (.int .u64 1000000000000000000), .lit (.int .u64 10000000000000000000)]
def laid_strconv_ErrRange {H : Type} : DataW H := .iface "*errors.errorString" (.ptr (.agg [.lit (.string [118, 97, 108, 117, 101, 32, 111, 117, 116, 32, 111, 102, 32, 114, 97, 110, 103, 101])]))
def laid_strconv_ErrSyntax {H : Type} : DataW H := .iface "*errors.errorString" (.ptr (.agg [.lit (.string [105, 110, 118, 97, 108, 105, 100, 32, 115, 121, 110, 116, 97, 120])]))
def laid_docket_text_signs {H : Type} : DataW H := .agg [.lit (.string [123]), .lit (.string [125]), .lit (.string [40]), .lit (.string [41]), .lit (.string [44]), .lit (.string [59]), .lit (.string [58]), .lit (.string [58, 61]), .lit (.string [61]), .lit (.string [33, 61]), .lit (.string [60]), .lit (.string [60, 61]), .lit (.string [62]), .lit (.string [62, 61]), .lit (.string [43]), .lit (.string [45]), .lit (.string [42]), .lit (.string [47]), .lit (.string [37])]
def laid_docket_text_reserved {H : Type} : DataW H := .agg [.lit (.string [116, 121, 112, 101]), .lit (.string [97, 116, 116, 114, 105, 98, 117, 116, 101]), .lit (.string [115, 116, 97, 103, 101]), .lit (.string [109, 105, 108, 101, 115, 116, 111, 110, 101]), .lit (.string [115, 116, 101, 112]), .lit (.string [105, 110]), .lit (.string [111, 112, 101, 110, 115]), .lit (.string [99, 108, 111, 115, 101, 115]), .lit (.string [114, 101, 97, 99, 104, 101, 100]), .lit (.string [119, 104, 101, 110]), .lit (.string [114, 101, 111, 112, 101, 110]), .lit (.string [105, 110, 116]), .lit (.string [98, 111, 111, 108]), .lit (.string [116, 101, 120, 116]), .lit (.string [116, 105, 109, 101]), .lit (.string [115, 101, 116]), .lit (.string [111, 112, 116, 105, 111, 110, 97, 108]), .lit (.string [105, 102]), .lit (.string [116, 104, 101, 110]), .lit (.string [101, 108, 115, 101]), .lit (.string [111, 114]), .lit (.string [97, 110, 100]), .lit (.string [110, 111, 116]), .lit (.string [116, 114, 117, 101]), .lit (.string [102, 97, 108, 115, 101]), .lit (.string [110, 111, 116, 104, 105, 110, 103]), .lit (.string [104, 97, 115]), .lit (.string [115, 105, 122, 101]), .lit (.string [106, 111, 105, 110]), .lit (.string [111, 112, 101, 110]), .lit (.string [99, 108, 111, 99, 107]), .lit (.string [115, 116, 101, 112, 115]), .lit (.string [109, 105, 110]), .lit (.string [109, 97, 120]), .lit (.string [100, 101, 102, 97, 117, 108, 116])]

/-- 'docketlaw9.TextPrints': WHATEVER THE INPUT: true; the input reads as it did. -/
def textPrintsSpec : ChangeSpec := { name := "textPrints", fn := fun _ => fun
  | [d] => { results := [.lit (.bool true)], args := [d] }
  | _ => none }
def textPrintsRow : OpenClaim := { program := "ytmmjcbbogokmfaagreatdoor", sum := "4e1a425b9f93ae8bc9c7db5da89063429fcbc5810c779ee113c4d51d0dc55eba", func := "docket/docketlaw9.TextPrints", spec := "textPrints", unfollowed := true, recurses := true, named := ["docket/text.reserved", "docket/text.signs", "strconv.ErrSyntax", "strconv.ErrRange", "internal/strconv.uint64pow10", "math/bits.deBruijn32tab", "math/bits.deBruijn64tab", "docket/docketref9.reserved"], apart := false, laid := [("docket/docketref9.reserved", laid_docket_docketref9_reserved), ("math/bits.deBruijn32tab", laid_math_bits_deBruijn32tab), ("math/bits.deBruijn64tab", laid_math_bits_deBruijn64tab), ("internal/strconv.uint64pow10", laid_internal_strconv_uint64pow10), ("strconv.ErrRange", laid_strconv_ErrRange), ("strconv.ErrSyntax", laid_strconv_ErrSyntax), ("docket/text.signs", laid_docket_text_signs), ("docket/text.reserved", laid_docket_text_reserved)] }
def TextPrintsSaid : Prop := textPrintsRow.holds Tryz.pinned (OpenSpec.ofChange textPrintsSpec)

/-- ITS FALSE NEIGHBOUR: 'it returns false'. Refute it at one input. -/
def textPrintsWrong : ChangeSpec := { name := "textPrints", fn := fun _ => fun
  | [d] => { results := [.lit (.bool false)], args := [d] }
  | _ => none }
def TextPrintsWrongFalsely : Prop := textPrintsRow.holds Tryz.pinned (OpenSpec.ofChange textPrintsWrong)

/-- 'docketlaw9.TextLegal': WHATEVER THE INPUT: true; the input reads as it did. -/
def textLegalSpec : ChangeSpec := { name := "textLegal", fn := fun _ => fun
  | [d1, d2] => { results := [.lit (.bool true)], args := [d1, d2] }
  | _ => none }
def textLegalRow : OpenClaim := { program := "ytmmjcbbogokmfaagreatdoor", sum := "4e1a425b9f93ae8bc9c7db5da89063429fcbc5810c779ee113c4d51d0dc55eba", func := "docket/docketlaw9.TextLegal", spec := "textLegal", unfollowed := true, recurses := true, named := ["docket/text.reserved", "docket/docketref9.reserved", "docket/text.signs", "strconv.ErrSyntax", "strconv.ErrRange", "internal/strconv.uint64pow10", "math/bits.deBruijn32tab", "math/bits.deBruijn64tab"], apart := false, laid := [("docket/docketref9.reserved", laid_docket_docketref9_reserved), ("math/bits.deBruijn32tab", laid_math_bits_deBruijn32tab), ("math/bits.deBruijn64tab", laid_math_bits_deBruijn64tab), ("internal/strconv.uint64pow10", laid_internal_strconv_uint64pow10), ("strconv.ErrRange", laid_strconv_ErrRange), ("strconv.ErrSyntax", laid_strconv_ErrSyntax), ("docket/text.signs", laid_docket_text_signs), ("docket/text.reserved", laid_docket_text_reserved)] }
def TextLegalSaid : Prop := textLegalRow.holds Tryz.pinned (OpenSpec.ofChange textLegalSpec)

/-- ITS FALSE NEIGHBOUR: 'it returns false'. Refute it at one input. -/
def textLegalWrong : ChangeSpec := { name := "textLegal", fn := fun _ => fun
  | [d1, d2] => { results := [.lit (.bool false)], args := [d1, d2] }
  | _ => none }
def TextLegalWrongFalsely : Prop := textLegalRow.holds Tryz.pinned (OpenSpec.ofChange textLegalWrong)

/-- 'docketlaw9.TextFirst': WHATEVER THE INPUT: true; the input reads as it did. -/
def textFirstSpec : ChangeSpec := { name := "textFirst", fn := fun _ => fun
  | [d] => { results := [.lit (.bool true)], args := [d] }
  | _ => none }
def textFirstRow : OpenClaim := { program := "ytmmjcbbogokmfaagreatdoor", sum := "4e1a425b9f93ae8bc9c7db5da89063429fcbc5810c779ee113c4d51d0dc55eba", func := "docket/docketlaw9.TextFirst", spec := "textFirst", unfollowed := true, recurses := true, named := ["docket/text.reserved", "docket/text.signs", "strconv.ErrSyntax", "strconv.ErrRange", "internal/strconv.uint64pow10", "math/bits.deBruijn32tab", "math/bits.deBruijn64tab"], apart := false, laid := [("math/bits.deBruijn32tab", laid_math_bits_deBruijn32tab), ("math/bits.deBruijn64tab", laid_math_bits_deBruijn64tab), ("internal/strconv.uint64pow10", laid_internal_strconv_uint64pow10), ("strconv.ErrRange", laid_strconv_ErrRange), ("strconv.ErrSyntax", laid_strconv_ErrSyntax), ("docket/text.signs", laid_docket_text_signs), ("docket/text.reserved", laid_docket_text_reserved)] }
def TextFirstSaid : Prop := textFirstRow.holds Tryz.pinned (OpenSpec.ofChange textFirstSpec)

/-- ITS FALSE NEIGHBOUR: 'it returns false'. Refute it at one input. -/
def textFirstWrong : ChangeSpec := { name := "textFirst", fn := fun _ => fun
  | [d] => { results := [.lit (.bool false)], args := [d] }
  | _ => none }
def TextFirstWrongFalsely : Prop := textFirstRow.holds Tryz.pinned (OpenSpec.ofChange textFirstWrong)

/-- 'docketlaw9.TextShortest': WHATEVER THE INPUT: true; the input reads as it did. -/
def textShortestSpec : ChangeSpec := { name := "textShortest", fn := fun _ => fun
  | [d1, d2] => { results := [.lit (.bool true)], args := [d1, d2] }
  | _ => none }
def textShortestRow : OpenClaim := { program := "ytmmjcbbogokmfaagreatdoor", sum := "4e1a425b9f93ae8bc9c7db5da89063429fcbc5810c779ee113c4d51d0dc55eba", func := "docket/docketlaw9.TextShortest", spec := "textShortest", unfollowed := true, recurses := true, named := ["docket/text.reserved", "docket/text.signs", "strconv.ErrSyntax", "strconv.ErrRange", "internal/strconv.uint64pow10", "math/bits.deBruijn32tab", "math/bits.deBruijn64tab"], apart := false, laid := [("math/bits.deBruijn32tab", laid_math_bits_deBruijn32tab), ("math/bits.deBruijn64tab", laid_math_bits_deBruijn64tab), ("internal/strconv.uint64pow10", laid_internal_strconv_uint64pow10), ("strconv.ErrRange", laid_strconv_ErrRange), ("strconv.ErrSyntax", laid_strconv_ErrSyntax), ("docket/text.signs", laid_docket_text_signs), ("docket/text.reserved", laid_docket_text_reserved)] }
def TextShortestSaid : Prop := textShortestRow.holds Tryz.pinned (OpenSpec.ofChange textShortestSpec)

/-- ITS FALSE NEIGHBOUR: 'it returns false'. Refute it at one input. -/
def textShortestWrong : ChangeSpec := { name := "textShortest", fn := fun _ => fun
  | [d1, d2] => { results := [.lit (.bool false)], args := [d1, d2] }
  | _ => none }
def TextShortestWrongFalsely : Prop := textShortestRow.holds Tryz.pinned (OpenSpec.ofChange textShortestWrong)

/-- 'docketlaw9.TextBlanks': WHATEVER THE INPUT: true; the input reads as it did. -/
def textBlanksSpec : ChangeSpec := { name := "textBlanks", fn := fun _ => fun
  | [d1, d2] => { results := [.lit (.bool true)], args := [d1, d2] }
  | _ => none }
def textBlanksRow : OpenClaim := { program := "ytmmjcbbogokmfaagreatdoor", sum := "4e1a425b9f93ae8bc9c7db5da89063429fcbc5810c779ee113c4d51d0dc55eba", func := "docket/docketlaw9.TextBlanks", spec := "textBlanks", unfollowed := true, recurses := true, named := ["docket/text.reserved", "docket/text.signs", "strconv.ErrSyntax", "strconv.ErrRange", "internal/strconv.uint64pow10", "math/bits.deBruijn32tab", "math/bits.deBruijn64tab"], apart := false, laid := [("math/bits.deBruijn32tab", laid_math_bits_deBruijn32tab), ("math/bits.deBruijn64tab", laid_math_bits_deBruijn64tab), ("internal/strconv.uint64pow10", laid_internal_strconv_uint64pow10), ("strconv.ErrRange", laid_strconv_ErrRange), ("strconv.ErrSyntax", laid_strconv_ErrSyntax), ("docket/text.signs", laid_docket_text_signs), ("docket/text.reserved", laid_docket_text_reserved)] }
def TextBlanksSaid : Prop := textBlanksRow.holds Tryz.pinned (OpenSpec.ofChange textBlanksSpec)

/-- ITS FALSE NEIGHBOUR: 'it returns false'. Refute it at one input. -/
def textBlanksWrong : ChangeSpec := { name := "textBlanks", fn := fun _ => fun
  | [d1, d2] => { results := [.lit (.bool false)], args := [d1, d2] }
  | _ => none }
def TextBlanksWrongFalsely : Prop := textBlanksRow.holds Tryz.pinned (OpenSpec.ofChange textBlanksWrong)

/-- 'docketlaw9.TextNests': WHATEVER THE INPUT: true; the input reads as it did. -/
def textNestsSpec : ChangeSpec := { name := "textNests", fn := fun _ => fun
  | [d1, d2, d3] => { results := [.lit (.bool true)], args := [d1, d2, d3] }
  | _ => none }
def textNestsRow : OpenClaim := { program := "ytmmjcbbogokmfaagreatdoor", sum := "4e1a425b9f93ae8bc9c7db5da89063429fcbc5810c779ee113c4d51d0dc55eba", func := "docket/docketlaw9.TextNests", spec := "textNests", unfollowed := true, recurses := true, named := ["docket/text.reserved", "docket/text.signs", "strconv.ErrSyntax", "strconv.ErrRange", "internal/strconv.uint64pow10", "math/bits.deBruijn32tab", "math/bits.deBruijn64tab"], apart := false, laid := [("math/bits.deBruijn32tab", laid_math_bits_deBruijn32tab), ("math/bits.deBruijn64tab", laid_math_bits_deBruijn64tab), ("internal/strconv.uint64pow10", laid_internal_strconv_uint64pow10), ("strconv.ErrRange", laid_strconv_ErrRange), ("strconv.ErrSyntax", laid_strconv_ErrSyntax), ("docket/text.signs", laid_docket_text_signs), ("docket/text.reserved", laid_docket_text_reserved)] }
def TextNestsSaid : Prop := textNestsRow.holds Tryz.pinned (OpenSpec.ofChange textNestsSpec)

/-- ITS FALSE NEIGHBOUR: 'it returns false'. Refute it at one input. -/
def textNestsWrong : ChangeSpec := { name := "textNests", fn := fun _ => fun
  | [d1, d2, d3] => { results := [.lit (.bool false)], args := [d1, d2, d3] }
  | _ => none }
def TextNestsWrongFalsely : Prop := textNestsRow.holds Tryz.pinned (OpenSpec.ofChange textNestsWrong)

/-- 'docketlaw9.TextKept': WHATEVER THE INPUT: true; the input reads as it did. -/
def textKeptSpec : ChangeSpec := { name := "textKept", fn := fun _ => fun
  | [d] => { results := [.lit (.bool true)], args := [d] }
  | _ => none }
def textKeptRow : OpenClaim := { program := "ytmmjcbbogokmfaagreatdoor", sum := "4e1a425b9f93ae8bc9c7db5da89063429fcbc5810c779ee113c4d51d0dc55eba", func := "docket/docketlaw9.TextKept", spec := "textKept", unfollowed := true, recurses := true, named := ["docket/text.reserved", "docket/text.signs", "strconv.ErrSyntax", "strconv.ErrRange", "internal/strconv.uint64pow10", "math/bits.deBruijn32tab", "math/bits.deBruijn64tab", "docket/docketref9.reserved"], apart := false, laid := [("docket/docketref9.reserved", laid_docket_docketref9_reserved), ("math/bits.deBruijn32tab", laid_math_bits_deBruijn32tab), ("math/bits.deBruijn64tab", laid_math_bits_deBruijn64tab), ("internal/strconv.uint64pow10", laid_internal_strconv_uint64pow10), ("strconv.ErrRange", laid_strconv_ErrRange), ("strconv.ErrSyntax", laid_strconv_ErrSyntax), ("docket/text.signs", laid_docket_text_signs), ("docket/text.reserved", laid_docket_text_reserved)] }
def TextKeptSaid : Prop := textKeptRow.holds Tryz.pinned (OpenSpec.ofChange textKeptSpec)

/-- ITS FALSE NEIGHBOUR: 'it returns false'. Refute it at one input. -/
def textKeptWrong : ChangeSpec := { name := "textKept", fn := fun _ => fun
  | [d] => { results := [.lit (.bool false)], args := [d] }
  | _ => none }
def TextKeptWrongFalsely : Prop := textKeptRow.holds Tryz.pinned (OpenSpec.ofChange textKeptWrong)

/-- 'docketlaw9.TextAsked': WHATEVER THE INPUT: true; the input reads as it did. -/
def textAskedSpec : ChangeSpec := { name := "textAsked", fn := fun _ => fun
  | [d1, d2] => { results := [.lit (.bool true)], args := [d1, d2] }
  | _ => none }
def textAskedRow : OpenClaim := { program := "ytmmjcbbogokmfaagreatdoor", sum := "4e1a425b9f93ae8bc9c7db5da89063429fcbc5810c779ee113c4d51d0dc55eba", func := "docket/docketlaw9.TextAsked", spec := "textAsked", unfollowed := true, recurses := true, named := ["docket/text.reserved", "docket/text.signs", "strconv.ErrSyntax", "strconv.ErrRange", "internal/strconv.uint64pow10", "math/bits.deBruijn32tab", "math/bits.deBruijn64tab"], apart := false, laid := [("math/bits.deBruijn32tab", laid_math_bits_deBruijn32tab), ("math/bits.deBruijn64tab", laid_math_bits_deBruijn64tab), ("internal/strconv.uint64pow10", laid_internal_strconv_uint64pow10), ("strconv.ErrRange", laid_strconv_ErrRange), ("strconv.ErrSyntax", laid_strconv_ErrSyntax), ("docket/text.signs", laid_docket_text_signs), ("docket/text.reserved", laid_docket_text_reserved)] }
def TextAskedSaid : Prop := textAskedRow.holds Tryz.pinned (OpenSpec.ofChange textAskedSpec)

/-- ITS FALSE NEIGHBOUR: 'it returns false'. Refute it at one input. -/
def textAskedWrong : ChangeSpec := { name := "textAsked", fn := fun _ => fun
  | [d1, d2] => { results := [.lit (.bool false)], args := [d1, d2] }
  | _ => none }
def TextAskedWrongFalsely : Prop := textAskedRow.holds Tryz.pinned (OpenSpec.ofChange textAskedWrong)

/- THE SECOND FORM. 'bulk': how many values and letters a reading holds, each counted each time it is reached (what is shared counts as often as it is met; a slice's spare places count too). A statement '..UptoSaid' is the law's where the arguments, and the package variables that the reading takes, are together of bulk at most 1048576: NARROWER than '..Said'. Prove '..Said' where nothing that the law and all that it calls make is longer than what came in: it says more and counts as full. Else prove '..UptoSaid'. A law counts once. -/
mutual
def uptoBulk {H : Type} : DataW H → Nat
  | .lit (.string bytes) => bytes.length + 1
  | .lit _ => 1
  | .nil => 1
  | .ptr d => uptoBulk d + 1
  | .slice elems spare => uptoBulkAll elems + uptoBulkAll spare + 1
  | .agg parts => uptoBulkAll parts + 1
  | .iface _ d => uptoBulk d + 1
  | .map entries => uptoBulkEntries entries + 1
  | .held _ => 1
def uptoBulkAll {H : Type} : List (DataW H) → Nat
  | [] => 0
  | d :: r => uptoBulk d + uptoBulkAll r
def uptoBulkEntries {H : Type} : List (Lit × DataW H) → Nat
  | [] => 0
  | x :: r => uptoBulkEntry x + uptoBulkEntries r
def uptoBulkEntry {H : Type} : Lit × DataW H → Nat
  | (.string bytes, d) => bytes.length + uptoBulk d + 1
  | (_, d) => uptoBulk d + 1
 end
def uptoSmall : (H : Type) → List (DataW H) → Bool := fun _ ds => decide (uptoBulkAll ds ≤ 1048576)
def OpenSpec.upto (s : _root_.Go.ChangeSpec) : _root_.Go.OpenSpec := { _root_.Go.OpenSpec.ofChange s with cond := some uptoSmall }

/-- 'docketlaw9.TextPrints', WHERE WHAT IT READS IS OF BULK AT MOST 1048576: true; the input reads as it did. -/
def textPrintsUptoRow : OpenClaim := { program := "ytmmjcbbogokmfaagreatdoor", sum := "4e1a425b9f93ae8bc9c7db5da89063429fcbc5810c779ee113c4d51d0dc55eba", func := "docket/docketlaw9.TextPrints", spec := "textPrints", unfollowed := true, recurses := true, named := ["docket/text.reserved", "docket/text.signs", "strconv.ErrSyntax", "strconv.ErrRange", "internal/strconv.uint64pow10", "math/bits.deBruijn32tab", "math/bits.deBruijn64tab", "docket/docketref9.reserved"], apart := false, laid := [("docket/docketref9.reserved", laid_docket_docketref9_reserved), ("math/bits.deBruijn32tab", laid_math_bits_deBruijn32tab), ("math/bits.deBruijn64tab", laid_math_bits_deBruijn64tab), ("internal/strconv.uint64pow10", laid_internal_strconv_uint64pow10), ("strconv.ErrRange", laid_strconv_ErrRange), ("strconv.ErrSyntax", laid_strconv_ErrSyntax), ("docket/text.signs", laid_docket_text_signs), ("docket/text.reserved", laid_docket_text_reserved)], narrowed := true }
def TextPrintsUptoSaid : Prop := textPrintsUptoRow.holds Tryz.pinned (OpenSpec.upto textPrintsSpec)

/-- 'docketlaw9.TextLegal', WHERE WHAT IT READS IS OF BULK AT MOST 1048576: true; the input reads as it did. -/
def textLegalUptoRow : OpenClaim := { program := "ytmmjcbbogokmfaagreatdoor", sum := "4e1a425b9f93ae8bc9c7db5da89063429fcbc5810c779ee113c4d51d0dc55eba", func := "docket/docketlaw9.TextLegal", spec := "textLegal", unfollowed := true, recurses := true, named := ["docket/text.reserved", "docket/docketref9.reserved", "docket/text.signs", "strconv.ErrSyntax", "strconv.ErrRange", "internal/strconv.uint64pow10", "math/bits.deBruijn32tab", "math/bits.deBruijn64tab"], apart := false, laid := [("docket/docketref9.reserved", laid_docket_docketref9_reserved), ("math/bits.deBruijn32tab", laid_math_bits_deBruijn32tab), ("math/bits.deBruijn64tab", laid_math_bits_deBruijn64tab), ("internal/strconv.uint64pow10", laid_internal_strconv_uint64pow10), ("strconv.ErrRange", laid_strconv_ErrRange), ("strconv.ErrSyntax", laid_strconv_ErrSyntax), ("docket/text.signs", laid_docket_text_signs), ("docket/text.reserved", laid_docket_text_reserved)], narrowed := true }
def TextLegalUptoSaid : Prop := textLegalUptoRow.holds Tryz.pinned (OpenSpec.upto textLegalSpec)

/-- 'docketlaw9.TextFirst', WHERE WHAT IT READS IS OF BULK AT MOST 1048576: true; the input reads as it did. -/
def textFirstUptoRow : OpenClaim := { program := "ytmmjcbbogokmfaagreatdoor", sum := "4e1a425b9f93ae8bc9c7db5da89063429fcbc5810c779ee113c4d51d0dc55eba", func := "docket/docketlaw9.TextFirst", spec := "textFirst", unfollowed := true, recurses := true, named := ["docket/text.reserved", "docket/text.signs", "strconv.ErrSyntax", "strconv.ErrRange", "internal/strconv.uint64pow10", "math/bits.deBruijn32tab", "math/bits.deBruijn64tab"], apart := false, laid := [("math/bits.deBruijn32tab", laid_math_bits_deBruijn32tab), ("math/bits.deBruijn64tab", laid_math_bits_deBruijn64tab), ("internal/strconv.uint64pow10", laid_internal_strconv_uint64pow10), ("strconv.ErrRange", laid_strconv_ErrRange), ("strconv.ErrSyntax", laid_strconv_ErrSyntax), ("docket/text.signs", laid_docket_text_signs), ("docket/text.reserved", laid_docket_text_reserved)], narrowed := true }
def TextFirstUptoSaid : Prop := textFirstUptoRow.holds Tryz.pinned (OpenSpec.upto textFirstSpec)

/-- 'docketlaw9.TextShortest', WHERE WHAT IT READS IS OF BULK AT MOST 1048576: true; the input reads as it did. -/
def textShortestUptoRow : OpenClaim := { program := "ytmmjcbbogokmfaagreatdoor", sum := "4e1a425b9f93ae8bc9c7db5da89063429fcbc5810c779ee113c4d51d0dc55eba", func := "docket/docketlaw9.TextShortest", spec := "textShortest", unfollowed := true, recurses := true, named := ["docket/text.reserved", "docket/text.signs", "strconv.ErrSyntax", "strconv.ErrRange", "internal/strconv.uint64pow10", "math/bits.deBruijn32tab", "math/bits.deBruijn64tab"], apart := false, laid := [("math/bits.deBruijn32tab", laid_math_bits_deBruijn32tab), ("math/bits.deBruijn64tab", laid_math_bits_deBruijn64tab), ("internal/strconv.uint64pow10", laid_internal_strconv_uint64pow10), ("strconv.ErrRange", laid_strconv_ErrRange), ("strconv.ErrSyntax", laid_strconv_ErrSyntax), ("docket/text.signs", laid_docket_text_signs), ("docket/text.reserved", laid_docket_text_reserved)], narrowed := true }
def TextShortestUptoSaid : Prop := textShortestUptoRow.holds Tryz.pinned (OpenSpec.upto textShortestSpec)

/-- 'docketlaw9.TextBlanks', WHERE WHAT IT READS IS OF BULK AT MOST 1048576: true; the input reads as it did. -/
def textBlanksUptoRow : OpenClaim := { program := "ytmmjcbbogokmfaagreatdoor", sum := "4e1a425b9f93ae8bc9c7db5da89063429fcbc5810c779ee113c4d51d0dc55eba", func := "docket/docketlaw9.TextBlanks", spec := "textBlanks", unfollowed := true, recurses := true, named := ["docket/text.reserved", "docket/text.signs", "strconv.ErrSyntax", "strconv.ErrRange", "internal/strconv.uint64pow10", "math/bits.deBruijn32tab", "math/bits.deBruijn64tab"], apart := false, laid := [("math/bits.deBruijn32tab", laid_math_bits_deBruijn32tab), ("math/bits.deBruijn64tab", laid_math_bits_deBruijn64tab), ("internal/strconv.uint64pow10", laid_internal_strconv_uint64pow10), ("strconv.ErrRange", laid_strconv_ErrRange), ("strconv.ErrSyntax", laid_strconv_ErrSyntax), ("docket/text.signs", laid_docket_text_signs), ("docket/text.reserved", laid_docket_text_reserved)], narrowed := true }
def TextBlanksUptoSaid : Prop := textBlanksUptoRow.holds Tryz.pinned (OpenSpec.upto textBlanksSpec)

/-- 'docketlaw9.TextNests', WHERE WHAT IT READS IS OF BULK AT MOST 1048576: true; the input reads as it did. -/
def textNestsUptoRow : OpenClaim := { program := "ytmmjcbbogokmfaagreatdoor", sum := "4e1a425b9f93ae8bc9c7db5da89063429fcbc5810c779ee113c4d51d0dc55eba", func := "docket/docketlaw9.TextNests", spec := "textNests", unfollowed := true, recurses := true, named := ["docket/text.reserved", "docket/text.signs", "strconv.ErrSyntax", "strconv.ErrRange", "internal/strconv.uint64pow10", "math/bits.deBruijn32tab", "math/bits.deBruijn64tab"], apart := false, laid := [("math/bits.deBruijn32tab", laid_math_bits_deBruijn32tab), ("math/bits.deBruijn64tab", laid_math_bits_deBruijn64tab), ("internal/strconv.uint64pow10", laid_internal_strconv_uint64pow10), ("strconv.ErrRange", laid_strconv_ErrRange), ("strconv.ErrSyntax", laid_strconv_ErrSyntax), ("docket/text.signs", laid_docket_text_signs), ("docket/text.reserved", laid_docket_text_reserved)], narrowed := true }
def TextNestsUptoSaid : Prop := textNestsUptoRow.holds Tryz.pinned (OpenSpec.upto textNestsSpec)

/-- 'docketlaw9.TextKept', WHERE WHAT IT READS IS OF BULK AT MOST 1048576: true; the input reads as it did. -/
def textKeptUptoRow : OpenClaim := { program := "ytmmjcbbogokmfaagreatdoor", sum := "4e1a425b9f93ae8bc9c7db5da89063429fcbc5810c779ee113c4d51d0dc55eba", func := "docket/docketlaw9.TextKept", spec := "textKept", unfollowed := true, recurses := true, named := ["docket/text.reserved", "docket/text.signs", "strconv.ErrSyntax", "strconv.ErrRange", "internal/strconv.uint64pow10", "math/bits.deBruijn32tab", "math/bits.deBruijn64tab", "docket/docketref9.reserved"], apart := false, laid := [("docket/docketref9.reserved", laid_docket_docketref9_reserved), ("math/bits.deBruijn32tab", laid_math_bits_deBruijn32tab), ("math/bits.deBruijn64tab", laid_math_bits_deBruijn64tab), ("internal/strconv.uint64pow10", laid_internal_strconv_uint64pow10), ("strconv.ErrRange", laid_strconv_ErrRange), ("strconv.ErrSyntax", laid_strconv_ErrSyntax), ("docket/text.signs", laid_docket_text_signs), ("docket/text.reserved", laid_docket_text_reserved)], narrowed := true }
def TextKeptUptoSaid : Prop := textKeptUptoRow.holds Tryz.pinned (OpenSpec.upto textKeptSpec)

/-- 'docketlaw9.TextAsked', WHERE WHAT IT READS IS OF BULK AT MOST 1048576: true; the input reads as it did. -/
def textAskedUptoRow : OpenClaim := { program := "ytmmjcbbogokmfaagreatdoor", sum := "4e1a425b9f93ae8bc9c7db5da89063429fcbc5810c779ee113c4d51d0dc55eba", func := "docket/docketlaw9.TextAsked", spec := "textAsked", unfollowed := true, recurses := true, named := ["docket/text.reserved", "docket/text.signs", "strconv.ErrSyntax", "strconv.ErrRange", "internal/strconv.uint64pow10", "math/bits.deBruijn32tab", "math/bits.deBruijn64tab"], apart := false, laid := [("math/bits.deBruijn32tab", laid_math_bits_deBruijn32tab), ("math/bits.deBruijn64tab", laid_math_bits_deBruijn64tab), ("internal/strconv.uint64pow10", laid_internal_strconv_uint64pow10), ("strconv.ErrRange", laid_strconv_ErrRange), ("strconv.ErrSyntax", laid_strconv_ErrSyntax), ("docket/text.signs", laid_docket_text_signs), ("docket/text.reserved", laid_docket_text_reserved)], narrowed := true }
def TextAskedUptoSaid : Prop := textAskedUptoRow.holds Tryz.pinned (OpenSpec.upto textAskedSpec)

end Rows
end Go.Proofs.YtmmjcbbogokmfaaGreatDoor
