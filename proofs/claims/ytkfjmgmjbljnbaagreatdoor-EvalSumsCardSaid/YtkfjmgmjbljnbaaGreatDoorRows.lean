/-
  NARROWER THAN 'FOR EVERY INPUT', by the rows' own cells (each row's printed sentence says how): EvalTurns: laid · EvalNulls: laid · EvalSafe: laid · EvalSums: laid · EvalGroups: laid · EvalValues: laid · BindNames: laid · BindKinds: laid · BindExprs: laid · BindTruths: laid · BindSame: laid.
  DERIVED. THE GIVEN ROWS OF THIS SEAT. 11 by the template 'for every input the law returns true; each argument reads behind the call as it read before'; 0 by the template 'total and deterministic' (their statements: YtkfjmgmjbljnbaaGreatDoorTotals.lean).
  GIVEN WITH THE SEED: the statements are not yours to turn. If you find one false, say at which input.
  Laid BY PROGRAM, IN A SANDBOX (cutbox-rows.mjs): the forced cells as the released guide's own fill.sh prints them over the translation b9baf8875ba7fce3… (all of the seat's roots in one cut). By AI agents, Wed Nov 11 2026. No macro, syntax, notation, axiom, sorry.
-/
import Derived.Test.YtkfjmgmjbljnbaaGreatDoorChecked
import GoSem.PinnedTables
import GoSem.Claim
import GoSem.ClaimJoined
import GoSem.ClaimMapViews
import Derived.JoinedTies
import Derived.KernelRfl
namespace Go.Proofs.YtkfjmgmjbljnbaaGreatDoor
/- THE CELL 'sum', in the pinned program and in every row, IS THE sha256 OF THE DUMP (.gsa) THAT YtkfjmgmjbljnbaaGreatDoorProg.lean LOADS. Nothing in Lean hashes anything: it is a label: what it is worth is what the hold of that sum in a sandbox is worth. -/
noncomputable def Tryz.pinned : Pinned := { name := "ytkfjmgmjbljnbaagreatdoor", sum := "b9baf8875ba7fce36b980ef424b84989785f85fc8b2bafb5fdf76c057d910b60", checked := Tryz.checked }
namespace Rows
def none {H : Type} : Left H := { results := [], args := [] }

/- WHAT THE LISTED PACKAGE-LEVEL VARIABLES READ AS WHEN THE CALL BEGINS. Each datum BY PROGRAM (the guide's laid-datum.mjs) off the statement by which the dump's own 'gosem.cut.vars' lays the variable. In a bare row this is a premise. The card (YtkfjmgmjbljnbaaGreatDoorCards.lean) ties it to the program's text. -/
def laid_unicode_utf8_acceptRanges {H : Type} : DataW H := .agg [.agg [.lit (.int .u8 128), .lit (.int .u8 191)], .agg [.lit (.int .u8 160), .lit (.int .u8 191)], .agg [.lit (.int .u8 128), .lit (.int .u8 159)], .agg [.lit (.int .u8 144), .lit (.int .u8 191)], .agg [.lit (.int .u8 128), .lit (.int .u8 143)], .agg [.lit (.int .u8 0), .lit (.int .u8 0)], .agg [.lit (.int .u8 0), .lit (.int .u8 0)], .agg [.lit (.int .u8 0), .lit (.int .u8 0)], .agg [.lit (.int .u8 0), .lit (.int .u8 0)], .agg [.lit (.int .u8 0), .lit (.int .u8 0)], .agg [.lit (.int .u8 0), .lit (.int .u8 0)], .agg [.lit (.int .u8 0), .lit (.int .u8 0)], .agg [.lit (.int .u8 0), .lit (.int .u8 0)], .agg [.lit (.int .u8 0), .lit (.int .u8 0)], .agg [.lit (.int .u8 0), .lit (.int .u8 0)], .agg [.lit (.int .u8 0), .lit (.int .u8 0)]]
def laid_lapidary_parse_reserved {H : Type} : DataW H := .agg [.lit (.string [97, 110, 100]), .lit (.string [97, 115]), .lit (.string [97, 115, 99]), .lit (.string [98, 101, 103, 105, 110]), .lit (.string [98, 111, 111, 108]), .lit (.string [98, 121]), .lit (.string [99, 111, 109, 109, 105, 116]), .lit (.string [99, 111, 117, 110, 116]), .lit (.string [99, 114, 101, 97, 116, 101]), .lit (.string [100, 101, 108, 101, 116, 101]), .lit (.string [100, 101, 115, 99]), .lit (.string [100, 114, 111, 112]), .lit (.string [102, 97, 108, 115, 101]), .lit (.string [102, 114, 111, 109]), .lit (.string [103, 114, 111, 117, 112]), .lit (.string [105, 110, 100, 101, 120]), .lit (.string [105, 110, 115, 101, 114, 116]), .lit (.string [105, 110, 116]), .lit (.string [105, 110, 116, 111]), .lit (.string [105, 115]), .lit (.string [106, 111, 105, 110]), .lit (.string [108, 105, 109, 105, 116]), .lit (.string [109, 97, 120]), .lit (.string [109, 105, 110]), .lit (.string [110, 111, 116]), .lit (.string [110, 117, 108, 108]), .lit (.string [111, 110]), .lit (.string [111, 114]), .lit (.string [111, 114, 100, 101, 114]), .lit (.string [114, 111, 108, 108, 98, 97, 99, 107]), .lit (.string [115, 101, 108, 101, 99, 116]), .lit (.string [115, 101, 116]), .lit (.string [115, 117, 109]), .lit (.string [116, 97, 98, 108, 101]), .lit (.string [116, 101, 120, 116]), .lit (.string [116, 114, 117, 101]), .lit (.string [117, 112, 100, 97, 116, 101]), .lit (.string [118, 97, 108, 117, 101, 115]), .lit (.string [119, 104, 101, 114, 101])]
/-- One of Go's own tables, pinned by name: the form's constant. -/
def laid_unicode_CaseRanges : DataW Unit := Go.Pinned.caseRanges
/-- One of Go's own tables, pinned by name: the form's constant. -/
def laid_unicode_utf8_first : DataW Unit := Go.Pinned.utf8First
def laid_math_bits_deBruijn32tab {H : Type} : DataW H := .agg [.lit (.int .u8 0), .lit (.int .u8 1), .lit (.int .u8 28), .lit (.int .u8 2), .lit (.int .u8 29), .lit (.int .u8 14), .lit (.int .u8 24), .lit (.int .u8 3), .lit (.int .u8 30), .lit (.int .u8 22), .lit (.int .u8 20), .lit (.int .u8 15), .lit (.int .u8 25), .lit (.int .u8 17), .lit (.int .u8 4), .lit (.int .u8 8), .lit (.int .u8 31), .lit (.int .u8 27), .lit (.int .u8 13), .lit (.int .u8 23), .lit (.int .u8 21), .lit (.int .u8 19), .lit (.int .u8 16), .lit (.int .u8 7), .lit (.int .u8 26), .lit (.int .u8 12), .lit (.int .u8 18), .lit (.int .u8 6), .lit (.int .u8 11), .lit (.int .u8 5), .lit (.int .u8 10), .lit (.int .u8 9)]
def laid_math_bits_deBruijn64tab {H : Type} : DataW H := .agg [.lit (.int .u8 0), .lit (.int .u8 1), .lit (.int .u8 56), .lit (.int .u8 2), .lit (.int .u8 57), .lit (.int .u8 49), .lit (.int .u8 28), .lit (.int .u8 3), .lit (.int .u8 61), .lit (.int .u8 58), .lit (.int .u8 42), .lit (.int .u8 50), .lit (.int .u8 38), .lit (.int .u8 29), .lit (.int .u8 17), .lit (.int .u8 4), .lit (.int .u8 62), .lit (.int .u8 47), .lit (.int .u8 59), .lit (.int .u8 36), .lit (.int .u8 45), .lit (.int .u8 43), .lit (.int .u8 51), .lit (.int .u8 22), .lit (.int .u8 53), .lit (.int .u8 39), .lit (.int .u8 33), .lit (.int .u8 30), .lit (.int .u8 24), .lit (.int .u8 18), .lit (.int .u8 12), .lit (.int .u8 5), .lit (.int .u8 63), .lit (.int .u8 55), .lit (.int .u8 48), .lit (.int .u8 27), .lit (.int .u8 60), .lit (.int .u8 41), .lit (.int .u8 37), .lit (.int .u8 16), .lit (.int .u8 46), .lit (.int .u8 35), .lit (.int .u8 44), .lit (.int .u8 21), .lit (.int .u8 52), .lit (.int .u8 32), .lit (.int .u8 23), .lit (.int .u8 11), .lit (.int .u8 54), .lit (.int .u8 26), .lit (.int .u8 40), .lit (.int .u8 15), .lit (.int .u8 34), .lit (.int .u8 20), .lit (.int .u8 31), .lit (.int .u8 10), .lit (.int .u8 25), .lit (.int .u8 14), .lit (.int .u8 19), .lit (.int .u8 9), .lit (.int .u8 13), .lit (.int .u8 8), .lit (.int .u8 7), .lit (.int .u8 6)]
def laid_internal_strconv_uint64pow10 {H : Type} : DataW H := .agg [.lit (.int .u64 1), .lit (.int .u64 10), .lit (.int .u64 100), .lit (.int .u64 1000), .lit (.int .u64 10000), .lit (.int .u64 100000), .lit (.int .u64 1000000), .lit (.int .u64 10000000), .lit (.int .u64 100000000), .lit (.int .u64 1000000000), .lit (.int .u64 10000000000), .lit (.int .u64 100000000000), .lit (.int .u64 1000000000000), .lit (.int .u64 10000000000000), .lit (.int .u64 100000000000000), .lit (.int .u64 1000000000000000), .lit (.int .u64 10000000000000000), .lit (.int .u64 100000000000000000), .lit (.int .u64 1000000000000000000), .lit (.int .u64 10000000000000000000)]

/-- 'lapidarylaw18.EvalTurns': WHATEVER THE INPUT: true; the input reads as it did. -/
def evalTurnsSpec : ChangeSpec := { name := "evalTurns", fn := fun _ => fun
  | [d1, d2, d3, d4] => { results := [.lit (.bool true)], args := [d1, d2, d3, d4] }
  | _ => none }
def evalTurnsRow : OpenClaim := { program := "ytkfjmgmjbljnbaagreatdoor", sum := "b9baf8875ba7fce36b980ef424b84989785f85fc8b2bafb5fdf76c057d910b60", func := "lapidary/lapidarylaw18.EvalTurns", spec := "evalTurns", inPlace := ["internal/bytealg.IndexByteString", "internal/abi.NoEscape", "internal/bytealg.MakeNoZero"], unfollowed := true, recurses := true, named := ["unicode/utf8.first", "unicode/utf8.acceptRanges", "lapidary/parse.reserved", "unicode.CaseRanges"], apart := false, laid := [("unicode/utf8.acceptRanges", laid_unicode_utf8_acceptRanges), ("lapidary/parse.reserved", laid_lapidary_parse_reserved), ("unicode.CaseRanges", laid_unicode_CaseRanges), ("unicode/utf8.first", laid_unicode_utf8_first)] }
def EvalTurnsSaid : Prop := evalTurnsRow.holds Tryz.pinned (OpenSpec.ofChange evalTurnsSpec)

/-- ITS FALSE NEIGHBOUR: 'it returns false'. Refute it at one input. -/
def evalTurnsWrong : ChangeSpec := { name := "evalTurns", fn := fun _ => fun
  | [d1, d2, d3, d4] => { results := [.lit (.bool false)], args := [d1, d2, d3, d4] }
  | _ => none }
def EvalTurnsWrongFalsely : Prop := evalTurnsRow.holds Tryz.pinned (OpenSpec.ofChange evalTurnsWrong)

/-- 'lapidarylaw18.EvalNulls': WHATEVER THE INPUT: true; the input reads as it did. -/
def evalNullsSpec : ChangeSpec := { name := "evalNulls", fn := fun _ => fun
  | [d1, d2, d3, d4] => { results := [.lit (.bool true)], args := [d1, d2, d3, d4] }
  | _ => none }
def evalNullsRow : OpenClaim := { program := "ytkfjmgmjbljnbaagreatdoor", sum := "b9baf8875ba7fce36b980ef424b84989785f85fc8b2bafb5fdf76c057d910b60", func := "lapidary/lapidarylaw18.EvalNulls", spec := "evalNulls", inPlace := ["internal/bytealg.IndexByteString", "internal/abi.NoEscape", "internal/bytealg.MakeNoZero"], unfollowed := true, recurses := true, named := ["unicode/utf8.first", "unicode/utf8.acceptRanges", "lapidary/parse.reserved", "unicode.CaseRanges"], apart := false, laid := [("unicode/utf8.acceptRanges", laid_unicode_utf8_acceptRanges), ("lapidary/parse.reserved", laid_lapidary_parse_reserved), ("unicode.CaseRanges", laid_unicode_CaseRanges), ("unicode/utf8.first", laid_unicode_utf8_first)] }
def EvalNullsSaid : Prop := evalNullsRow.holds Tryz.pinned (OpenSpec.ofChange evalNullsSpec)

/-- ITS FALSE NEIGHBOUR: 'it returns false'. Refute it at one input. -/
def evalNullsWrong : ChangeSpec := { name := "evalNulls", fn := fun _ => fun
  | [d1, d2, d3, d4] => { results := [.lit (.bool false)], args := [d1, d2, d3, d4] }
  | _ => none }
def EvalNullsWrongFalsely : Prop := evalNullsRow.holds Tryz.pinned (OpenSpec.ofChange evalNullsWrong)

/-- 'lapidarylaw18.EvalSafe': WHATEVER THE INPUT: true; the input reads as it did. -/
def evalSafeSpec : ChangeSpec := { name := "evalSafe", fn := fun _ => fun
  | [d1, d2, d3] => { results := [.lit (.bool true)], args := [d1, d2, d3] }
  | _ => none }
def evalSafeRow : OpenClaim := { program := "ytkfjmgmjbljnbaagreatdoor", sum := "b9baf8875ba7fce36b980ef424b84989785f85fc8b2bafb5fdf76c057d910b60", func := "lapidary/lapidarylaw18.EvalSafe", spec := "evalSafe", inPlace := ["internal/bytealg.IndexByteString", "internal/abi.NoEscape", "internal/bytealg.MakeNoZero"], unfollowed := true, recurses := true, named := ["unicode/utf8.first", "unicode/utf8.acceptRanges", "lapidary/parse.reserved", "unicode.CaseRanges"], apart := false, laid := [("unicode/utf8.acceptRanges", laid_unicode_utf8_acceptRanges), ("lapidary/parse.reserved", laid_lapidary_parse_reserved), ("unicode.CaseRanges", laid_unicode_CaseRanges), ("unicode/utf8.first", laid_unicode_utf8_first)] }
def EvalSafeSaid : Prop := evalSafeRow.holds Tryz.pinned (OpenSpec.ofChange evalSafeSpec)

/-- ITS FALSE NEIGHBOUR: 'it returns false'. Refute it at one input. -/
def evalSafeWrong : ChangeSpec := { name := "evalSafe", fn := fun _ => fun
  | [d1, d2, d3] => { results := [.lit (.bool false)], args := [d1, d2, d3] }
  | _ => none }
def EvalSafeWrongFalsely : Prop := evalSafeRow.holds Tryz.pinned (OpenSpec.ofChange evalSafeWrong)

/-- 'lapidarylaw18.EvalSums': WHATEVER THE INPUT: true; the input reads as it did. -/
def evalSumsSpec : ChangeSpec := { name := "evalSums", fn := fun _ => fun
  | [d1, d2] => { results := [.lit (.bool true)], args := [d1, d2] }
  | _ => none }
def evalSumsRow : OpenClaim := { program := "ytkfjmgmjbljnbaagreatdoor", sum := "b9baf8875ba7fce36b980ef424b84989785f85fc8b2bafb5fdf76c057d910b60", func := "lapidary/lapidarylaw18.EvalSums", spec := "evalSums", inPlace := ["internal/bytealg.IndexByteString", "internal/abi.NoEscape", "internal/bytealg.MakeNoZero", "math/bits.Add64"], unfollowed := true, recurses := true, named := ["unicode/utf8.first", "unicode/utf8.acceptRanges", "lapidary/parse.reserved", "unicode.CaseRanges"], apart := false, laid := [("unicode/utf8.acceptRanges", laid_unicode_utf8_acceptRanges), ("lapidary/parse.reserved", laid_lapidary_parse_reserved), ("unicode.CaseRanges", laid_unicode_CaseRanges), ("unicode/utf8.first", laid_unicode_utf8_first)] }
def EvalSumsSaid : Prop := evalSumsRow.holds Tryz.pinned (OpenSpec.ofChange evalSumsSpec)

/-- ITS FALSE NEIGHBOUR: 'it returns false'. Refute it at one input. -/
def evalSumsWrong : ChangeSpec := { name := "evalSums", fn := fun _ => fun
  | [d1, d2] => { results := [.lit (.bool false)], args := [d1, d2] }
  | _ => none }
def EvalSumsWrongFalsely : Prop := evalSumsRow.holds Tryz.pinned (OpenSpec.ofChange evalSumsWrong)

/-- 'lapidarylaw18.EvalGroups': WHATEVER THE INPUT: true; the input reads as it did. -/
def evalGroupsSpec : ChangeSpec := { name := "evalGroups", fn := fun _ => fun
  | [d1, d2, d3] => { results := [.lit (.bool true)], args := [d1, d2, d3] }
  | _ => none }
def evalGroupsRow : OpenClaim := { program := "ytkfjmgmjbljnbaagreatdoor", sum := "b9baf8875ba7fce36b980ef424b84989785f85fc8b2bafb5fdf76c057d910b60", func := "lapidary/lapidarylaw18.EvalGroups", spec := "evalGroups", inPlace := ["internal/bytealg.IndexByteString", "internal/abi.NoEscape", "internal/bytealg.MakeNoZero", "math/bits.Add64"], unfollowed := true, recurses := true, named := ["unicode/utf8.first", "unicode/utf8.acceptRanges", "lapidary/parse.reserved", "unicode.CaseRanges"], apart := false, laid := [("unicode/utf8.acceptRanges", laid_unicode_utf8_acceptRanges), ("lapidary/parse.reserved", laid_lapidary_parse_reserved), ("unicode.CaseRanges", laid_unicode_CaseRanges), ("unicode/utf8.first", laid_unicode_utf8_first)] }
def EvalGroupsSaid : Prop := evalGroupsRow.holds Tryz.pinned (OpenSpec.ofChange evalGroupsSpec)

/-- ITS FALSE NEIGHBOUR: 'it returns false'. Refute it at one input. -/
def evalGroupsWrong : ChangeSpec := { name := "evalGroups", fn := fun _ => fun
  | [d1, d2, d3] => { results := [.lit (.bool false)], args := [d1, d2, d3] }
  | _ => none }
def EvalGroupsWrongFalsely : Prop := evalGroupsRow.holds Tryz.pinned (OpenSpec.ofChange evalGroupsWrong)

/-- 'lapidarylaw18.EvalValues': WHATEVER THE INPUT: true; the input reads as it did. -/
def evalValuesSpec : ChangeSpec := { name := "evalValues", fn := fun _ => fun
  | [d1, d2, d3] => { results := [.lit (.bool true)], args := [d1, d2, d3] }
  | _ => none }
def evalValuesRow : OpenClaim := { program := "ytkfjmgmjbljnbaagreatdoor", sum := "b9baf8875ba7fce36b980ef424b84989785f85fc8b2bafb5fdf76c057d910b60", func := "lapidary/lapidarylaw18.EvalValues", spec := "evalValues", inPlace := ["internal/bytealg.IndexByteString", "internal/abi.NoEscape", "internal/bytealg.MakeNoZero", "math/bits.Add64"], unfollowed := true, recurses := true, named := ["unicode/utf8.first", "unicode/utf8.acceptRanges", "lapidary/parse.reserved", "unicode.CaseRanges"], apart := false, laid := [("unicode/utf8.acceptRanges", laid_unicode_utf8_acceptRanges), ("lapidary/parse.reserved", laid_lapidary_parse_reserved), ("unicode.CaseRanges", laid_unicode_CaseRanges), ("unicode/utf8.first", laid_unicode_utf8_first)] }
def EvalValuesSaid : Prop := evalValuesRow.holds Tryz.pinned (OpenSpec.ofChange evalValuesSpec)

/-- ITS FALSE NEIGHBOUR: 'it returns false'. Refute it at one input. -/
def evalValuesWrong : ChangeSpec := { name := "evalValues", fn := fun _ => fun
  | [d1, d2, d3] => { results := [.lit (.bool false)], args := [d1, d2, d3] }
  | _ => none }
def EvalValuesWrongFalsely : Prop := evalValuesRow.holds Tryz.pinned (OpenSpec.ofChange evalValuesWrong)

/-- 'lapidarylaw17.BindNames': WHATEVER THE INPUT: true; the input reads as it did. -/
def bindNamesSpec : ChangeSpec := { name := "bindNames", fn := fun _ => fun
  | [d1, d2] => { results := [.lit (.bool true)], args := [d1, d2] }
  | _ => none }
def bindNamesRow : OpenClaim := { program := "ytkfjmgmjbljnbaagreatdoor", sum := "b9baf8875ba7fce36b980ef424b84989785f85fc8b2bafb5fdf76c057d910b60", func := "lapidary/lapidarylaw17.BindNames", spec := "bindNames", inPlace := ["internal/bytealg.IndexByteString", "internal/abi.NoEscape", "internal/bytealg.MakeNoZero", "internal/bytealg.CountString", "internal/bytealg.IndexString"], unfollowed := true, recurses := true, named := ["unicode/utf8.first", "unicode/utf8.acceptRanges", "lapidary/parse.reserved", "unicode.CaseRanges", "internal/strconv.uint64pow10", "math/bits.deBruijn32tab", "math/bits.deBruijn64tab", "internal/bytealg.MaxLen"], apart := false, laid := [("math/bits.deBruijn32tab", laid_math_bits_deBruijn32tab), ("math/bits.deBruijn64tab", laid_math_bits_deBruijn64tab), ("internal/strconv.uint64pow10", laid_internal_strconv_uint64pow10), ("unicode/utf8.acceptRanges", laid_unicode_utf8_acceptRanges), ("lapidary/parse.reserved", laid_lapidary_parse_reserved), ("unicode.CaseRanges", laid_unicode_CaseRanges), ("unicode/utf8.first", laid_unicode_utf8_first)] }
def BindNamesSaid : Prop := bindNamesRow.holds Tryz.pinned (OpenSpec.ofChange bindNamesSpec)

/-- ITS FALSE NEIGHBOUR: 'it returns false'. Refute it at one input. -/
def bindNamesWrong : ChangeSpec := { name := "bindNames", fn := fun _ => fun
  | [d1, d2] => { results := [.lit (.bool false)], args := [d1, d2] }
  | _ => none }
def BindNamesWrongFalsely : Prop := bindNamesRow.holds Tryz.pinned (OpenSpec.ofChange bindNamesWrong)

/-- 'lapidarylaw17.BindKinds': WHATEVER THE INPUT: true; the input reads as it did. -/
def bindKindsSpec : ChangeSpec := { name := "bindKinds", fn := fun _ => fun
  | [d1, d2] => { results := [.lit (.bool true)], args := [d1, d2] }
  | _ => none }
def bindKindsRow : OpenClaim := { program := "ytkfjmgmjbljnbaagreatdoor", sum := "b9baf8875ba7fce36b980ef424b84989785f85fc8b2bafb5fdf76c057d910b60", func := "lapidary/lapidarylaw17.BindKinds", spec := "bindKinds", inPlace := ["internal/bytealg.IndexByteString", "internal/abi.NoEscape", "internal/bytealg.MakeNoZero", "internal/bytealg.CountString", "internal/bytealg.IndexString"], unfollowed := true, recurses := true, named := ["unicode/utf8.first", "unicode/utf8.acceptRanges", "lapidary/parse.reserved", "unicode.CaseRanges", "internal/strconv.uint64pow10", "math/bits.deBruijn32tab", "math/bits.deBruijn64tab", "internal/bytealg.MaxLen"], apart := false, laid := [("math/bits.deBruijn32tab", laid_math_bits_deBruijn32tab), ("math/bits.deBruijn64tab", laid_math_bits_deBruijn64tab), ("internal/strconv.uint64pow10", laid_internal_strconv_uint64pow10), ("unicode/utf8.acceptRanges", laid_unicode_utf8_acceptRanges), ("lapidary/parse.reserved", laid_lapidary_parse_reserved), ("unicode.CaseRanges", laid_unicode_CaseRanges), ("unicode/utf8.first", laid_unicode_utf8_first)] }
def BindKindsSaid : Prop := bindKindsRow.holds Tryz.pinned (OpenSpec.ofChange bindKindsSpec)

/-- ITS FALSE NEIGHBOUR: 'it returns false'. Refute it at one input. -/
def bindKindsWrong : ChangeSpec := { name := "bindKinds", fn := fun _ => fun
  | [d1, d2] => { results := [.lit (.bool false)], args := [d1, d2] }
  | _ => none }
def BindKindsWrongFalsely : Prop := bindKindsRow.holds Tryz.pinned (OpenSpec.ofChange bindKindsWrong)

/-- 'lapidarylaw17.BindExprs': WHATEVER THE INPUT: true; the input reads as it did. -/
def bindExprsSpec : ChangeSpec := { name := "bindExprs", fn := fun _ => fun
  | [d1, d2, d3] => { results := [.lit (.bool true)], args := [d1, d2, d3] }
  | _ => none }
def bindExprsRow : OpenClaim := { program := "ytkfjmgmjbljnbaagreatdoor", sum := "b9baf8875ba7fce36b980ef424b84989785f85fc8b2bafb5fdf76c057d910b60", func := "lapidary/lapidarylaw17.BindExprs", spec := "bindExprs", inPlace := ["internal/bytealg.IndexByteString", "internal/abi.NoEscape", "internal/bytealg.MakeNoZero", "internal/bytealg.CountString", "internal/bytealg.IndexString"], unfollowed := true, recurses := true, named := ["unicode/utf8.first", "unicode/utf8.acceptRanges", "lapidary/parse.reserved", "unicode.CaseRanges", "internal/strconv.uint64pow10", "math/bits.deBruijn32tab", "math/bits.deBruijn64tab", "internal/bytealg.MaxLen"], apart := false, laid := [("math/bits.deBruijn32tab", laid_math_bits_deBruijn32tab), ("math/bits.deBruijn64tab", laid_math_bits_deBruijn64tab), ("internal/strconv.uint64pow10", laid_internal_strconv_uint64pow10), ("unicode/utf8.acceptRanges", laid_unicode_utf8_acceptRanges), ("lapidary/parse.reserved", laid_lapidary_parse_reserved), ("unicode.CaseRanges", laid_unicode_CaseRanges), ("unicode/utf8.first", laid_unicode_utf8_first)] }
def BindExprsSaid : Prop := bindExprsRow.holds Tryz.pinned (OpenSpec.ofChange bindExprsSpec)

/-- ITS FALSE NEIGHBOUR: 'it returns false'. Refute it at one input. -/
def bindExprsWrong : ChangeSpec := { name := "bindExprs", fn := fun _ => fun
  | [d1, d2, d3] => { results := [.lit (.bool false)], args := [d1, d2, d3] }
  | _ => none }
def BindExprsWrongFalsely : Prop := bindExprsRow.holds Tryz.pinned (OpenSpec.ofChange bindExprsWrong)

/-- 'lapidarylaw17.BindTruths': WHATEVER THE INPUT: true; the input reads as it did. -/
def bindTruthsSpec : ChangeSpec := { name := "bindTruths", fn := fun _ => fun
  | [d1, d2] => { results := [.lit (.bool true)], args := [d1, d2] }
  | _ => none }
def bindTruthsRow : OpenClaim := { program := "ytkfjmgmjbljnbaagreatdoor", sum := "b9baf8875ba7fce36b980ef424b84989785f85fc8b2bafb5fdf76c057d910b60", func := "lapidary/lapidarylaw17.BindTruths", spec := "bindTruths", inPlace := ["internal/bytealg.IndexByteString", "internal/abi.NoEscape", "internal/bytealg.MakeNoZero", "internal/bytealg.CountString", "internal/bytealg.IndexString"], unfollowed := true, recurses := true, named := ["unicode/utf8.first", "unicode/utf8.acceptRanges", "lapidary/parse.reserved", "unicode.CaseRanges", "internal/strconv.uint64pow10", "math/bits.deBruijn32tab", "math/bits.deBruijn64tab", "internal/bytealg.MaxLen"], apart := false, laid := [("math/bits.deBruijn32tab", laid_math_bits_deBruijn32tab), ("math/bits.deBruijn64tab", laid_math_bits_deBruijn64tab), ("internal/strconv.uint64pow10", laid_internal_strconv_uint64pow10), ("unicode/utf8.acceptRanges", laid_unicode_utf8_acceptRanges), ("lapidary/parse.reserved", laid_lapidary_parse_reserved), ("unicode.CaseRanges", laid_unicode_CaseRanges), ("unicode/utf8.first", laid_unicode_utf8_first)] }
def BindTruthsSaid : Prop := bindTruthsRow.holds Tryz.pinned (OpenSpec.ofChange bindTruthsSpec)

/-- ITS FALSE NEIGHBOUR: 'it returns false'. Refute it at one input. -/
def bindTruthsWrong : ChangeSpec := { name := "bindTruths", fn := fun _ => fun
  | [d1, d2] => { results := [.lit (.bool false)], args := [d1, d2] }
  | _ => none }
def BindTruthsWrongFalsely : Prop := bindTruthsRow.holds Tryz.pinned (OpenSpec.ofChange bindTruthsWrong)

/-- 'lapidarylaw17.BindSame': WHATEVER THE INPUT: true; the input reads as it did. -/
def bindSameSpec : ChangeSpec := { name := "bindSame", fn := fun _ => fun
  | [d1, d2, d3] => { results := [.lit (.bool true)], args := [d1, d2, d3] }
  | _ => none }
def bindSameRow : OpenClaim := { program := "ytkfjmgmjbljnbaagreatdoor", sum := "b9baf8875ba7fce36b980ef424b84989785f85fc8b2bafb5fdf76c057d910b60", func := "lapidary/lapidarylaw17.BindSame", spec := "bindSame", inPlace := ["internal/bytealg.IndexByteString", "internal/abi.NoEscape", "internal/bytealg.MakeNoZero", "internal/bytealg.CountString", "internal/bytealg.IndexString"], unfollowed := true, recurses := true, named := ["unicode/utf8.first", "unicode/utf8.acceptRanges", "lapidary/parse.reserved", "unicode.CaseRanges", "internal/strconv.uint64pow10", "math/bits.deBruijn32tab", "math/bits.deBruijn64tab", "internal/bytealg.MaxLen"], apart := false, laid := [("math/bits.deBruijn32tab", laid_math_bits_deBruijn32tab), ("math/bits.deBruijn64tab", laid_math_bits_deBruijn64tab), ("internal/strconv.uint64pow10", laid_internal_strconv_uint64pow10), ("unicode/utf8.acceptRanges", laid_unicode_utf8_acceptRanges), ("lapidary/parse.reserved", laid_lapidary_parse_reserved), ("unicode.CaseRanges", laid_unicode_CaseRanges), ("unicode/utf8.first", laid_unicode_utf8_first)] }
def BindSameSaid : Prop := bindSameRow.holds Tryz.pinned (OpenSpec.ofChange bindSameSpec)

/-- ITS FALSE NEIGHBOUR: 'it returns false'. Refute it at one input. -/
def bindSameWrong : ChangeSpec := { name := "bindSame", fn := fun _ => fun
  | [d1, d2, d3] => { results := [.lit (.bool false)], args := [d1, d2, d3] }
  | _ => none }
def BindSameWrongFalsely : Prop := bindSameRow.holds Tryz.pinned (OpenSpec.ofChange bindSameWrong)

/- THE SECOND FORM. 'bulk': how many values and letters a reading holds, each counted each time it is reached (what is shared counts as often as it is met; a slice's spare places count too). A statement '..UptoSaid' is the law's where the arguments, and the package variables that the reading takes, are together of bulk at most 1048576: NARROWER than '..Said'. Prove '..Said' where nothing that the law and all that it calls make is longer than what came in: it says more and counts as full. Else prove '..UptoSaid'. A law counts once. -/
mutual
def uptoBulk {H : Type} : DataW H → Nat
  | .lit (.string bytes) => bytes.length + 1
  | .lit _ => 1
  | .nil => 1
  | .ptr d => uptoBulk d + 1
  | .slice elems spare => uptoBulkAll elems + uptoBulkAll spare + 1
  | .agg parts => uptoBulkAll parts + 1
  | .iface _ d => uptoBulk d + 1
  | .map entries => uptoBulkEntries entries + 1
  | .held _ => 1
def uptoBulkAll {H : Type} : List (DataW H) → Nat
  | [] => 0
  | d :: r => uptoBulk d + uptoBulkAll r
def uptoBulkEntries {H : Type} : List (Lit × DataW H) → Nat
  | [] => 0
  | x :: r => uptoBulkEntry x + uptoBulkEntries r
def uptoBulkEntry {H : Type} : Lit × DataW H → Nat
  | (.string bytes, d) => bytes.length + uptoBulk d + 1
  | (_, d) => uptoBulk d + 1
 end
def uptoSmall : (H : Type) → List (DataW H) → Bool := fun _ ds => decide (uptoBulkAll ds ≤ 1048576)
def OpenSpec.upto (s : _root_.Go.ChangeSpec) : _root_.Go.OpenSpec := { _root_.Go.OpenSpec.ofChange s with cond := some uptoSmall }

/-- 'lapidarylaw18.EvalTurns', WHERE WHAT IT READS IS OF BULK AT MOST 1048576: true; the input reads as it did. -/
def evalTurnsUptoRow : OpenClaim := { program := "ytkfjmgmjbljnbaagreatdoor", sum := "b9baf8875ba7fce36b980ef424b84989785f85fc8b2bafb5fdf76c057d910b60", func := "lapidary/lapidarylaw18.EvalTurns", spec := "evalTurns", inPlace := ["internal/bytealg.IndexByteString", "internal/abi.NoEscape", "internal/bytealg.MakeNoZero"], unfollowed := true, recurses := true, named := ["unicode/utf8.first", "unicode/utf8.acceptRanges", "lapidary/parse.reserved", "unicode.CaseRanges"], apart := false, laid := [("unicode/utf8.acceptRanges", laid_unicode_utf8_acceptRanges), ("lapidary/parse.reserved", laid_lapidary_parse_reserved), ("unicode.CaseRanges", laid_unicode_CaseRanges), ("unicode/utf8.first", laid_unicode_utf8_first)], narrowed := true }
def EvalTurnsUptoSaid : Prop := evalTurnsUptoRow.holds Tryz.pinned (OpenSpec.upto evalTurnsSpec)

/-- 'lapidarylaw18.EvalNulls', WHERE WHAT IT READS IS OF BULK AT MOST 1048576: true; the input reads as it did. -/
def evalNullsUptoRow : OpenClaim := { program := "ytkfjmgmjbljnbaagreatdoor", sum := "b9baf8875ba7fce36b980ef424b84989785f85fc8b2bafb5fdf76c057d910b60", func := "lapidary/lapidarylaw18.EvalNulls", spec := "evalNulls", inPlace := ["internal/bytealg.IndexByteString", "internal/abi.NoEscape", "internal/bytealg.MakeNoZero"], unfollowed := true, recurses := true, named := ["unicode/utf8.first", "unicode/utf8.acceptRanges", "lapidary/parse.reserved", "unicode.CaseRanges"], apart := false, laid := [("unicode/utf8.acceptRanges", laid_unicode_utf8_acceptRanges), ("lapidary/parse.reserved", laid_lapidary_parse_reserved), ("unicode.CaseRanges", laid_unicode_CaseRanges), ("unicode/utf8.first", laid_unicode_utf8_first)], narrowed := true }
def EvalNullsUptoSaid : Prop := evalNullsUptoRow.holds Tryz.pinned (OpenSpec.upto evalNullsSpec)

/-- 'lapidarylaw18.EvalSafe', WHERE WHAT IT READS IS OF BULK AT MOST 1048576: true; the input reads as it did. -/
def evalSafeUptoRow : OpenClaim := { program := "ytkfjmgmjbljnbaagreatdoor", sum := "b9baf8875ba7fce36b980ef424b84989785f85fc8b2bafb5fdf76c057d910b60", func := "lapidary/lapidarylaw18.EvalSafe", spec := "evalSafe", inPlace := ["internal/bytealg.IndexByteString", "internal/abi.NoEscape", "internal/bytealg.MakeNoZero"], unfollowed := true, recurses := true, named := ["unicode/utf8.first", "unicode/utf8.acceptRanges", "lapidary/parse.reserved", "unicode.CaseRanges"], apart := false, laid := [("unicode/utf8.acceptRanges", laid_unicode_utf8_acceptRanges), ("lapidary/parse.reserved", laid_lapidary_parse_reserved), ("unicode.CaseRanges", laid_unicode_CaseRanges), ("unicode/utf8.first", laid_unicode_utf8_first)], narrowed := true }
def EvalSafeUptoSaid : Prop := evalSafeUptoRow.holds Tryz.pinned (OpenSpec.upto evalSafeSpec)

/-- 'lapidarylaw18.EvalSums', WHERE WHAT IT READS IS OF BULK AT MOST 1048576: true; the input reads as it did. -/
def evalSumsUptoRow : OpenClaim := { program := "ytkfjmgmjbljnbaagreatdoor", sum := "b9baf8875ba7fce36b980ef424b84989785f85fc8b2bafb5fdf76c057d910b60", func := "lapidary/lapidarylaw18.EvalSums", spec := "evalSums", inPlace := ["internal/bytealg.IndexByteString", "internal/abi.NoEscape", "internal/bytealg.MakeNoZero", "math/bits.Add64"], unfollowed := true, recurses := true, named := ["unicode/utf8.first", "unicode/utf8.acceptRanges", "lapidary/parse.reserved", "unicode.CaseRanges"], apart := false, laid := [("unicode/utf8.acceptRanges", laid_unicode_utf8_acceptRanges), ("lapidary/parse.reserved", laid_lapidary_parse_reserved), ("unicode.CaseRanges", laid_unicode_CaseRanges), ("unicode/utf8.first", laid_unicode_utf8_first)], narrowed := true }
def EvalSumsUptoSaid : Prop := evalSumsUptoRow.holds Tryz.pinned (OpenSpec.upto evalSumsSpec)

/-- 'lapidarylaw18.EvalGroups', WHERE WHAT IT READS IS OF BULK AT MOST 1048576: true; the input reads as it did. -/
def evalGroupsUptoRow : OpenClaim := { program := "ytkfjmgmjbljnbaagreatdoor", sum := "b9baf8875ba7fce36b980ef424b84989785f85fc8b2bafb5fdf76c057d910b60", func := "lapidary/lapidarylaw18.EvalGroups", spec := "evalGroups", inPlace := ["internal/bytealg.IndexByteString", "internal/abi.NoEscape", "internal/bytealg.MakeNoZero", "math/bits.Add64"], unfollowed := true, recurses := true, named := ["unicode/utf8.first", "unicode/utf8.acceptRanges", "lapidary/parse.reserved", "unicode.CaseRanges"], apart := false, laid := [("unicode/utf8.acceptRanges", laid_unicode_utf8_acceptRanges), ("lapidary/parse.reserved", laid_lapidary_parse_reserved), ("unicode.CaseRanges", laid_unicode_CaseRanges), ("unicode/utf8.first", laid_unicode_utf8_first)], narrowed := true }
def EvalGroupsUptoSaid : Prop := evalGroupsUptoRow.holds Tryz.pinned (OpenSpec.upto evalGroupsSpec)

/-- 'lapidarylaw18.EvalValues', WHERE WHAT IT READS IS OF BULK AT MOST 1048576: true; the input reads as it did. -/
def evalValuesUptoRow : OpenClaim := { program := "ytkfjmgmjbljnbaagreatdoor", sum := "b9baf8875ba7fce36b980ef424b84989785f85fc8b2bafb5fdf76c057d910b60", func := "lapidary/lapidarylaw18.EvalValues", spec := "evalValues", inPlace := ["internal/bytealg.IndexByteString", "internal/abi.NoEscape", "internal/bytealg.MakeNoZero", "math/bits.Add64"], unfollowed := true, recurses := true, named := ["unicode/utf8.first", "unicode/utf8.acceptRanges", "lapidary/parse.reserved", "unicode.CaseRanges"], apart := false, laid := [("unicode/utf8.acceptRanges", laid_unicode_utf8_acceptRanges), ("lapidary/parse.reserved", laid_lapidary_parse_reserved), ("unicode.CaseRanges", laid_unicode_CaseRanges), ("unicode/utf8.first", laid_unicode_utf8_first)], narrowed := true }
def EvalValuesUptoSaid : Prop := evalValuesUptoRow.holds Tryz.pinned (OpenSpec.upto evalValuesSpec)

/-- 'lapidarylaw17.BindNames', WHERE WHAT IT READS IS OF BULK AT MOST 1048576: true; the input reads as it did. -/
def bindNamesUptoRow : OpenClaim := { program := "ytkfjmgmjbljnbaagreatdoor", sum := "b9baf8875ba7fce36b980ef424b84989785f85fc8b2bafb5fdf76c057d910b60", func := "lapidary/lapidarylaw17.BindNames", spec := "bindNames", inPlace := ["internal/bytealg.IndexByteString", "internal/abi.NoEscape", "internal/bytealg.MakeNoZero", "internal/bytealg.CountString", "internal/bytealg.IndexString"], unfollowed := true, recurses := true, named := ["unicode/utf8.first", "unicode/utf8.acceptRanges", "lapidary/parse.reserved", "unicode.CaseRanges", "internal/strconv.uint64pow10", "math/bits.deBruijn32tab", "math/bits.deBruijn64tab", "internal/bytealg.MaxLen"], apart := false, laid := [("math/bits.deBruijn32tab", laid_math_bits_deBruijn32tab), ("math/bits.deBruijn64tab", laid_math_bits_deBruijn64tab), ("internal/strconv.uint64pow10", laid_internal_strconv_uint64pow10), ("unicode/utf8.acceptRanges", laid_unicode_utf8_acceptRanges), ("lapidary/parse.reserved", laid_lapidary_parse_reserved), ("unicode.CaseRanges", laid_unicode_CaseRanges), ("unicode/utf8.first", laid_unicode_utf8_first)], narrowed := true }
def BindNamesUptoSaid : Prop := bindNamesUptoRow.holds Tryz.pinned (OpenSpec.upto bindNamesSpec)

/-- 'lapidarylaw17.BindKinds', WHERE WHAT IT READS IS OF BULK AT MOST 1048576: true; the input reads as it did. -/
def bindKindsUptoRow : OpenClaim := { program := "ytkfjmgmjbljnbaagreatdoor", sum := "b9baf8875ba7fce36b980ef424b84989785f85fc8b2bafb5fdf76c057d910b60", func := "lapidary/lapidarylaw17.BindKinds", spec := "bindKinds", inPlace := ["internal/bytealg.IndexByteString", "internal/abi.NoEscape", "internal/bytealg.MakeNoZero", "internal/bytealg.CountString", "internal/bytealg.IndexString"], unfollowed := true, recurses := true, named := ["unicode/utf8.first", "unicode/utf8.acceptRanges", "lapidary/parse.reserved", "unicode.CaseRanges", "internal/strconv.uint64pow10", "math/bits.deBruijn32tab", "math/bits.deBruijn64tab", "internal/bytealg.MaxLen"], apart := false, laid := [("math/bits.deBruijn32tab", laid_math_bits_deBruijn32tab), ("math/bits.deBruijn64tab", laid_math_bits_deBruijn64tab), ("internal/strconv.uint64pow10", laid_internal_strconv_uint64pow10), ("unicode/utf8.acceptRanges", laid_unicode_utf8_acceptRanges), ("lapidary/parse.reserved", laid_lapidary_parse_reserved), ("unicode.CaseRanges", laid_unicode_CaseRanges), ("unicode/utf8.first", laid_unicode_utf8_first)], narrowed := true }
def BindKindsUptoSaid : Prop := bindKindsUptoRow.holds Tryz.pinned (OpenSpec.upto bindKindsSpec)

/-- 'lapidarylaw17.BindExprs', WHERE WHAT IT READS IS OF BULK AT MOST 1048576: true; the input reads as it did. -/
def bindExprsUptoRow : OpenClaim := { program := "ytkfjmgmjbljnbaagreatdoor", sum := "b9baf8875ba7fce36b980ef424b84989785f85fc8b2bafb5fdf76c057d910b60", func := "lapidary/lapidarylaw17.BindExprs", spec := "bindExprs", inPlace := ["internal/bytealg.IndexByteString", "internal/abi.NoEscape", "internal/bytealg.MakeNoZero", "internal/bytealg.CountString", "internal/bytealg.IndexString"], unfollowed := true, recurses := true, named := ["unicode/utf8.first", "unicode/utf8.acceptRanges", "lapidary/parse.reserved", "unicode.CaseRanges", "internal/strconv.uint64pow10", "math/bits.deBruijn32tab", "math/bits.deBruijn64tab", "internal/bytealg.MaxLen"], apart := false, laid := [("math/bits.deBruijn32tab", laid_math_bits_deBruijn32tab), ("math/bits.deBruijn64tab", laid_math_bits_deBruijn64tab), ("internal/strconv.uint64pow10", laid_internal_strconv_uint64pow10), ("unicode/utf8.acceptRanges", laid_unicode_utf8_acceptRanges), ("lapidary/parse.reserved", laid_lapidary_parse_reserved), ("unicode.CaseRanges", laid_unicode_CaseRanges), ("unicode/utf8.first", laid_unicode_utf8_first)], narrowed := true }
def BindExprsUptoSaid : Prop := bindExprsUptoRow.holds Tryz.pinned (OpenSpec.upto bindExprsSpec)

/-- 'lapidarylaw17.BindTruths', WHERE WHAT IT READS IS OF BULK AT MOST 1048576: true; the input reads as it did. -/
def bindTruthsUptoRow : OpenClaim := { program := "ytkfjmgmjbljnbaagreatdoor", sum := "b9baf8875ba7fce36b980ef424b84989785f85fc8b2bafb5fdf76c057d910b60", func := "lapidary/lapidarylaw17.BindTruths", spec := "bindTruths", inPlace := ["internal/bytealg.IndexByteString", "internal/abi.NoEscape", "internal/bytealg.MakeNoZero", "internal/bytealg.CountString", "internal/bytealg.IndexString"], unfollowed := true, recurses := true, named := ["unicode/utf8.first", "unicode/utf8.acceptRanges", "lapidary/parse.reserved", "unicode.CaseRanges", "internal/strconv.uint64pow10", "math/bits.deBruijn32tab", "math/bits.deBruijn64tab", "internal/bytealg.MaxLen"], apart := false, laid := [("math/bits.deBruijn32tab", laid_math_bits_deBruijn32tab), ("math/bits.deBruijn64tab", laid_math_bits_deBruijn64tab), ("internal/strconv.uint64pow10", laid_internal_strconv_uint64pow10), ("unicode/utf8.acceptRanges", laid_unicode_utf8_acceptRanges), ("lapidary/parse.reserved", laid_lapidary_parse_reserved), ("unicode.CaseRanges", laid_unicode_CaseRanges), ("unicode/utf8.first", laid_unicode_utf8_first)], narrowed := true }
def BindTruthsUptoSaid : Prop := bindTruthsUptoRow.holds Tryz.pinned (OpenSpec.upto bindTruthsSpec)

/-- 'lapidarylaw17.BindSame', WHERE WHAT IT READS IS OF BULK AT MOST 1048576: true; the input reads as it did. -/
def bindSameUptoRow : OpenClaim := { program := "ytkfjmgmjbljnbaagreatdoor", sum := "b9baf8875ba7fce36b980ef424b84989785f85fc8b2bafb5fdf76c057d910b60", func := "lapidary/lapidarylaw17.BindSame", spec := "bindSame", inPlace := ["internal/bytealg.IndexByteString", "internal/abi.NoEscape", "internal/bytealg.MakeNoZero", "internal/bytealg.CountString", "internal/bytealg.IndexString"], unfollowed := true, recurses := true, named := ["unicode/utf8.first", "unicode/utf8.acceptRanges", "lapidary/parse.reserved", "unicode.CaseRanges", "internal/strconv.uint64pow10", "math/bits.deBruijn32tab", "math/bits.deBruijn64tab", "internal/bytealg.MaxLen"], apart := false, laid := [("math/bits.deBruijn32tab", laid_math_bits_deBruijn32tab), ("math/bits.deBruijn64tab", laid_math_bits_deBruijn64tab), ("internal/strconv.uint64pow10", laid_internal_strconv_uint64pow10), ("unicode/utf8.acceptRanges", laid_unicode_utf8_acceptRanges), ("lapidary/parse.reserved", laid_lapidary_parse_reserved), ("unicode.CaseRanges", laid_unicode_CaseRanges), ("unicode/utf8.first", laid_unicode_utf8_first)], narrowed := true }
def BindSameUptoSaid : Prop := bindSameUptoRow.holds Tryz.pinned (OpenSpec.upto bindSameSpec)

end Rows
end Go.Proofs.YtkfjmgmjbljnbaaGreatDoor
