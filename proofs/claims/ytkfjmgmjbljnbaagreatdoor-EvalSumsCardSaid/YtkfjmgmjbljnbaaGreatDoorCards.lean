/-
  DERIVED. GIVEN WITH THE SEED: THE CARDS: each row of YtkfjmgmjbljnbaaGreatDoorRows.lean that lists a variable, with what it lists TIED to the program's text (the seventh form; the later family's looks); each row that meets fmt, with fmt's text TOLD by the authors' own Lean function (tested against real Go, not proved from fmt's source: count such statements apart). THE CARD IS WHAT COUNTS. Prove the row's statement (the work); the ties are given (YtkfjmgmjbljnbaaGreatDoorTie.lean); close each card by the builder's one call (the guide's Derived/Test/ToyasCard.lean, 'card_holds'). Laid BY PROGRAM, IN A SANDBOX (cutbox-door.mjs). By AI agents, Wed Nov 11 2026. No macro, syntax, notation, axiom, sorry.
-/
import Derived.Test.YtkfjmgmjbljnbaaGreatDoorRows
import GoSem.ClaimSeven
namespace Go.Proofs.YtkfjmgmjbljnbaaGreatDoor
namespace Rows

/-- THE TIED CARD OF 'lapidarylaw18.EvalTurns'. -/
def evalTurnsCard : Claim7 := { stood := { row := evalTurnsRow, standIns := [], harness := (true, "00b270bb9765f110bae3f9cfce93dc09b580beb8b155cbb51ce652bbea077d7b"), looks := true }, kinds := [], alts := [], laidByText := true, laidKinds := [.data, .widerDeep, .pinned, .pinned], laidTests := true, laidLooks := .later }
def EvalTurnsCardSaid : Prop := Claim7.holds Tryz.pinned (.plain (OpenSpec.ofChange evalTurnsSpec)) evalTurnsCard

/-- THE TIED CARD OF 'lapidarylaw18.EvalNulls'. -/
def evalNullsCard : Claim7 := { stood := { row := evalNullsRow, standIns := [], harness := (true, "00b270bb9765f110bae3f9cfce93dc09b580beb8b155cbb51ce652bbea077d7b"), looks := true }, kinds := [], alts := [], laidByText := true, laidKinds := [.data, .widerDeep, .pinned, .pinned], laidTests := true, laidLooks := .later }
def EvalNullsCardSaid : Prop := Claim7.holds Tryz.pinned (.plain (OpenSpec.ofChange evalNullsSpec)) evalNullsCard

/-- THE TIED CARD OF 'lapidarylaw18.EvalSafe'. -/
def evalSafeCard : Claim7 := { stood := { row := evalSafeRow, standIns := [], harness := (true, "00b270bb9765f110bae3f9cfce93dc09b580beb8b155cbb51ce652bbea077d7b"), looks := true }, kinds := [], alts := [], laidByText := true, laidKinds := [.data, .widerDeep, .pinned, .pinned], laidTests := true, laidLooks := .later }
def EvalSafeCardSaid : Prop := Claim7.holds Tryz.pinned (.plain (OpenSpec.ofChange evalSafeSpec)) evalSafeCard

/-- THE TIED CARD OF 'lapidarylaw18.EvalSums'. -/
def evalSumsCard : Claim7 := { stood := { row := evalSumsRow, standIns := [], harness := (true, "00b270bb9765f110bae3f9cfce93dc09b580beb8b155cbb51ce652bbea077d7b"), looks := true }, kinds := [], alts := [], laidByText := true, laidKinds := [.data, .widerDeep, .pinned, .pinned], laidTests := true, laidLooks := .later }
def EvalSumsCardSaid : Prop := Claim7.holds Tryz.pinned (.plain (OpenSpec.ofChange evalSumsSpec)) evalSumsCard

/-- THE TIED CARD OF 'lapidarylaw18.EvalGroups'. -/
def evalGroupsCard : Claim7 := { stood := { row := evalGroupsRow, standIns := [], harness := (true, "00b270bb9765f110bae3f9cfce93dc09b580beb8b155cbb51ce652bbea077d7b"), looks := true }, kinds := [], alts := [], laidByText := true, laidKinds := [.data, .widerDeep, .pinned, .pinned], laidTests := true, laidLooks := .later }
def EvalGroupsCardSaid : Prop := Claim7.holds Tryz.pinned (.plain (OpenSpec.ofChange evalGroupsSpec)) evalGroupsCard

/-- THE TIED CARD OF 'lapidarylaw18.EvalValues'. -/
def evalValuesCard : Claim7 := { stood := { row := evalValuesRow, standIns := [], harness := (true, "00b270bb9765f110bae3f9cfce93dc09b580beb8b155cbb51ce652bbea077d7b"), looks := true }, kinds := [], alts := [], laidByText := true, laidKinds := [.data, .widerDeep, .pinned, .pinned], laidTests := true, laidLooks := .later }
def EvalValuesCardSaid : Prop := Claim7.holds Tryz.pinned (.plain (OpenSpec.ofChange evalValuesSpec)) evalValuesCard

/-- THE TIED CARD OF 'lapidarylaw17.BindNames'. -/
def bindNamesCard : Claim7 := { stood := { row := bindNamesRow, standIns := [], harness := (true, "00b270bb9765f110bae3f9cfce93dc09b580beb8b155cbb51ce652bbea077d7b"), looks := true }, kinds := [], alts := [], laidByText := true, laidKinds := [.data, .data, .data, .data, .widerDeep, .pinned, .pinned], laidTests := true, laidLooks := .later }
def BindNamesCardSaid : Prop := Claim7.holds Tryz.pinned (.plain (OpenSpec.ofChange bindNamesSpec)) bindNamesCard

/-- THE TIED CARD OF 'lapidarylaw17.BindKinds'. -/
def bindKindsCard : Claim7 := { stood := { row := bindKindsRow, standIns := [], harness := (true, "00b270bb9765f110bae3f9cfce93dc09b580beb8b155cbb51ce652bbea077d7b"), looks := true }, kinds := [], alts := [], laidByText := true, laidKinds := [.data, .data, .data, .data, .widerDeep, .pinned, .pinned], laidTests := true, laidLooks := .later }
def BindKindsCardSaid : Prop := Claim7.holds Tryz.pinned (.plain (OpenSpec.ofChange bindKindsSpec)) bindKindsCard

/-- THE TIED CARD OF 'lapidarylaw17.BindExprs'. -/
def bindExprsCard : Claim7 := { stood := { row := bindExprsRow, standIns := [], harness := (true, "00b270bb9765f110bae3f9cfce93dc09b580beb8b155cbb51ce652bbea077d7b"), looks := true }, kinds := [], alts := [], laidByText := true, laidKinds := [.data, .data, .data, .data, .widerDeep, .pinned, .pinned], laidTests := true, laidLooks := .later }
def BindExprsCardSaid : Prop := Claim7.holds Tryz.pinned (.plain (OpenSpec.ofChange bindExprsSpec)) bindExprsCard

/-- THE TIED CARD OF 'lapidarylaw17.BindTruths'. -/
def bindTruthsCard : Claim7 := { stood := { row := bindTruthsRow, standIns := [], harness := (true, "00b270bb9765f110bae3f9cfce93dc09b580beb8b155cbb51ce652bbea077d7b"), looks := true }, kinds := [], alts := [], laidByText := true, laidKinds := [.data, .data, .data, .data, .widerDeep, .pinned, .pinned], laidTests := true, laidLooks := .later }
def BindTruthsCardSaid : Prop := Claim7.holds Tryz.pinned (.plain (OpenSpec.ofChange bindTruthsSpec)) bindTruthsCard

/-- THE TIED CARD OF 'lapidarylaw17.BindSame'. -/
def bindSameCard : Claim7 := { stood := { row := bindSameRow, standIns := [], harness := (true, "00b270bb9765f110bae3f9cfce93dc09b580beb8b155cbb51ce652bbea077d7b"), looks := true }, kinds := [], alts := [], laidByText := true, laidKinds := [.data, .data, .data, .data, .widerDeep, .pinned, .pinned], laidTests := true, laidLooks := .later }
def BindSameCardSaid : Prop := Claim7.holds Tryz.pinned (.plain (OpenSpec.ofChange bindSameSpec)) bindSameCard

/-- THE SECOND FORM's CARD OF 'lapidarylaw18.EvalTurns'. -/
def evalTurnsUptoCard : Claim7 := { stood := { row := evalTurnsUptoRow, standIns := [], harness := (true, "00b270bb9765f110bae3f9cfce93dc09b580beb8b155cbb51ce652bbea077d7b"), looks := true }, kinds := [], alts := [], laidByText := true, laidKinds := [.data, .widerDeep, .pinned, .pinned], laidTests := true, laidLooks := .later }
def EvalTurnsUptoCardSaid : Prop := Claim7.holds Tryz.pinned (.plain (OpenSpec.upto evalTurnsSpec)) evalTurnsUptoCard

/-- THE SECOND FORM's CARD OF 'lapidarylaw18.EvalNulls'. -/
def evalNullsUptoCard : Claim7 := { stood := { row := evalNullsUptoRow, standIns := [], harness := (true, "00b270bb9765f110bae3f9cfce93dc09b580beb8b155cbb51ce652bbea077d7b"), looks := true }, kinds := [], alts := [], laidByText := true, laidKinds := [.data, .widerDeep, .pinned, .pinned], laidTests := true, laidLooks := .later }
def EvalNullsUptoCardSaid : Prop := Claim7.holds Tryz.pinned (.plain (OpenSpec.upto evalNullsSpec)) evalNullsUptoCard

/-- THE SECOND FORM's CARD OF 'lapidarylaw18.EvalSafe'. -/
def evalSafeUptoCard : Claim7 := { stood := { row := evalSafeUptoRow, standIns := [], harness := (true, "00b270bb9765f110bae3f9cfce93dc09b580beb8b155cbb51ce652bbea077d7b"), looks := true }, kinds := [], alts := [], laidByText := true, laidKinds := [.data, .widerDeep, .pinned, .pinned], laidTests := true, laidLooks := .later }
def EvalSafeUptoCardSaid : Prop := Claim7.holds Tryz.pinned (.plain (OpenSpec.upto evalSafeSpec)) evalSafeUptoCard

/-- THE SECOND FORM's CARD OF 'lapidarylaw18.EvalSums'. -/
def evalSumsUptoCard : Claim7 := { stood := { row := evalSumsUptoRow, standIns := [], harness := (true, "00b270bb9765f110bae3f9cfce93dc09b580beb8b155cbb51ce652bbea077d7b"), looks := true }, kinds := [], alts := [], laidByText := true, laidKinds := [.data, .widerDeep, .pinned, .pinned], laidTests := true, laidLooks := .later }
def EvalSumsUptoCardSaid : Prop := Claim7.holds Tryz.pinned (.plain (OpenSpec.upto evalSumsSpec)) evalSumsUptoCard

/-- THE SECOND FORM's CARD OF 'lapidarylaw18.EvalGroups'. -/
def evalGroupsUptoCard : Claim7 := { stood := { row := evalGroupsUptoRow, standIns := [], harness := (true, "00b270bb9765f110bae3f9cfce93dc09b580beb8b155cbb51ce652bbea077d7b"), looks := true }, kinds := [], alts := [], laidByText := true, laidKinds := [.data, .widerDeep, .pinned, .pinned], laidTests := true, laidLooks := .later }
def EvalGroupsUptoCardSaid : Prop := Claim7.holds Tryz.pinned (.plain (OpenSpec.upto evalGroupsSpec)) evalGroupsUptoCard

/-- THE SECOND FORM's CARD OF 'lapidarylaw18.EvalValues'. -/
def evalValuesUptoCard : Claim7 := { stood := { row := evalValuesUptoRow, standIns := [], harness := (true, "00b270bb9765f110bae3f9cfce93dc09b580beb8b155cbb51ce652bbea077d7b"), looks := true }, kinds := [], alts := [], laidByText := true, laidKinds := [.data, .widerDeep, .pinned, .pinned], laidTests := true, laidLooks := .later }
def EvalValuesUptoCardSaid : Prop := Claim7.holds Tryz.pinned (.plain (OpenSpec.upto evalValuesSpec)) evalValuesUptoCard

/-- THE SECOND FORM's CARD OF 'lapidarylaw17.BindNames'. -/
def bindNamesUptoCard : Claim7 := { stood := { row := bindNamesUptoRow, standIns := [], harness := (true, "00b270bb9765f110bae3f9cfce93dc09b580beb8b155cbb51ce652bbea077d7b"), looks := true }, kinds := [], alts := [], laidByText := true, laidKinds := [.data, .data, .data, .data, .widerDeep, .pinned, .pinned], laidTests := true, laidLooks := .later }
def BindNamesUptoCardSaid : Prop := Claim7.holds Tryz.pinned (.plain (OpenSpec.upto bindNamesSpec)) bindNamesUptoCard

/-- THE SECOND FORM's CARD OF 'lapidarylaw17.BindKinds'. -/
def bindKindsUptoCard : Claim7 := { stood := { row := bindKindsUptoRow, standIns := [], harness := (true, "00b270bb9765f110bae3f9cfce93dc09b580beb8b155cbb51ce652bbea077d7b"), looks := true }, kinds := [], alts := [], laidByText := true, laidKinds := [.data, .data, .data, .data, .widerDeep, .pinned, .pinned], laidTests := true, laidLooks := .later }
def BindKindsUptoCardSaid : Prop := Claim7.holds Tryz.pinned (.plain (OpenSpec.upto bindKindsSpec)) bindKindsUptoCard

/-- THE SECOND FORM's CARD OF 'lapidarylaw17.BindExprs'. -/
def bindExprsUptoCard : Claim7 := { stood := { row := bindExprsUptoRow, standIns := [], harness := (true, "00b270bb9765f110bae3f9cfce93dc09b580beb8b155cbb51ce652bbea077d7b"), looks := true }, kinds := [], alts := [], laidByText := true, laidKinds := [.data, .data, .data, .data, .widerDeep, .pinned, .pinned], laidTests := true, laidLooks := .later }
def BindExprsUptoCardSaid : Prop := Claim7.holds Tryz.pinned (.plain (OpenSpec.upto bindExprsSpec)) bindExprsUptoCard

/-- THE SECOND FORM's CARD OF 'lapidarylaw17.BindTruths'. -/
def bindTruthsUptoCard : Claim7 := { stood := { row := bindTruthsUptoRow, standIns := [], harness := (true, "00b270bb9765f110bae3f9cfce93dc09b580beb8b155cbb51ce652bbea077d7b"), looks := true }, kinds := [], alts := [], laidByText := true, laidKinds := [.data, .data, .data, .data, .widerDeep, .pinned, .pinned], laidTests := true, laidLooks := .later }
def BindTruthsUptoCardSaid : Prop := Claim7.holds Tryz.pinned (.plain (OpenSpec.upto bindTruthsSpec)) bindTruthsUptoCard

/-- THE SECOND FORM's CARD OF 'lapidarylaw17.BindSame'. -/
def bindSameUptoCard : Claim7 := { stood := { row := bindSameUptoRow, standIns := [], harness := (true, "00b270bb9765f110bae3f9cfce93dc09b580beb8b155cbb51ce652bbea077d7b"), looks := true }, kinds := [], alts := [], laidByText := true, laidKinds := [.data, .data, .data, .data, .widerDeep, .pinned, .pinned], laidTests := true, laidLooks := .later }
def BindSameUptoCardSaid : Prop := Claim7.holds Tryz.pinned (.plain (OpenSpec.upto bindSameSpec)) bindSameUptoCard
end Rows
end Go.Proofs.YtkfjmgmjbljnbaaGreatDoor
