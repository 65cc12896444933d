/-
  DERIVED. GIVEN WITH THE SEED: THE CARDS: each row of YthojikijelijnaaDoorRows.lean that lists a variable, with what it lists TIED to the program's text (the seventh form; the later family's looks); each row that meets fmt, with fmt's text TOLD by the authors' own Lean function (tested against real Go, not proved from fmt's source: count such statements apart). THE CARD IS WHAT COUNTS. Prove the row's statement (the work); the ties are given (YthojikijelijnaaDoorTie.lean); close each card by the builder's one call (the guide's Derived/Test/ToyasCard.lean, 'card_holds'). Laid BY PROGRAM, IN A SANDBOX (cutbox-door.mjs). By AI agents, Wed Nov 11 2026. No macro, syntax, notation, axiom, sorry.
-/
import Derived.Test.YthojikijelijnaaDoorRows
import GoSem.ClaimSeven
namespace Go.Proofs.YthojikijelijnaaDoor
namespace Rows

/-- THE TIED CARD OF 'lapidarylaw02.CellLiterals'. -/
def cellLiteralsCard : Claim7 := { stood := { row := cellLiteralsRow, standIns := [], harness := (true, "5bc8603bea4bfbf2d4c6afb82ffeb1e8cfb07daf847283bb19ad7f172062392f"), looks := true }, kinds := [], alts := [], laidByText := true, laidKinds := [.data, .data, .data, .data, .pinned], laidTests := true, laidLooks := .later }
def CellLiteralsCardSaid : Prop := Claim7.holds Tryd.pinned (.plain (OpenSpec.ofChange cellLiteralsSpec)) cellLiteralsCard

/-- THE TIED CARD OF 'lapidarylaw02.CellApart'. -/
def cellApartCard : Claim7 := { stood := { row := cellApartRow, standIns := [], harness := (true, "5bc8603bea4bfbf2d4c6afb82ffeb1e8cfb07daf847283bb19ad7f172062392f"), looks := true }, kinds := [], alts := [], laidByText := true, laidKinds := [.data, .data, .data, .data, .pinned], laidTests := true, laidLooks := .later }
def CellApartCardSaid : Prop := Claim7.holds Tryd.pinned (.plain (OpenSpec.ofChange cellApartSpec)) cellApartCard

/-- THE TIED CARD OF 'lapidarylaw02.CellOrders'. -/
def cellOrdersCard : Claim7 := { stood := { row := cellOrdersRow, standIns := [], harness := (true, "5bc8603bea4bfbf2d4c6afb82ffeb1e8cfb07daf847283bb19ad7f172062392f"), looks := true }, kinds := [], alts := [], laidByText := true, laidKinds := [.data, .data, .data, .data, .pinned], laidTests := true, laidLooks := .later }
def CellOrdersCardSaid : Prop := Claim7.holds Tryd.pinned (.plain (OpenSpec.ofChange cellOrdersSpec)) cellOrdersCard

/-- THE TIED CARD OF 'lapidarylaw02.CellSorts'. -/
def cellSortsCard : Claim7 := { stood := { row := cellSortsRow, standIns := [], harness := (true, "5bc8603bea4bfbf2d4c6afb82ffeb1e8cfb07daf847283bb19ad7f172062392f"), looks := true }, kinds := [], alts := [], laidByText := true, laidKinds := [.data, .data, .data, .data, .pinned], laidTests := true, laidLooks := .later }
def CellSortsCardSaid : Prop := Claim7.holds Tryd.pinned (.plain (OpenSpec.ofChange cellSortsSpec)) cellSortsCard

/-- THE TIED CARD OF 'lapidarylaw02.CellTotals'. -/
def cellTotalsCard : Claim7 := { stood := { row := cellTotalsRow, standIns := [], harness := (true, "5bc8603bea4bfbf2d4c6afb82ffeb1e8cfb07daf847283bb19ad7f172062392f"), looks := true }, kinds := [], alts := [], laidByText := true, laidKinds := [.data, .data, .data, .data, .pinned], laidTests := true, laidLooks := .later }
def CellTotalsCardSaid : Prop := Claim7.holds Tryd.pinned (.plain (OpenSpec.ofChange cellTotalsSpec)) cellTotalsCard

/-- THE TIED CARD OF 'lapidarylaw02.CellTruths'. -/
def cellTruthsCard : Claim7 := { stood := { row := cellTruthsRow, standIns := [], harness := (true, "5bc8603bea4bfbf2d4c6afb82ffeb1e8cfb07daf847283bb19ad7f172062392f"), looks := true }, kinds := [], alts := [], laidByText := true, laidKinds := [.data, .data, .data, .data, .pinned], laidTests := true, laidLooks := .later }
def CellTruthsCardSaid : Prop := Claim7.holds Tryd.pinned (.plain (OpenSpec.ofChange cellTruthsSpec)) cellTruthsCard

/-- THE TIED CARD OF 'lapidarylaw02.CellMorgan'. -/
def cellMorganCard : Claim7 := { stood := { row := cellMorganRow, standIns := [], harness := (true, "5bc8603bea4bfbf2d4c6afb82ffeb1e8cfb07daf847283bb19ad7f172062392f"), looks := true }, kinds := [], alts := [], laidByText := true, laidKinds := [.data, .data, .data, .data, .pinned], laidTests := true, laidLooks := .later }
def CellMorganCardSaid : Prop := Claim7.holds Tryd.pinned (.plain (OpenSpec.ofChange cellMorganSpec)) cellMorganCard

/-- THE TIED CARD OF 'lapidarylaw02.CellNots'. -/
def cellNotsCard : Claim7 := { stood := { row := cellNotsRow, standIns := [], harness := (true, "5bc8603bea4bfbf2d4c6afb82ffeb1e8cfb07daf847283bb19ad7f172062392f"), looks := true }, kinds := [], alts := [], laidByText := true, laidKinds := [.data, .data, .data, .data, .pinned], laidTests := true, laidLooks := .later }
def CellNotsCardSaid : Prop := Claim7.holds Tryd.pinned (.plain (OpenSpec.ofChange cellNotsSpec)) cellNotsCard

/-- THE TIED CARD OF 'lapidarylaw02.CellRights'. -/
def cellRightsCard : Claim7 := { stood := { row := cellRightsRow, standIns := [], harness := (true, "5bc8603bea4bfbf2d4c6afb82ffeb1e8cfb07daf847283bb19ad7f172062392f"), looks := true }, kinds := [], alts := [], laidByText := true, laidKinds := [.data, .data, .data, .data, .pinned], laidTests := true, laidLooks := .later }
def CellRightsCardSaid : Prop := Claim7.holds Tryd.pinned (.plain (OpenSpec.ofChange cellRightsSpec)) cellRightsCard

/-- THE SECOND FORM's CARD OF 'lapidarylaw02.CellLiterals'. -/
def cellLiteralsUptoCard : Claim7 := { stood := { row := cellLiteralsUptoRow, standIns := [], harness := (true, "5bc8603bea4bfbf2d4c6afb82ffeb1e8cfb07daf847283bb19ad7f172062392f"), looks := true }, kinds := [], alts := [], laidByText := true, laidKinds := [.data, .data, .data, .data, .pinned], laidTests := true, laidLooks := .later }
def CellLiteralsUptoCardSaid : Prop := Claim7.holds Tryd.pinned (.plain (OpenSpec.upto cellLiteralsSpec)) cellLiteralsUptoCard

/-- THE SECOND FORM's CARD OF 'lapidarylaw02.CellApart'. -/
def cellApartUptoCard : Claim7 := { stood := { row := cellApartUptoRow, standIns := [], harness := (true, "5bc8603bea4bfbf2d4c6afb82ffeb1e8cfb07daf847283bb19ad7f172062392f"), looks := true }, kinds := [], alts := [], laidByText := true, laidKinds := [.data, .data, .data, .data, .pinned], laidTests := true, laidLooks := .later }
def CellApartUptoCardSaid : Prop := Claim7.holds Tryd.pinned (.plain (OpenSpec.upto cellApartSpec)) cellApartUptoCard

/-- THE SECOND FORM's CARD OF 'lapidarylaw02.CellOrders'. -/
def cellOrdersUptoCard : Claim7 := { stood := { row := cellOrdersUptoRow, standIns := [], harness := (true, "5bc8603bea4bfbf2d4c6afb82ffeb1e8cfb07daf847283bb19ad7f172062392f"), looks := true }, kinds := [], alts := [], laidByText := true, laidKinds := [.data, .data, .data, .data, .pinned], laidTests := true, laidLooks := .later }
def CellOrdersUptoCardSaid : Prop := Claim7.holds Tryd.pinned (.plain (OpenSpec.upto cellOrdersSpec)) cellOrdersUptoCard

/-- THE SECOND FORM's CARD OF 'lapidarylaw02.CellSorts'. -/
def cellSortsUptoCard : Claim7 := { stood := { row := cellSortsUptoRow, standIns := [], harness := (true, "5bc8603bea4bfbf2d4c6afb82ffeb1e8cfb07daf847283bb19ad7f172062392f"), looks := true }, kinds := [], alts := [], laidByText := true, laidKinds := [.data, .data, .data, .data, .pinned], laidTests := true, laidLooks := .later }
def CellSortsUptoCardSaid : Prop := Claim7.holds Tryd.pinned (.plain (OpenSpec.upto cellSortsSpec)) cellSortsUptoCard

/-- THE SECOND FORM's CARD OF 'lapidarylaw02.CellTotals'. -/
def cellTotalsUptoCard : Claim7 := { stood := { row := cellTotalsUptoRow, standIns := [], harness := (true, "5bc8603bea4bfbf2d4c6afb82ffeb1e8cfb07daf847283bb19ad7f172062392f"), looks := true }, kinds := [], alts := [], laidByText := true, laidKinds := [.data, .data, .data, .data, .pinned], laidTests := true, laidLooks := .later }
def CellTotalsUptoCardSaid : Prop := Claim7.holds Tryd.pinned (.plain (OpenSpec.upto cellTotalsSpec)) cellTotalsUptoCard

/-- THE SECOND FORM's CARD OF 'lapidarylaw02.CellTruths'. -/
def cellTruthsUptoCard : Claim7 := { stood := { row := cellTruthsUptoRow, standIns := [], harness := (true, "5bc8603bea4bfbf2d4c6afb82ffeb1e8cfb07daf847283bb19ad7f172062392f"), looks := true }, kinds := [], alts := [], laidByText := true, laidKinds := [.data, .data, .data, .data, .pinned], laidTests := true, laidLooks := .later }
def CellTruthsUptoCardSaid : Prop := Claim7.holds Tryd.pinned (.plain (OpenSpec.upto cellTruthsSpec)) cellTruthsUptoCard

/-- THE SECOND FORM's CARD OF 'lapidarylaw02.CellMorgan'. -/
def cellMorganUptoCard : Claim7 := { stood := { row := cellMorganUptoRow, standIns := [], harness := (true, "5bc8603bea4bfbf2d4c6afb82ffeb1e8cfb07daf847283bb19ad7f172062392f"), looks := true }, kinds := [], alts := [], laidByText := true, laidKinds := [.data, .data, .data, .data, .pinned], laidTests := true, laidLooks := .later }
def CellMorganUptoCardSaid : Prop := Claim7.holds Tryd.pinned (.plain (OpenSpec.upto cellMorganSpec)) cellMorganUptoCard

/-- THE SECOND FORM's CARD OF 'lapidarylaw02.CellNots'. -/
def cellNotsUptoCard : Claim7 := { stood := { row := cellNotsUptoRow, standIns := [], harness := (true, "5bc8603bea4bfbf2d4c6afb82ffeb1e8cfb07daf847283bb19ad7f172062392f"), looks := true }, kinds := [], alts := [], laidByText := true, laidKinds := [.data, .data, .data, .data, .pinned], laidTests := true, laidLooks := .later }
def CellNotsUptoCardSaid : Prop := Claim7.holds Tryd.pinned (.plain (OpenSpec.upto cellNotsSpec)) cellNotsUptoCard

/-- THE SECOND FORM's CARD OF 'lapidarylaw02.CellRights'. -/
def cellRightsUptoCard : Claim7 := { stood := { row := cellRightsUptoRow, standIns := [], harness := (true, "5bc8603bea4bfbf2d4c6afb82ffeb1e8cfb07daf847283bb19ad7f172062392f"), looks := true }, kinds := [], alts := [], laidByText := true, laidKinds := [.data, .data, .data, .data, .pinned], laidTests := true, laidLooks := .later }
def CellRightsUptoCardSaid : Prop := Claim7.holds Tryd.pinned (.plain (OpenSpec.upto cellRightsSpec)) cellRightsUptoCard
end Rows
end Go.Proofs.YthojikijelijnaaDoor
