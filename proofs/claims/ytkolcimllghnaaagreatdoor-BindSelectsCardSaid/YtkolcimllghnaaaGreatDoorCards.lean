/-
  DERIVED. GIVEN WITH THE SEED: THE CARDS: each row of YtkolcimllghnaaaGreatDoorRows.lean that lists a variable, with what it lists TIED to the program's text (the seventh form; the later family's looks); each row that meets fmt, with fmt's text TOLD by the authors' own Lean function (tested against real Go, not proved from fmt's source: count such statements apart). THE CARD IS WHAT COUNTS. Prove the row's statement (the work); the ties are given (YtkolcimllghnaaaGreatDoorTie.lean); close each card by the builder's one call (the guide's Derived/Test/ToyasCard.lean, 'card_holds'). Laid BY PROGRAM, IN A SANDBOX (cutbox-door.mjs). By AI agents, Wed Nov 11 2026. No macro, syntax, notation, axiom, sorry.
-/
import Derived.Test.YtkolcimllghnaaaGreatDoorRows
import GoSem.ClaimSeven
namespace Go.Proofs.YtkolcimllghnaaaGreatDoor
namespace Rows

/-- THE TIED CARD OF 'lapidarylaw17.BindRows'. -/
def bindRowsCard : Claim7 := { stood := { row := bindRowsRow, standIns := [], harness := (true, "e31f296f967fc84cbef9a83836896619ee24e3dc5780fa54e3060e52202d2277"), looks := true }, kinds := [], alts := [], laidByText := true, laidKinds := [.data, .data, .data, .data, .widerDeep, .pinned, .pinned], laidTests := true, laidLooks := .later }
def BindRowsCardSaid : Prop := Claim7.holds Tryz.pinned (.plain (OpenSpec.ofChange bindRowsSpec)) bindRowsCard

/-- THE TIED CARD OF 'lapidarylaw17.BindSelects'. -/
def bindSelectsCard : Claim7 := { stood := { row := bindSelectsRow, standIns := [], harness := (true, "e31f296f967fc84cbef9a83836896619ee24e3dc5780fa54e3060e52202d2277"), looks := true }, kinds := [], alts := [], laidByText := true, laidKinds := [.data, .data, .data, .data, .widerDeep, .pinned, .pinned], laidTests := true, laidLooks := .later }
def BindSelectsCardSaid : Prop := Claim7.holds Tryz.pinned (.plain (OpenSpec.ofChange bindSelectsSpec)) bindSelectsCard

/-- THE SECOND FORM's CARD OF 'lapidarylaw17.BindRows'. -/
def bindRowsUptoCard : Claim7 := { stood := { row := bindRowsUptoRow, standIns := [], harness := (true, "e31f296f967fc84cbef9a83836896619ee24e3dc5780fa54e3060e52202d2277"), looks := true }, kinds := [], alts := [], laidByText := true, laidKinds := [.data, .data, .data, .data, .widerDeep, .pinned, .pinned], laidTests := true, laidLooks := .later }
def BindRowsUptoCardSaid : Prop := Claim7.holds Tryz.pinned (.plain (OpenSpec.upto bindRowsSpec)) bindRowsUptoCard

/-- THE SECOND FORM's CARD OF 'lapidarylaw17.BindSelects'. -/
def bindSelectsUptoCard : Claim7 := { stood := { row := bindSelectsUptoRow, standIns := [], harness := (true, "e31f296f967fc84cbef9a83836896619ee24e3dc5780fa54e3060e52202d2277"), looks := true }, kinds := [], alts := [], laidByText := true, laidKinds := [.data, .data, .data, .data, .widerDeep, .pinned, .pinned], laidTests := true, laidLooks := .later }
def BindSelectsUptoCardSaid : Prop := Claim7.holds Tryz.pinned (.plain (OpenSpec.upto bindSelectsSpec)) bindSelectsUptoCard
end Rows
end Go.Proofs.YtkolcimllghnaaaGreatDoor
