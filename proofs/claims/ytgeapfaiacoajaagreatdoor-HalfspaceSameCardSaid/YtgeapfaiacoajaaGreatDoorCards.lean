/-
  DERIVED. GIVEN WITH THE SEED: THE CARDS: each row of YtgeapfaiacoajaaGreatDoorRows.lean that lists a variable, with what it lists TIED to the program's text (the seventh form; the later family's looks); each row that meets fmt, with fmt's text TOLD by the authors' own Lean function (tested against real Go, not proved from fmt's source: count such statements apart). THE CARD IS WHAT COUNTS. Prove the row's statement (the work); the ties are given (YtgeapfaiacoajaaGreatDoorTie.lean); close each card by the builder's one call (the guide's Derived/Test/ToyasCard.lean, 'card_holds'). Laid BY PROGRAM, IN A SANDBOX (cutbox-door.mjs). By AI agents, Wed Nov 11 2026. No macro, syntax, notation, axiom, sorry.
-/
import Derived.Test.YtgeapfaiacoajaaGreatDoorRows
import GoSem.ClaimSeven
namespace Go.Proofs.YtgeapfaiacoajaaGreatDoor
namespace Rows

/-- THE TIED CARD OF 'kingpostlaw37.HalfspaceSame'. -/
def halfspaceSameCard : Claim7 := { stood := { row := halfspaceSameRow, standIns := [], harness := (true, "60d32b74fe0ea64afd502ceaeda0777ae5a2f016de97bc802228b6cf8efce0b9"), looks := true }, kinds := [], alts := [], laidByText := true, laidKinds := [.data, .data, .data, .data, .sentinel, .sentinel, .data, .data, .pinned], laidTests := true, laidLooks := .later }
def HalfspaceSameCardSaid : Prop := Claim7.holds Tryz.pinned (.plain (OpenSpec.ofChange halfspaceSameSpec)) halfspaceSameCard

/-- THE TIED CARD OF 'kingpostlaw37.HalfspaceShifts'. -/
def halfspaceShiftsCard : Claim7 := { stood := { row := halfspaceShiftsRow, standIns := [], harness := (true, "60d32b74fe0ea64afd502ceaeda0777ae5a2f016de97bc802228b6cf8efce0b9"), looks := true }, kinds := [], alts := [], laidByText := true, laidKinds := [.data, .data, .data, .data, .sentinel, .sentinel, .data, .data, .pinned], laidTests := true, laidLooks := .later }
def HalfspaceShiftsCardSaid : Prop := Claim7.holds Tryz.pinned (.plain (OpenSpec.ofChange halfspaceShiftsSpec)) halfspaceShiftsCard

/-- THE SECOND FORM's CARD OF 'kingpostlaw37.HalfspaceSame'. -/
def halfspaceSameUptoCard : Claim7 := { stood := { row := halfspaceSameUptoRow, standIns := [], harness := (true, "60d32b74fe0ea64afd502ceaeda0777ae5a2f016de97bc802228b6cf8efce0b9"), looks := true }, kinds := [], alts := [], laidByText := true, laidKinds := [.data, .data, .data, .data, .sentinel, .sentinel, .data, .data, .pinned], laidTests := true, laidLooks := .later }
def HalfspaceSameUptoCardSaid : Prop := Claim7.holds Tryz.pinned (.plain (OpenSpec.upto halfspaceSameSpec)) halfspaceSameUptoCard

/-- THE SECOND FORM's CARD OF 'kingpostlaw37.HalfspaceShifts'. -/
def halfspaceShiftsUptoCard : Claim7 := { stood := { row := halfspaceShiftsUptoRow, standIns := [], harness := (true, "60d32b74fe0ea64afd502ceaeda0777ae5a2f016de97bc802228b6cf8efce0b9"), looks := true }, kinds := [], alts := [], laidByText := true, laidKinds := [.data, .data, .data, .data, .sentinel, .sentinel, .data, .data, .pinned], laidTests := true, laidLooks := .later }
def HalfspaceShiftsUptoCardSaid : Prop := Claim7.holds Tryz.pinned (.plain (OpenSpec.upto halfspaceShiftsSpec)) halfspaceShiftsUptoCard
end Rows
end Go.Proofs.YtgeapfaiacoajaaGreatDoor
