/-
  DERIVED. GIVEN WITH THE SEED: THE CARDS: each row of YtheinkfbiedidaaGreatDoorRows.lean that lists a variable, with what it lists TIED to the program's text (the seventh form; the later family's looks); each row that meets fmt, with fmt's text TOLD by the authors' own Lean function (tested against real Go, not proved from fmt's source: count such statements apart). THE CARD IS WHAT COUNTS. Prove the row's statement (the work); the ties are given (YtheinkfbiedidaaGreatDoorTie.lean); close each card by the builder's one call (the guide's Derived/Test/ToyasCard.lean, 'card_holds'). Laid BY PROGRAM, IN A SANDBOX (cutbox-door.mjs). By AI agents, Wed Nov 11 2026. No macro, syntax, notation, axiom, sorry.
-/
import Derived.Test.YtheinkfbiedidaaGreatDoorRows
import GoSem.ClaimSeven
namespace Go.Proofs.YtheinkfbiedidaaGreatDoor
namespace Rows

/-- THE TIED CARD OF 'kingpostlaw37.HalfspaceCorners'. -/
def halfspaceCornersCard : Claim7 := { stood := { row := halfspaceCornersRow, standIns := [], harness := (true, "afdd4f690fb434f2072d0738cff9475fd02cf16644f430aab17fe264f187769c"), looks := true }, kinds := [], alts := [], laidByText := true, laidKinds := [.data, .data, .data, .data, .sentinel, .sentinel, .data, .data, .pinned], laidTests := true, laidLooks := .later }
def HalfspaceCornersCardSaid : Prop := Claim7.holds Tryz.pinned (.plain (OpenSpec.ofChange halfspaceCornersSpec)) halfspaceCornersCard

/-- THE TIED CARD OF 'kingpostlaw37.HalfspaceFlips'. -/
def halfspaceFlipsCard : Claim7 := { stood := { row := halfspaceFlipsRow, standIns := [], harness := (true, "afdd4f690fb434f2072d0738cff9475fd02cf16644f430aab17fe264f187769c"), looks := true }, kinds := [], alts := [], laidByText := true, laidKinds := [.data, .data, .data, .data, .sentinel, .sentinel, .data, .data, .pinned], laidTests := true, laidLooks := .later }
def HalfspaceFlipsCardSaid : Prop := Claim7.holds Tryz.pinned (.plain (OpenSpec.ofChange halfspaceFlipsSpec)) halfspaceFlipsCard

/-- THE TIED CARD OF 'kingpostlaw37.HalfspaceShifts'. -/
def halfspaceShiftsCard : Claim7 := { stood := { row := halfspaceShiftsRow, standIns := [], harness := (true, "afdd4f690fb434f2072d0738cff9475fd02cf16644f430aab17fe264f187769c"), looks := true }, kinds := [], alts := [], laidByText := true, laidKinds := [.data, .data, .data, .data, .sentinel, .sentinel, .data, .data, .pinned], laidTests := true, laidLooks := .later }
def HalfspaceShiftsCardSaid : Prop := Claim7.holds Tryz.pinned (.plain (OpenSpec.ofChange halfspaceShiftsSpec)) halfspaceShiftsCard

/-- THE SECOND FORM's CARD OF 'kingpostlaw37.HalfspaceCorners'. -/
def halfspaceCornersUptoCard : Claim7 := { stood := { row := halfspaceCornersUptoRow, standIns := [], harness := (true, "afdd4f690fb434f2072d0738cff9475fd02cf16644f430aab17fe264f187769c"), looks := true }, kinds := [], alts := [], laidByText := true, laidKinds := [.data, .data, .data, .data, .sentinel, .sentinel, .data, .data, .pinned], laidTests := true, laidLooks := .later }
def HalfspaceCornersUptoCardSaid : Prop := Claim7.holds Tryz.pinned (.plain (OpenSpec.upto halfspaceCornersSpec)) halfspaceCornersUptoCard

/-- THE SECOND FORM's CARD OF 'kingpostlaw37.HalfspaceFlips'. -/
def halfspaceFlipsUptoCard : Claim7 := { stood := { row := halfspaceFlipsUptoRow, standIns := [], harness := (true, "afdd4f690fb434f2072d0738cff9475fd02cf16644f430aab17fe264f187769c"), looks := true }, kinds := [], alts := [], laidByText := true, laidKinds := [.data, .data, .data, .data, .sentinel, .sentinel, .data, .data, .pinned], laidTests := true, laidLooks := .later }
def HalfspaceFlipsUptoCardSaid : Prop := Claim7.holds Tryz.pinned (.plain (OpenSpec.upto halfspaceFlipsSpec)) halfspaceFlipsUptoCard

/-- THE SECOND FORM's CARD OF 'kingpostlaw37.HalfspaceShifts'. -/
def halfspaceShiftsUptoCard : Claim7 := { stood := { row := halfspaceShiftsUptoRow, standIns := [], harness := (true, "afdd4f690fb434f2072d0738cff9475fd02cf16644f430aab17fe264f187769c"), looks := true }, kinds := [], alts := [], laidByText := true, laidKinds := [.data, .data, .data, .data, .sentinel, .sentinel, .data, .data, .pinned], laidTests := true, laidLooks := .later }
def HalfspaceShiftsUptoCardSaid : Prop := Claim7.holds Tryz.pinned (.plain (OpenSpec.upto halfspaceShiftsSpec)) halfspaceShiftsUptoCard
end Rows
end Go.Proofs.YtheinkfbiedidaaGreatDoor
