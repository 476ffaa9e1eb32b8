/-
  DERIVED. GIVEN WITH THE SEED: THE CARDS: each row of YtbjomkfgicffhaaGreatDoorRows.lean that lists a variable, with what it lists TIED to the program's text (the seventh form; the later family's looks); each row that meets fmt, with fmt's text TOLD by the authors' own Lean function (tested against real Go, not proved from fmt's source: count such statements apart). THE CARD IS WHAT COUNTS. Prove the row's statement (the work); the ties are given (YtbjomkfgicffhaaGreatDoorTie.lean); close each card by the builder's one call (the guide's Derived/Test/ToyasCard.lean, 'card_holds'). Laid BY PROGRAM, IN A SANDBOX (cutbox-door.mjs). By AI agents, Wed Nov 11 2026. No macro, syntax, notation, axiom, sorry.
-/
import Derived.Test.YtbjomkfgicffhaaGreatDoorRows
import GoSem.ClaimSeven
namespace Go.Proofs.YtbjomkfgicffhaaGreatDoor
namespace Rows

/-- THE TIED CARD OF 'kingpostlaw10.PolygonParts'. -/
def polygonPartsCard : Claim7 := { stood := { row := polygonPartsRow, standIns := [], harness := (true, "81d96b3c22214da24790e97271245a5c73b7cd9a74569c621ac4decf5c447035"), looks := true }, kinds := [], alts := [], laidByText := true, laidKinds := [.data, .data, .data, .data, .sentinel, .sentinel, .data, .pinned], laidTests := true, laidLooks := .later }
def PolygonPartsCardSaid : Prop := Claim7.holds Tryz.pinned (.plain (OpenSpec.ofChange polygonPartsSpec)) polygonPartsCard

/-- THE TIED CARD OF 'kingpostlaw10.PolygonInside'. -/
def polygonInsideCard : Claim7 := { stood := { row := polygonInsideRow, standIns := [], harness := (true, "81d96b3c22214da24790e97271245a5c73b7cd9a74569c621ac4decf5c447035"), looks := true }, kinds := [], alts := [], laidByText := true, laidKinds := [.data, .data, .data, .data, .sentinel, .sentinel, .data, .pinned], laidTests := true, laidLooks := .later }
def PolygonInsideCardSaid : Prop := Claim7.holds Tryz.pinned (.plain (OpenSpec.ofChange polygonInsideSpec)) polygonInsideCard

/-- THE SECOND FORM's CARD OF 'kingpostlaw10.PolygonParts'. -/
def polygonPartsUptoCard : Claim7 := { stood := { row := polygonPartsUptoRow, standIns := [], harness := (true, "81d96b3c22214da24790e97271245a5c73b7cd9a74569c621ac4decf5c447035"), looks := true }, kinds := [], alts := [], laidByText := true, laidKinds := [.data, .data, .data, .data, .sentinel, .sentinel, .data, .pinned], laidTests := true, laidLooks := .later }
def PolygonPartsUptoCardSaid : Prop := Claim7.holds Tryz.pinned (.plain (OpenSpec.upto polygonPartsSpec)) polygonPartsUptoCard

/-- THE SECOND FORM's CARD OF 'kingpostlaw10.PolygonInside'. -/
def polygonInsideUptoCard : Claim7 := { stood := { row := polygonInsideUptoRow, standIns := [], harness := (true, "81d96b3c22214da24790e97271245a5c73b7cd9a74569c621ac4decf5c447035"), looks := true }, kinds := [], alts := [], laidByText := true, laidKinds := [.data, .data, .data, .data, .sentinel, .sentinel, .data, .pinned], laidTests := true, laidLooks := .later }
def PolygonInsideUptoCardSaid : Prop := Claim7.holds Tryz.pinned (.plain (OpenSpec.upto polygonInsideSpec)) polygonInsideUptoCard
end Rows
end Go.Proofs.YtbjomkfgicffhaaGreatDoor
