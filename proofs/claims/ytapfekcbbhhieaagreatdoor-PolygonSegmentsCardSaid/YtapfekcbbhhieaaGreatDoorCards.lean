/-
  DERIVED. GIVEN WITH THE SEED: THE CARDS: each row of YtapfekcbbhhieaaGreatDoorRows.lean that lists a variable, with what it lists TIED to the program's text (the seventh form; the later family's looks); each row that meets fmt, with fmt's text TOLD by the authors' own Lean function (tested against real Go, not proved from fmt's source: count such statements apart). THE CARD IS WHAT COUNTS. Prove the row's statement (the work); the ties are given (YtapfekcbbhhieaaGreatDoorTie.lean); close each card by the builder's one call (the guide's Derived/Test/ToyasCard.lean, 'card_holds'). Laid BY PROGRAM, IN A SANDBOX (cutbox-door.mjs). By AI agents, Wed Nov 11 2026. No macro, syntax, notation, axiom, sorry.
-/
import Derived.Test.YtapfekcbbhhieaaGreatDoorRows
import GoSem.ClaimSeven
namespace Go.Proofs.YtapfekcbbhhieaaGreatDoor
namespace Rows

/-- THE TIED CARD OF 'kingpostlaw10.PolygonParts'. -/
def polygonPartsCard : Claim7 := { stood := { row := polygonPartsRow, standIns := [], harness := (true, "e59d5c01a82dcd061f208512d143dd727aa1f0a173f17b1400cd46883f4353aa"), looks := true }, kinds := [], alts := [], laidByText := true, laidKinds := [.data, .data, .data, .data, .sentinel, .sentinel, .data, .pinned], laidTests := true, laidLooks := .later }
def PolygonPartsCardSaid : Prop := Claim7.holds Tryz.pinned (.plain (OpenSpec.ofChange polygonPartsSpec)) polygonPartsCard

/-- THE TIED CARD OF 'kingpostlaw10.PolygonSegments'. -/
def polygonSegmentsCard : Claim7 := { stood := { row := polygonSegmentsRow, standIns := [], harness := (true, "e59d5c01a82dcd061f208512d143dd727aa1f0a173f17b1400cd46883f4353aa"), looks := true }, kinds := [], alts := [], laidByText := true, laidKinds := [.data, .data, .data, .data, .sentinel, .sentinel, .data, .pinned], laidTests := true, laidLooks := .later }
def PolygonSegmentsCardSaid : Prop := Claim7.holds Tryz.pinned (.plain (OpenSpec.ofChange polygonSegmentsSpec)) polygonSegmentsCard

/-- THE SECOND FORM's CARD OF 'kingpostlaw10.PolygonParts'. -/
def polygonPartsUptoCard : Claim7 := { stood := { row := polygonPartsUptoRow, standIns := [], harness := (true, "e59d5c01a82dcd061f208512d143dd727aa1f0a173f17b1400cd46883f4353aa"), looks := true }, kinds := [], alts := [], laidByText := true, laidKinds := [.data, .data, .data, .data, .sentinel, .sentinel, .data, .pinned], laidTests := true, laidLooks := .later }
def PolygonPartsUptoCardSaid : Prop := Claim7.holds Tryz.pinned (.plain (OpenSpec.upto polygonPartsSpec)) polygonPartsUptoCard

/-- THE SECOND FORM's CARD OF 'kingpostlaw10.PolygonSegments'. -/
def polygonSegmentsUptoCard : Claim7 := { stood := { row := polygonSegmentsUptoRow, standIns := [], harness := (true, "e59d5c01a82dcd061f208512d143dd727aa1f0a173f17b1400cd46883f4353aa"), looks := true }, kinds := [], alts := [], laidByText := true, laidKinds := [.data, .data, .data, .data, .sentinel, .sentinel, .data, .pinned], laidTests := true, laidLooks := .later }
def PolygonSegmentsUptoCardSaid : Prop := Claim7.holds Tryz.pinned (.plain (OpenSpec.upto polygonSegmentsSpec)) polygonSegmentsUptoCard
end Rows
end Go.Proofs.YtapfekcbbhhieaaGreatDoor
