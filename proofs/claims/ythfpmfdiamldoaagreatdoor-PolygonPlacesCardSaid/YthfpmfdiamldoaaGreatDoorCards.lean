/-
  DERIVED. GIVEN WITH THE SEED: THE CARDS: each row of YthfpmfdiamldoaaGreatDoorRows.lean that lists a variable, with what it lists TIED to the program's text (the seventh form; the later family's looks); each row that meets fmt, with fmt's text TOLD by the authors' own Lean function (tested against real Go, not proved from fmt's source: count such statements apart). THE CARD IS WHAT COUNTS. Prove the row's statement (the work); the ties are given (YthfpmfdiamldoaaGreatDoorTie.lean); close each card by the builder's one call (the guide's Derived/Test/ToyasCard.lean, 'card_holds'). Laid BY PROGRAM, IN A SANDBOX (cutbox-door.mjs). By AI agents, Wed Nov 11 2026. No macro, syntax, notation, axiom, sorry.
-/
import Derived.Test.YthfpmfdiamldoaaGreatDoorRows
import GoSem.ClaimSeven
namespace Go.Proofs.YthfpmfdiamldoaaGreatDoor
namespace Rows

/-- THE TIED CARD OF 'kingpostlaw10.PolygonPlaces'. -/
def polygonPlacesCard : Claim7 := { stood := { row := polygonPlacesRow, standIns := [], harness := (true, "49bee0ff118f2430705876caf1c9842079b498258f2dfdf2b201c14390ef73c7"), looks := true }, kinds := [], alts := [], laidByText := true, laidKinds := [.data, .data, .data, .data, .sentinel, .sentinel, .data, .pinned], laidTests := true, laidLooks := .later }
def PolygonPlacesCardSaid : Prop := Claim7.holds Tryz.pinned (.plain (OpenSpec.ofChange polygonPlacesSpec)) polygonPlacesCard

/-- THE TIED CARD OF 'kingpostlaw10.PolygonCanonical'. -/
def polygonCanonicalCard : Claim7 := { stood := { row := polygonCanonicalRow, standIns := [], harness := (true, "49bee0ff118f2430705876caf1c9842079b498258f2dfdf2b201c14390ef73c7"), looks := true }, kinds := [], alts := [], laidByText := true, laidKinds := [.data, .data, .data, .data, .sentinel, .sentinel, .data, .pinned], laidTests := true, laidLooks := .later }
def PolygonCanonicalCardSaid : Prop := Claim7.holds Tryz.pinned (.plain (OpenSpec.ofChange polygonCanonicalSpec)) polygonCanonicalCard

/-- THE TIED CARD OF 'kingposttop.TopField'. -/
def topFieldCard : Claim7 := { stood := { row := topFieldRow, standIns := [], harness := (true, "49bee0ff118f2430705876caf1c9842079b498258f2dfdf2b201c14390ef73c7"), looks := true }, kinds := [], alts := [], laidByText := true, laidKinds := [.data, .data, .data, .data, .sentinel, .sentinel, .data, .data, .pinned], laidTests := true, laidLooks := .later }
def TopFieldCardSaid : Prop := Claim7.holds Tryz.pinned (.plain (OpenSpec.ofChange topFieldSpec)) topFieldCard

/-- THE SECOND FORM's CARD OF 'kingpostlaw10.PolygonPlaces'. -/
def polygonPlacesUptoCard : Claim7 := { stood := { row := polygonPlacesUptoRow, standIns := [], harness := (true, "49bee0ff118f2430705876caf1c9842079b498258f2dfdf2b201c14390ef73c7"), looks := true }, kinds := [], alts := [], laidByText := true, laidKinds := [.data, .data, .data, .data, .sentinel, .sentinel, .data, .pinned], laidTests := true, laidLooks := .later }
def PolygonPlacesUptoCardSaid : Prop := Claim7.holds Tryz.pinned (.plain (OpenSpec.upto polygonPlacesSpec)) polygonPlacesUptoCard

/-- THE SECOND FORM's CARD OF 'kingpostlaw10.PolygonCanonical'. -/
def polygonCanonicalUptoCard : Claim7 := { stood := { row := polygonCanonicalUptoRow, standIns := [], harness := (true, "49bee0ff118f2430705876caf1c9842079b498258f2dfdf2b201c14390ef73c7"), looks := true }, kinds := [], alts := [], laidByText := true, laidKinds := [.data, .data, .data, .data, .sentinel, .sentinel, .data, .pinned], laidTests := true, laidLooks := .later }
def PolygonCanonicalUptoCardSaid : Prop := Claim7.holds Tryz.pinned (.plain (OpenSpec.upto polygonCanonicalSpec)) polygonCanonicalUptoCard

/-- THE SECOND FORM's CARD OF 'kingposttop.TopField'. -/
def topFieldUptoCard : Claim7 := { stood := { row := topFieldUptoRow, standIns := [], harness := (true, "49bee0ff118f2430705876caf1c9842079b498258f2dfdf2b201c14390ef73c7"), looks := true }, kinds := [], alts := [], laidByText := true, laidKinds := [.data, .data, .data, .data, .sentinel, .sentinel, .data, .data, .pinned], laidTests := true, laidLooks := .later }
def TopFieldUptoCardSaid : Prop := Claim7.holds Tryz.pinned (.plain (OpenSpec.upto topFieldSpec)) topFieldUptoCard
end Rows
end Go.Proofs.YthfpmfdiamldoaaGreatDoor
