/-
  DERIVED. GIVEN WITH THE SEED: THE CARDS: each row of YtnjiiafnneillaaGreatDoorRows.lean that lists a variable, with what it lists TIED to the program's text (the seventh form; the later family's looks); each row that meets fmt, with fmt's text TOLD by the authors' own Lean function (tested against real Go, not proved from fmt's source: count such statements apart). THE CARD IS WHAT COUNTS. Prove the row's statement (the work); the ties are given (YtnjiiafnneillaaGreatDoorTie.lean); close each card by the builder's one call (the guide's Derived/Test/ToyasCard.lean, 'card_holds'). Laid BY PROGRAM, IN A SANDBOX (cutbox-door.mjs). By AI agents, Wed Nov 11 2026. No macro, syntax, notation, axiom, sorry.
-/
import Derived.Test.YtnjiiafnneillaaGreatDoorRows
import GoSem.ClaimSeven
namespace Go.Proofs.YtnjiiafnneillaaGreatDoor
namespace Rows

/-- THE TIED CARD OF 'kingpostlaw10.PolygonPerimeter'. -/
def polygonPerimeterCard : Claim7 := { stood := { row := polygonPerimeterRow, standIns := [], harness := (true, "6951590246ad8bb1d10b3a3f09fe7f3b3dd4797c9f06828526dcaaf38c20753a"), looks := true }, kinds := [], alts := [], laidByText := true, laidKinds := [.data, .data, .data, .data, .sentinel, .sentinel, .data, .data, .pinned], laidTests := true, laidLooks := .later }
def PolygonPerimeterCardSaid : Prop := Claim7.holds Tryz.pinned (.plain (OpenSpec.ofChange polygonPerimeterSpec)) polygonPerimeterCard

/-- THE TIED CARD OF 'kingposttop.TopEnclosed'. -/
def topEnclosedCard : Claim7 := { stood := { row := topEnclosedRow, standIns := [], harness := (true, "6951590246ad8bb1d10b3a3f09fe7f3b3dd4797c9f06828526dcaaf38c20753a"), looks := true }, kinds := [], alts := [], laidByText := true, laidKinds := [.data, .data, .data, .data, .sentinel, .sentinel, .data, .data, .pinned], laidTests := true, laidLooks := .later }
def TopEnclosedCardSaid : Prop := Claim7.holds Tryz.pinned (.plain (OpenSpec.ofChange topEnclosedSpec)) topEnclosedCard

/-- THE SECOND FORM's CARD OF 'kingpostlaw10.PolygonPerimeter'. -/
def polygonPerimeterUptoCard : Claim7 := { stood := { row := polygonPerimeterUptoRow, standIns := [], harness := (true, "6951590246ad8bb1d10b3a3f09fe7f3b3dd4797c9f06828526dcaaf38c20753a"), looks := true }, kinds := [], alts := [], laidByText := true, laidKinds := [.data, .data, .data, .data, .sentinel, .sentinel, .data, .data, .pinned], laidTests := true, laidLooks := .later }
def PolygonPerimeterUptoCardSaid : Prop := Claim7.holds Tryz.pinned (.plain (OpenSpec.upto polygonPerimeterSpec)) polygonPerimeterUptoCard

/-- THE SECOND FORM's CARD OF 'kingposttop.TopEnclosed'. -/
def topEnclosedUptoCard : Claim7 := { stood := { row := topEnclosedUptoRow, standIns := [], harness := (true, "6951590246ad8bb1d10b3a3f09fe7f3b3dd4797c9f06828526dcaaf38c20753a"), looks := true }, kinds := [], alts := [], laidByText := true, laidKinds := [.data, .data, .data, .data, .sentinel, .sentinel, .data, .data, .pinned], laidTests := true, laidLooks := .later }
def TopEnclosedUptoCardSaid : Prop := Claim7.holds Tryz.pinned (.plain (OpenSpec.upto topEnclosedSpec)) topEnclosedUptoCard
end Rows
end Go.Proofs.YtnjiiafnneillaaGreatDoor
