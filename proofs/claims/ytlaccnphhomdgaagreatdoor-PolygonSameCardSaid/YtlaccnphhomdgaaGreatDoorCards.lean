/-
  DERIVED. GIVEN WITH THE SEED: THE CARDS: each row of YtlaccnphhomdgaaGreatDoorRows.lean that lists a variable, with what it lists TIED to the program's text (the seventh form; the later family's looks); each row that meets fmt, with fmt's text TOLD by the authors' own Lean function (tested against real Go, not proved from fmt's source: count such statements apart). THE CARD IS WHAT COUNTS. Prove the row's statement (the work); the ties are given (YtlaccnphhomdgaaGreatDoorTie.lean); close each card by the builder's one call (the guide's Derived/Test/ToyasCard.lean, 'card_holds'). Laid BY PROGRAM, IN A SANDBOX (cutbox-door.mjs). By AI agents, Wed Nov 11 2026. No macro, syntax, notation, axiom, sorry.
-/
import Derived.Test.YtlaccnphhomdgaaGreatDoorRows
import GoSem.ClaimSeven
namespace Go.Proofs.YtlaccnphhomdgaaGreatDoor
namespace Rows

/-- THE TIED CARD OF 'kingpostlaw10.PolygonSame'. -/
def polygonSameCard : Claim7 := { stood := { row := polygonSameRow, standIns := [], harness := (true, "ddb03183cceaba66076e67958a0a27cae222936291f5a94745f82a6226978d3e"), looks := true }, kinds := [], alts := [], laidByText := true, laidKinds := [.data, .data, .data, .data, .sentinel, .sentinel, .data, .pinned], laidTests := true, laidLooks := .later }
def PolygonSameCardSaid : Prop := Claim7.holds Tryz.pinned (.plain (OpenSpec.ofChange polygonSameSpec)) polygonSameCard

/-- THE SECOND FORM's CARD OF 'kingpostlaw10.PolygonSame'. -/
def polygonSameUptoCard : Claim7 := { stood := { row := polygonSameUptoRow, standIns := [], harness := (true, "ddb03183cceaba66076e67958a0a27cae222936291f5a94745f82a6226978d3e"), looks := true }, kinds := [], alts := [], laidByText := true, laidKinds := [.data, .data, .data, .data, .sentinel, .sentinel, .data, .pinned], laidTests := true, laidLooks := .later }
def PolygonSameUptoCardSaid : Prop := Claim7.holds Tryz.pinned (.plain (OpenSpec.upto polygonSameSpec)) polygonSameUptoCard
end Rows
end Go.Proofs.YtlaccnphhomdgaaGreatDoor
