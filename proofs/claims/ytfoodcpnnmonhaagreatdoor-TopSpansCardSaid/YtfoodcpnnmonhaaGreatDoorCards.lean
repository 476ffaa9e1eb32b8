/-
  DERIVED. GIVEN WITH THE SEED: THE CARDS: each row of YtfoodcpnnmonhaaGreatDoorRows.lean that lists a variable, with what it lists TIED to the program's text (the seventh form; the later family's looks); each row that meets fmt, with fmt's text TOLD by the authors' own Lean function (tested against real Go, not proved from fmt's source: count such statements apart). THE CARD IS WHAT COUNTS. Prove the row's statement (the work); the ties are given (YtfoodcpnnmonhaaGreatDoorTie.lean); close each card by the builder's one call (the guide's Derived/Test/ToyasCard.lean, 'card_holds'). Laid BY PROGRAM, IN A SANDBOX (cutbox-door.mjs). By AI agents, Wed Nov 11 2026. No macro, syntax, notation, axiom, sorry.
-/
import Derived.Test.YtfoodcpnnmonhaaGreatDoorRows
import GoSem.ClaimSeven
namespace Go.Proofs.YtfoodcpnnmonhaaGreatDoor
namespace Rows

/-- THE TIED CARD OF 'kingposttop.TopSpans'. -/
def topSpansCard : Claim7 := { stood := { row := topSpansRow, standIns := [], harness := (true, "e88e95ff68389540675b0e45a7a7f2398b78066f4c880bf7cb8b0f2b47cb4322"), looks := true }, kinds := [], alts := [], laidByText := true, laidKinds := [.data, .data, .data, .data, .sentinel, .sentinel, .data, .data, .pinned], laidTests := true, laidLooks := .later }
def TopSpansCardSaid : Prop := Claim7.holds Tryz.pinned (.plain (OpenSpec.ofChange topSpansSpec)) topSpansCard

/-- THE SECOND FORM's CARD OF 'kingposttop.TopSpans'. -/
def topSpansUptoCard : Claim7 := { stood := { row := topSpansUptoRow, standIns := [], harness := (true, "e88e95ff68389540675b0e45a7a7f2398b78066f4c880bf7cb8b0f2b47cb4322"), looks := true }, kinds := [], alts := [], laidByText := true, laidKinds := [.data, .data, .data, .data, .sentinel, .sentinel, .data, .data, .pinned], laidTests := true, laidLooks := .later }
def TopSpansUptoCardSaid : Prop := Claim7.holds Tryz.pinned (.plain (OpenSpec.upto topSpansSpec)) topSpansUptoCard
end Rows
end Go.Proofs.YtfoodcpnnmonhaaGreatDoor
