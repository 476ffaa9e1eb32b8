/-
  DERIVED. GIVEN WITH THE SEED: THE CARDS: each row of YtjmljcdbjakefaaGreatDoorRows.lean that lists a variable, with what it lists TIED to the program's text (the seventh form; the later family's looks); each row that meets fmt, with fmt's text TOLD by the authors' own Lean function (tested against real Go, not proved from fmt's source: count such statements apart). THE CARD IS WHAT COUNTS. Prove the row's statement (the work); the ties are given (YtjmljcdbjakefaaGreatDoorTie.lean); close each card by the builder's one call (the guide's Derived/Test/ToyasCard.lean, 'card_holds'). Laid BY PROGRAM, IN A SANDBOX (cutbox-door.mjs). By AI agents, Wed Nov 11 2026. No macro, syntax, notation, axiom, sorry.
-/
import Derived.Test.YtjmljcdbjakefaaGreatDoorRows
import GoSem.ClaimSeven
namespace Go.Proofs.YtjmljcdbjakefaaGreatDoor
namespace Rows

/-- THE TIED CARD OF 'kingpostlaw41.MeetBoxes'. -/
def meetBoxesCard : Claim7 := { stood := { row := meetBoxesRow, standIns := [], harness := (true, "c61e189d52c9faec3b981160e16dbe0c52c5e46b702b99cd4098af97a060cb86"), looks := true }, kinds := [], alts := [], laidByText := true, laidKinds := [.data, .data, .data, .data, .sentinel, .sentinel, .data, .data, .pinned], laidTests := true, laidLooks := .later }
def MeetBoxesCardSaid : Prop := Claim7.holds Tryz.pinned (.plain (OpenSpec.ofChange meetBoxesSpec)) meetBoxesCard

/-- THE SECOND FORM's CARD OF 'kingpostlaw41.MeetBoxes'. -/
def meetBoxesUptoCard : Claim7 := { stood := { row := meetBoxesUptoRow, standIns := [], harness := (true, "c61e189d52c9faec3b981160e16dbe0c52c5e46b702b99cd4098af97a060cb86"), looks := true }, kinds := [], alts := [], laidByText := true, laidKinds := [.data, .data, .data, .data, .sentinel, .sentinel, .data, .data, .pinned], laidTests := true, laidLooks := .later }
def MeetBoxesUptoCardSaid : Prop := Claim7.holds Tryz.pinned (.plain (OpenSpec.upto meetBoxesSpec)) meetBoxesUptoCard
end Rows
end Go.Proofs.YtjmljcdbjakefaaGreatDoor
