/-
  DERIVED. GIVEN WITH THE SEED: THE CARDS: each row of YtpichfafdcfbhaaGreatDoorRows.lean that lists a variable, with what it lists TIED to the program's text (the seventh form; the later family's looks); each row that meets fmt, with fmt's text TOLD by the authors' own Lean function (tested against real Go, not proved from fmt's source: count such statements apart). THE CARD IS WHAT COUNTS. Prove the row's statement (the work); the ties are given (YtpichfafdcfbhaaGreatDoorTie.lean); close each card by the builder's one call (the guide's Derived/Test/ToyasCard.lean, 'card_holds'). Laid BY PROGRAM, IN A SANDBOX (cutbox-door.mjs). By AI agents, Wed Nov 11 2026. No macro, syntax, notation, axiom, sorry.
-/
import Derived.Test.YtpichfafdcfbhaaGreatDoorRows
import GoSem.ClaimSeven
namespace Go.Proofs.YtpichfafdcfbhaaGreatDoor
namespace Rows

/-- THE TIED CARD OF 'kingposttop.TopField'. -/
def topFieldCard : Claim7 := { stood := { row := topFieldRow, standIns := [], harness := (true, "2f5746ff9de9771127af15cf26ae4ee3b4b252d2c5301cc12ba6b28b7d80d644"), looks := true }, kinds := [], alts := [], laidByText := true, laidKinds := [.data, .data, .data, .data, .sentinel, .sentinel, .data, .data, .pinned], laidTests := true, laidLooks := .later }
def TopFieldCardSaid : Prop := Claim7.holds Tryz.pinned (.plain (OpenSpec.ofChange topFieldSpec)) topFieldCard

/-- THE TIED CARD OF 'kingposttop.TopSigns'. -/
def topSignsCard : Claim7 := { stood := { row := topSignsRow, standIns := [], harness := (true, "2f5746ff9de9771127af15cf26ae4ee3b4b252d2c5301cc12ba6b28b7d80d644"), looks := true }, kinds := [], alts := [], laidByText := true, laidKinds := [.data, .data, .data, .data, .sentinel, .sentinel, .data, .data, .pinned], laidTests := true, laidLooks := .later }
def TopSignsCardSaid : Prop := Claim7.holds Tryz.pinned (.plain (OpenSpec.ofChange topSignsSpec)) topSignsCard

/-- THE SECOND FORM's CARD OF 'kingposttop.TopField'. -/
def topFieldUptoCard : Claim7 := { stood := { row := topFieldUptoRow, standIns := [], harness := (true, "2f5746ff9de9771127af15cf26ae4ee3b4b252d2c5301cc12ba6b28b7d80d644"), looks := true }, kinds := [], alts := [], laidByText := true, laidKinds := [.data, .data, .data, .data, .sentinel, .sentinel, .data, .data, .pinned], laidTests := true, laidLooks := .later }
def TopFieldUptoCardSaid : Prop := Claim7.holds Tryz.pinned (.plain (OpenSpec.upto topFieldSpec)) topFieldUptoCard

/-- THE SECOND FORM's CARD OF 'kingposttop.TopSigns'. -/
def topSignsUptoCard : Claim7 := { stood := { row := topSignsUptoRow, standIns := [], harness := (true, "2f5746ff9de9771127af15cf26ae4ee3b4b252d2c5301cc12ba6b28b7d80d644"), looks := true }, kinds := [], alts := [], laidByText := true, laidKinds := [.data, .data, .data, .data, .sentinel, .sentinel, .data, .data, .pinned], laidTests := true, laidLooks := .later }
def TopSignsUptoCardSaid : Prop := Claim7.holds Tryz.pinned (.plain (OpenSpec.upto topSignsSpec)) topSignsUptoCard
end Rows
end Go.Proofs.YtpichfafdcfbhaaGreatDoor
