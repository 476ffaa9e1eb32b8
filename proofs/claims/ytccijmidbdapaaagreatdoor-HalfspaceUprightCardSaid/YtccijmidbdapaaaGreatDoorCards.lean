/-
  DERIVED. GIVEN WITH THE SEED: THE CARDS: each row of YtccijmidbdapaaaGreatDoorRows.lean that lists a variable, with what it lists TIED to the program's text (the seventh form; the later family's looks); each row that meets fmt, with fmt's text TOLD by the authors' own Lean function (tested against real Go, not proved from fmt's source: count such statements apart). THE CARD IS WHAT COUNTS. Prove the row's statement (the work); the ties are given (YtccijmidbdapaaaGreatDoorTie.lean); close each card by the builder's one call (the guide's Derived/Test/ToyasCard.lean, 'card_holds'). Laid BY PROGRAM, IN A SANDBOX (cutbox-door.mjs). By AI agents, Wed Nov 11 2026. No macro, syntax, notation, axiom, sorry.
-/
import Derived.Test.YtccijmidbdapaaaGreatDoorRows
import GoSem.ClaimSeven
namespace Go.Proofs.YtccijmidbdapaaaGreatDoor
namespace Rows

/-- THE TIED CARD OF 'kingpostlaw37.HalfspacePlanes'. -/
def halfspacePlanesCard : Claim7 := { stood := { row := halfspacePlanesRow, standIns := [], harness := (true, "87384c5b66c6bd16c06192bbb6ed8fe31d3e9ca0da0f5097a273af111398cbbd"), looks := true }, kinds := [], alts := [], laidByText := true, laidKinds := [.data, .data, .data, .data, .sentinel, .sentinel, .data, .data, .pinned], laidTests := true, laidLooks := .later }
def HalfspacePlanesCardSaid : Prop := Claim7.holds Tryz.pinned (.plain (OpenSpec.ofChange halfspacePlanesSpec)) halfspacePlanesCard

/-- THE TIED CARD OF 'kingpostlaw37.HalfspaceUpright'. -/
def halfspaceUprightCard : Claim7 := { stood := { row := halfspaceUprightRow, standIns := [], harness := (true, "87384c5b66c6bd16c06192bbb6ed8fe31d3e9ca0da0f5097a273af111398cbbd"), looks := true }, kinds := [], alts := [], laidByText := true, laidKinds := [.data, .data, .data, .data, .sentinel, .sentinel, .data, .data, .pinned], laidTests := true, laidLooks := .later }
def HalfspaceUprightCardSaid : Prop := Claim7.holds Tryz.pinned (.plain (OpenSpec.ofChange halfspaceUprightSpec)) halfspaceUprightCard

/-- THE SECOND FORM's CARD OF 'kingpostlaw37.HalfspacePlanes'. -/
def halfspacePlanesUptoCard : Claim7 := { stood := { row := halfspacePlanesUptoRow, standIns := [], harness := (true, "87384c5b66c6bd16c06192bbb6ed8fe31d3e9ca0da0f5097a273af111398cbbd"), looks := true }, kinds := [], alts := [], laidByText := true, laidKinds := [.data, .data, .data, .data, .sentinel, .sentinel, .data, .data, .pinned], laidTests := true, laidLooks := .later }
def HalfspacePlanesUptoCardSaid : Prop := Claim7.holds Tryz.pinned (.plain (OpenSpec.upto halfspacePlanesSpec)) halfspacePlanesUptoCard

/-- THE SECOND FORM's CARD OF 'kingpostlaw37.HalfspaceUpright'. -/
def halfspaceUprightUptoCard : Claim7 := { stood := { row := halfspaceUprightUptoRow, standIns := [], harness := (true, "87384c5b66c6bd16c06192bbb6ed8fe31d3e9ca0da0f5097a273af111398cbbd"), looks := true }, kinds := [], alts := [], laidByText := true, laidKinds := [.data, .data, .data, .data, .sentinel, .sentinel, .data, .data, .pinned], laidTests := true, laidLooks := .later }
def HalfspaceUprightUptoCardSaid : Prop := Claim7.holds Tryz.pinned (.plain (OpenSpec.upto halfspaceUprightSpec)) halfspaceUprightUptoCard
end Rows
end Go.Proofs.YtccijmidbdapaaaGreatDoor
