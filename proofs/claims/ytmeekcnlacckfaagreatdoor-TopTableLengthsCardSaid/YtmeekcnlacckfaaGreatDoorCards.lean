/-
  DERIVED. GIVEN WITH THE SEED: THE CARDS: each row of YtmeekcnlacckfaaGreatDoorRows.lean that lists a variable, with what it lists TIED to the program's text (the seventh form; the later family's looks); each row that meets fmt, with fmt's text TOLD by the authors' own Lean function (tested against real Go, not proved from fmt's source: count such statements apart). THE CARD IS WHAT COUNTS. Prove the row's statement (the work); the ties are given (YtmeekcnlacckfaaGreatDoorTie.lean); close each card by the builder's one call (the guide's Derived/Test/ToyasCard.lean, 'card_holds'). Laid BY PROGRAM, IN A SANDBOX (cutbox-door.mjs). By AI agents, Wed Nov 11 2026. No macro, syntax, notation, axiom, sorry.
-/
import Derived.Test.YtmeekcnlacckfaaGreatDoorRows
import GoSem.ClaimSeven
namespace Go.Proofs.YtmeekcnlacckfaaGreatDoor
namespace Rows

/-- THE TIED CARD OF 'kingpostlaw10.PolygonPerimeter'. -/
def polygonPerimeterCard : Claim7 := { stood := { row := polygonPerimeterRow, standIns := [], harness := (true, "ae60ff6f44f282019f9219b2c95416b1dc2a02e2da0c63fa4f757d41fbbeaa7e"), looks := true }, kinds := [], alts := [], laidByText := true, laidKinds := [.data, .data, .data, .data, .sentinel, .sentinel, .data, .data, .pinned], laidTests := true, laidLooks := .later }
def PolygonPerimeterCardSaid : Prop := Claim7.holds Tryz.pinned (.plain (OpenSpec.ofChange polygonPerimeterSpec)) polygonPerimeterCard

/-- THE TIED CARD OF 'kingposttop.TopSigns'. -/
def topSignsCard : Claim7 := { stood := { row := topSignsRow, standIns := [], harness := (true, "ae60ff6f44f282019f9219b2c95416b1dc2a02e2da0c63fa4f757d41fbbeaa7e"), looks := true }, kinds := [], alts := [], laidByText := true, laidKinds := [.data, .data, .data, .data, .sentinel, .sentinel, .data, .data, .pinned], laidTests := true, laidLooks := .later }
def TopSignsCardSaid : Prop := Claim7.holds Tryz.pinned (.plain (OpenSpec.ofChange topSignsSpec)) topSignsCard

/-- THE TIED CARD OF 'kingposttop.TopSquarePitches'. -/
def topSquarePitchesCard : Claim7 := { stood := { row := topSquarePitchesRow, standIns := [], harness := (true, "ae60ff6f44f282019f9219b2c95416b1dc2a02e2da0c63fa4f757d41fbbeaa7e"), looks := true }, kinds := [], alts := [], laidByText := true, laidKinds := [.data, .data, .data, .data, .sentinel, .sentinel, .data, .data, .pinned], laidTests := true, laidLooks := .later }
def TopSquarePitchesCardSaid : Prop := Claim7.holds Tryz.pinned (.plain (OpenSpec.ofChange topSquarePitchesSpec)) topSquarePitchesCard

/-- THE TIED CARD OF 'kingposttop.TopTableLengths'. -/
def topTableLengthsCard : Claim7 := { stood := { row := topTableLengthsRow, standIns := [], harness := (true, "ae60ff6f44f282019f9219b2c95416b1dc2a02e2da0c63fa4f757d41fbbeaa7e"), looks := true }, kinds := [], alts := [], laidByText := true, laidKinds := [.data, .data, .data, .data, .sentinel, .sentinel, .data, .data, .pinned], laidTests := true, laidLooks := .later }
def TopTableLengthsCardSaid : Prop := Claim7.holds Tryz.pinned (.plain (OpenSpec.ofChange topTableLengthsSpec)) topTableLengthsCard

/-- THE SECOND FORM's CARD OF 'kingpostlaw10.PolygonPerimeter'. -/
def polygonPerimeterUptoCard : Claim7 := { stood := { row := polygonPerimeterUptoRow, standIns := [], harness := (true, "ae60ff6f44f282019f9219b2c95416b1dc2a02e2da0c63fa4f757d41fbbeaa7e"), looks := true }, kinds := [], alts := [], laidByText := true, laidKinds := [.data, .data, .data, .data, .sentinel, .sentinel, .data, .data, .pinned], laidTests := true, laidLooks := .later }
def PolygonPerimeterUptoCardSaid : Prop := Claim7.holds Tryz.pinned (.plain (OpenSpec.upto polygonPerimeterSpec)) polygonPerimeterUptoCard

/-- THE SECOND FORM's CARD OF 'kingposttop.TopSigns'. -/
def topSignsUptoCard : Claim7 := { stood := { row := topSignsUptoRow, standIns := [], harness := (true, "ae60ff6f44f282019f9219b2c95416b1dc2a02e2da0c63fa4f757d41fbbeaa7e"), looks := true }, kinds := [], alts := [], laidByText := true, laidKinds := [.data, .data, .data, .data, .sentinel, .sentinel, .data, .data, .pinned], laidTests := true, laidLooks := .later }
def TopSignsUptoCardSaid : Prop := Claim7.holds Tryz.pinned (.plain (OpenSpec.upto topSignsSpec)) topSignsUptoCard

/-- THE SECOND FORM's CARD OF 'kingposttop.TopSquarePitches'. -/
def topSquarePitchesUptoCard : Claim7 := { stood := { row := topSquarePitchesUptoRow, standIns := [], harness := (true, "ae60ff6f44f282019f9219b2c95416b1dc2a02e2da0c63fa4f757d41fbbeaa7e"), looks := true }, kinds := [], alts := [], laidByText := true, laidKinds := [.data, .data, .data, .data, .sentinel, .sentinel, .data, .data, .pinned], laidTests := true, laidLooks := .later }
def TopSquarePitchesUptoCardSaid : Prop := Claim7.holds Tryz.pinned (.plain (OpenSpec.upto topSquarePitchesSpec)) topSquarePitchesUptoCard

/-- THE SECOND FORM's CARD OF 'kingposttop.TopTableLengths'. -/
def topTableLengthsUptoCard : Claim7 := { stood := { row := topTableLengthsUptoRow, standIns := [], harness := (true, "ae60ff6f44f282019f9219b2c95416b1dc2a02e2da0c63fa4f757d41fbbeaa7e"), looks := true }, kinds := [], alts := [], laidByText := true, laidKinds := [.data, .data, .data, .data, .sentinel, .sentinel, .data, .data, .pinned], laidTests := true, laidLooks := .later }
def TopTableLengthsUptoCardSaid : Prop := Claim7.holds Tryz.pinned (.plain (OpenSpec.upto topTableLengthsSpec)) topTableLengthsUptoCard
end Rows
end Go.Proofs.YtmeekcnlacckfaaGreatDoor
