/-
  kingpostlaw10.PolygonSegments: for every input the law returns true, and each argument reads as it read before. Condition: the package-level variables that the row lists hold what the program's text lays; the card ties them to that text.
-/
import Derived.Test.YtapfekcbbhhieaaGreatDoorS25
import Derived.Test.YtapfekcbbhhieaaGreatDoorCards
import Derived.Test.YtapfekcbbhhieaaGreatDoorTie
namespace Go.Proofs.YtapfekcbbhhieaaGreatDoor
open Go

set_option maxRecDepth 100000 in
theorem polygonSegments_card : Rows.PolygonSegmentsCardSaid :=
  Claim7.holds_tied_plain_at .later [] [.data, .data, .data, .data, .sentinel, .sentinel, .data, .pinned] true (true, "e59d5c01a82dcd061f208512d143dd727aa1f0a173f17b1400cd46883f4353aa") true
    polygonSegments_row (fun _ h => by cases h) (by kernel_rfl) (fun _ h => by cases h) polygonSegments_row_tie rfl ⟨rfl, rfl⟩ (by kernel_rfl) rfl
    (fun f fn hf hfn => by
      obtain rfl : f = 4 := Option.some.inj ((show Tryz.prog.funcNamed "kingpost/kingpostlaw10.PolygonSegments" = some 4 by kernel_rfl).symm.trans hf) |>.symm
      obtain rfl : fn = Tryz.f4 := (Option.some.inj (Tryz.func4.symm.trans hfn)).symm
      exact ⟨by kernel_rfl, fun j t ht => by
        rw [Tryz.params4] at ht
        have hm : t ∈ [24, 24, 24, 24] := by simpa using Array.mem_of_getElem? ht
        have hall : ([24, 24, 24, 24].all fun u => !Tryz.prog.wantsStandIn u) = true := by kernel_rfl
        exact (show Tryz.prog.wantsStandIn t = false by simpa using List.all_eq_true.1 hall t hm)⟩)
    (by kernel_rfl)
#print axioms polygonSegments_card
end Go.Proofs.YtapfekcbbhhieaaGreatDoor
