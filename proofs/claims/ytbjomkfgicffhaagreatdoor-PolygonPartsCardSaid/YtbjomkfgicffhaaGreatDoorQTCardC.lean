/-
  kingpostlaw10.PolygonParts: for every input the law returns true, and each argument reads as it read before. Condition: the package-level variables that the row lists hold what the program's text lays; the card ties them to that text.
-/
import Derived.Test.YtbjomkfgicffhaaGreatDoorQ28
import Derived.Test.YtbjomkfgicffhaaGreatDoorCards
import Derived.Test.YtbjomkfgicffhaaGreatDoorTie
set_option maxRecDepth 100000
set_option maxHeartbeats 8000000
namespace Go.Proofs.YtbjomkfgicffhaaGreatDoor
open Go
theorem polygonParts_card:Rows.PolygonPartsCardSaid:=
 Claim7.holds_tied_plain_at .later [] [.data,.data,.data,.data,.sentinel,.sentinel,.data,.pinned] true (true,"81d96b3c22214da24790e97271245a5c73b7cd9a74569c621ac4decf5c447035") true
  zm7 (λ_ h=>by cases h) (by kernel_rfl) (λ_ h=>by cases h) polygonParts_row_tie rfl ⟨rfl,rfl⟩ (by kernel_rfl) rfl
  (λf fn hf hfn=>by
    obtain rfl:f=3:=Option.some.inj ((show Tryz.prog.funcNamed "kingpost/kingpostlaw10.PolygonParts" =some 3 by kernel_rfl).symm.trans hf)|>.symm
    obtain rfl:fn=Tryz.f3:=(Option.some.inj (Tryz.func3.symm.trans hfn)).symm
    exact⟨by kernel_rfl,λj t ht=>by
     rw[Tryz.params3] at ht
     have hm:t∈[24,24,24,5,5]:=by simpa using Array.mem_of_getElem? ht
     have hall:([24,24,24,5,5].all λu=>!Tryz.prog.wantsStandIn u)=true:=by kernel_rfl
     exact(show Tryz.prog.wantsStandIn t=false by simpa using List.all_eq_true.1 hall t hm)⟩)
  (by kernel_rfl)
#print axioms polygonParts_card
end Go.Proofs.YtbjomkfgicffhaaGreatDoor
