/-
  kingpostlaw10.PolygonPerimeter: for every input the law returns true, and each argument reads as it read before. Condition: the package-level variables that the row lists hold what the program's text lays; the card ties them to that text.
-/
import Derived.Test.YtnjiiafnneillaaGreatDoorX17
import Derived.Test.YtnjiiafnneillaaGreatDoorCards
import Derived.Test.YtnjiiafnneillaaGreatDoorTie
set_option maxRecDepth 100000
set_option maxHeartbeats 8000000
namespace Go.Proofs.YtnjiiafnneillaaGreatDoor
open Go
theorem cd_wf:(Rows.polygonPerimeterRow).wfByText (OpenSpec.ofChange Rows.polygonPerimeterSpec)=true:=by kernel_rfl
theorem cd_main:Tryz.pinned.checked.prog.mainIs=some (true,"6951590246ad8bb1d10b3a3f09fe7f3b3dd4797c9f06828526dcaaf38c20753a".toList):=by kernel_rfl
theorem cd_name:Tryz.prog.funcNamed "kingpost/kingpostlaw10.PolygonPerimeter" =some 3:=by kernel_rfl
theorem cd_looks:true=Tryz.pinned.checked.prog.looks []:=by kernel_rfl
theorem cd_wants:([22,5,5].all λu=>!Tryz.prog.wantsStandIn u)=true:=by kernel_rfl
theorem cd_goes:false=(Rows.polygonPerimeterRow).goesBy Tryz.pinned.checked.prog:=by kernel_rfl
theorem polygonPerimeter_card:Rows.PolygonPerimeterCardSaid:=
 Claim7.holds_tied_plain_at .later [] [.data,.data,.data,.data,.sentinel,.sentinel,.data,.data,.pinned] true (true,"6951590246ad8bb1d10b3a3f09fe7f3b3dd4797c9f06828526dcaaf38c20753a") true
  zlk (λ_ h=>by cases h) cd_wf (λ_ h=>by cases h) polygonPerimeter_row_tie rfl ⟨rfl,rfl⟩ cd_main rfl
  (λf fn hf hfn=>by
    obtain rfl:f=3:=Option.some.inj (cd_name.symm.trans hf)|>.symm;obtain rfl:fn=Tryz.f3:=(Option.some.inj (Tryz.func3.symm.trans hfn)).symm;exact⟨cd_looks,λj t ht=>by
     rw[Tryz.params3] at ht;have hm:t∈[22,5,5]:=by simpa using Array.mem_of_getElem? ht
     have hall:=cd_wants;exact(show Tryz.prog.wantsStandIn t=false by simpa using List.all_eq_true.1 hall t hm)⟩)
  cd_goes
#print axioms polygonPerimeter_card
end Go.Proofs.YtnjiiafnneillaaGreatDoor
