/-
  kingpostlaw10.PolygonPlaces: for every input the law returns true, and each argument reads as it read before. Condition: the package-level variables that the row lists hold what the program's text lays; the card ties them to that text.
-/
import Derived.Test.YthfpmfdiamldoaaGreatDoorG29
import Derived.Test.YthfpmfdiamldoaaGreatDoorCards
import Derived.Test.YthfpmfdiamldoaaGreatDoorTie
set_option maxRecDepth 100000
set_option maxHeartbeats 8000000
namespace Go.Proofs.YthfpmfdiamldoaaGreatDoor
open Go
theorem polygonPlaces_card:Rows.PolygonPlacesCardSaid:=
 Claim7.holds_tied_plain_at .later [] [.data,.data,.data,.data,.sentinel,.sentinel,.data,.pinned] true (true,"49bee0ff118f2430705876caf1c9842079b498258f2dfdf2b201c14390ef73c7") true
  zzq (λ_ h=>by cases h) (by kernel_rfl) (λ_ h=>by cases h) polygonPlaces_row_tie rfl ⟨rfl,rfl⟩ (by kernel_rfl) rfl
  (λf fn hf hfn=>by
    obtain rfl:f=3:=Option.some.inj ((show Tryz.prog.funcNamed "kingpost/kingpostlaw10.PolygonPlaces" =some 3 by kernel_rfl).symm.trans hf)|>.symm
    obtain rfl:fn=Tryz.f3:=(Option.some.inj (Tryz.func3.symm.trans hfn)).symm
    exact⟨by kernel_rfl,λj t ht=>by
     rw[Tryz.params3] at ht
     have hm:t∈[22,22,25,25,25,25]:=by simpa using Array.mem_of_getElem? ht
     have hall:([22,22,25,25,25,25].all λu=>!Tryz.prog.wantsStandIn u)=true:=by kernel_rfl
     exact(show Tryz.prog.wantsStandIn t=false by simpa using List.all_eq_true.1 hall t hm)⟩)
  (by kernel_rfl)
#print axioms polygonPlaces_card
end Go.Proofs.YthfpmfdiamldoaaGreatDoor
