/-
  kingpostlaw37.HalfspacePlanes: for every input the law returns true, and each argument reads as it read before. Condition: the package-level variables that the row lists hold what the program's text lays; the card ties them to that text.
-/
import Derived.Test.YtccijmidbdapaaaGreatDoorI25
import Derived.Test.YtccijmidbdapaaaGreatDoorCards
import Derived.Test.YtccijmidbdapaaaGreatDoorTie
set_option maxRecDepth 100000
set_option maxHeartbeats 8000000
namespace Go.Proofs.YtccijmidbdapaaaGreatDoor
open Go
theorem halfspacePlanes_card:Rows.HalfspacePlanesCardSaid:=
 Claim7.holds_tied_plain_at .later [] [.data,.data,.data,.data,.sentinel,.sentinel,.data,.data,.pinned] true (true,"87384c5b66c6bd16c06192bbb6ed8fe31d3e9ca0da0f5097a273af111398cbbd") true
  zft (λ_ h=>by cases h) (by kernel_rfl) (λ_ h=>by cases h) halfspacePlanes_row_tie rfl ⟨rfl,rfl⟩ (by kernel_rfl) rfl
  (λf fn hf hfn=>by
    obtain rfl:f=3:=Option.some.inj ((show Tryz.prog.funcNamed "kingpost/kingpostlaw37.HalfspacePlanes" =some 3 by kernel_rfl).symm.trans hf)|>.symm
    obtain rfl:fn=Tryz.f3:=(Option.some.inj (Tryz.func3.symm.trans hfn)).symm
    exact⟨by kernel_rfl,λj t ht=>by
     rw[Tryz.params3] at ht
     have hm:t∈[24,26,22]:=by simpa using Array.mem_of_getElem? ht
     have hall:([24,26,22].all λu=>!Tryz.prog.wantsStandIn u)=true:=by kernel_rfl
     exact(show Tryz.prog.wantsStandIn t=false by simpa using List.all_eq_true.1 hall t hm)⟩)
  (by kernel_rfl)
#print axioms halfspacePlanes_card
end Go.Proofs.YtccijmidbdapaaaGreatDoor
