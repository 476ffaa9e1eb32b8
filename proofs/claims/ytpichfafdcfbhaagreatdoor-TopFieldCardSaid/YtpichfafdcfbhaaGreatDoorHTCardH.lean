/-
  kingposttop.TopField: for every input the law returns true, and each argument reads as it read before. Condition: the package-level variables that the row lists hold what the program's text lays; the card ties them to that text.
-/
import Derived.Test.YtpichfafdcfbhaaGreatDoorH20
import Derived.Test.YtpichfafdcfbhaaGreatDoorCards
import Derived.Test.YtpichfafdcfbhaaGreatDoorTie
set_option maxRecDepth 100000
set_option maxHeartbeats 8000000
namespace Go.Proofs.YtpichfafdcfbhaaGreatDoor
open Go
theorem topField_card:Rows.TopFieldCardSaid:=
 Claim7.holds_tied_plain_at .later [] [.data,.data,.data,.data,.sentinel,.sentinel,.data,.data,.pinned] true (true,"2f5746ff9de9771127af15cf26ae4ee3b4b252d2c5301cc12ba6b28b7d80d644") true
  z5r (λ_ h=>by cases h) (by kernel_rfl) (λ_ h=>by cases h) topField_row_tie rfl ⟨rfl,rfl⟩ (by kernel_rfl) rfl
  (λf fn hf hfn=>by
    obtain rfl:f=3:=Option.some.inj ((show Tryz.prog.funcNamed "kingpost/kingposttop.TopField" =some 3 by kernel_rfl).symm.trans hf)|>.symm
    obtain rfl:fn=Tryz.f3:=(Option.some.inj (Tryz.func3.symm.trans hfn)).symm
    exact⟨by kernel_rfl,λj t ht=>by
     rw[Tryz.params3] at ht
     have hm:t∈[22,22,22]:=by simpa using Array.mem_of_getElem? ht
     have hall:([22,22,22].all λu=>!Tryz.prog.wantsStandIn u)=true:=by kernel_rfl
     exact(show Tryz.prog.wantsStandIn t=false by simpa using List.all_eq_true.1 hall t hm)⟩)
  (by kernel_rfl)
#print axioms topField_card
end Go.Proofs.YtpichfafdcfbhaaGreatDoor
