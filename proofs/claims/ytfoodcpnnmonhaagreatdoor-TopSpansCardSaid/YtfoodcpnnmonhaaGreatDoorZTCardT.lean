/-
  kingposttop.TopSpans: for every input the law returns true, and each argument reads as it read before. Condition: the package-level variables that the row lists hold what the program's text lays; the card ties them to that text.
-/
import Derived.Test.YtfoodcpnnmonhaaGreatDoorZ16
import Derived.Test.YtfoodcpnnmonhaaGreatDoorCards
import Derived.Test.YtfoodcpnnmonhaaGreatDoorTie
set_option maxRecDepth 100000
set_option maxHeartbeats 8000000
namespace Go.Proofs.YtfoodcpnnmonhaaGreatDoor
open Go
theorem cd_wf:(Rows.topSpansRow).wfByText (OpenSpec.ofChange Rows.topSpansSpec)=true:=by kernel_rfl
theorem cd_main:Tryz.pinned.checked.prog.mainIs=some (true,"e88e95ff68389540675b0e45a7a7f2398b78066f4c880bf7cb8b0f2b47cb4322".toList):=by kernel_rfl
theorem cd_name:Tryz.prog.funcNamed "kingpost/kingposttop.TopSpans" =some 3:=by kernel_rfl
theorem cd_looks:true=Tryz.pinned.checked.prog.looks []:=by kernel_rfl
theorem cd_wants:([22,27,3,3,28,28,28,23].all λu=>!Tryz.prog.wantsStandIn u)=true:=by kernel_rfl
theorem cd_goes:false=(Rows.topSpansRow).goesBy Tryz.pinned.checked.prog:=by kernel_rfl
theorem topSpans_card:Rows.TopSpansCardSaid:=
 Claim7.holds_tied_plain_at .later [] [.data,.data,.data,.data,.sentinel,.sentinel,.data,.data,.pinned] true (true,"e88e95ff68389540675b0e45a7a7f2398b78066f4c880bf7cb8b0f2b47cb4322") true
  z3s (λ_ h=>by cases h) cd_wf (λ_ h=>by cases h) topSpans_row_tie rfl ⟨rfl,rfl⟩ cd_main rfl
  (λf fn hf hfn=>by
    obtain rfl:f=3:=Option.some.inj (cd_name.symm.trans hf)|>.symm;obtain rfl:fn=Tryz.f3:=(Option.some.inj (Tryz.func3.symm.trans hfn)).symm;exact⟨cd_looks,λj t ht=>by
     rw[Tryz.params3] at ht;have hm:t∈[22,27,3,3,28,28,28,23]:=by simpa using Array.mem_of_getElem? ht
     have hall:=cd_wants;exact(show Tryz.prog.wantsStandIn t=false by simpa using List.all_eq_true.1 hall t hm)⟩)
  cd_goes
#print axioms topSpans_card
end Go.Proofs.YtfoodcpnnmonhaaGreatDoor
