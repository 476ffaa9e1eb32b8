/-
  kingposttop.TopTableLengths: for every input the law returns true, and each argument reads as it read before. Condition: the package-level variables that the row lists hold what the program's text lays; the card ties them to that text.
-/
import Derived.Test.YtmeekcnlacckfaaGreatDoorV14
import Derived.Test.YtmeekcnlacckfaaGreatDoorCards
import Derived.Test.YtmeekcnlacckfaaGreatDoorTie
set_option maxRecDepth 100000
set_option maxHeartbeats 8000000
namespace Go.Proofs.YtmeekcnlacckfaaGreatDoor
open Go
theorem cd_wf:(Rows.topTableLengthsRow).wfByText (OpenSpec.ofChange Rows.topTableLengthsSpec)=true:=by kernel_rfl
theorem cd_main:Tryz.pinned.checked.prog.mainIs=some (true,"ae60ff6f44f282019f9219b2c95416b1dc2a02e2da0c63fa4f757d41fbbeaa7e".toList):=by kernel_rfl
theorem cd_name:Tryz.prog.funcNamed "kingpost/kingposttop.TopTableLengths" =some 6:=by kernel_rfl
theorem cd_looks:true=Tryz.pinned.checked.prog.looks []:=by kernel_rfl
theorem cd_wants:([5,5,5,5].all λu=>!Tryz.prog.wantsStandIn u)=true:=by kernel_rfl
theorem cd_goes:false=(Rows.topTableLengthsRow).goesBy Tryz.pinned.checked.prog:=by kernel_rfl
theorem topTableLengths_card:Rows.TopTableLengthsCardSaid:=
 Claim7.holds_tied_plain_at .later [] [.data,.data,.data,.data,.sentinel,.sentinel,.data,.data,.pinned] true (true,"ae60ff6f44f282019f9219b2c95416b1dc2a02e2da0c63fa4f757d41fbbeaa7e") true
  zhf (λ_ h=>by cases h) cd_wf (λ_ h=>by cases h) topTableLengths_row_tie rfl ⟨rfl,rfl⟩ cd_main rfl
  (λf fn hf hfn=>by
    obtain rfl:f=6:=Option.some.inj (cd_name.symm.trans hf)|>.symm;obtain rfl:fn=Tryz.f6:=(Option.some.inj (Tryz.func6.symm.trans hfn)).symm;exact⟨cd_looks,λj t ht=>by
     rw[Tryz.params6] at ht;have hm:t∈[5,5,5,5]:=by simpa using Array.mem_of_getElem? ht
     have hall:=cd_wants;exact(show Tryz.prog.wantsStandIn t=false by simpa using List.all_eq_true.1 hall t hm)⟩)
  cd_goes
#print axioms topTableLengths_card
end Go.Proofs.YtmeekcnlacckfaaGreatDoor
