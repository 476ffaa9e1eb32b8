/- kingpostlaw41.MeetBoxes returns true for every input. -/
import Derived.Test.YtjmljcdbjakefaaGreatDoorZ17
import Derived.Test.YtjmljcdbjakefaaGreatDoorCards
import Derived.Test.YtjmljcdbjakefaaGreatDoorTie
set_option maxRecDepth 100000
set_option maxHeartbeats 8000000
namespace Go.Proofs.YtjmljcdbjakefaaGreatDoor
open Go
theorem cd_wf:(Rows.meetBoxesRow).wfByText (OpenSpec.ofChange Rows.meetBoxesSpec)=true:=by kernel_rfl
theorem cd_main:Tryz.pinned.checked.prog.mainIs=some (true,"c61e189d52c9faec3b981160e16dbe0c52c5e46b702b99cd4098af97a060cb86".toList):=by kernel_rfl
theorem cd_name:Tryz.prog.funcNamed "kingpost/kingpostlaw41.MeetBoxes" =some 3:=by kernel_rfl
theorem cd_looks:true=Tryz.pinned.checked.prog.looks []:=by kernel_rfl
theorem cd_wants:([27].all λu=>!Tryz.prog.wantsStandIn u)=true:=by kernel_rfl
theorem cd_goes:false=(Rows.meetBoxesRow).goesBy Tryz.pinned.checked.prog:=by kernel_rfl
theorem meetBoxes_card:Rows.MeetBoxesCardSaid:=
 Claim7.holds_tied_plain_at .later [] [.data,.data,.data,.data,.sentinel,.sentinel,.data,.data,.pinned] true (true,"c61e189d52c9faec3b981160e16dbe0c52c5e46b702b99cd4098af97a060cb86") true
  zzl (λ_ a=>by cases a) cd_wf (λ_ a=>by cases a) meetBoxes_row_tie rfl ⟨rfl,rfl⟩ cd_main rfl
  (λd fn f g=>by
    obtain rfl:d=3:=Option.some.inj (cd_name.symm.trans f)|>.symm;obtain rfl:fn=Tryz.f3:=(Option.some.inj (Tryz.func3.symm.trans g)).symm;exact⟨cd_looks,λi b c=>by
     rw[Tryz.params3] at c;have h:b∈[27]:=by simpa using Array.mem_of_getElem? c
     have e:=cd_wants;exact(show Tryz.prog.wantsStandIn b=false by simpa using List.all_eq_true.1 e b h)⟩)
  cd_goes
#print axioms meetBoxes_card
end Go.Proofs.YtjmljcdbjakefaaGreatDoor
