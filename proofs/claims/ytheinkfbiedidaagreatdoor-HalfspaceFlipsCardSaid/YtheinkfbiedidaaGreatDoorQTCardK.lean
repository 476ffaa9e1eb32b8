/-
  kingpostlaw37.HalfspaceFlips: for every input the law returns true, and each argument reads as it read before. Condition: the package-level variables that the row lists hold what the program's text lays; the card ties them to that text.
-/
import Derived.Test.YtheinkfbiedidaaGreatDoorQ20
import Derived.Test.YtheinkfbiedidaaGreatDoorCards
import Derived.Test.YtheinkfbiedidaaGreatDoorTie
set_option maxRecDepth 100000
set_option maxHeartbeats 8000000
namespace Go.Proofs.YtheinkfbiedidaaGreatDoor
open Go
theorem halfspaceFlips_card:Rows.HalfspaceFlipsCardSaid:=
 Claim7.holds_tied_plain_at .later [] [.data,.data,.data,.data,.sentinel,.sentinel,.data,.data,.pinned] true (true,"afdd4f690fb434f2072d0738cff9475fd02cf16644f430aab17fe264f187769c") true
  zwx (λ_ h=>by cases h) (by kernel_rfl) (λ_ h=>by cases h) halfspaceFlips_row_tie rfl ⟨rfl,rfl⟩ (by kernel_rfl) rfl
  (λf fn hf hfn=>by
    obtain rfl:f=4:=Option.some.inj ((show Tryz.prog.funcNamed "kingpost/kingpostlaw37.HalfspaceFlips" =some 4 by kernel_rfl).symm.trans hf)|>.symm;obtain rfl:fn=Tryz.f4:=(Option.some.inj (Tryz.func4.symm.trans hfn)).symm
    exact⟨by kernel_rfl,λj t ht=>by
     rw[Tryz.params4] at ht;have hm:t∈[26,30]:=by simpa using Array.mem_of_getElem? ht
     have hall:([26,30].all λu=>!Tryz.prog.wantsStandIn u)=true:=by kernel_rfl
     exact(show Tryz.prog.wantsStandIn t=false by simpa using List.all_eq_true.1 hall t hm)⟩)
  (by kernel_rfl)
#print axioms halfspaceFlips_card
end Go.Proofs.YtheinkfbiedidaaGreatDoor
