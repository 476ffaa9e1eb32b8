/-
  kingpostlaw37.HalfspaceSame: for every input the law returns true, and each argument reads as it read before. Condition: the package-level variables that the row lists hold what the program's text lays; the card ties them to that text.
-/
import Derived.Test.YtgeapfaiacoajaaGreatDoorY16
import Derived.Test.YtgeapfaiacoajaaGreatDoorCards
import Derived.Test.YtgeapfaiacoajaaGreatDoorTie
set_option maxRecDepth 100000
set_option maxHeartbeats 8000000
namespace Go.Proofs.YtgeapfaiacoajaaGreatDoor
open Go
theorem halfspaceSame_card:Rows.HalfspaceSameCardSaid:=
 Claim7.holds_tied_plain_at .later [] [.data,.data,.data,.data,.sentinel,.sentinel,.data,.data,.pinned] true (true,"60d32b74fe0ea64afd502ceaeda0777ae5a2f016de97bc802228b6cf8efce0b9") true
  zh3 (λ_ h=>by cases h) (by kernel_rfl) (λ_ h=>by cases h) halfspaceSame_row_tie rfl ⟨rfl,rfl⟩ (by kernel_rfl) rfl
  (λf fn hf hfn=>by
    obtain rfl:f=3:=Option.some.inj ((show Tryz.prog.funcNamed "kingpost/kingpostlaw37.HalfspaceSame" =some 3 by kernel_rfl).symm.trans hf)|>.symm;obtain rfl:fn=Tryz.f3:=(Option.some.inj (Tryz.func3.symm.trans hfn)).symm
    exact⟨by kernel_rfl,λj t ht=>by
     rw[Tryz.params3] at ht;have hm:t∈[26,26,22,28]:=by simpa using Array.mem_of_getElem? ht
     have hall:([26,26,22,28].all λu=>!Tryz.prog.wantsStandIn u)=true:=by kernel_rfl
     exact(show Tryz.prog.wantsStandIn t=false by simpa using List.all_eq_true.1 hall t hm)⟩)
  (by kernel_rfl)
#print axioms halfspaceSame_card
end Go.Proofs.YtgeapfaiacoajaaGreatDoor
