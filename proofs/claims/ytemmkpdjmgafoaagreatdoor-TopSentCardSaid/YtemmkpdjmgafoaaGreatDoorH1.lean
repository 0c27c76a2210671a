/- The law TopSent returns true for every input, and leaves the input as it was. No condition. -/
import Derived.Test.YtemmkpdjmgafoaaGreatDoorTie
import Derived.Test.YtemmkpdjmgafoaaGreatDoorG1
import Derived.Test.YtemmkpdjmgafoaaGreatDoorZ11
import Derived.SevenTiedAt
namespace Go.Proofs.YtemmkpdjmgafoaaGreatDoor
set_option linter.all false
set_option maxRecDepth 100000
open Go Go.Proofs.Tryz
theorem law_holds:Rows.TopSentCardSaid:=
 Claim7.holds_tied_plain_at .later [] [.data] true (true,"1cec89473cb6b996ef1b33a6c79064273c8c2af9e717569c2ace4b89794d9f03") false
  (Y6 W5) (λ_ h=>by cases h) (by kernel_rfl) (λ_ h=>by cases h) topSent_row_tie rfl ⟨rfl,rfl⟩ Y7 rfl
  (λf fn aec ayC=>by
   obtain rfl:f=3:=Option.some.inj (LO.symm.trans aec)|>.symm;obtain rfl:fn=Tryz.f3:=(Option.some.inj (func3.symm.trans ayC)).symm
   exact⟨Yk,λj t aeB=>by
    rw[Tryz.params3]at aeB;have hm:t∈[22]:=by simpa using Array.mem_of_getElem? aeB
    have amM:([22].all λu=>!prog.wantsStandIn u)=true:=by kernel_rfl
    exact(show prog.wantsStandIn t=false by simpa using List.all_eq_true.1 amM t hm)⟩)
  Y8
end Go.Proofs.YtemmkpdjmgafoaaGreatDoor
