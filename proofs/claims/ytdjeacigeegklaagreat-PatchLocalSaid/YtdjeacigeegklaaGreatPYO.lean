/- Plain: what a run in afc mode comes to. No condition but bB aX stand in each. -/
import Derived.Test.YtdjeacigeegklaaGreatPYN
namespace Go.Proofs.YtdjeacigeegklaaGreat
set_option linter.all false
open Go
theorem ad4(f:Int→List Int)(b:Int):∀(n:Nat) (x:Int) (out:List Int),(rtF f b n x out).length≤out.length+n
 |0,_,_=>by simp[rtF]
 |n+1,x,out=>by
  rw[rtF]
  split
  ·omega
  ·split
   ·simp
   ·rename_i y _ _
    have:=ad4 f b n y (out++[y])
    simp at this;omega
end Go.Proofs.YtdjeacigeegklaaGreat
