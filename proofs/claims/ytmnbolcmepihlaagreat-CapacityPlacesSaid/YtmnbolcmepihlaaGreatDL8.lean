/- Functions of the program, written gx. No condition but bf aM stand in each. -/
import Derived.Test.YtmnbolcmepihlaaGreatDLC
namespace Go.Proofs.YtmnbolcmepihlaaGreat
open Go
set_option maxRecDepth 100000
set_option linter.all false
noncomputable section
def iM(t:List Int):Option Bool:=
 bnd (jf t) λ(aq:bL)=>bnd (lQ aq (7:Int)) λ(aF:ai×bL)=>bnd (mK aF.2 aF.1 (6:Int)) λ(bx:(List aN)×bL)=>iH aF.1 bx.1 λ(bV:(List aT)×Int)=>(bif decide (bV.2=0)then(bif decide ((bV.1.length:Int)=(bx.1.length:Int))then bnd (mN aF.1 bx.1 bV.1) λ(cK:Int)=>(bif decide (cK=0)then bnd (jL aF.1 bx.1 bV.1) λ(cQ:Int)=>(bif decide (cQ=0)then bnd (mP) λ(dy:Bool)=>some dy else some false)else some false)else some false)else some false)
end
end Go.Proofs.YtmnbolcmepihlaaGreat
