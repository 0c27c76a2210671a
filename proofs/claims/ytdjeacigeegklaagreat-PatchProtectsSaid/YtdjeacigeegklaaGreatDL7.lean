/- Functions of the program, written lp. No condition but bJ aY stand in each. -/
import Derived.Test.YtdjeacigeegklaaGreatDA
namespace Go.Proofs.YtdjeacigeegklaaGreat
open Go
set_option maxRecDepth 100000
set_option linter.all false
noncomputable section
def lR(t:List Int):Option Bool:=
 bnd (l7 t) λ(ai:bM)=>bnd (pZ ai) λ(aI:aa×aC×dz×(List Int)×aH×Bool×bM)=>bif !aI.2.2.2.2.2.1 then bnd (jU) λ(bf:Bool)=>some bf else bnd (nH aI.2.2.2.2.2.2 aI.1) λ(bB:bg×bM)=>bnd (eG bB.1.ah aI.2.2.1.cz) λ(bD:Bool)=>bif bD then bnd (jU) λ(cW:Bool)=>some cW else bnd (jq aI.2.1 aI.1 bB.1 aI.2.2.2.2.1 aI.2.2.1.cz) λ(bH:dB×Int)=>bif !decide (bH.2=0)then some false else bnd (jG aI.1 bB.1) λ(jY:aa)=>bO aI.2.2.2.1 0 (λ(j1:Int) (e1:Int) (Z1:(List Int)→Option _) (mQ:(List Int))=>jn (λ(ya:(List Int))=>Z1 ya) λJ1=>bnd (l6 jY aI.2.2.1.cz e1) λ(qH:Bool)=>bif qH then bnd (dL mQ ([e1]:List Int)) λ(l_1:List Int)=>J1 l_1 else J1 mQ) (λ(mQ:(List Int))=>bO bH.1.dD 0 (λ(j2:Int) (e2:bX) (Z2:(List Int)→Option _) (s9:(List Int))=>bnd (iF s9 e2.aO) λ(uf:(List Int))=>Z2 uf) (λ(s9:(List Int))=>bO bH.1.dI 0 (λ(j3:Int) (e3:b8) (Z3:Unit→Option _) (sg:Unit)=>match sg with|()=>bnd (pU jY e3.bn e3.To) λ(pH:Int×Bool)=>bif !pH.2 then some false else Z3 ()) (λ(sg:Unit)=>match sg with|()=>bnd (fV s9 mQ) λ(aa5:Bool)=>(bif aa5 then(bif decide ((bH.1.dD.length:Int)=(mQ.length:Int))then bnd (jU) λ(qn:Bool)=>some qn else some false)else some false)) ()) []) []
end
end Go.Proofs.YtdjeacigeegklaaGreat
