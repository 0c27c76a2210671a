/- Functions of the program, written gm. No condition but aT aH stand in each. -/
import Derived.Test.YtmnbolcmepihlaaGreatDA
namespace Go.Proofs.YtmnbolcmepihlaaGreat
open Go
set_option maxRecDepth 100000
set_option linter.all false
noncomputable section
def jP: Option aq:=
 some (aq.mk ([(aW.mk (1:Int) true),(aW.mk (2:Int) true)]:List aW) ([(aY.mk (1:Int) (2:Int) (1:Int) (1:Int) (5:Int))]:List aY))
def ku: Option Bool:=
 bnd (jP) λ(ay:aq)=>gE ay ([(aR.mk (1:Int) ([(2:Int)]:List Int) (3:Int)),(aR.mk (1:Int) ([(2:Int)]:List Int) (3:Int)),(aR.mk (2:Int) ([(1:Int)]:List Int) (4:Int))]:List aR) λ(aI:(List aX)×Int)=>bif ((!decide (aI.2=0))||(!decide ((aI.1.length:Int)=(3:Int))))then some false else bnd (jP) λ(bk:aq)=>bnd (mc aI.1 (0:Int) (1:Int)) λ(l_1:List aX)=>bnd (fE bk ([(aR.mk (1:Int) ([(2:Int)]:List Int) (3:Int)),(aR.mk (1:Int) ([(2:Int)]:List Int) (3:Int)),(aR.mk (2:Int) ([(1:Int)]:List Int) (4:Int))]:List aR) l_1) λ(ck:(List bP)×Int)=>bnd (jP) λ(dA:aq)=>bnd (elO ([(aR.mk (1:Int) ([(2:Int)]:List Int) (3:Int)),(aR.mk (1:Int) ([(2:Int)]:List Int) (3:Int)),(aR.mk (2:Int) ([(1:Int)]:List Int) (4:Int))]:List aR) (1:Int)) λ(e_1:aR)=>bnd (fq dA ck.1 e_1) λ(dg:(List Int)×Int)=>(bif decide (ck.2=0)then(bif decide (dg.2=0)then bnd (elO aI.1 (0:Int)) λ(e_2:aX)=>(bif decide ((e_2.Links.length:Int)=(1:Int))then bnd (elO aI.1 (1:Int)) λ(e_3:aX)=>(bif decide (e_3.bK=0)then bnd (elO aI.1 (2:Int)) λ(e_4:aX)=>(bif decide ((e_4.Links.length:Int)=(1:Int))then bnd (gL dg.1 ([(1:Int)]:List Int)) λ(dD:Bool)=>some dD else some false)else some false)else some false)else some false)else some false)
end
end Go.Proofs.YtmnbolcmepihlaaGreat
