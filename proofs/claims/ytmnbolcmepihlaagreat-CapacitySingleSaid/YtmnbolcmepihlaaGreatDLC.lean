/- Functions of the program, written gr. No condition but aX aL stand in each. -/
import Derived.Test.YtmnbolcmepihlaaGreatDA
namespace Go.Proofs.YtmnbolcmepihlaaGreat
open Go
set_option maxRecDepth 100000
set_option linter.all false
noncomputable section
def lT: Option af:=
 some (af.mk ([(aW.mk (1:Int) true),(aW.mk (2:Int) true)]:List aW) ([(aU.mk (1:Int) (2:Int) (1:Int) (1:Int) (5:Int))]:List aU))
def jZ: Option Bool:=
 bnd (lT) λ(az:af)=>fT az ([(bf.mk (1:Int) ([(2:Int)]:List Int) (3:Int)),(bf.mk (1:Int) ([(2:Int)]:List Int) (3:Int)),(bf.mk (2:Int) ([(1:Int)]:List Int) (4:Int))]:List bf) λ(aH:(List aQ)×Int)=>bif ((!decide (aH.2=0))||(!decide ((aH.1.length:Int)=(3:Int))))then some false else bnd (lT) λ(bA:af)=>bnd (nM aH.1 (0:Int) (1:Int)) λ(l_1:List aQ)=>bnd (gQ bA ([(bf.mk (1:Int) ([(2:Int)]:List Int) (3:Int)),(bf.mk (1:Int) ([(2:Int)]:List Int) (3:Int)),(bf.mk (2:Int) ([(1:Int)]:List Int) (4:Int))]:List bf) l_1) λ(bU:(List bQ)×Int)=>bnd (lT) λ(dP:af)=>bnd (elO ([(bf.mk (1:Int) ([(2:Int)]:List Int) (3:Int)),(bf.mk (1:Int) ([(2:Int)]:List Int) (3:Int)),(bf.mk (2:Int) ([(1:Int)]:List Int) (4:Int))]:List bf) (1:Int)) λ(e_1:bf)=>bnd (gE dP bU.1 e_1) λ(cV:(List Int)×Int)=>(bif decide (bU.2=0)then(bif decide (cV.2=0)then bnd (elO aH.1 (0:Int)) λ(e_2:aQ)=>(bif decide ((e_2.Links.length:Int)=(1:Int))then bnd (elO aH.1 (1:Int)) λ(e_3:aQ)=>(bif decide (e_3.bx=0)then bnd (elO aH.1 (2:Int)) λ(e_4:aQ)=>(bif decide ((e_4.Links.length:Int)=(1:Int))then bnd (iX cV.1 ([(1:Int)]:List Int)) λ(cB:Bool)=>some cB else some false)else some false)else some false)else some false)else some false)
def nu(ok:Bool)(n:Int):Option Int:=
 bif ok then some n else some (0:Int)
end
end Go.Proofs.YtmnbolcmepihlaaGreat
