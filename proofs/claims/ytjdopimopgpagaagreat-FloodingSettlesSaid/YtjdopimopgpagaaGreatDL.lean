/- Functions of the program, written gn. No condition but bK bu stand in each. -/
import Derived.Test.YtjdopimopgpagaaGreatDA
namespace Go.Proofs.YtjdopimopgpagaaGreat
open Go
set_option maxRecDepth 100000
set_option linter.all false
def sU: Option (aA×Bool):=
 bnd (rH (az.mk ([(aU.mk (1:Int) false),(aU.mk (2:Int) false)]:List aU) ([(aS.mk (1:Int) (2:Int) (1:Int) (1:Int) (0:Int))]:List aS)) []) λ(ah:aA×Int)=>bnd (lz ah.1 (1:Int)) λ(aD:aA×Int)=>bnd (lz aD.1 (2:Int)) λ(aN:aA×Int)=>some (aN.1,((decide (ah.2=0))&&((decide (aD.2=0))&&(decide (aN.2=0)))))
def oF: Option Bool:=
 bnd (sU) λ(ah:aA×Bool)=>bnd (eX ah.1) λ(aD:aA×Int)=>(bif ah.2 then(bif decide (aD.2=0)then(bif decide ((aD.1.aB.length:Int)=(2:Int))then bnd (elO aD.1.aB (0:Int)) λ(e_1:aT)=>(bif decide ((e_1.Database.ay.length:Int)=(2:Int))then bnd (eS aD.1) λ(aN:Bool)=>some aN else some false)else some false)else some false)else some false)
end Go.Proofs.YtjdopimopgpagaaGreat
