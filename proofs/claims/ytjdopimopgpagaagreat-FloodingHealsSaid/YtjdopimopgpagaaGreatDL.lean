/- Functions of the program, written gq. No condition but bH bq stand in each. -/
import Derived.Test.YtjdopimopgpagaaGreatDA
namespace Go.Proofs.YtjdopimopgpagaaGreat
open Go
set_option maxRecDepth 100000
set_option linter.all false
def sZ: Option (aj×Bool):=
 bnd (rQ (aB.mk ([(bf.mk (1:Int) false),(bf.mk (2:Int) false)]:List bf) ([(aV.mk (1:Int) (2:Int) (1:Int) (1:Int) (0:Int))]:List aV)) []) λ(ah:aj×Int)=>bnd (lN ah.1 (1:Int)) λ(aD:aj×Int)=>bnd (lN aD.1 (2:Int)) λ(aP:aj×Int)=>some (aP.1,((decide (ah.2=0))&&((decide (aD.2=0))&&(decide (aP.2=0)))))
def o6: Option Bool:=
 bnd (sZ) λ(ah:aj×Bool)=>bnd (gY ah.1) λ(aD:aj×Int)=>(bif ah.2 then(bif decide (aD.2=0)then(bif decide ((aD.1.aA.length:Int)=(2:Int))then bnd (elO aD.1.aA (0:Int)) λ(e_1:aO)=>(bif decide ((e_1.Database.aG.length:Int)=(2:Int))then bnd (gX aD.1) λ(aP:Bool)=>some aP else some false)else some false)else some false)else some false)
end Go.Proofs.YtjdopimopgpagaaGreat
