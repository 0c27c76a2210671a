/- iV of aR program, written iz. bM bN cu cg bz cv in ck. -/
import Derived.Test.YtmnbolcmepihlaaGreatDA
namespace Go.Proofs.YtmnbolcmepihlaaGreat
open Go
set_option maxRecDepth 100000
set_option linter.all false
noncomputable section
def zH: Option b0:=
 some (b0.mk ([(eC.mk (1:Int) true),(eC.mk (2:Int) true)]:List eC) ([(c8.mk (1:Int) (2:Int) (1:Int) (1:Int) (5:Int))]:List c8))
def CF: Option Bool:=
 bf (zH) λ(a8:b0)=>ze a8 ([(dQ.mk (1:Int) ([(2:Int)]:List Int) (3:Int)),(dQ.mk (1:Int) ([(2:Int)]:List Int) (3:Int)),(dQ.mk (2:Int) ([(1:Int)]:List Int) (4:Int))]:List dQ) λ(bt:(List c0)×Int)=>bif ((!decide (bt.2=0))||(!decide ((bt.1.length:Int)=(3:Int))))then some false else bf (zH) λ(c7:b0)=>bf (qo bt.1 (0:Int) (1:Int)) λ(eU:List c0)=>bf (vp c7 ([(dQ.mk (1:Int) ([(2:Int)]:List Int) (3:Int)),(dQ.mk (1:Int) ([(2:Int)]:List Int) (3:Int)),(dQ.mk (2:Int) ([(1:Int)]:List Int) (4:Int))]:List dQ) eU) λ(fl:(List ep)×Int)=>bf (zH) λ(fE:b0)=>bf (dj ([(dQ.mk (1:Int) ([(2:Int)]:List Int) (3:Int)),(dQ.mk (1:Int) ([(2:Int)]:List Int) (3:Int)),(dQ.mk (2:Int) ([(1:Int)]:List Int) (4:Int))]:List dQ) (1:Int)) λ(ej:dQ)=>bf (y8 fE fl.1 ej) λ(et:(List Int)×Int)=>(bif decide (fl.2=0)then(bif decide (et.2=0)then bf (dj bt.1 (0:Int)) λ(hS:c0)=>(bif decide ((hS.Links.length:Int)=(1:Int))then bf (dj bt.1 (1:Int)) λ(EA:c0)=>(bif decide (EA.er=0)then bf (dj bt.1 (2:Int)) λ(vm:c0)=>(bif decide ((vm.Links.length:Int)=(1:Int))then bf (BM et.1 ([(1:Int)]:List Int)) λ(gW:Bool)=>some gW else some false)else some false)else some false)else some false)else some false)
end
end Go.Proofs.YtmnbolcmepihlaaGreat
