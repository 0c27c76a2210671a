/- Functions of the program, written iU. No condition but br aM stand in each. -/
import Derived.Test.YtdjeacigeegklaaGreatDA
namespace Go.Proofs.YtdjeacigeegklaaGreat
open Go
set_option maxRecDepth 100000
set_option linter.all false
noncomputable section
def oe: Option af:=
 some (af.mk ([(aP.mk (1:Int) true),(aP.mk (2:Int) true),(aP.mk (3:Int) true)]:List aP) ([(aZ.mk (1:Int) (2:Int) (1:Int) (1:Int) (0:Int)),(aZ.mk (2:Int) (3:Int) (1:Int) (1:Int) (0:Int))]:List aZ))
def mw: Option Bool:=
 bnd (oe) λ(ak:af)=>bnd (lM ak (8:Int)) λ(aO:aI×Int)=>bnd (oe) λ(bT:af)=>bnd (iI aO.1 bT (aK.mk (2:Int) (0:Int) (0:Int) (8:Int) (9:Int) (0:Int) (0:Int) (0:Int) (50:Int) (⟨#[]⟩:ByteArray)) (1:Int)) λ(cI:fe×Int)=>(bif decide (cI.2=0)then(bif decide ((cI.1.cm.length:Int)=(1:Int))then bnd (elO cI.1.cm (0:Int)) λ(e_1:cu)=>(bif decide (e_1.aR=3)then(bif decide ((cI.1.cH.length:Int)=(2:Int))then bnd (elO cI.1.cH (0:Int)) λ(e_2:aV)=>(bif decide (e_2.Bits=48)then bnd (elO cI.1.cH (1:Int)) λ(e_3:aV)=>some (decide (e_3.Bits=32))else some false)else some false)else some false)else some false)else some false)
end
end Go.Proofs.YtdjeacigeegklaaGreat
