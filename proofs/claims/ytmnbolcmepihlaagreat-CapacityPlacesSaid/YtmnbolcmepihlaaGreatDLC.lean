/- Functions of the program, written gx. No condition but bf aM stand in each. -/
import Derived.Test.YtmnbolcmepihlaaGreatDA
namespace Go.Proofs.YtmnbolcmepihlaaGreat
open Go
set_option maxRecDepth 100000
set_option linter.all false
noncomputable section
def lY: Option ai:=
 some (ai.mk ([(bg.mk (1:Int) true),(bg.mk (2:Int) true)]:List bg) ([(bk.mk (1:Int) (2:Int) (1:Int) (1:Int) (5:Int))]:List bk))
def mP: Option Bool:=
 bnd (lY) λ(aq:ai)=>iH aq ([(aN.mk (1:Int) ([(2:Int)]:List Int) (3:Int)),(aN.mk (1:Int) ([(2:Int)]:List Int) (3:Int)),(aN.mk (2:Int) ([(1:Int)]:List Int) (4:Int))]:List aN) λ(aF:(List aT)×Int)=>bif ((!decide (aF.2=0))||(!decide ((aF.1.length:Int)=(3:Int))))then some false else bnd (lY) λ(bx:ai)=>bnd (lH aF.1 (0:Int) (1:Int)) λ(l_1:List aT)=>bnd (gV bx ([(aN.mk (1:Int) ([(2:Int)]:List Int) (3:Int)),(aN.mk (1:Int) ([(2:Int)]:List Int) (3:Int)),(aN.mk (2:Int) ([(1:Int)]:List Int) (4:Int))]:List aN) l_1) λ(bV:(List aR)×Int)=>bnd (lY) λ(cK:ai)=>bnd (elO ([(aN.mk (1:Int) ([(2:Int)]:List Int) (3:Int)),(aN.mk (1:Int) ([(2:Int)]:List Int) (3:Int)),(aN.mk (2:Int) ([(1:Int)]:List Int) (4:Int))]:List aN) (1:Int)) λ(e_1:aN)=>bnd (gI cK bV.1 e_1) λ(cQ:(List Int)×Int)=>(bif decide (bV.2=0)then(bif decide (cQ.2=0)then bnd (elO aF.1 (0:Int)) λ(e_2:aT)=>(bif decide ((e_2.Links.length:Int)=(1:Int))then bnd (elO aF.1 (1:Int)) λ(e_3:aT)=>(bif decide (e_3.bw=0)then bnd (elO aF.1 (2:Int)) λ(e_4:aT)=>(bif decide ((e_4.Links.length:Int)=(1:Int))then bnd (iT cQ.1 ([(1:Int)]:List Int)) λ(dy:Bool)=>some dy else some false)else some false)else some false)else some false)else some false)
end
end Go.Proofs.YtmnbolcmepihlaaGreat
