/- Functions of the program, written fU. No condition but bM bw stand in each. -/
import Derived.Test.YtjdopimopgpagaaGreatDA
namespace Go.Proofs.YtjdopimopgpagaaGreat
open Go
set_option maxRecDepth 100000
set_option linter.all false
def sG: Option (aB×Bool):=
 bnd (rA (aA.mk ([(bh.mk (1:Int) false),(bh.mk (2:Int) false)]:List bh) ([(aK.mk (1:Int) (2:Int) (1:Int) (1:Int) (0:Int))]:List aK)) []) λ(af:aB×Int)=>bnd (lu af.1 (1:Int)) λ(aD:aB×Int)=>bnd (lu aD.1 (2:Int)) λ(aP:aB×Int)=>some (aP.1,((decide (af.2=0))&&((decide (aD.2=0))&&(decide (aP.2=0)))))
def qY: Option Bool:=
 bnd (sG) λ(af:aB×Bool)=>bnd (rB af.1) λ(aD:aB×Int)=>(bif af.2 then(bif decide (aD.2=0)then(bif decide ((aD.1.aF.length:Int)=(2:Int))then bnd (elO aD.1.aF (0:Int)) λ(e_1:aW)=>(bif decide ((e_1.Database.aC.length:Int)=(2:Int))then bnd (pO aD.1) λ(aP:Bool)=>some aP else some false)else some false)else some false)else some false)
def oJ(sa0:aS)(f:aB)(n:Int):Option (aB×aS):=
 bnd (fN sa0 n) λ(af:Bool×aS)=>bif !af.1 then some (f,af.2)else jn (λ(sg:(List Int)×Int×(List aK)×(List aW)×(List aR))=>match sg with|(m_1,m_2,m_3,m_4,m_5)=>some ((aB.mk m_3 m_4 m_5),(aS.mk m_1 m_2))) λJ1=>bnd (bR af.2 (5:Int)) λ(aD:Int×aS)=>bif decide (aD.1=0)then bnd (nw f.Links (0:Int) (f.Links.length:Int)) λ(l_1:List aK)=>bnd (dh l_1 ([(aK.mk (1:Int) (9:Int) (1:Int) (1:Int) (0:Int))]:List aK)) λ(l_2:List aK)=>J1 (aD.2.L,aD.2.At,l_2,f.aF,f.ay)else bif decide (aD.1=1)then bnd (nw f.aF (0:Int) (f.aF.length:Int)) λ(l_3:List aW)=>bnd (bR aD.2 (9:Int)) λ(aP:Int×aS)=>bnd (eR aP.2) λ(bt:Int×aS)=>bnd (dh l_3 ([(aW.mk aP.1 bt.1 false [] (aG.mk []))]:List aW)) λ(l_4:List aW)=>J1 (bt.2.L,bt.2.At,f.Links,l_4,f.ay)else bif decide (aD.1=2)then bnd (nw f.ay (0:Int) (f.ay.length:Int)) λ(l_5:List aR)=>bnd (bR aD.2 (4:Int)) λ(bF:Int×aS)=>bnd (bR bF.2 (4:Int)) λ(cg:Int×aS)=>bnd (dh l_5 ([(aR.mk bF.1 cg.1 (aG.mk []))]:List aR)) λ(l_6:List aR)=>J1 (cg.2.L,cg.2.At,f.Links,f.aF,l_6)else bif decide (aD.1=3)then bnd (nw f.aF (0:Int) (f.aF.length:Int)) λ(l_7:List aW)=>bnd (iI aD.2 (1:Int)) λ(cw:aG×aS)=>bnd (dh l_7 ([(aW.mk (90:Int) (0:Int) false [] cw.1)]:List aW)) λ(l_8:List aW)=>J1 (cw.2.L,cw.2.At,f.Links,l_8,f.ay)else bnd (nw f.aF (0:Int) (f.aF.length:Int)) λ(l_9:List aW)=>bnd (bR aD.2 (2:Int)) λ(cr:Int×aS)=>bnd (dw cr.2 ([(8:Int),(9:Int)]:List Int)) λ(dJ:Int×aS)=>bnd (dh l_9 ([(aW.mk (91:Int) (0:Int) false ([(bH.mk (0:Int) cr.1 dJ.1)]:List bH) (aG.mk []))]:List aW)) λ(ago:List aW)=>J1 (dJ.2.L,dJ.2.At,f.Links,ago,f.ay)
end Go.Proofs.YtjdopimopgpagaaGreat
