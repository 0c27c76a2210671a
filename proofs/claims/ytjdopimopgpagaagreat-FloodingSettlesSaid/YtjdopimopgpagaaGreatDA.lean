/- Several texts in one. No condition but those that stand in each. -/
import Derived.Test.YtjdopimopgpagaaGreatT
namespace Go.Proofs.YtjdopimopgpagaaGreat
open Go
set_option maxRecDepth 100000
set_option linter.all false
def iz(l:List Int)(n:Int):Option Bool:=
 bJ l 0 (λ(j1:Int) (e1:Int) (Z1:Unit→Option _) (sg:Unit)=>match sg with|()=>bif decide (e1=n)then some true else Z1 ()) (λ(sg:Unit)=>match sg with|()=>some false) ()
def nB(l:List Int)(n:Int):Option (List Int):=
 whl (λ(Z1:Int→Option _) (fR:Int)=>jn (λ(v_1:Bool)=>bif v_1 then Z1 (w64 (fR+1))else jn (λ(v_2:Bool)=>bif v_2 then some l else bnd (sE l (0:Int) fR) λ(l_1:List Int)=>bnd (cV [] l_1) λ(l_2:List Int)=>bnd (cV l_2 ([n]:List Int)) λ(l_3:List Int)=>bnd (sE l fR (l.length:Int)) λ(l_4:List Int)=>bnd (cV l_3 l_4) λ(l_5:List Int)=>some l_5) λJ2=>(bif decide (fR<(l.length:Int))then bnd (elO l fR) λ(e_2:Int)=>J2 (decide (e_2=n))else J2 false)) λJ1=>(bif decide (fR<(l.length:Int))then bnd (elO l fR) λ(e_1:Int)=>J1 (decide (e_1<n))else J1 false)) (0:Int)
end Go.Proofs.YtjdopimopgpagaaGreat
namespace Go.Proofs.YtjdopimopgpagaaGreat
open Go
set_option maxRecDepth 100000
set_option linter.all false
def pE(n:Int):Option Bool:=
 some ((decide (1≤n))&&(decide (n≤1000)))
def mP(t:az)(ra1:Int):Option Bool:=
 bJ t.aG 0 (λ(j1:Int) (e1:aU) (Z1:Unit→Option _) (sg:Unit)=>match sg with|()=>bif decide (e1.ID=ra1)then some true else Z1 ()) (λ(sg:Unit)=>match sg with|()=>some false) ()
def kR(t:az)(eC:Int)(j7:Int):Option (Int×Bool):=
 bJ t.Links 0 (λ(j1:Int) (e1:aS) (Z1:Unit→Option _) (sg:Unit)=>match sg with|()=>bif ((decide (e1.A=eC))&&(decide (e1.B=j7)))then some (e1.jR,true)else bif ((decide (e1.B=eC))&&(decide (e1.A=j7)))then some (e1.jl,true)else Z1 ()) (λ(sg:Unit)=>match sg with|()=>some ((0:Int),false)) ()
def gK(t:az):Option Int:=
 bif ((decide (24<(t.aG.length:Int)))||(decide (60<(t.Links.length:Int))))then some (3:Int)else bJ t.aG 0 (λ(j1:Int) (e1:aU) (Z1:Unit→Option _) (sg:Unit)=>match sg with|()=>bif ((decide (e1.ID<1))||(decide (99<e1.ID)))then some (2:Int)else Z1 ()) (λ(sg:Unit)=>match sg with|()=>bJ (List.drop 1 t.aG) 1 (λ(j2:Int) (e2:aU) (Z2:Unit→Option _) (sg:Unit)=>match sg with|()=>bnd (elO t.aG (w64 ((j2:Int)-(1:Int)))) λ(e_1:aU)=>bif decide (e2.ID≤e_1.ID)then some (25:Int)else Z2 ()) (λ(sg:Unit)=>match sg with|()=>bJ t.Links 0 (λ(j3:Int) (e3:aS) (Z3:Unit→Option _) (sg:Unit)=>match sg with|()=>jn (λ(v_1:Bool)=>bif v_1 then some (2:Int)else Z3 ()) λJ1=>bnd (pE e3.jR) λ(ah:Bool)=>(bif !ah then J1 true else bnd (pE e3.jl) λ(aD:Bool)=>(bif !aD then J1 true else(bif decide (e3.bQ<0)then J1 true else J1 (decide (1000<e3.bQ)))))) (λ(sg:Unit)=>match sg with|()=>bJ t.Links 0 (λ(j4:Int) (e4:aS) (Z4:Unit→Option _) (sg:Unit)=>match sg with|()=>jn (λ(v_2:Bool)=>bif v_2 then some (4:Int)else Z4 ()) λJ2=>bnd (mP t e4.A) λ(aN:Bool)=>(bif !aN then J2 true else bnd (mP t e4.B) λ(bt:Bool)=>J2 (!bt))) (λ(sg:Unit)=>match sg with|()=>bJ t.Links 0 (λ(j5:Int) (e5:aS) (Z5:Unit→Option _) (sg:Unit)=>match sg with|()=>bif decide (e5.B≤e5.A)then some (8:Int)else Z5 ()) (λ(sg:Unit)=>match sg with|()=>bJ (List.drop 1 t.Links) 1 (λ(j6:Int) (e6:aS) (Z6:Unit→Option _) (sg:Unit)=>match sg with|()=>bnd (elO t.Links (w64 ((j6:Int)-(1:Int)))) λ(e_2:aS)=>bif ((decide (e6.A<e_2.A))||((decide (e_2.A=e6.A))&&(decide (e6.B≤e_2.B))))then some (25:Int)else Z6 ()) (λ(sg:Unit)=>match sg with|()=>some (0:Int)) ()) ()) ()) ()) ()) ()
def pF(xa0:Int)(n:Int):Option Int:=
 bif decide (n<1)then some (0:Int)else chk (decide (n≠0))<|jn (λ(ah:Int)=>some ah) λJ1=>bif decide (Int.tmod xa0 n<0)then J1 (w64 ((Int.tmod xa0 n)+n))else J1 (Int.tmod xa0 n)
def oy(t:aX):Option (Int×aX):=
 bif decide ((t.L.length:Int)≤t.At)then some ((0:Int),t)else bnd (elO t.L (w64 ((w64 (t.At+1))-(1:Int)))) λ(e_1:Int)=>some (e_1,(aX.mk t.L (w64 (t.At+1))))
def cq(t:aX)(n:Int):Option (Int×aX):=
 bnd (oy t) λ(ah:Int×aX)=>bnd (pF ah.1 n) λ(aD:Int)=>some (aD,ah.2)
def ee(t:aX)(low:Int)(high:Int):Option (Int×aX):=
 bnd (cq t (w64 ((w64 (high-low))+(1:Int)))) λ(ah:Int×aX)=>some (w64 (low+ah.1),ah.2)
end Go.Proofs.YtjdopimopgpagaaGreat
namespace Go.Proofs.YtjdopimopgpagaaGreat
open Go
set_option maxRecDepth 100000
set_option linter.all false
def mQ(t:az)(ra1:Int):Option Bool:=
 bnd (gK t) λ(ah:Int)=>(bif decide (ah=0)then bnd (mP t ra1) λ(aD:Bool)=>some aD else some false)
def iV(t:az)(ra1:Int):Option Bool:=
 bnd (gK t) λ(ah:Int)=>bif !decide (ah=0)then some false else bJ t.aG 0 (λ(j1:Int) (e1:aU) (Z1:Unit→Option _) (sg:Unit)=>match sg with|()=>bif decide (e1.ID=ra1)then some e1.aW else Z1 ()) (λ(sg:Unit)=>match sg with|()=>some false) ()
def nC(t:az)(ra1:Int):Option (List Int):=
 bJ t.aG 0 (λ(j1:Int) (e1:aU) (Z1:(List Int)→Option _) (cg:(List Int))=>jn (λ(eO:(List Int))=>Z1 eO) λJ1=>bnd (kR t ra1 e1.ID) λ(ah:Int×Bool)=>bif ah.2 then bnd (cV cg ([e1.ID]:List Int)) λ(l_1:List Int)=>J1 l_1 else J1 cg) (λ(cg:(List Int))=>some cg) []
def oz(l:List pz)(a:Int)(b:Int):Option Bool:=
 bJ l 0 (λ(j1:Int) (e1:pz) (Z1:Unit→Option _) (sg:Unit)=>match sg with|()=>bif (bif decide (e1.cQ=a)then((decide (e1.To=b))||((decide (e1.cQ=b))&&(decide (e1.To=a))))else((decide (e1.cQ=b))&&(decide (e1.To=a))))then some true else Z1 ()) (λ(sg:Unit)=>match sg with|()=>some false) ()
def kH(t:az)(f:fk):Option az:=
 bnd (gK t) λ(ah:Int)=>bif !decide (ah=0)then some (az.mk [] [])else bJ t.aG 0 (λ(j1:Int) (e1:aU) (Z1:(List aU)→Option _) (m_1:(List aU))=>jn (λ(m_2:(List aU))=>Z1 m_2) λJ1=>bnd (iz f.aG e1.ID) λ(aD:Bool)=>bif !aD then bnd (cV m_1 ([e1]:List aU)) λ(l_1:List aU)=>J1 l_1 else J1 m_1) (λ(m_1:(List aU))=>bJ t.Links 0 (λ(j2:Int) (e2:aS) (Z2:(List aS)→Option _) (m_3:(List aS))=>jn (λ(m_4:(List aS))=>Z2 m_4) λJ2=>jn (λ(v_1:Bool)=>bif v_1 then bnd (cV m_3 ([e2]:List aS)) λ(l_2:List aS)=>J2 l_2 else J2 m_3) λJ3=>bnd (iz f.aG e2.A) λ(aN:Bool)=>(bif !aN then bnd (iz f.aG e2.B) λ(bt:Bool)=>(bif !bt then bnd (oz f.Links e2.A e2.B) λ(bL:Bool)=>J3 (!bL)else J3 false)else J3 false)) (λ(m_3:(List aS))=>some (az.mk m_1 m_3)) []) []
def jF(t:az)(ra1:Int):Option (List Int):=
 whl (λ(Z1:((List Int)×Int)→Option _) (sg:(List Int)×Int)=>match sg with|(cg,i_1)=>bif decide (i_1<(cg.length:Int))then bnd (elO cg i_1) λ(e_1:Int)=>bnd (nC t e_1) λ(ah:(List Int))=>bJ ah 0 (λ(j2:Int) (e2:Int) (Z2:(List Int)→Option _) (eO:(List Int))=>jn (λ(zQ:(List Int))=>Z2 zQ) λJ1=>bnd (iz eO e2) λ(aD:Bool)=>bif !aD then bnd (cV eO ([e2]:List Int)) λ(l_1:List Int)=>J1 l_1 else J1 eO) (λ(eO:(List Int))=>Z1 (eO,w64 (i_1+1))) cg else bJ cg 0 (λ(j3:Int) (e3:Int) (Z3:(List Int)→Option _) (l_2:(List Int))=>bnd (nB l_2 e3) λ(aN:(List Int))=>Z3 aN) (λ(l_2:(List Int))=>some l_2) []) (([ra1]:List Int),(0:Int))
def ja(t:az)(a:Int)(b:Int):Option Bool:=
 bnd (mQ t a) λ(ah:Bool)=>(bif ah then bnd (mQ t b) λ(aD:Bool)=>(bif aD then bnd (jF t a) λ(aN:(List Int))=>bnd (iz aN b) λ(bt:Bool)=>some bt else some false)else some false)
def nD(a:az)(b:az):Option Bool:=
 bif ((!decide ((a.aG.length:Int)=(b.aG.length:Int)))||(!decide ((a.Links.length:Int)=(b.Links.length:Int))))then some false else bJ a.aG 0 (λ(j1:Int) (e1:aU) (Z1:Unit→Option _) (sg:Unit)=>match sg with|()=>bnd (elO b.aG (j1:Int)) λ(e_1:aU)=>bif !(ua e1 e_1)then some false else Z1 ()) (λ(sg:Unit)=>match sg with|()=>bJ a.Links 0 (λ(j2:Int) (e2:aS) (Z2:Unit→Option _) (sg:Unit)=>match sg with|()=>bnd (elO b.Links (j2:Int)) λ(e_2:aS)=>bif !(wV e2 e_2)then some false else Z2 ()) (λ(sg:Unit)=>match sg with|()=>some true) ()) ()
end Go.Proofs.YtjdopimopgpagaaGreat
namespace Go.Proofs.YtjdopimopgpagaaGreat
open Go
set_option maxRecDepth 100000
set_option linter.all false
def dA(t:aX)(l:List Int):Option (Int×aX):=
 bnd (cq t (l.length:Int)) λ(ah:Int×aX)=>bnd (elO l ah.1) λ(e_1:Int)=>some (e_1,ah.2)
def gL(t:aX)(n:Int):Option (Bool×aX):=
 bnd (cq t n) λ(ah:Int×aX)=>some (decide (ah.1=w64 (n-1)),ah.2)
def fV(t:aX):Option (Int×aX):=
 bnd (dA t ([(-1:Int),(0:Int),(1:Int),(7:Int),(8:Int),(23:Int),(24:Int),(31:Int),(32:Int),(63:Int),(64:Int),(99:Int),(100:Int),(255:Int),(256:Int),(257:Int),(1000:Int),(1001:Int),(1023:Int),(1024:Int),(1000000:Int),(1000001:Int),(1099511627776:Int),(9223372036854775807:Int),(-9223372036854775808:Int)]:List Int)) λ(ah:Int×aX)=>some (ah.1,ah.2)
def jG(t:aX):Option (Int×aX):=
 bnd (dA t ([(8:Int),(8:Int),(16:Int),(32:Int),(64:Int)]:List Int)) λ(ah:Int×aX)=>some (ah.1,ah.2)
def sJ(l:List aS):Option (List aS):=
 bJ l 0 (λ(j1:Int) (e1:aS) (Z1:(List aS)→Option _) (cg:(List aS))=>whl (λ(Z2:Int→Option _) (fR:Int)=>jn (λ(v_1:Bool)=>bif v_1 then Z2 (w64 (fR+1))else bnd (sE cg (0:Int) fR) λ(l_1:List aS)=>bnd (cV [] l_1) λ(l_2:List aS)=>bnd (cV l_2 ([e1]:List aS)) λ(l_3:List aS)=>bnd (sE cg fR (cg.length:Int)) λ(l_4:List aS)=>bnd (cV l_3 l_4) λ(l_5:List aS)=>Z1 l_5) λJ1=>(bif decide (fR<(cg.length:Int))then bnd (elO cg fR) λ(e_1:aS)=>(bif decide (e_1.A<e1.A)then J1 true else(bif decide (e_1.A=e1.A)then J1 (decide (e_1.B<e1.B))else J1 false))else J1 false)) (0:Int)) (λ(cg:(List aS))=>some cg) []
def vt(l:List Int):Option aX:=
 jn (λ(l_1:(List Int))=>some (aX.mk l_1 (0:Int))) λJ1=>bif decide (600<(l.length:Int))then bnd (sE l (0:Int) (600:Int)) λ(l_2:List Int)=>J1 l_2 else J1 l
def j8(t:aX)(most:Int)(n:Int):Option (az×aX):=
 bnd (ee t (1:Int) most) λ(ah:Int×aX)=>chk (decide ((ah.1+1)≤9223372036854775807))<|gz ((ah.1+1)-(1:Int)).toNat (1:Int) (λ(j1:Int) (Z1:(List aU)→Option _) (m_1:(List aU))=>bnd (cV m_1 ([(aU.mk (j1:Int) true)]:List aU)) λ(l_1:List aU)=>Z1 l_1) (λ(j1:Int) (m_1:(List aU))=>bnd (dA ah.2 ([(1:Int),(2:Int),(2:Int),(5:Int)]:List Int)) λ(aD:Int×aX)=>chk (decide ((ah.1+1)≤9223372036854775807))<|gz ((ah.1+1)-(2:Int)).toNat (2:Int) (λ(j2:Int) (Z2:((List aS)×(List Int)×Int)→Option _) (sg:(List aS)×(List Int)×Int)=>match sg with|(m_2,m_3,m_4)=>bnd (ee (aX.mk m_3 m_4) (1:Int) (w64 ((j2:Int)-(1:Int)))) λ(aN:Int×aX)=>bnd (gL aN.2 (9:Int)) λ(bt:Bool×aX)=>chk (decide ((j2:Int)≤9223372036854775807))<|gz ((j2:Int)-(1:Int)).toNat (1:Int) (λ(j3:Int) (Z3:((List aS)×(List Int)×Int)→Option _) (sg:(List aS)×(List Int)×Int)=>match sg with|(m_5,m_6,m_7)=>jn (λ(sg:(List Int)×Int×(List aS))=>match sg with|(m_8,m_9,hU)=>Z3 (hU,m_8,m_9)) λJ1=>jn (λ(sg:Bool×(List Int)×Int)=>match sg with|(v_1,gP,lX)=>bif v_1 then bnd (ee (aX.mk gP lX) (1:Int) aD.1) λ(de:Int×aX)=>bnd (ee de.2 (1:Int) aD.1) λ(di:Int×aX)=>bnd (cq di.2 (4:Int)) λ(dU:Int×aX)=>bnd (cV m_5 ([(aS.mk (j3:Int) (j2:Int) de.1 di.1 dU.1)]:List aS)) λ(l_2:List aS)=>J1 (dU.2.L,dU.2.At,l_2)else J1 (gP,lX,m_5)) λJ2=>(bif decide ((j3:Int)=aN.1)then(bif !bt.1 then J2 (true,m_6,m_7)else bnd (gL (aX.mk m_6 m_7) (3:Int)) λ(bL:Bool×aX)=>J2 (bL.1,bL.2.L,bL.2.At))else bnd (gL (aX.mk m_6 m_7) (3:Int)) λ(cc:Bool×aX)=>J2 (cc.1,cc.2.L,cc.2.At))) (λ(j3:Int) (sg:(List aS)×(List Int)×Int)=>match sg with|(m_5,m_6,m_7)=>Z2 (m_5,m_6,m_7)) (m_2,bt.2.L,bt.2.At)) (λ(j2:Int) (sg:(List aS)×(List Int)×Int)=>match sg with|(m_2,m_3,m_4)=>bnd (sJ m_2) λ(bP:(List aS))=>jn (λ(sg:(List Int)×Int×(List aU)×(List aS))=>match sg with|(uy,uz,vu,vv)=>some ((az.mk vu vv),(aX.mk uy uz))) λJ3=>jn (λ(sg:Bool×(List Int)×Int)=>match sg with|(v_2,sK,sL)=>bif v_2 then bnd (cq (aX.mk sK sL) (7:Int)) λ(ck:Int×aX)=>bif decide (ck.1=0)then bnd (dA ck.2 ([(0:Int),(1:Int),(99:Int),(100:Int),(-1:Int)]:List Int)) λ(gQ:Int×aX)=>bnd (cV m_1 ([(aU.mk gQ.1 false)]:List aU)) λ(l_3:List aU)=>J3 (gQ.2.L,gQ.2.At,l_3,bP)else bif decide (ck.1=1)then bnd (cq ck.2 (4:Int)) λ(jT:Int×aX)=>bnd (cq jT.2 (4:Int)) λ(mw:Int×aX)=>bnd (cV bP ([(aS.mk jT.1 mw.1 (1:Int) (1:Int) (0:Int))]:List aS)) λ(l_4:List aS)=>J3 (mw.2.L,mw.2.At,m_1,l_4)else bif decide (ck.1=2)then bif decide (0<(bP.length:Int))then bnd (cq ck.2 (bP.length:Int)) λ(tO:Int×aX)=>bnd (fV tO.2) λ(qZ:Int×aX)=>bnd (elO bP tO.1) λ(e_1:aS)=>bnd (iT bP tO.1 (aS.mk e_1.A e_1.B qZ.1 e_1.jl e_1.bQ)) λ(l_5:List aS)=>J3 (qZ.2.L,qZ.2.At,m_1,l_5)else J3 (ck.2.L,ck.2.At,m_1,bP)else bif decide (ck.1=3)then bif decide (0<(bP.length:Int))then bnd (cq ck.2 (bP.length:Int)) λ(ri:Int×aX)=>bnd (fV ri.2) λ(mz:Int×aX)=>bnd (elO bP ri.1) λ(e_2:aS)=>bnd (iT bP ri.1 (aS.mk e_2.A e_2.B e_2.jR mz.1 e_2.bQ)) λ(l_6:List aS)=>J3 (mz.2.L,mz.2.At,m_1,l_6)else J3 (ck.2.L,ck.2.At,m_1,bP)else bif decide (ck.1=4)then bif decide (0<(bP.length:Int))then bnd (cq ck.2 (bP.length:Int)) λ(adz:Int×aX)=>bnd (fV adz.2) λ(wk:Int×aX)=>bnd (elO bP adz.1) λ(e_3:aS)=>bnd (iT bP adz.1 (aS.mk e_3.A e_3.B e_3.jR e_3.jl wk.1)) λ(l_7:List aS)=>J3 (wk.2.L,wk.2.At,m_1,l_7)else J3 (ck.2.L,ck.2.At,m_1,bP)else bif decide (ck.1=5)then bif decide (0<(bP.length:Int))then bnd (cq ck.2 (bP.length:Int)) λ(xR:Int×aX)=>bnd (elO bP xR.1) λ(e_4:aS)=>bnd (cV bP ([e_4]:List aS)) λ(l_8:List aS)=>J3 (xR.2.L,xR.2.At,m_1,l_8)else J3 (ck.2.L,ck.2.At,m_1,bP)else gz ((75:Int)-(50:Int)).toNat (50:Int) (λ(j4:Int) (Z4:(List aU)→Option _) (rF:(List aU))=>bnd (cV rF ([(aU.mk (j4:Int) false)]:List aU)) λ(l_9:List aU)=>Z4 l_9) (λ(j4:Int) (rF:(List aU))=>J3 (ck.2.L,ck.2.At,rF,bP)) m_1 else J3 (sK,sL,m_1,bP)) λJ4=>(bif decide (0<n)then bnd (gL (aX.mk m_3 m_4) n) λ(dW:Bool×aX)=>J4 (dW.1,dW.2.L,dW.2.At)else J4 (false,m_3,m_4))) ([],aD.2.L,aD.2.At)) []
end Go.Proofs.YtjdopimopgpagaaGreat
namespace Go.Proofs.YtjdopimopgpagaaGreat
open Go
set_option maxRecDepth 100000
set_option linter.all false
def mA(xa0:Int):Option Bool:=
 some (!decide (xa0=xa0))
def ez(xa0:Int)(y:Int):Option Int:=
 bnd (mA xa0) λ(ah:Bool)=>bnd (mA y) λ(aD:Bool)=>bif ah then bif aD then some (0:Int)else some (-1:Int)else bif aD then some (1:Int)else bif decide (xa0<y)then some (-1:Int)else bif decide (y<xa0)then some (1:Int)else some (0:Int)
def nE(vals:List Int):Option Int:=
 bJ vals 0 (λ(j1:Int) (e1:Int) (Z1:Unit→Option _) (sg:Unit)=>match sg with|()=>bif !decide (e1=0)then some e1 else Z1 ()) (λ(sg:Unit)=>match sg with|()=>some (0:Int)) ()
def cu(xa0:List aU)(target:Int)(cmp:aU→Int→Option Int):Option (Int×Bool):=
 whl (λ(Z1:(Int×Int)→Option _) (sg:Int×Int)=>match sg with|(i_1,j_1)=>bif decide (i_1<j_1)then bnd (elO xa0 (w64 (Int.fdiv (IntKind.wrap .u64 (w64 (i_1+j_1))) (2 ^ min (1:Int).toNat 64)))) λ(e_1:aU)=>bnd (cmp e_1 target) λ(ah:Int)=>bif decide (ah<0)then Z1 (w64 ((w64 (Int.fdiv (IntKind.wrap .u64 (w64 (i_1+j_1))) (2 ^ min (1:Int).toNat 64)))+(1:Int)),j_1)else Z1 (i_1,w64 (Int.fdiv (IntKind.wrap .u64 (w64 (i_1+j_1))) (2 ^ min (1:Int).toNat 64)))else(bif decide (i_1<(xa0.length:Int))then bnd (elO xa0 i_1) λ(e_2:aU)=>bnd (cmp e_2 target) λ(aD:Int)=>some (i_1,decide (aD=0))else some (i_1,false))) ((0:Int),(xa0.length:Int))
def eE(sa0:List aT)(f:aT→Option Bool):Option Int:=
 bJ sa0 0 (λ(j1:Int) (e1:aT) (Z1:Unit→Option _) (sg:Unit)=>match sg with|()=>bnd (f e1) λ(ah:Bool)=>bif ah then some (j1:Int)else Z1 ()) (λ(sg:Unit)=>match sg with|()=>some (-1:Int)) ()
def cH(xa0:List aS)(target:aS)(cmp:aS→aS→Option Int):Option (Int×Bool):=
 whl (λ(Z1:(Int×Int)→Option _) (sg:Int×Int)=>match sg with|(i_1,j_1)=>bif decide (i_1<j_1)then bnd (elO xa0 (w64 (Int.fdiv (IntKind.wrap .u64 (w64 (i_1+j_1))) (2 ^ min (1:Int).toNat 64)))) λ(e_1:aS)=>bnd (cmp e_1 target) λ(ah:Int)=>bif decide (ah<0)then Z1 (w64 ((w64 (Int.fdiv (IntKind.wrap .u64 (w64 (i_1+j_1))) (2 ^ min (1:Int).toNat 64)))+(1:Int)),j_1)else Z1 (i_1,w64 (Int.fdiv (IntKind.wrap .u64 (w64 (i_1+j_1))) (2 ^ min (1:Int).toNat 64)))else(bif decide (i_1<(xa0.length:Int))then bnd (elO xa0 i_1) λ(e_2:aS)=>bnd (cmp e_2 target) λ(aD:Int)=>some (i_1,decide (aD=0))else some (i_1,false))) ((0:Int),(xa0.length:Int))
def jm(sa0:List Int)(v:Int):Option Int:=
 bJ sa0 0 (λ(j1:Int) (e1:Int) (Z1:Unit→Option _) (sg:Unit)=>match sg with|()=>bif decide (v=e1)then some (j1:Int)else Z1 ()) (λ(sg:Unit)=>match sg with|()=>some (-1:Int)) ()
def dX(sa0:List aU)(f:aU→Option Bool):Option Int:=
 bJ sa0 0 (λ(j1:Int) (e1:aU) (Z1:Unit→Option _) (sg:Unit)=>match sg with|()=>bnd (f e1) λ(ah:Bool)=>bif ah then some (j1:Int)else Z1 ()) (λ(sg:Unit)=>match sg with|()=>some (-1:Int)) ()
def eF(sa0:List aS)(f:aS→Option Bool):Option Int:=
 bJ sa0 0 (λ(j1:Int) (e1:aS) (Z1:Unit→Option _) (sg:Unit)=>match sg with|()=>bnd (f e1) λ(ah:Bool)=>bif ah then some (j1:Int)else Z1 ()) (λ(sg:Unit)=>match sg with|()=>some (-1:Int)) ()
def dY(sa0:List ai)(f:ai→Option Bool):Option Int:=
 bJ sa0 0 (λ(j1:Int) (e1:ai) (Z1:Unit→Option _) (sg:Unit)=>match sg with|()=>bnd (f e1) λ(ah:Bool)=>bif ah then some (j1:Int)else Z1 ()) (λ(sg:Unit)=>match sg with|()=>some (-1:Int)) ()
def fO(sa0:List gB)(f:gB→Option Bool):Option Int:=
 bJ sa0 0 (λ(j1:Int) (e1:gB) (Z1:Unit→Option _) (sg:Unit)=>match sg with|()=>bnd (f e1) λ(ah:Bool)=>bif ah then some (j1:Int)else Z1 ()) (λ(sg:Unit)=>match sg with|()=>some (-1:Int)) ()
def cM(xa0:List ai)(target:Int)(cmp:ai→Int→Option Int):Option (Int×Bool):=
 whl (λ(Z1:(Int×Int)→Option _) (sg:Int×Int)=>match sg with|(i_1,j_1)=>bif decide (i_1<j_1)then bnd (elO xa0 (w64 (Int.fdiv (IntKind.wrap .u64 (w64 (i_1+j_1))) (2 ^ min (1:Int).toNat 64)))) λ(e_1:ai)=>bnd (cmp e_1 target) λ(ah:Int)=>bif decide (ah<0)then Z1 (w64 ((w64 (Int.fdiv (IntKind.wrap .u64 (w64 (i_1+j_1))) (2 ^ min (1:Int).toNat 64)))+(1:Int)),j_1)else Z1 (i_1,w64 (Int.fdiv (IntKind.wrap .u64 (w64 (i_1+j_1))) (2 ^ min (1:Int).toNat 64)))else(bif decide (i_1<(xa0.length:Int))then bnd (elO xa0 i_1) λ(e_2:ai)=>bnd (cmp e_2 target) λ(aD:Int)=>some (i_1,decide (aD=0))else some (i_1,false))) ((0:Int),(xa0.length:Int))
def dV(sa0:List Int)(v:Int):Option Bool:=
 bnd (jm sa0 v) λ(ah:Int)=>some (decide (0≤ah))
def dw(sa0:List aU)(f:aU→Option Bool):Option Bool:=
 bnd (dX sa0 f) λ(ah:Int)=>some (decide (0≤ah))
def cE(sa0:List aS)(f:aS→Option Bool):Option Bool:=
 bnd (eF sa0 f) λ(ah:Int)=>some (decide (0≤ah))
def dx(sa0:List ai)(f:ai→Option Bool):Option Bool:=
 bnd (dY sa0 f) λ(ah:Int)=>some (decide (0≤ah))
def fm(sa0:List gB)(f:gB→Option Bool):Option Bool:=
 bnd (fO sa0 f) λ(ah:Int)=>some (decide (0≤ah))
def je(n:Int)(least:Int)(most:Int):Option Bool:=
 some ((decide (least≤n))&&(decide (n≤most)))
def iH(a:aS)(b:aS):Option Int:=
 bnd (ez a.A b.A) λ(ah:Int)=>bnd (ez a.B b.B) λ(aD:Int)=>bnd (nE ([ah,aD]:List Int)) λ(aN:Int)=>some aN
def kI(ra0:aU)(id:Int):Option Int:=
 bnd (ez ra0.ID id) λ(ah:Int)=>some ah
def mB(ra0:aU):Option Bool:=
 bnd (je ra0.ID (1:Int) (99:Int)) λ(ah:Bool)=>some (!ah)
def j9(l:aS):Option Bool:=
 bnd (je l.jR (1:Int) (1000:Int)) λ(ah:Bool)=>(bif !ah then some true else bnd (je l.jl (1:Int) (1000:Int)) λ(aD:Bool)=>(bif !aD then some true else bnd (je l.bQ (0:Int) (1000:Int)) λ(aN:Bool)=>some (!aN)))
def iI(id:Int)(c_0:az):Option Bool:=
 bnd (cu c_0.aG id kI) λ(ah:Int×Bool)=>some (!ah.2)
def mC(l:aS)(c_0:az):Option Bool:=
 bnd (iI l.A c_0) λ(ah:Bool)=>(bif ah then some true else bnd (iI l.B c_0) λ(aD:Bool)=>some aD)
def mD(l:aS):Option Bool:=
 some (decide (l.B≤l.A))
def gD(t:az):Option Int:=
 bif ((decide (24<(t.aG.length:Int)))||(decide (60<(t.Links.length:Int))))then some (3:Int)else bnd (dw t.aG mB) λ(ah:Bool)=>bif ah then some (2:Int)else bJ t.aG 0 (λ(j1:Int) (e1:aU) (Z1:Unit→Option _) (sg:Unit)=>match sg with|()=>jn (λ(v_1:Bool)=>bif v_1 then some (25:Int)else Z1 ()) λJ1=>(bif decide (0<(j1:Int))then bnd (elO t.aG (w64 ((j1:Int)-(1:Int)))) λ(e_1:aU)=>J1 (decide (e1.ID≤e_1.ID))else J1 false)) (λ(sg:Unit)=>match sg with|()=>bnd (cE t.Links j9) λ(aD:Bool)=>bif aD then some (2:Int)else bnd (cE t.Links (λ(y0:aS)=>mC y0 t)) λ(aN:Bool)=>bif aN then some (4:Int)else bnd (cE t.Links mD) λ(bt:Bool)=>bif bt then some (8:Int)else bJ t.Links 0 (λ(j2:Int) (e2:aS) (Z2:Unit→Option _) (sg:Unit)=>match sg with|()=>jn (λ(v_2:Bool)=>bif v_2 then some (25:Int)else Z2 ()) λJ2=>(bif decide (0<(j2:Int))then bnd (elO t.Links (w64 ((j2:Int)-(1:Int)))) λ(e_2:aS)=>bnd (iH e_2 e2) λ(bL:Int)=>J2 (decide (0≤bL))else J2 false)) (λ(sg:Unit)=>match sg with|()=>some (0:Int)) ()) ()
def gE(t:az):Option Bool:=
 bnd (gD t) λ(ah:Int)=>some (decide (ah=0))
def kJ(t:az)(aJ:Int):Option (aU×Bool):=
 bnd (cu t.aG aJ kI) λ(ah:Int×Bool)=>bif !ah.2 then some ((aU.mk (0:Int) false),false)else bnd (elO t.aG ah.1) λ(e_1:aU)=>some (e_1,true)
def iJ(t:az)(aJ:Int):Option Bool:=
 bnd (kJ t aJ) λ(ah:aU×Bool)=>bnd (gE t) λ(aD:Bool)=>(bif aD then some ah.2 else some false)
def kf(t:az)(aJ:Int):Option Bool:=
 bnd (kJ t aJ) λ(ah:aU×Bool)=>bnd (gE t) λ(aD:Bool)=>(bif aD then some ah.1.aW else some false)
def kK(t:az)(eC:Int)(j7:Int):Option (Int×Bool):=
 bnd (gE t) λ(ah:Bool)=>bif !ah then some ((0:Int),false)else bnd (cH t.Links (aS.mk (if j7<eC then j7 else eC) (if j7>eC then j7 else eC) (0:Int) (0:Int) (0:Int)) iH) λ(aD:Int×Bool)=>bif !aD.2 then some ((0:Int),false)else bif decide (eC<j7)then bnd (elO t.Links aD.1) λ(e_1:aS)=>some (e_1.jR,true)else bnd (elO t.Links aD.1) λ(e_2:aS)=>some (e_2.jl,true)
end Go.Proofs.YtjdopimopgpagaaGreat
namespace Go.Proofs.YtjdopimopgpagaaGreat
open Go
set_option maxRecDepth 100000
set_option linter.all false
def qt(xa0:Int):Option Int:=
 jn (λ(sg:Int×Int)=>match sg with|(ah,n_1)=>jn (λ(sg:Int×Int)=>match sg with|(aD,n_2)=>jn (λ(sg:Int×Int)=>match sg with|(aN,n_3)=>bnd (ixS (⟨#[0,1,2,2,3,3,3,3,4,4,4,4,4,4,4,4,5,5,5,5,5,5,5,5,5,5,5,5,5,5,5,5,6,6,6,6,6,6,6,6,6,6,6,6,6,6,6,6,6,6,6,6,6,6,6,6,6,6,6,6,6,6,6,6,7,7,7,7,7,7,7,7,7,7,7,7,7,7,7,7,7,7,7,7,7,7,7,7,7,7,7,7,7,7,7,7,7,7,7,7,7,7,7,7,7,7,7,7,7,7,7,7,7,7,7,7,7,7,7,7,7,7,7,7,7,7,7,7,8,8,8,8,8,8,8,8,8,8,8,8,8,8,8,8,8,8,8,8,8,8,8,8,8,8,8,8,8,8,8,8,8,8,8,8,8,8,8,8,8,8,8,8,8,8,8,8,8,8,8,8,8,8,8,8,8,8,8,8,8,8,8,8,8,8,8,8,8,8,8,8,8,8,8,8,8,8,8,8,8,8,8,8,8,8,8,8,8,8,8,8,8,8,8,8,8,8,8,8,8,8,8,8,8,8,8,8,8,8,8,8,8,8,8,8,8,8,8,8,8,8,8,8,8,8,8,8]⟩:ByteArray) (IntKind.wrap .u8 aN)) λ(b_1:UInt8)=>some (w64 (n_3+(w64 (b_1.toNat:Int))))) λJ3=>bif decide (256≤aD)then J3 (Int.fdiv aD (2 ^ min (8:Int).toNat 64),w64 (n_2+8))else J3 (aD,n_2)) λJ2=>bif decide (65536≤ah)then J2 (Int.fdiv ah (2 ^ min (16:Int).toNat 64),w64 (n_1+16))else J2 (ah,n_1)) λJ1=>bif decide (4294967296≤xa0)then J1 (Int.fdiv xa0 (2 ^ min (32:Int).toNat 64),(32:Int))else J1 (xa0,(0:Int))
def sM(xa0:Int):Option Int:=
 bnd (qt xa0) λ(ah:Int)=>some ah
def gp: Option Unit:=
 whl (λ(Z1:Unit→Option _) (sg:Unit)=>match sg with|()=>some ()) ()
def iP(limit:Int):Option Unit:=
 whl (λ(Z1:Unit→Option _) (sg:Unit)=>match sg with|()=>bnd (gp) λ(ah:Unit)=>some ()) ()
def oA: Option Unit:=
 bnd (sM (0:Int)) λ(ah:Int)=>bnd (iP ah) λ(aD:Unit)=>some ()
end Go.Proofs.YtjdopimopgpagaaGreat
namespace Go.Proofs.YtjdopimopgpagaaGreat
open Go
set_option maxRecDepth 100000
set_option linter.all false
def gv(t:az)(aJ:Int):Option (List Int):=
 bJ t.Links 0 (λ(j1:Int) (e1:aS) (Z1:(List Int)→Option _) (cg:(List Int))=>jn (λ(eO:(List Int))=>Z1 eO) λJ1=>bif decide (aJ=e1.A)then bnd (cV cg ([e1.B]:List Int)) λ(l_1:List Int)=>J1 l_1 else bif decide (aJ=e1.B)then bnd (cV cg ([e1.A]:List Int)) λ(l_2:List Int)=>J1 l_2 else J1 cg) (λ(cg:(List Int))=>chk (decide (cg.length<4611686018427387904))<|some (jk cg)) []
def gT:Nat→Int→(List Int)→(List Int)→(List aU)→(List aS)→Option (List Int)
 |0,_,_,_,_,_=>none
 |n_+1,ra0,wO,vw,vz,vA=>jn (λ(v_1:Bool)=>bif v_1 then some wO else bnd (cV wO ([ra0]:List Int)) λ(l_1:List Int)=>bnd (gv (az.mk vz vA) ra0) λ(aN:(List Int))=>bJ aN 0 (λ(j1:Int) (e1:Int) (Z1:(List Int)→Option _) (m_1:(List Int))=>bnd (gT n_ e1 m_1 vw vz vA) λ(bt:(List Int))=>Z1 bt) (λ(m_1:(List Int))=>some m_1) l_1) λJ1=>bnd (dV wO ra0) λ(ah:Bool)=>(bif ah then J1 true else bnd (dV vw ra0) λ(aD:Bool)=>J1 aD)
def kg(t:az)(eC:Int)(closed:List Int):Option (List Int):=
 bnd (gT fuel eC [] closed t.aG t.Links) λ(ah:(List Int))=>chk (decide (ah.length<4611686018427387904))<|some (jk ah)
def iK(t:az)(aJ:Int):Option (List Int):=
 bnd (gE t) λ(ah:Bool)=>bif !ah then some []else bnd (gv t aJ) λ(aD:(List Int))=>some aD
def gU(t:az)(a:Int)(b:Int):Option Bool:=
 bnd (iJ t a) λ(ah:Bool)=>(bif ah then bnd (iJ t b) λ(aD:Bool)=>(bif aD then bnd (kg t a []) λ(aN:(List Int))=>bnd (dV aN b) λ(bt:Bool)=>some bt else some false)else some false)
end Go.Proofs.YtjdopimopgpagaaGreat
namespace Go.Proofs.YtjdopimopgpagaaGreat
open Go
set_option maxRecDepth 100000
set_option linter.all false
def lT(n:Int):Option Bool:=
 some ((decide (n=8))||((decide (n=16))||((decide (n=32))||(decide (n=64)))))
def fW(n:Int)(low:Int)(high:Int):Option Bool:=
 some ((decide (low≤n))&&(decide (n≤high)))
def iu(l:List bH):Option Bool:=
 bif decide (8<(l.length:Int))then some false else bJ l 0 (λ(j1:Int) (e1:bH) (Z1:Unit→Option _) (sg:Unit)=>match sg with|()=>jn (λ(v_1:Bool)=>bif v_1 then some false else Z1 ()) λJ1=>bnd (fW e1.bV (0:Int) (7:Int)) λ(ah:Bool)=>(bif !ah then J1 true else bnd (fW e1.ID (1:Int) (256:Int)) λ(aD:Bool)=>(bif !aD then J1 true else bnd (lT e1.Length) λ(aN:Bool)=>(bif !aN then J1 true else(bif decide (0<(j1:Int))then bnd (elO l (w64 ((j1:Int)-(1:Int)))) λ(e_1:bH)=>J1 (decide (e1.bV≤e_1.bV))else J1 false))))) (λ(sg:Unit)=>match sg with|()=>some true) ()
def gM(a:ai):Option Bool:=
 jn (λ(v_1:Bool)=>bif v_1 then some false else bJ a.Links 0 (λ(j1:Int) (e1:bp) (Z1:Unit→Option _) (sg:Unit)=>match sg with|()=>jn (λ(v_2:Bool)=>bif v_2 then some false else Z1 ()) λJ2=>bnd (fW e1.bq (1:Int) (99:Int)) λ(aN:Bool)=>(bif !aN then J2 true else(bif decide (e1.bq=a.af)then J2 true else bnd (fW e1.jE (1:Int) (1000:Int)) λ(bt:Bool)=>(bif !bt then J2 true else bnd (fW e1.bQ (0:Int) (1000:Int)) λ(bL:Bool)=>(bif !bL then J2 true else(bif decide (0<(j1:Int))then bnd (elO a.Links (w64 ((j1:Int)-(1:Int)))) λ(e_1:bp)=>J2 (decide (e1.bq≤e_1.bq))else J2 false)))))) (λ(sg:Unit)=>match sg with|()=>bnd (iu a.Claims) λ(cc:Bool)=>some cc) ()) λJ1=>bnd (fW a.af (1:Int) (99:Int)) λ(ah:Bool)=>(bif !ah then J1 true else bnd (fW a.Seq (1:Int) (1000000:Int)) λ(aD:Bool)=>(bif !aD then J1 true else J1 (decide (23<(a.Links.length:Int)))))
def vC(a:ai)(b:ai):Option Bool:=
 bif ((!decide (a.af=b.af))||((!decide (a.Seq=b.Seq))||((!(a.aW==b.aW))||((!decide ((a.Links.length:Int)=(b.Links.length:Int)))||(!decide ((a.Claims.length:Int)=(b.Claims.length:Int)))))))then some false else bJ a.Links 0 (λ(j1:Int) (e1:bp) (Z1:Unit→Option _) (sg:Unit)=>match sg with|()=>bnd (elO b.Links (j1:Int)) λ(e_1:bp)=>bif !(mO e1 e_1)then some false else Z1 ()) (λ(sg:Unit)=>match sg with|()=>bJ a.Claims 0 (λ(j2:Int) (e2:bH) (Z2:Unit→Option _) (sg:Unit)=>match sg with|()=>bnd (elO b.Claims (j2:Int)) λ(e_2:bH)=>bif !(mN e2 e_2)then some false else Z2 ()) (λ(sg:Unit)=>match sg with|()=>some true) ()) ()
end Go.Proofs.YtjdopimopgpagaaGreat
namespace Go.Proofs.YtjdopimopgpagaaGreat
open Go
set_option maxRecDepth 100000
set_option linter.all false
def gN(d:aH):Option Int:=
 bif decide (99<(d.ay.length:Int))then some (3:Int)else bJ d.ay 0 (λ(j1:Int) (e1:ai) (Z1:Unit→Option _) (sg:Unit)=>match sg with|()=>bnd (gM e1) λ(ah:Bool)=>bif !ah then some (1:Int)else Z1 ()) (λ(sg:Unit)=>match sg with|()=>bJ (List.drop 1 d.ay) 1 (λ(j2:Int) (e2:ai) (Z2:Unit→Option _) (sg:Unit)=>match sg with|()=>bnd (elO d.ay (w64 ((j2:Int)-(1:Int)))) λ(e_1:ai)=>bif decide (e2.af≤e_1.af)then some (25:Int)else Z2 ()) (λ(sg:Unit)=>match sg with|()=>some (0:Int)) ()) ()
def iW(d:aH)(aJ:Int):Option (ai×Bool):=
 bJ d.ay 0 (λ(j1:Int) (e1:ai) (Z1:Unit→Option _) (sg:Unit)=>match sg with|()=>bif decide (e1.af=aJ)then some (e1,true)else Z1 ()) (λ(sg:Unit)=>match sg with|()=>some ((ai.mk (0:Int) (0:Int) false [] []),false)) ()
def l8(a:ai)(pH:Int):Option (bp×Bool):=
 bJ a.Links 0 (λ(j1:Int) (e1:bp) (Z1:Unit→Option _) (sg:Unit)=>match sg with|()=>bif decide (e1.bq=pH)then some (e1,true)else Z1 ()) (λ(sg:Unit)=>match sg with|()=>some ((bp.mk (0:Int) (0:Int) (0:Int)),false)) ()
def jJ(d:aH)(a:Int)(b:Int):Option (bp×bp×Bool):=
 bnd (iW d a) λ(ah:ai×Bool)=>bnd (iW d b) λ(aD:ai×Bool)=>bif ((!ah.2)||(!aD.2))then some ((bp.mk (0:Int) (0:Int) (0:Int)),(bp.mk (0:Int) (0:Int) (0:Int)),false)else bnd (l8 ah.1 b) λ(aN:bp×Bool)=>bnd (l8 aD.1 a) λ(bt:bp×Bool)=>some (aN.1,bt.1,(aN.2&&bt.2))
def lM(d:aH)(yW:Int):Option az:=
 bnd (iW d yW) λ(ah:ai×Bool)=>jn (λ(v_1:Bool)=>bif v_1 then some (az.mk [] [])else whl (λ(Z1:((List Int)×Int)→Option _) (sg:(List Int)×Int)=>match sg with|(qb,i_1)=>bif decide (i_1<(qb.length:Int))then bJ d.ay 0 (λ(j2:Int) (e2:ai) (Z2:(List Int)→Option _) (oZ:(List Int))=>jn (λ(zR:(List Int))=>Z2 zR) λJ2=>bnd (elO oZ i_1) λ(e_1:Int)=>bnd (jJ d e_1 e2.af) λ(aN:bp×bp×Bool)=>jn (λ(v_2:Bool)=>bif v_2 then bnd (cV oZ ([e2.af]:List Int)) λ(l_1:List Int)=>J2 l_1 else J2 oZ) λJ3=>(bif aN.2.2 then bnd (iz oZ e2.af) λ(bt:Bool)=>J3 (!bt)else J3 false)) (λ(oZ:(List Int))=>Z1 (oZ,w64 (i_1+1))) qb else bJ d.ay 0 (λ(j3:Int) (e3:ai) (Z3:((List aU)×(List aS))→Option _) (sg:(List aU)×(List aS))=>match sg with|(m_1,m_2)=>jn (λ(sg:(List aU)×(List aS))=>match sg with|(m_3,m_4)=>Z3 (m_3,m_4)) λJ4=>bnd (iz qb e3.af) λ(bL:Bool)=>bif !bL then J4 (m_1,m_2)else bnd (cV m_1 ([(aU.mk e3.af e3.aW)]:List aU)) λ(l_2:List aU)=>whl (λ(Z4:(Int×(List aS))→Option _) (sg:Int×(List aS))=>match sg with|(k_1,m_5)=>bif decide (k_1<(d.ay.length:Int))then jn (λ(m_6:(List aS))=>Z4 (w64 (k_1+1),m_6)) λJ5=>bnd (elO d.ay k_1) λ(e_2:ai)=>bnd (jJ d e3.af e_2.af) λ(cc:bp×bp×Bool)=>bif cc.2.2 then bnd (cV m_5 ([(aS.mk e3.af e_2.af cc.1.jE cc.2.1.jE (if cc.2.1.bQ<cc.1.bQ then cc.2.1.bQ else cc.1.bQ))]:List aS)) λ(l_3:List aS)=>J5 l_3 else J5 m_5 else J4 (l_2,m_5)) (w64 ((j3:Int)+(1:Int)),m_2)) (λ(sg:(List aU)×(List aS))=>match sg with|(m_1,m_2)=>bnd (gK (az.mk m_1 m_2)) λ(de:Int)=>bif !decide (de=0)then some (az.mk [] [])else some (az.mk m_1 m_2)) ([],[])) (([yW]:List Int),(0:Int))) λJ1=>(bif !ah.2 then J1 true else bnd (gN d) λ(aD:Int)=>J1 (!decide (aD=0)))
end Go.Proofs.YtjdopimopgpagaaGreat
namespace Go.Proofs.YtjdopimopgpagaaGreat
open Go
set_option maxRecDepth 100000
set_option linter.all false
def iX(n:Int):Option Bool:=
 some ((decide (n=8))||((decide (n=16))||((decide (n=32))||(decide (n=64)))))
def iQ(n:Int)(least:Int)(most:Int):Option Bool:=
 some ((decide (least≤n))&&(decide (n≤most)))
def gV(a:ai):Option Bool:=
 jn (λ(v_1:Bool)=>bif v_1 then some false else bJ a.Links 0 (λ(j1:Int) (e1:bp) (Z1:Unit→Option _) (sg:Unit)=>match sg with|()=>jn (λ(v_2:Bool)=>bif v_2 then some false else Z1 ()) λJ2=>bnd (iQ e1.bq (1:Int) (99:Int)) λ(aN:Bool)=>(bif !aN then J2 true else(bif decide (e1.bq=a.af)then J2 true else bnd (iQ e1.jE (1:Int) (1000:Int)) λ(bt:Bool)=>(bif !bt then J2 true else bnd (iQ e1.bQ (0:Int) (1000:Int)) λ(bL:Bool)=>(bif !bL then J2 true else(bif decide (0<(j1:Int))then bnd (elO a.Links (w64 ((j1:Int)-(1:Int)))) λ(e_1:bp)=>J2 (decide (e1.bq≤e_1.bq))else J2 false)))))) (λ(sg:Unit)=>match sg with|()=>bJ a.Claims 0 (λ(j2:Int) (e2:bH) (Z2:Unit→Option _) (sg:Unit)=>match sg with|()=>jn (λ(v_3:Bool)=>bif v_3 then some false else Z2 ()) λJ3=>bnd (iQ e2.bV (0:Int) (7:Int)) λ(cc:Bool)=>(bif !cc then J3 true else bnd (iQ e2.ID (1:Int) (256:Int)) λ(de:Bool)=>(bif !de then J3 true else bnd (iX e2.Length) λ(di:Bool)=>(bif !di then J3 true else(bif decide (0<(j2:Int))then bnd (elO a.Claims (w64 ((j2:Int)-(1:Int)))) λ(e_2:bH)=>J3 (decide (e2.bV≤e_2.bV))else J3 false))))) (λ(sg:Unit)=>match sg with|()=>some true) ()) ()) λJ1=>bnd (iQ a.af (1:Int) (99:Int)) λ(ah:Bool)=>(bif !ah then J1 true else bnd (iQ a.Seq (1:Int) (1000000:Int)) λ(aD:Bool)=>(bif !aD then J1 true else(bif decide (23<(a.Links.length:Int))then J1 true else J1 (decide (8<(a.Claims.length:Int))))))
def gF(a:List bp)(b:List bp):Option Bool:=
 bif !decide ((a.length:Int)=(b.length:Int))then some false else bJ a 0 (λ(j1:Int) (e1:bp) (Z1:Unit→Option _) (sg:Unit)=>match sg with|()=>bnd (elO b (j1:Int)) λ(e_1:bp)=>bif !(mO e1 e_1)then some false else Z1 ()) (λ(sg:Unit)=>match sg with|()=>some true) ()
def gG(a:List bH)(b:List bH):Option Bool:=
 bif !decide ((a.length:Int)=(b.length:Int))then some false else bJ a 0 (λ(j1:Int) (e1:bH) (Z1:Unit→Option _) (sg:Unit)=>match sg with|()=>bnd (elO b (j1:Int)) λ(e_1:bH)=>bif !(mN e1 e_1)then some false else Z1 ()) (λ(sg:Unit)=>match sg with|()=>some true) ()
def cG(s1:List ai)(s2:List ai)(eq:ai→ai→Option Bool):Option Bool:=
 bif !decide ((s1.length:Int)=(s2.length:Int))then some false else bJ s1 0 (λ(j1:Int) (e1:ai) (Z1:Unit→Option _) (sg:Unit)=>match sg with|()=>bnd (elO s2 (j1:Int)) λ(e_1:ai)=>bnd (eq e1 e_1) λ(ah:Bool)=>bif !ah then some false else Z1 ()) (λ(sg:Unit)=>match sg with|()=>some true) ()
def kS(a:ai)(b:ai):Option Bool:=
 (bif decide (a.af=b.af)then(bif decide (a.Seq=b.Seq)then(bif (a.aW==b.aW)then bnd (gF a.Links b.Links) λ(ah:Bool)=>(bif ah then bnd (gG a.Claims b.Claims) λ(aD:Bool)=>some aD else some false)else some false)else some false)else some false)
def dO(sa0:List aS):Option (List aS):=
 bnd (cV ([]:List aS) sa0) λ(l_1:List aS)=>some l_1
def kL: Option (List aS):=
 bnd (cV ([]:List aS) []) λ(l_1:List aS)=>some l_1
def dy(s:List aS):Option (List aS):=dO s
def dL(sa0:List bH):Option (List bH):=
 bnd (cV ([]:List bH) sa0) λ(l_1:List bH)=>some l_1
def jO: Option (List bH):=
 bnd (cV ([]:List bH) []) λ(l_1:List bH)=>some l_1
def cZ(s:List bH):Option (List bH):=dL s
def dM(sa0:List bp):Option (List bp):=
 bnd (cV ([]:List bp) sa0) λ(l_1:List bp)=>some l_1
def jP: Option (List bp):=
 bnd (cV ([]:List bp) []) λ(l_1:List bp)=>some l_1
def dD(s:List bp):Option (List bp):=dM s
def fh(a:ai):Option ai:=
 bnd (dD a.Links) λ(ah:(List bp))=>bnd (cZ a.Claims) λ(aD:(List bH))=>some (ai.mk a.af a.Seq a.aW ah aD)
def mF(a:ai):Option Bool:=
 bnd (gV a) λ(ah:Bool)=>some (!ah)
def fL(d:aH):Option Int:=
 bif decide (99<(d.ay.length:Int))then some (3:Int)else bnd (dx d.ay mF) λ(ah:Bool)=>bif ah then some (1:Int)else bJ d.ay 0 (λ(j1:Int) (e1:ai) (Z1:Unit→Option _) (sg:Unit)=>match sg with|()=>jn (λ(v_1:Bool)=>bif v_1 then some (25:Int)else Z1 ()) λJ1=>(bif decide (0<(j1:Int))then bnd (elO d.ay (w64 ((j1:Int)-(1:Int)))) λ(e_1:ai)=>J1 (decide (e1.af≤e_1.af))else J1 false)) (λ(sg:Unit)=>match sg with|()=>some (0:Int)) ()
def kM(a:aH)(b:aH):Option Bool:=
 bnd (cG a.ay b.ay kS) λ(ah:Bool)=>some ah
def kN(d:aH)(aJ:Int):Option (ai×Bool):=
 bJ d.ay 0 (λ(j1:Int) (e1:ai) (Z1:Unit→Option _) (sg:Unit)=>match sg with|()=>bif decide (e1.af=aJ)then bnd (fh e1) λ(ah:ai)=>some (ah,true)else Z1 ()) (λ(sg:Unit)=>match sg with|()=>some ((ai.mk (0:Int) (0:Int) false [] []),false)) ()
end Go.Proofs.YtjdopimopgpagaaGreat
namespace Go.Proofs.YtjdopimopgpagaaGreat
open Go
set_option maxRecDepth 100000
set_option linter.all false
def jK(t:aX)(aJ:Int)(n:Int):Option (ai×aX):=
 bnd (dA t ([(1:Int),(1:Int),(2:Int),(3:Int),(3:Int),(500000:Int),(1000000:Int)]:List Int)) λ(ah:Int×aX)=>bnd (cq ah.2 (3:Int)) λ(aD:Int×aX)=>gz ((7:Int)-(1:Int)).toNat (1:Int) (λ(j1:Int) (Z1:((List bp)×(List Int)×Int)→Option _) (sg:(List bp)×(List Int)×Int)=>match sg with|(m_1,m_2,m_3)=>jn (λ(sg:(List Int)×Int×(List bp))=>match sg with|(m_4,m_5,m_6)=>Z1 (m_6,m_4,m_5)) λJ1=>jn (λ(sg:Bool×(List Int)×Int)=>match sg with|(v_1,m_7,m_8)=>bif v_1 then bnd (ee (aX.mk m_7 m_8) (1:Int) (3:Int)) λ(bt:Int×aX)=>bnd (cq bt.2 (3:Int)) λ(bL:Int×aX)=>bnd (cV m_1 ([(bp.mk (j1:Int) bt.1 bL.1)]:List bp)) λ(l_1:List bp)=>J1 (bL.2.L,bL.2.At,l_1)else J1 (m_7,m_8,m_1)) λJ2=>(bif !decide ((j1:Int)=aJ)then bnd (cq (aX.mk m_2 m_3) (2:Int)) λ(aN:Int×aX)=>J2 (decide (aN.1=0),aN.2.L,aN.2.At)else J2 (false,m_2,m_3))) (λ(j1:Int) (sg:(List bp)×(List Int)×Int)=>match sg with|(m_1,m_2,m_3)=>gz ((2:Int)-(0:Int)).toNat (0:Int) (λ(j2:Int) (Z2:((List bH)×(List Int)×Int)→Option _) (sg:(List bH)×(List Int)×Int)=>match sg with|(m_9,hU,gP)=>jn (λ(sg:(List Int)×Int×(List bH))=>match sg with|(lX,uy,uz)=>Z2 (uz,lX,uy)) λJ3=>bnd (cq (aX.mk hU gP) (2:Int)) λ(cc:Int×aX)=>bif decide (cc.1=0)then bnd (ee cc.2 (1:Int) (9:Int)) λ(de:Int×aX)=>bnd (jG de.2) λ(di:Int×aX)=>bnd (cV m_9 ([(bH.mk (j2:Int) de.1 di.1)]:List bH)) λ(l_2:List bH)=>J3 (di.2.L,di.2.At,l_2)else J3 (cc.2.L,cc.2.At,m_9)) (λ(j2:Int) (sg:(List bH)×(List Int)×Int)=>match sg with|(m_9,hU,gP)=>jn (λ(sg:(List Int)×Int×Int×Int×(List bp)×(List bH))=>match sg with|(vu,vv,sK,sL,rF,ad7)=>some ((ai.mk sK sL (decide (0<aD.1)) rF ad7),(aX.mk vu vv))) λJ4=>jn (λ(sg:Bool×(List Int)×Int)=>match sg with|(v_2,aaT,aaU)=>bif v_2 then bnd (cq (aX.mk aaT aaU) (6:Int)) λ(bP:Int×aX)=>bif decide (bP.1=0)then bnd (fV bP.2) λ(dW:Int×aX)=>J4 (dW.2.L,dW.2.At,dW.1,ah.1,m_1,m_9)else bif decide (bP.1=1)then bnd (fV bP.2) λ(ck:Int×aX)=>J4 (ck.2.L,ck.2.At,aJ,ck.1,m_1,m_9)else bif decide (bP.1=2)then bnd (dA bP.2 ([(0:Int),aJ,(6:Int),(99:Int),(100:Int)]:List Int)) λ(gQ:Int×aX)=>bnd (dA gQ.2 ([(0:Int),(1:Int),(1000:Int),(1001:Int)]:List Int)) λ(jT:Int×aX)=>bnd (dA jT.2 ([(-1:Int),(0:Int),(1000:Int),(1001:Int)]:List Int)) λ(mw:Int×aX)=>bnd (cV m_1 ([(bp.mk gQ.1 jT.1 mw.1)]:List bp)) λ(l_3:List bp)=>J4 (mw.2.L,mw.2.At,aJ,ah.1,l_3,m_9)else bif decide (bP.1=3)then bnd (dA bP.2 ([(-1:Int),(0:Int),(7:Int),(8:Int)]:List Int)) λ(tO:Int×aX)=>bnd (dA tO.2 ([(0:Int),(1:Int),(256:Int),(257:Int)]:List Int)) λ(qZ:Int×aX)=>bnd (dA qZ.2 ([(0:Int),(8:Int),(9:Int),(64:Int)]:List Int)) λ(ri:Int×aX)=>bnd (cV m_9 ([(bH.mk tO.1 qZ.1 ri.1)]:List bH)) λ(l_4:List bH)=>J4 (ri.2.L,ri.2.At,aJ,ah.1,m_1,l_4)else bif decide (bP.1=4)then gz ((54:Int)-(30:Int)).toNat (30:Int) (λ(j3:Int) (Z3:(List bp)→Option _) (xT:(List bp))=>bnd (cV xT ([(bp.mk (j3:Int) (1:Int) (0:Int))]:List bp)) λ(l_5:List bp)=>Z3 l_5) (λ(j3:Int) (xT:(List bp))=>J4 (bP.2.L,bP.2.At,aJ,ah.1,xT,m_9)) m_1 else bif decide (0<(m_1.length:Int))then bnd (fV bP.2) λ(mz:Int×aX)=>bnd (elO m_1 (0:Int)) λ(e_1:bp)=>bnd (iT m_1 (0:Int) (bp.mk e_1.bq mz.1 e_1.bQ)) λ(l_6:List bp)=>J4 (mz.2.L,mz.2.At,aJ,ah.1,l_6,m_9)else J4 (bP.2.L,bP.2.At,aJ,ah.1,m_1,m_9)else J4 (aaT,aaU,aJ,ah.1,m_1,m_9)) λJ5=>(bif decide (0<n)then bnd (gL (aX.mk hU gP) n) λ(dU:Bool×aX)=>J5 (dU.1,dU.2.L,dU.2.At)else J5 (false,hU,gP))) ([],m_2,m_3)) ([],aD.2.L,aD.2.At)
def ki(t:aX)(n:Int):Option (aH×aX):=
 gz ((7:Int)-(1:Int)).toNat (1:Int) (λ(j1:Int) (Z1:((List ai)×(List Int)×Int)→Option _) (sg:(List ai)×(List Int)×Int)=>match sg with|(m_1,m_2,m_3)=>jn (λ(sg:(List Int)×Int×(List ai))=>match sg with|(m_4,m_5,m_6)=>Z1 (m_6,m_4,m_5)) λJ1=>bnd (cq (aX.mk m_2 m_3) (4:Int)) λ(ah:Int×aX)=>bif decide (0<ah.1)then bnd (jK ah.2 (j1:Int) (0:Int)) λ(aD:ai×aX)=>bnd (cV m_1 ([aD.1]:List ai)) λ(l_1:List ai)=>J1 (aD.2.L,aD.2.At,l_1)else J1 (ah.2.L,ah.2.At,m_1)) (λ(j1:Int) (sg:(List ai)×(List Int)×Int)=>match sg with|(m_1,m_2,m_3)=>jn (λ(sg:(List Int)×Int×(List ai))=>match sg with|(m_7,m_8,m_9)=>some ((aH.mk m_9),(aX.mk m_7 m_8))) λJ2=>jn (λ(sg:Bool×(List Int)×Int)=>match sg with|(v_1,hU,gP)=>bif v_1 then bnd (dA (aX.mk hU gP) ([(1:Int),(6:Int),(7:Int)]:List Int)) λ(bt:Int×aX)=>bnd (jK bt.2 bt.1 (2:Int)) λ(bL:ai×aX)=>bnd (cV m_1 ([bL.1]:List ai)) λ(l_2:List ai)=>J2 (bL.2.L,bL.2.At,l_2)else J2 (hU,gP,m_1)) λJ3=>(bif decide (0<n)then bnd (gL (aX.mk m_2 m_3) n) λ(aN:Bool×aX)=>J3 (aN.1,aN.2.L,aN.2.At)else J3 (false,m_2,m_3))) ([],t.L,t.At)
end Go.Proofs.YtjdopimopgpagaaGreat
namespace Go.Proofs.YtjdopimopgpagaaGreat
open Go
set_option maxRecDepth 100000
set_option linter.all false
def oB(n:Int):Option Int:=
 some (w64 (Int.tdiv (w64 (n+7)) (8:Int)))
def l9(sa0:bn):Option Bool:=
 jn (λ(v_1:Bool)=>bif v_1 then some false else(bif decide (w64 ((w64 ((8:Int)*(sa0.Data.length:Int)))-sa0.Bits)=(0:Int))then some true else bnd (elO sa0.Data (w64 ((sa0.Data.length:Int)-(1:Int)))) λ(e_1:Int)=>chk (decide (0≤w64 ((8:Int)-(w64 ((w64 ((8:Int)*(sa0.Data.length:Int)))-sa0.Bits)))))<|some (decide (IntKind.wrap .u8 (e_1*2 ^ min (w64 ((8:Int)-(w64 ((w64 ((8:Int)*(sa0.Data.length:Int)))-sa0.Bits)))).toNat 8)=(0:Int))))) λJ1=>(bif decide (sa0.Bits<0)then J1 true else(bif decide (8192<sa0.Bits)then J1 true else bnd (oB sa0.Bits) λ(ah:Int)=>J1 (!decide ((sa0.Data.length:Int)=ah))))
def qH(sa0:bn)(i:Int):Option Int:=
 bnd (elO sa0.Data (w64 (Int.tdiv i (8:Int)))) λ(e_1:Int)=>chk (decide (0≤w64 ((7:Int)-(Int.tmod i (8:Int)))))<|some (IntKind.wrap .u64 (dK .and .u8 (Int.fdiv e_1 (2 ^ min (w64 ((7:Int)-(Int.tmod i (8:Int)))).toNat 8)) (1:Int)))
def oC(sa0:bn)(value:Int)(n:Int):Option bn:=
 whl (λ(Z1:(Int×(List Int)×Int)→Option _) (sg:Int×(List Int)×Int)=>match sg with|(n_1,m_1,m_2)=>bif decide (0<n_1)then jn (λ(sg:Int×(List Int))=>match sg with|(cN,m_3)=>chk (decide (0≤w64 (n_1-(if cN<n_1 then cN else n_1))))<|chk (decide (0≤(if cN<n_1 then cN else n_1)))<|bnd (elO m_3 (w64 ((m_3.length:Int)-(1:Int)))) λ(e_1:Int)=>chk (decide (0≤w64 (cN-(if cN<n_1 then cN else n_1))))<|bnd (iT m_3 (w64 ((m_3.length:Int)-(1:Int))) (dK .or .u8 e_1 (IntKind.wrap .u8 (IntKind.wrap .u64 ((dK .and .u64 (Int.fdiv value (2 ^ min (w64 (n_1-(if cN<n_1 then cN else n_1))).toNat 64)) (IntKind.wrap .u64 ((IntKind.wrap .u64 ((1:Int)*2 ^ min (if cN<n_1 then cN else n_1).toNat 64))-(1:Int))))*2 ^ min (w64 (cN-(if cN<n_1 then cN else n_1))).toNat 64))))) λ(l_2:List Int)=>Z1 (w64 (n_1-(if cN<n_1 then cN else n_1)),l_2,w64 (m_2+(if cN<n_1 then cN else n_1)))) λJ1=>bif decide (w64 ((w64 ((8:Int)*(m_1.length:Int)))-m_2)=(0:Int))then bnd (cV m_1 ([(0:Int)]:List Int)) λ(l_1:List Int)=>J1 ((8:Int),l_1)else J1 (w64 ((w64 ((8:Int)*(m_1.length:Int)))-m_2),m_1)else some (bn.mk m_1 m_2)) (n,sa0.Data,sa0.Bits)
def ru(sa0:bn):Option bn:=
 bnd (cV [] sa0.Data) λ(l_1:List Int)=>some (bn.mk l_1 sa0.Bits)
def nH(sa0:bn)(value:Int)(n:Int):Option (bn×Int):=
 bnd (l9 sa0) λ(ah:Bool)=>bif !ah then some ((bn.mk [] (0:Int)),(1:Int))else jn (λ(v_1:Bool)=>bif v_1 then some ((bn.mk [] (0:Int)),(2:Int))else bif decide (8192<w64 (sa0.Bits+n))then some ((bn.mk [] (0:Int)),(3:Int))else bnd (ru sa0) λ(aD:bn)=>bnd (oC aD value n) λ(aN:bn)=>some (aN,(0:Int))) λJ1=>(bif decide (n<0)then J1 true else(bif decide (64<n)then J1 true else(bif decide (n<64)then chk (decide (0≤n))<|J1 (!decide (Int.fdiv value (2 ^ min n.toNat 64)=(0:Int)))else J1 false)))
def mb(sa0:bn):Option (Int×Int):=
 bnd (l9 sa0) λ(ah:Bool)=>bif !ah then some ((0:Int),(1:Int))else chk (decide (sa0.Bits≤9223372036854775807))<|gz (sa0.Bits-0).toNat (0:Int) (λ(j1:Int) (Z1:Int→Option _) (eP:Int)=>jn (λ(qd:Int)=>Z1 qd) λJ1=>bnd (qH sa0 (j1:Int)) λ(aD:Int)=>bif decide (Int.fdiv eP (2 ^ min (15:Int).toNat 64)=aD)then J1 (dK .and .u64 (IntKind.wrap .u64 (eP*2 ^ min (1:Int).toNat 64)) (65535:Int))else J1 (dK .xor .u64 (dK .and .u64 (IntKind.wrap .u64 (eP*2 ^ min (1:Int).toNat 64)) (65535:Int)) (4129:Int))) (λ(j1:Int) (eP:Int)=>some (eP,(0:Int))) (65535:Int)
end Go.Proofs.YtjdopimopgpagaaGreat
namespace Go.Proofs.YtjdopimopgpagaaGreat
open Go
set_option maxRecDepth 100000
set_option linter.all false
def oJ(l:List Int)(i:Int):Option Int:=
 bnd (elO l (w64 (Int.tdiv i (8:Int)))) λ(e_1:Int)=>chk (decide (0≤IntKind.wrap .u64 (w64 ((7:Int)-(Int.tmod i (8:Int))))))<|some (dK .and .u64 (IntKind.wrap .u64 (Int.fdiv e_1 (2 ^ min (IntKind.wrap .u64 (w64 ((7:Int)-(Int.tmod i (8:Int))))).toNat 8))) (1:Int))
def oD(sa0:bn):Option Bool:=
 bif ((decide (sa0.Bits<0))||((decide (8192<sa0.Bits))||(!decide ((sa0.Data.length:Int)=w64 (Int.tdiv (w64 (sa0.Bits+7)) (8:Int))))))then some false else whl (λ(Z1:Int→Option _) (i_1:Int)=>bif decide (i_1<w64 ((8:Int)*(sa0.Data.length:Int)))then bnd (oJ sa0.Data i_1) λ(ah:Int)=>bif !decide (ah=0)then some false else Z1 (w64 (i_1+1))else some true) sa0.Bits
def tP(sa0:bn)(b:Int):Option bn:=
 bnd (cV [] sa0.Data) λ(l_1:List Int)=>jn (λ(l_2:(List Int))=>jn (λ(l_4:(List Int))=>some (bn.mk l_4 (w64 (sa0.Bits+1)))) λJ2=>bif decide (b=1)then bnd (elO l_2 (w64 (Int.tdiv sa0.Bits (8:Int)))) λ(e_1:Int)=>chk (decide (0≤IntKind.wrap .u64 (w64 ((7:Int)-(Int.tmod sa0.Bits (8:Int))))))<|bnd (iT l_2 (w64 (Int.tdiv sa0.Bits (8:Int))) (dK .or .u8 e_1 (IntKind.wrap .u8 ((1:Int)*2 ^ min (IntKind.wrap .u64 (w64 ((7:Int)-(Int.tmod sa0.Bits (8:Int))))).toNat 8)))) λ(l_5:List Int)=>J2 l_5 else J2 l_2) λJ1=>bif decide (Int.tmod sa0.Bits (8:Int)=(0:Int))then bnd (cV l_1 ([(0:Int)]:List Int)) λ(l_3:List Int)=>J1 l_3 else J1 l_1
def tG(sa0:bn)(value:Int)(n:Int):Option (bn×Int):=
 bnd (oD sa0) λ(ah:Bool)=>bif !ah then some ((bn.mk [] (0:Int)),(1:Int))else jn (λ(v_1:Bool)=>bif v_1 then some ((bn.mk [] (0:Int)),(2:Int))else bif decide (8192<w64 (sa0.Bits+n))then some ((bn.mk [] (0:Int)),(3:Int))else whl (λ(Z1:(Int×(List Int)×Int)→Option _) (sg:Int×(List Int)×Int)=>match sg with|(i_1,m_1,m_2)=>bif decide (0≤i_1)then chk (decide (0≤IntKind.wrap .u64 i_1))<|bnd (tP (bn.mk m_1 m_2) (dK .and .u64 (Int.fdiv value (2 ^ min (IntKind.wrap .u64 i_1).toNat 64)) (1:Int))) λ(aD:bn)=>Z1 (w64 (i_1-1),aD.Data,aD.Bits)else some ((bn.mk m_1 m_2),(0:Int))) (w64 (n-1),sa0.Data,sa0.Bits)) λJ1=>(bif decide (n<0)then J1 true else(bif decide (64<n)then J1 true else(bif decide (n<64)then chk (decide (0≤IntKind.wrap .u64 n))<|J1 (!decide (Int.fdiv value (2 ^ min (IntKind.wrap .u64 n).toNat 64)=(0:Int)))else J1 false)))
def uB(sa0:bn):Option (bn×Int):=
 bnd (oD sa0) λ(ah:Bool)=>bif !ah then some ((bn.mk [] (0:Int)),(1:Int))else whl (λ(Z1:((List Int)×Int)→Option _) (sg:(List Int)×Int)=>match sg with|(m_1,m_2)=>bif !decide (Int.tmod m_2 (8:Int)=(0:Int))then bnd (tP (bn.mk m_1 m_2) (0:Int)) λ(aD:bn)=>Z1 (aD.Data,aD.Bits)else some ((bn.mk m_1 m_2),(0:Int))) (sa0.Data,sa0.Bits)
def mc(sa0:bn):Option (Int×Int):=
 bnd (oD sa0) λ(ah:Bool)=>bif !ah then some ((0:Int),(1:Int))else chk (decide (sa0.Bits≤9223372036854775807))<|gz (sa0.Bits-0).toNat (0:Int) (λ(j1:Int) (Z1:Int→Option _) (ad8:Int)=>jn (λ(vr_2:Int)=>Z1 vr_2) λJ1=>bnd (oJ sa0.Data (j1:Int)) λ(aD:Int)=>bif !decide (Int.fdiv ad8 (2 ^ min (15:Int).toNat 64)=aD)then J1 (dK .xor .u64 (dK .and .u64 (IntKind.wrap .u64 (ad8*2 ^ min (1:Int).toNat 64)) (65535:Int)) (4129:Int))else J1 (dK .and .u64 (IntKind.wrap .u64 (ad8*2 ^ min (1:Int).toNat 64)) (65535:Int))) (λ(j1:Int) (ad8:Int)=>some (ad8,(0:Int))) (65535:Int)
def vG(length:Int):Option Int:=
 whl (λ(Z1:(Int×Int)→Option _) (sg:Int×Int)=>match sg with|(ad9,n_1)=>bif decide (8<ad9)then Z1 (w64 (Int.tdiv ad9 (2:Int)),w64 (n_1+1))else some n_1) (length,(0:Int))
end Go.Proofs.YtjdopimopgpagaaGreat
namespace Go.Proofs.YtjdopimopgpagaaGreat
open Go
set_option maxRecDepth 100000
set_option linter.all false
def dG(sa0:bn)(n:Int)(width:Int):Option bn:=
 bnd (tG sa0 (IntKind.wrap .u64 n) width) λ(ah:bn×Int)=>some ah.1
def lE(a:ai):Option ((List Int)×Int):=
 bnd (gM a) λ(ah:Bool)=>bif !ah then some ([],(1:Int))else jn (λ(pI:Int)=>bnd (dG (bn.mk [] (0:Int)) a.af (7:Int)) λ(aD:bn)=>bnd (dG aD a.Seq (20:Int)) λ(aN:bn)=>bnd (dG aN pI (1:Int)) λ(bt:bn)=>bnd (dG bt (a.Links.length:Int) (5:Int)) λ(bL:bn)=>bJ a.Links 0 (λ(j1:Int) (e1:bp) (Z1:((List Int)×Int)→Option _) (sg:(List Int)×Int)=>match sg with|(m_1,m_2)=>bnd (dG (bn.mk m_1 m_2) e1.bq (7:Int)) λ(cc:bn)=>bnd (dG cc e1.jE (10:Int)) λ(de:bn)=>bnd (dG de e1.bQ (10:Int)) λ(di:bn)=>Z1 (di.Data,di.Bits)) (λ(sg:(List Int)×Int)=>match sg with|(m_1,m_2)=>bnd (dG (bn.mk m_1 m_2) (a.Claims.length:Int) (4:Int)) λ(dU:bn)=>bJ a.Claims 0 (λ(j2:Int) (e2:bH) (Z2:((List Int)×Int)→Option _) (sg:(List Int)×Int)=>match sg with|(m_3,m_4)=>bnd (dG (bn.mk m_3 m_4) e2.bV (3:Int)) λ(bP:bn)=>bnd (dG bP e2.ID (9:Int)) λ(dW:bn)=>bnd (vG e2.Length) λ(ck:Int)=>bnd (dG dW ck (2:Int)) λ(gQ:bn)=>Z2 (gQ.Data,gQ.Bits)) (λ(sg:(List Int)×Int)=>match sg with|(m_3,m_4)=>bnd (mc (bn.mk m_3 m_4)) λ(jT:Int×Int)=>bnd (dG (bn.mk m_3 m_4) (w64 jT.1) (16:Int)) λ(mw:bn)=>bnd (uB mw) λ(tO:bn×Int)=>some (tO.1.Data,(0:Int))) (dU.Data,dU.Bits)) (bL.Data,bL.Bits)) λJ1=>bif a.aW then J1 (1:Int)else J1 (0:Int)
def uC(a:ai)(b:ai):Option Bool:=
 jn (λ(v_1:Bool)=>bif v_1 then some false else bnd (lE a) λ(aN:(List Int)×Int)=>bnd (lE b) λ(bt:(List Int)×Int)=>some ((decide (b.Seq<a.Seq))||((decide (a.Seq=b.Seq))&&(anP .gtr (rB aN.1) (rB bt.1))))) λJ1=>bnd (gM a) λ(ah:Bool)=>(bif !ah then J1 true else bnd (gM b) λ(aD:Bool)=>(bif !aD then J1 true else J1 (!decide (a.af=b.af))))
end Go.Proofs.YtjdopimopgpagaaGreat
namespace Go.Proofs.YtjdopimopgpagaaGreat
open Go
set_option maxRecDepth 100000
set_option linter.all false
def bX(w:bM)(n:Int)(bits:Int):Option bM:=
 bnd (nH w.s_ (IntKind.wrap .u64 n) bits) λ(ah:bn×Int)=>some (bM.mk ah.1)
def apj(a b:List Int):Int:=Go.Extern.BytealgCompare.cmp ⟨(a.map λn=>UInt8.ofNat n.toNat).toArray⟩ ⟨(b.map λn=>UInt8.ofNat n.toNat).toArray⟩
def sO(a b:List Int):Option Int:=some (apj a b)
def eR(a:ai):Option ((List Int)×Int):=
 bnd (gV a) λ(ah:Bool)=>bif !ah then some ([],(1:Int))else bnd (bX (bM.mk (bn.mk [] (0:Int))) a.af (7:Int)) λ(aD:bM)=>bnd (bX aD a.Seq (20:Int)) λ(aN:bM)=>jn (λ(pI:Int)=>bnd (bX aN pI (1:Int)) λ(bt:bM)=>bnd (bX bt (a.Links.length:Int) (5:Int)) λ(bL:bM)=>bJ a.Links 0 (λ(j1:Int) (e1:bp) (Z1:((List Int)×Int)→Option _) (sg:(List Int)×Int)=>match sg with|(m_1,m_2)=>bnd (bX (bM.mk (bn.mk m_1 m_2)) e1.bq (7:Int)) λ(cc:bM)=>bnd (bX cc e1.jE (10:Int)) λ(de:bM)=>bnd (bX de e1.bQ (10:Int)) λ(di:bM)=>Z1 (di.s_.Data,di.s_.Bits)) (λ(sg:(List Int)×Int)=>match sg with|(m_1,m_2)=>bnd (bX (bM.mk (bn.mk m_1 m_2)) (a.Claims.length:Int) (4:Int)) λ(dU:bM)=>bJ a.Claims 0 (λ(j2:Int) (e2:bH) (Z2:((List Int)×Int)→Option _) (sg:(List Int)×Int)=>match sg with|(m_3,m_4)=>whl (λ(Z3:Int→Option _) (kj:Int)=>chk (decide (0≤kj))<|bif decide (IntKind.wrap .i64 ((8:Int)*2 ^ min kj.toNat 64)<e2.Length)then Z3 (w64 (kj+1))else bnd (bX (bM.mk (bn.mk m_3 m_4)) e2.bV (3:Int)) λ(bP:bM)=>bnd (bX bP e2.ID (9:Int)) λ(dW:bM)=>bnd (bX dW kj (2:Int)) λ(ck:bM)=>Z2 (ck.s_.Data,ck.s_.Bits)) (0:Int)) (λ(sg:(List Int)×Int)=>match sg with|(m_3,m_4)=>bnd (mb (bn.mk m_3 m_4)) λ(gQ:Int×Int)=>bnd (bX (bM.mk (bn.mk m_3 m_4)) (w64 gQ.1) (16:Int)) λ(jT:bM)=>some (jT.s_.Data,(0:Int))) (dU.s_.Data,dU.s_.Bits)) (bL.s_.Data,bL.s_.Bits)) λJ1=>bif a.aW then J1 (1:Int)else J1 (0:Int)
def nI(a:ai)(b:ai):Option Bool:=
 bnd (eR a) λ(ah:(List Int)×Int)=>bnd (eR b) λ(aD:(List Int)×Int)=>bif ((!decide (ah.2=0))||((!decide (aD.2=0))||(!decide (a.af=b.af))))then some false else(bif decide (b.Seq<a.Seq)then some true else(bif decide (a.Seq=b.Seq)then bnd (sO ah.1 aD.1) λ(aN:Int)=>some (decide (0<aN))else some false))
end Go.Proofs.YtjdopimopgpagaaGreat
namespace Go.Proofs.YtjdopimopgpagaaGreat
open Go
set_option maxRecDepth 100000
set_option linter.all false
def lN(xa0:ai)(aJ:Int):Option Int:=
 bnd (ez xa0.af aJ) λ(ah:Int)=>some ah
def jL(d:aH):Option aH:=
 bJ d.ay 0 (λ(j1:Int) (e1:ai) (Z1:(List ai)→Option _) (m_1:(List ai))=>bnd (fh e1) λ(ah:ai)=>bnd (cV m_1 ([ah]:List ai)) λ(l_1:List ai)=>Z1 l_1) (λ(m_1:(List ai))=>some (aH.mk m_1)) []
def lF(d:aH)(a:ai):Option (Bool×aH):=
 bnd (cM d.ay a.af lN) λ(ah:Int×Bool)=>jn (λ(m_1:(List ai))=>some (true,(aH.mk m_1))) λJ1=>bif !ah.2 then bnd (fh a) λ(aD:ai)=>bnd (ab1 d.ay ah.1 aD) λ(l_1:List ai)=>J1 l_1 else bnd (elO d.ay ah.1) λ(e_1:ai)=>bnd (nI a e_1) λ(aN:Bool)=>bif aN then bnd (fh a) λ(bt:ai)=>bnd (iT d.ay ah.1 bt) λ(l_2:List ai)=>J1 l_2 else some (false,d)
def nJ(d:aH)(a:ai):Option (aH×Bool):=
 bnd (jL d) λ(ah:aH)=>jn (λ(v_1:Bool)=>bif v_1 then some (ah,false)else bnd (lF ah a) λ(bt:Bool×aH)=>some (bt.2,bt.1)) λJ1=>bnd (fL d) λ(aD:Int)=>(bif !decide (aD=0)then J1 true else bnd (gV a) λ(aN:Bool)=>J1 (!aN))
def lP(a:aH)(b:aH):Option (aH×Int):=
 jn (λ(v_1:Bool)=>bif v_1 then some ((aH.mk []),(1:Int))else bnd (jL a) λ(aN:aH)=>bJ b.ay 0 (λ(j1:Int) (e1:ai) (Z1:(List ai)→Option _) (m_1:(List ai))=>bnd (lF (aH.mk m_1) e1) λ(bt:Bool×aH)=>Z1 bt.2.ay) (λ(m_1:(List ai))=>some ((aH.mk m_1),(0:Int))) aN.ay) λJ1=>bnd (fL a) λ(ah:Int)=>(bif !decide (ah=0)then J1 true else bnd (fL b) λ(aD:Int)=>J1 (!decide (aD=0)))
end Go.Proofs.YtjdopimopgpagaaGreat
namespace Go.Proofs.YtjdopimopgpagaaGreat
open Go
set_option maxRecDepth 100000
set_option linter.all false
def lQ(d:aH)(a:ai):Option aH:=
 bJ d.ay 0 (λ(j1:Int) (e1:ai) (Z1:(Bool×(List ai))→Option _) (sg:Bool×(List ai))=>match sg with|(mG,m_1)=>jn (λ(sg:Bool×(List ai))=>match sg with|(xg,m_2)=>Z1 (xg,m_2)) λJ1=>jn (λ(sg:Bool×(List ai))=>match sg with|(uj,m_3)=>bif !decide (e1.af=a.af)then bnd (cV m_3 ([e1]:List ai)) λ(l_2:List ai)=>J1 (uj,l_2)else J1 (uj,m_3)) λJ2=>bif ((!mG)&&(decide (a.af≤e1.af)))then bnd (cV m_1 ([a]:List ai)) λ(l_1:List ai)=>J2 (true,l_1)else J2 (mG,m_1)) (λ(sg:Bool×(List ai))=>match sg with|(mG,m_1)=>jn (λ(m_4:(List ai))=>some (aH.mk m_4)) λJ3=>bif !mG then bnd (cV m_1 ([a]:List ai)) λ(l_3:List ai)=>J3 l_3 else J3 m_1) (false,[])
def tQ(d:aH)(a:ai):Option (aH×Bool):=
 jn (λ(v_1:Bool)=>bif v_1 then some (d,false)else bnd (iW d a.af) λ(aN:ai×Bool)=>jn (λ(v_2:Bool)=>bif v_2 then some (d,false)else bnd (lQ d a) λ(bL:aH)=>some (bL,true)) λJ2=>(bif aN.2 then bnd (uC a aN.1) λ(bt:Bool)=>J2 (!bt)else J2 false)) λJ1=>bnd (gN d) λ(ah:Int)=>(bif !decide (ah=0)then J1 true else bnd (gM a) λ(aD:Bool)=>J1 (!aD))
def uD(a:aH)(b:aH):Option (aH×Int):=
 jn (λ(v_1:Bool)=>bif v_1 then some ((aH.mk []),(1:Int))else bJ b.ay 0 (λ(j1:Int) (e1:ai) (Z1:(List ai)→Option _) (m_1:(List ai))=>bnd (tQ (aH.mk m_1) e1) λ(aN:aH×Bool)=>Z1 aN.1.ay) (λ(m_1:(List ai))=>some ((aH.mk m_1),(0:Int))) a.ay) λJ1=>bnd (gN a) λ(ah:Int)=>(bif !decide (ah=0)then J1 true else bnd (gN b) λ(aD:Int)=>J1 (!decide (aD=0)))
end Go.Proofs.YtjdopimopgpagaaGreat
namespace Go.Proofs.YtjdopimopgpagaaGreat
open Go
set_option maxRecDepth 100000
set_option linter.all false
def sR(t:az)(aJ:Int)(seq:Int)(cI:List bH):Option (ai×Int):=
 bnd (gK t) λ(ah:Int)=>bif !decide (ah=0)then some ((ai.mk (0:Int) (0:Int) false [] []),(1:Int))else bnd (mQ t aJ) λ(aD:Bool)=>bif !aD then some ((ai.mk (0:Int) (0:Int) false [] []),(4:Int))else bnd (iV t aJ) λ(aN:Bool)=>bnd (nC t aJ) λ(bt:(List Int))=>bJ bt 0 (λ(j1:Int) (e1:Int) (Z1:(List bp)→Option _) (m_1:(List bp))=>bnd (kR t aJ e1) λ(bL:Int×Bool)=>bJ t.Links 0 (λ(j2:Int) (e2:aS) (Z2:Int→Option _) (m_2:Int)=>jn (λ(m_3:Int)=>Z2 m_3) λJ1=>bif ((decide (e2.A=(if e1<aJ then e1 else aJ)))&&(decide (e2.B=(if e1>aJ then e1 else aJ))))then J1 e2.bQ else J1 m_2) (λ(m_2:Int)=>bnd (cV m_1 ([(bp.mk e1 bL.1 m_2)]:List bp)) λ(l_1:List bp)=>Z1 l_1) (0:Int)) (λ(m_1:(List bp))=>bnd (gM (ai.mk aJ seq aN m_1 cI)) λ(cc:Bool)=>bif !cc then some ((ai.mk (0:Int) (0:Int) false [] []),(2:Int))else some ((ai.mk aJ seq aN m_1 cI),(0:Int))) []
end Go.Proofs.YtjdopimopgpagaaGreat
namespace Go.Proofs.YtjdopimopgpagaaGreat
open Go
set_option maxRecDepth 100000
set_option linter.all false
def qI(t:az)(aJ:Int)(seq:Int)(cI:List bH):Option (ai×Int):=
 bnd (gD t) λ(ah:Int)=>bif !decide (ah=0)then some ((ai.mk (0:Int) (0:Int) false [] []),(1:Int))else bnd (iJ t aJ) λ(aD:Bool)=>bif !aD then some ((ai.mk (0:Int) (0:Int) false [] []),(4:Int))else bnd (kf t aJ) λ(aN:Bool)=>bnd (cV [] cI) λ(l_1:List bH)=>bJ t.Links 0 (λ(j1:Int) (e1:aS) (Z1:(List bp)→Option _) (m_1:(List bp))=>jn (λ(m_2:(List bp))=>Z1 m_2) λJ1=>bif decide (aJ=e1.A)then bnd (cV m_1 ([(bp.mk e1.B e1.jR e1.bQ)]:List bp)) λ(l_2:List bp)=>J1 l_2 else bif decide (aJ=e1.B)then bnd (cV m_1 ([(bp.mk e1.A e1.jl e1.bQ)]:List bp)) λ(l_3:List bp)=>J1 l_3 else J1 m_1) (λ(m_1:(List bp))=>bnd (gV (ai.mk aJ seq aN m_1 l_1)) λ(bt:Bool)=>bif !bt then some ((ai.mk (0:Int) (0:Int) false [] []),(2:Int))else some ((ai.mk aJ seq aN m_1 l_1),(0:Int))) []
end Go.Proofs.YtjdopimopgpagaaGreat
namespace Go.Proofs.YtjdopimopgpagaaGreat
open Go
set_option maxRecDepth 100000
set_option linter.all false
def dQ(f:aA):Option az:=
 bnd (dy f.Links) λ(ah:(List aS))=>bJ f.aB 0 (λ(j1:Int) (e1:aT) (Z1:(List aU)→Option _) (m_1:(List aU))=>bnd (cV m_1 ([(aU.mk e1.af e1.aW)]:List aU)) λ(l_1:List aU)=>Z1 l_1) (λ(m_1:(List aU))=>some (az.mk m_1 ah)) []
def nj(n:aT)(c_0:Int):Option Bool:=
 some (decide (n.af=c_0))
def fA(f:aA)(aJ:Int):Option (Int×Bool):=
 bnd (eE f.aB (λ(y0:aT)=>nj y0 aJ)) λ(ah:Int)=>some (ah,decide (0≤ah))
def eW(f:aA):Option Int:=
 jn (λ(v_1:Bool)=>bif v_1 then some (1:Int)else bJ f.aB 0 (λ(j1:Int) (e1:aT) (Z1:Unit→Option _) (sg:Unit)=>match sg with|()=>jn (λ(v_2:Bool)=>bif v_2 then some (1:Int)else Z1 ()) λJ2=>(bif decide (e1.Seq<0)then J2 true else(bif decide (1000000<e1.Seq)then J2 true else bnd (gV (ai.mk e1.af (1:Int) false [] e1.Claims)) λ(aN:Bool)=>(bif !aN then J2 true else bnd (fL e1.Database) λ(bt:Int)=>J2 (!decide (bt=0)))))) (λ(sg:Unit)=>match sg with|()=>bJ f.aF 0 (λ(j2:Int) (e2:bB) (Z2:Unit→Option _) (sg:Unit)=>match sg with|()=>bnd (fA f e2.cQ) λ(bL:Int×Bool)=>bnd (fA f e2.To) λ(cc:Int×Bool)=>jn (λ(v_3:Bool)=>bif v_3 then some (1:Int)else Z2 ()) λJ3=>(bif !bL.2 then J3 true else(bif !cc.2 then J3 true else(bif decide (e2.cQ=e2.To)then J3 true else bnd (fL e2.Database) λ(de:Int)=>J3 (!decide (de=0)))))) (λ(sg:Unit)=>match sg with|()=>some (0:Int)) ()) ()) λJ1=>bnd (dQ f) λ(ah:az)=>bnd (gD ah) λ(aD:Int)=>(bif !decide (aD=0)then J1 true else J1 (decide (400<(f.aF.length:Int))))
def iL(f:aA)(n:aT):Option (ai×Bool):=
 bif decide (n.Seq=0)then some ((ai.mk (0:Int) (0:Int) false [] []),false)else bnd (dQ f) λ(ah:az)=>bnd (qI ah n.af n.Seq n.Claims) λ(aD:ai×Int)=>some (aD.1,decide (aD.2=0))
def xh(f:aA)(aJ:Int):Option (ai×Bool):=
 bnd (fA f aJ) λ(ah:Int×Bool)=>jn (λ(v_1:Bool)=>bif v_1 then some ((ai.mk (0:Int) (0:Int) false [] []),false)else bnd (elO f.aB ah.1) λ(e_1:aT)=>bnd (iL f e_1) λ(aN:ai×Bool)=>some (aN.1,aN.2)) λJ1=>bnd (eW f) λ(aD:Int)=>(bif !decide (aD=0)then J1 true else J1 (!ah.2))
def eM(d:aH):Option aH:=
 bJ d.ay 0 (λ(j1:Int) (e1:ai) (Z1:(List ai)→Option _) (m_1:(List ai))=>bnd (dD e1.Links) λ(ah:(List bp))=>bnd (cZ e1.Claims) λ(aD:(List bH))=>bnd (cV m_1 ([(ai.mk e1.af e1.Seq e1.aW ah aD)]:List ai)) λ(l_1:List ai)=>Z1 l_1) (λ(m_1:(List ai))=>some (aH.mk m_1)) []
def iF(f:aA):Option aA:=
 bnd (dy f.Links) λ(ah:(List aS))=>bJ f.aB 0 (λ(j1:Int) (e1:aT) (Z1:(List aT)→Option _) (m_1:(List aT))=>bnd (cZ e1.Claims) λ(aD:(List bH))=>bnd (eM e1.Database) λ(aN:aH)=>bnd (cV m_1 ([(aT.mk e1.af e1.Seq e1.aW aD aN)]:List aT)) λ(l_1:List aT)=>Z1 l_1) (λ(m_1:(List aT))=>bJ f.aF 0 (λ(j2:Int) (e2:bB) (Z2:(List bB)→Option _) (m_2:(List bB))=>bnd (eM e2.Database) λ(bt:aH)=>bnd (cV m_2 ([(bB.mk e2.cQ e2.To bt)]:List bB)) λ(l_2:List bB)=>Z2 l_2) (λ(m_2:(List bB))=>some (aA.mk ah m_1 m_2)) []) []
def eS(f:aA):Option Bool:=
 jn (λ(v_1:Bool)=>bif v_1 then some false else bnd (dQ f) λ(aD:az)=>bJ f.aB 0 (λ(j1:Int) (e1:aT) (Z1:Unit→Option _) (sg:Unit)=>match sg with|()=>bnd (iL f e1) λ(aN:ai×Bool)=>bnd (kN e1.Database e1.af) λ(bt:ai×Bool)=>jn (λ(v_2:Bool)=>bif v_2 then some false else bnd (sE f.aB (0:Int) (j1:Int)) λ(l_1:List aT)=>bJ l_1 0 (λ(j2:Int) (e2:aT) (Z2:Unit→Option _) (sg:Unit)=>match sg with|()=>jn (λ(v_3:Bool)=>bif v_3 then some false else Z2 ()) λJ3=>bnd (gU aD e2.af e1.af) λ(cc:Bool)=>(bif cc then bnd (kM e2.Database e1.Database) λ(de:Bool)=>J3 (!de)else J3 false)) (λ(sg:Unit)=>match sg with|()=>Z1 ()) ()) λJ2=>(bif !aN.2 then J2 true else(bif !bt.2 then J2 true else bnd (kS aN.1 bt.1) λ(bL:Bool)=>J2 (!bL)))) (λ(sg:Unit)=>match sg with|()=>some true) ()) λJ1=>bnd (eW f) λ(ah:Int)=>(bif !decide (ah=0)then J1 true else J1 (decide (0<(f.aF.length:Int))))
end Go.Proofs.YtjdopimopgpagaaGreat
namespace Go.Proofs.YtjdopimopgpagaaGreat
open Go
set_option maxRecDepth 100000
set_option linter.all false
def dI(m:aM)(i:Int):Option aM:=
 bnd (elO m.f_.aB i) λ(e_1:aT)=>bnd (iL m.f_ e_1) λ(ah:ai×Bool)=>bif ah.2 then bnd (nJ e_1.Database ah.1) λ(aD:aH×Bool)=>bnd (iT m.f_.aB i (aT.mk e_1.af e_1.Seq e_1.aW e_1.Claims aD.1)) λ(l_1:List aT)=>some (aM.mk (aA.mk m.f_.Links l_1 m.f_.aF))else some m
def gW(m:aM)(i:Int):Option aM:=
 bnd (elO m.f_.aB i) λ(e_1:aT)=>bnd (dQ m.f_) λ(ah:az)=>bnd (iK ah e_1.af) λ(aD:(List Int))=>bJ aD 0 (λ(j1:Int) (e1:Int) (Z1:(List bB)→Option _) (m_1:(List bB))=>bnd (eM e_1.Database) λ(aN:aH)=>bnd (cV m_1 ([(bB.mk e_1.af e1 aN)]:List bB)) λ(l_1:List bB)=>Z1 l_1) (λ(m_1:(List bB))=>some (aM.mk (aA.mk m.f_.Links m.f_.aB m_1))) m.f_.aF
def eN(m:aM)(k:Int):Option aM:=
 bnd (elO m.f_.aF k) λ(e_1:bB)=>bnd (aaG m.f_.aF k (w64 (k+1))) λ(l_1:List bB)=>bnd (dQ (aA.mk m.f_.Links m.f_.aB l_1)) λ(ah:az)=>bnd (kK ah e_1.cQ e_1.To) λ(aD:Int×Bool)=>bif !aD.2 then some (aM.mk (aA.mk m.f_.Links m.f_.aB l_1))else bnd (fA (aA.mk m.f_.Links m.f_.aB l_1) e_1.To) λ(aN:Int×Bool)=>bnd (elO m.f_.aB aN.1) λ(e_2:aT)=>bnd (lP e_2.Database e_1.Database) λ(bt:aH×Int)=>bnd (iT m.f_.aB aN.1 (aT.mk e_2.af e_2.Seq e_2.aW e_2.Claims bt.1)) λ(l_2:List aT)=>bnd (elO l_2 aN.1) λ(e_3:aT)=>bnd (kN e_3.Database e_3.af) λ(bL:ai×Bool)=>bnd (iL (aA.mk m.f_.Links l_2 l_1) e_3) λ(cc:ai×Bool)=>jn (λ(v_1:Bool)=>bif v_1 then bnd (iT l_2 aN.1 (aT.mk e_3.af (w64 (bL.1.Seq+1)) e_3.aW e_3.Claims e_3.Database)) λ(l_3:List aT)=>bnd (dI (aM.mk (aA.mk m.f_.Links l_3 l_1)) aN.1) λ(di:aM)=>some di else some (aM.mk (aA.mk m.f_.Links l_2 l_1))) λJ1=>(bif bL.2 then(bif !cc.2 then J1 (decide (bL.1.Seq<1000000))else bnd (kS bL.1 cc.1) λ(de:Bool)=>(bif !de then J1 (decide (bL.1.Seq<1000000))else J1 false))else J1 false)
def fq(m:aM):Option aM:=
 whl (λ(Z1:((List aS)×(List aT)×(List bB))→Option _) (sg:(List aS)×(List aT)×(List bB))=>match sg with|(m_1,m_2,m_3)=>bif decide (0<(m_3.length:Int))then bnd (eN (aM.mk (aA.mk m_1 m_2 m_3)) (0:Int)) λ(ah:aM)=>Z1 (ah.f_.Links,ah.f_.aB,ah.f_.aF)else some (aM.mk (aA.mk m_1 m_2 m_3))) (m.f_.Links,m.f_.aB,m.f_.aF)
def fP(m:aM):Option aM:=
 bJ m.f_.aB 0 (λ(j1:Int) (e1:aT) (Z1:((List aS)×(List aT)×(List bB))→Option _) (sg:(List aS)×(List aT)×(List bB))=>match sg with|(m_1,m_2,m_3)=>bnd (gW (aM.mk (aA.mk m_1 m_2 m_3)) (j1:Int)) λ(ah:aM)=>Z1 (ah.f_.Links,ah.f_.aB,ah.f_.aF)) (λ(sg:(List aS)×(List aT)×(List bB))=>match sg with|(m_1,m_2,m_3)=>some (aM.mk (aA.mk m_1 m_2 m_3))) (m.f_.Links,m.f_.aB,m.f_.aF)
end Go.Proofs.YtjdopimopgpagaaGreat
namespace Go.Proofs.YtjdopimopgpagaaGreat
open Go
set_option maxRecDepth 100000
set_option linter.all false
def oo(f:aA)(aJ:Int):Option (aM×Int×Int):=
 bnd (eW f) λ(ah:Int)=>bif !decide (ah=0)then none else bnd (fA f aJ) λ(aD:Int×Bool)=>bif !aD.2 then none else bnd (iF f) λ(aN:aA)=>some ((aM.mk aN),aD.1,(0:Int))
def oT(f:aA)(aJ:Int):Option (Int×Int):=
 bnd (eW f) λ(ah:Int)=>bif !decide (ah=0)then some ((0:Int),(1:Int))else bnd (fA f aJ) λ(aD:Int×Bool)=>bif !aD.2 then some ((0:Int),(4:Int))else bnd (iF f) λ(aN:aA)=>none
def pJ(oa0:gB)(c_0:az):Option Bool:=
 bnd (iJ c_0 oa0.af) λ(ah:Bool)=>some (!ah)
def rH(t:az)(cI:List gB):Option (aA×Int):=
 bnd (gD t) λ(ah:Int)=>bif !decide (ah=0)then some ((aA.mk [] [] []),(1:Int))else bnd (fm cI (λ(y0:gB)=>pJ y0 t)) λ(aD:Bool)=>bif aD then some ((aA.mk [] [] []),(4:Int))else bJ cI 0 (λ(j1:Int) (e1:gB) (Z1:Unit→Option _) (sg:Unit)=>match sg with|()=>jn (λ(v_1:Bool)=>bif v_1 then some ((aA.mk [] [] []),(25:Int))else Z1 ()) λJ1=>(bif decide (0<(j1:Int))then bnd (elO cI (w64 ((j1:Int)-(1:Int)))) λ(e_1:gB)=>bnd (ez e_1.af e1.af) λ(aN:Int)=>bnd (ez e_1.Claim.bV e1.Claim.bV) λ(bt:Int)=>bnd (nE ([aN,bt]:List Int)) λ(bL:Int)=>J1 (decide (0≤bL))else J1 false)) (λ(sg:Unit)=>match sg with|()=>bnd (dy t.Links) λ(cc:(List aS))=>bJ t.aG 0 (λ(j2:Int) (e2:aU) (Z2:(List aT)→Option _) (m_1:(List aT))=>bJ cI 0 (λ(j3:Int) (e3:gB) (Z3:(List bH)→Option _) (m_2:(List bH))=>jn (λ(m_3:(List bH))=>Z3 m_3) λJ2=>bif decide (e3.af=e2.ID)then bnd (cV m_2 ([e3.Claim]:List bH)) λ(l_1:List bH)=>J2 l_1 else J2 m_2) (λ(m_2:(List bH))=>bnd (cV m_1 ([(aT.mk e2.ID (0:Int) e2.aW m_2 (aH.mk []))]:List aT)) λ(l_2:List aT)=>Z2 l_2) []) (λ(m_1:(List aT))=>bnd (eW (aA.mk cc m_1 [])) λ(de:Int)=>bif !decide (de=0)then some ((aA.mk [] [] []),(1:Int))else some ((aA.mk cc m_1 []),(0:Int))) []) ()
def lz(f:aA)(aJ:Int):Option (aA×Int):=
 els (oo f aJ) (λah=>bif !decide (ah.2.2=0)then some ((aA.mk [] [] []),ah.2.2)else bnd (elO ah.1.f_.aB ah.2.1) λ(e_1:aT)=>bif decide (e_1.Seq=1000000)then some ((aA.mk [] [] []),(7:Int))else bnd (iT ah.1.f_.aB ah.2.1 (aT.mk e_1.af (w64 (e_1.Seq+1)) e_1.aW e_1.Claims e_1.Database)) λ(l_1:List aT)=>bnd (dI (aM.mk (aA.mk ah.1.f_.Links l_1 ah.1.f_.aF)) ah.2.1) λ(aD:aM)=>some (aD.f_,(0:Int)))<|bnd (oT f aJ) λaN=>bif !decide (aN.2=0)then some ((aA.mk [] [] []),aN.2)else none
def eX(f:aA):Option (aA×Int):=
 bnd (eW f) λ(ah:Int)=>bif !decide (ah=0)then some ((aA.mk [] [] []),(1:Int))else bnd (iF f) λ(aD:aA)=>bnd (fq (aM.mk aD)) λ(aN:aM)=>bnd (fP aN) λ(bt:aM)=>bnd (fq bt) λ(bL:aM)=>some (bL.f_,(0:Int))
def jd(n:Int):Option Int:=
 some (w64 ((2:Int)*(if(1099511627776:Int)<(if(0:Int)>n then(0:Int)else n)then(1099511627776:Int)else(if(0:Int)>n then(0:Int)else n))))
end Go.Proofs.YtjdopimopgpagaaGreat
namespace Go.Proofs.YtjdopimopgpagaaGreat
open Go
set_option maxRecDepth 100000
set_option linter.all false
def ef(f:aA):Option az:=
 bJ f.aB 0 (λ(j1:Int) (e1:aT) (Z1:(List aU)→Option _) (m_1:(List aU))=>bnd (cV m_1 ([(aU.mk e1.af e1.aW)]:List aU)) λ(l_1:List aU)=>Z1 l_1) (λ(m_1:(List aU))=>some (az.mk m_1 f.Links)) []
def jf(f:aA)(aJ:Int):Option Int:=
 bJ f.aB 0 (λ(j1:Int) (e1:aT) (Z1:Unit→Option _) (sg:Unit)=>match sg with|()=>bif decide (e1.af=aJ)then some (j1:Int)else Z1 ()) (λ(sg:Unit)=>match sg with|()=>some (-1:Int)) ()
def oE(f:aA):Option Bool:=
 jn (λ(v_1:Bool)=>bif v_1 then some false else bJ f.aB 0 (λ(j1:Int) (e1:aT) (Z1:Unit→Option _) (sg:Unit)=>match sg with|()=>jn (λ(v_2:Bool)=>bif v_2 then some false else Z1 ()) λJ2=>(bif decide (e1.Seq<0)then J2 true else(bif decide (1000000<e1.Seq)then J2 true else bnd (iu e1.Claims) λ(aN:Bool)=>(bif !aN then J2 true else bnd (gN e1.Database) λ(bt:Int)=>J2 (!decide (bt=0)))))) (λ(sg:Unit)=>match sg with|()=>bJ f.aF 0 (λ(j2:Int) (e2:bB) (Z2:Unit→Option _) (sg:Unit)=>match sg with|()=>jn (λ(v_3:Bool)=>bif v_3 then some false else Z2 ()) λJ3=>bnd (jf f e2.cQ) λ(bL:Int)=>(bif decide (bL<0)then J3 true else bnd (jf f e2.To) λ(cc:Int)=>(bif decide (cc<0)then J3 true else(bif decide (e2.cQ=e2.To)then J3 true else bnd (gN e2.Database) λ(de:Int)=>J3 (!decide (de=0)))))) (λ(sg:Unit)=>match sg with|()=>some true) ()) ()) λJ1=>bnd (ef f) λ(ah:az)=>bnd (gK ah) λ(aD:Int)=>(bif !decide (aD=0)then J1 true else J1 (decide (400<(f.aF.length:Int))))
def mV(f:aA)(i:Int)(seq:Int):Option (ai×Bool):=
 bnd (ef f) λ(ah:az)=>bnd (elO f.aB i) λ(e_1:aT)=>bnd (sR ah e_1.af seq e_1.Claims) λ(aD:ai×Int)=>some (aD.1,decide (aD.2=0))
def oK(f:aA)(aJ:Int):Option (ai×Bool):=
 bnd (jf f aJ) λ(ah:Int)=>jn (λ(v_1:Bool)=>bif v_1 then some ((ai.mk (0:Int) (0:Int) false [] []),false)else bnd (elO f.aB ah) λ(e_2:aT)=>bnd (mV f ah e_2.Seq) λ(aN:ai×Bool)=>some (aN.1,aN.2)) λJ1=>bnd (oE f) λ(aD:Bool)=>(bif !aD then J1 true else(bif decide (ah<0)then J1 true else bnd (elO f.aB ah) λ(e_1:aT)=>J1 (decide (e_1.Seq=0))))
def sS(f:aA)(i:Int)(n:aT):Option aA:=
 bnd (cV [] f.aB) λ(l_1:List aT)=>bnd (elO l_1 i) λ(e_1:aT)=>bnd (iT l_1 i n) λ(l_2:List aT)=>some (aA.mk f.Links l_2 f.aF)
def me(f:aA)(i:Int)(seq:Int):Option aA:=
 bnd (elO f.aB i) λ(e_1:aT)=>bnd (mV f i seq) λ(ah:ai×Bool)=>bnd (tQ e_1.Database ah.1) λ(aD:aH×Bool)=>bnd (sS f i (aT.mk e_1.af seq e_1.aW e_1.Claims aD.1)) λ(aN:aA)=>some aN
def nK(f:aA)(m:bB):Option aA:=
 bnd (ef f) λ(ah:az)=>bnd (kR ah m.cQ m.To) λ(aD:Int×Bool)=>bif !aD.2 then some f else bnd (jf f m.To) λ(aN:Int)=>bnd (elO f.aB aN) λ(e_1:aT)=>bnd (uD e_1.Database m.Database) λ(bt:aH×Int)=>bnd (sS f aN (aT.mk e_1.af e_1.Seq e_1.aW e_1.Claims bt.1)) λ(bL:aA)=>bnd (iW bt.1 m.To) λ(cc:ai×Bool)=>bif !cc.2 then some bL else bnd (mV bL aN e_1.Seq) λ(de:ai×Bool)=>jn (λ(v_1:Bool)=>bif v_1 then some bL else bnd (me bL aN (w64 (cc.1.Seq+1))) λ(dU:aA)=>some dU) λJ1=>(bif decide (0<e_1.Seq)then(bif de.2 then bnd (vC cc.1 de.1) λ(di:Bool)=>(bif di then J1 true else J1 (decide (1000000<w64 (cc.1.Seq+1))))else J1 (decide (1000000<w64 (cc.1.Seq+1))))else J1 (decide (1000000<w64 (cc.1.Seq+1))))
end Go.Proofs.YtjdopimopgpagaaGreat
namespace Go.Proofs.YtjdopimopgpagaaGreat
open Go
set_option maxRecDepth 100000
set_option linter.all false
def mg(t:aX)(most:Int):Option (aH×aX):=
 bnd (cq t (3:Int)) λ(ah:Int×aX)=>bif decide (ah.1=0)then some ((aH.mk []),ah.2)else bnd (ki ah.2 (0:Int)) λ(aD:aH×aX)=>whl (λ(Z1:(Int×(List ai))→Option _) (sg:Int×(List ai))=>match sg with|(i_1,m_1)=>bif decide (i_1<(m_1.length:Int))then bnd (elO m_1 i_1) λ(e_1:ai)=>bnd (iT m_1 i_1 (ai.mk e_1.af (if most<e_1.Seq then most else e_1.Seq) e_1.aW e_1.Links e_1.Claims)) λ(l_1:List ai)=>Z1 (w64 (i_1+1),l_1)else some ((aH.mk m_1),aD.2)) ((0:Int),aD.1.ay)
def mH(t:aX)(ga:Int)(most:Int):Option (aA×aX):=
 bnd (j8 t ga (0:Int)) λ(ah:az×aX)=>bJ ah.1.aG 0 (λ(j1:Int) (e1:aU) (Z1:((List aT)×(List Int)×Int)→Option _) (sg:(List aT)×(List Int)×Int)=>match sg with|(m_1,m_2,m_3)=>bnd (dA (aX.mk m_2 m_3) ([(0:Int),(1:Int),(1:Int),(2:Int),(400000:Int)]:List Int)) λ(aD:Int×aX)=>bnd (cq aD.2 (5:Int)) λ(aN:Int×aX)=>bnd (mg aN.2 most) λ(bt:aH×aX)=>gz ((2:Int)-(0:Int)).toNat (0:Int) (λ(j2:Int) (Z2:((List bH)×(List Int)×Int)→Option _) (sg:(List bH)×(List Int)×Int)=>match sg with|(m_4,m_5,m_6)=>jn (λ(sg:(List Int)×Int×(List bH))=>match sg with|(m_7,m_8,m_9)=>Z2 (m_9,m_7,m_8)) λJ1=>bnd (cq (aX.mk m_5 m_6) (2:Int)) λ(bL:Int×aX)=>bif decide (bL.1=0)then bnd (ee bL.2 (1:Int) (6:Int)) λ(cc:Int×aX)=>bnd (jG cc.2) λ(de:Int×aX)=>bnd (cV m_4 ([(bH.mk (j2:Int) cc.1 de.1)]:List bH)) λ(l_1:List bH)=>J1 (de.2.L,de.2.At,l_1)else J1 (bL.2.L,bL.2.At,m_4)) (λ(j2:Int) (sg:(List bH)×(List Int)×Int)=>match sg with|(m_4,m_5,m_6)=>bnd (cV m_1 ([(aT.mk e1.ID (if aD.1<most then aD.1 else most) (decide (0<aN.1)) m_4 bt.1)]:List aT)) λ(l_2:List aT)=>Z1 (l_2,m_5,m_6)) ([],bt.2.L,bt.2.At)) (λ(sg:(List aT)×(List Int)×Int)=>match sg with|(m_1,m_2,m_3)=>bnd (cq (aX.mk m_2 m_3) (4:Int)) λ(di:Int×aX)=>whl (λ(Z3:(Int×(List bB)×(List Int)×Int)→Option _) (sg:Int×(List bB)×(List Int)×Int)=>match sg with|(i_1,hU,gP,lX)=>bif ((decide (0<i_1))&&(decide (1<(ah.1.aG.length:Int))))then bnd (cq (aX.mk gP lX) (ah.1.aG.length:Int)) λ(dU:Int×aX)=>bnd (ee dU.2 (1:Int) (w64 ((ah.1.aG.length:Int)-(1:Int)))) λ(bP:Int×aX)=>bnd (pF (w64 (dU.1+bP.1)) (ah.1.aG.length:Int)) λ(dW:Int)=>bnd (elO ah.1.aG dU.1) λ(e_1:aU)=>bnd (elO ah.1.aG dW) λ(e_2:aU)=>bnd (mg bP.2 most) λ(ck:aH×aX)=>bnd (cV hU ([(bB.mk e_1.ID e_2.ID ck.1)]:List bB)) λ(l_3:List bB)=>Z3 (w64 (i_1-1),l_3,ck.2.L,ck.2.At)else some ((aA.mk ah.1.Links m_1 hU),(aX.mk gP lX))) (di.1,[],di.2.L,di.2.At)) ([],ah.2.L,ah.2.At)
end Go.Proofs.YtjdopimopgpagaaGreat
