/- Several texts in one. No condition but those that stand in each. -/
import Derived.Test.YtjdopimopgpagaaGreatT
namespace Go.Proofs.YtjdopimopgpagaaGreat
open Go
set_option maxRecDepth 100000
set_option linter.all false
def nw(l:List Int)(n:Int):Option Bool:=
 bN l 0 (λ(j1:Int) (e1:Int) (Z1:Unit→Option _) (sg:Unit)=>match sg with|()=>bif decide (e1=n)then some true else Z1 ()) (λ(sg:Unit)=>match sg with|()=>some false) ()
end Go.Proofs.YtjdopimopgpagaaGreat
namespace Go.Proofs.YtjdopimopgpagaaGreat
open Go
set_option maxRecDepth 100000
set_option linter.all false
def qc(n:Int):Option Bool:=
 some ((decide (1≤n))&&(decide (n≤1000)))
def nx(t:aB)(ra1:Int):Option Bool:=
 bN t.aI 0 (λ(j1:Int) (e1:bf) (Z1:Unit→Option _) (sg:Unit)=>match sg with|()=>bif decide (e1.ID=ra1)then some true else Z1 ()) (λ(sg:Unit)=>match sg with|()=>some false) ()
def lu(t:aB)(eU:Int)(ki:Int):Option (Int×Bool):=
 bN t.Links 0 (λ(j1:Int) (e1:aV) (Z1:Unit→Option _) (sg:Unit)=>match sg with|()=>bif ((decide (e1.A=eU))&&(decide (e1.B=ki)))then some (e1.lK,true)else bif ((decide (e1.B=eU))&&(decide (e1.A=ki)))then some (e1.kP,true)else Z1 ()) (λ(sg:Unit)=>match sg with|()=>some ((0:Int),false)) ()
def iL(t:aB):Option Int:=
 bif ((decide (24<(t.aI.length:Int)))||(decide (60<(t.Links.length:Int))))then some (3:Int)else bN t.aI 0 (λ(j1:Int) (e1:bf) (Z1:Unit→Option _) (sg:Unit)=>match sg with|()=>bif ((decide (e1.ID<1))||(decide (99<e1.ID)))then some (2:Int)else Z1 ()) (λ(sg:Unit)=>match sg with|()=>bN (List.drop 1 t.aI) 1 (λ(j2:Int) (e2:bf) (Z2:Unit→Option _) (sg:Unit)=>match sg with|()=>bnd (elO t.aI (w64 ((j2:Int)-(1:Int)))) λ(e_1:bf)=>bif decide (e2.ID≤e_1.ID)then some (25:Int)else Z2 ()) (λ(sg:Unit)=>match sg with|()=>bN t.Links 0 (λ(j3:Int) (e3:aV) (Z3:Unit→Option _) (sg:Unit)=>match sg with|()=>jn (λ(v_1:Bool)=>bif v_1 then some (2:Int)else Z3 ()) λJ1=>bnd (qc e3.lK) λ(ah:Bool)=>(bif !ah then J1 true else bnd (qc e3.kP) λ(aD:Bool)=>(bif !aD then J1 true else(bif decide (e3.cg<0)then J1 true else J1 (decide (1000<e3.cg)))))) (λ(sg:Unit)=>match sg with|()=>bN t.Links 0 (λ(j4:Int) (e4:aV) (Z4:Unit→Option _) (sg:Unit)=>match sg with|()=>jn (λ(v_2:Bool)=>bif v_2 then some (4:Int)else Z4 ()) λJ2=>bnd (nx t e4.A) λ(aP:Bool)=>(bif !aP then J2 true else bnd (nx t e4.B) λ(bt:Bool)=>J2 (!bt))) (λ(sg:Unit)=>match sg with|()=>bN t.Links 0 (λ(j5:Int) (e5:aV) (Z5:Unit→Option _) (sg:Unit)=>match sg with|()=>bif decide (e5.B≤e5.A)then some (8:Int)else Z5 ()) (λ(sg:Unit)=>match sg with|()=>bN (List.drop 1 t.Links) 1 (λ(j6:Int) (e6:aV) (Z6:Unit→Option _) (sg:Unit)=>match sg with|()=>bnd (elO t.Links (w64 ((j6:Int)-(1:Int)))) λ(e_2:aV)=>bif ((decide (e6.A<e_2.A))||((decide (e_2.A=e6.A))&&(decide (e6.B≤e_2.B))))then some (25:Int)else Z6 ()) (λ(sg:Unit)=>match sg with|()=>some (0:Int)) ()) ()) ()) ()) ()) ()
def qd(xa0:Int)(n:Int):Option Int:=
 bif decide (n<1)then some (0:Int)else chk (decide (n≠0))<|jn (λ(ah:Int)=>some ah) λJ1=>bif decide (Int.tmod xa0 n<0)then J1 (w64 ((Int.tmod xa0 n)+n))else J1 (Int.tmod xa0 n)
def oS(t:aU):Option (Int×aU):=
 bif decide ((t.L.length:Int)≤t.At)then some ((0:Int),t)else bnd (elO t.L (w64 ((w64 (t.At+1))-(1:Int)))) λ(e_1:Int)=>some (e_1,(aU.mk t.L (w64 (t.At+1))))
def bR(t:aU)(n:Int):Option (Int×aU):=
 bnd (oS t) λ(ah:Int×aU)=>bnd (qd ah.1 n) λ(aD:Int)=>some (aD,ah.2)
def dS(t:aU)(low:Int)(high:Int):Option (Int×aU):=
 bnd (bR t (w64 ((w64 (high-low))+(1:Int)))) λ(ah:Int×aU)=>some (w64 (low+ah.1),ah.2)
end Go.Proofs.YtjdopimopgpagaaGreat
namespace Go.Proofs.YtjdopimopgpagaaGreat
open Go
set_option maxRecDepth 100000
set_option linter.all false
def qY(t:aB)(ra1:Int):Option Bool:=
 bnd (iL t) λ(ah:Int)=>(bif decide (ah=0)then bnd (nx t ra1) λ(aD:Bool)=>some aD else some false)
def jk(t:aB)(ra1:Int):Option Bool:=
 bnd (iL t) λ(ah:Int)=>bif !decide (ah=0)then some false else bN t.aI 0 (λ(j1:Int) (e1:bf) (Z1:Unit→Option _) (sg:Unit)=>match sg with|()=>bif decide (e1.ID=ra1)then some e1.aY else Z1 ()) (λ(sg:Unit)=>match sg with|()=>some false) ()
def qe(t:aB)(ra1:Int):Option (List Int):=
 bN t.aI 0 (λ(j1:Int) (e1:bf) (Z1:(List Int)→Option _) (dH:(List Int))=>jn (λ(qt:(List Int))=>Z1 qt) λJ1=>bnd (lu t ra1 e1.ID) λ(ah:Int×Bool)=>bif ah.2 then bnd (dy dH ([e1.ID]:List Int)) λ(l_1:List Int)=>J1 l_1 else J1 dH) (λ(dH:(List Int))=>some dH) []
def oT(l:List lg)(a:Int)(b:Int):Option Bool:=
 bN l 0 (λ(j1:Int) (e1:lg) (Z1:Unit→Option _) (sg:Unit)=>match sg with|()=>bif (bif decide (e1.cD=a)then((decide (e1.To=b))||((decide (e1.cD=b))&&(decide (e1.To=a))))else((decide (e1.cD=b))&&(decide (e1.To=a))))then some true else Z1 ()) (λ(sg:Unit)=>match sg with|()=>some false) ()
def mP(t:aB)(f:gu):Option aB:=
 bnd (iL t) λ(ah:Int)=>bif !decide (ah=0)then some (aB.mk [] [])else bN t.aI 0 (λ(j1:Int) (e1:bf) (Z1:(List bf)→Option _) (m_1:(List bf))=>jn (λ(m_2:(List bf))=>Z1 m_2) λJ1=>bnd (nw f.aI e1.ID) λ(aD:Bool)=>bif !aD then bnd (dy m_1 ([e1]:List bf)) λ(l_1:List bf)=>J1 l_1 else J1 m_1) (λ(m_1:(List bf))=>bN t.Links 0 (λ(j2:Int) (e2:aV) (Z2:(List aV)→Option _) (m_3:(List aV))=>jn (λ(m_4:(List aV))=>Z2 m_4) λJ2=>jn (λ(v_1:Bool)=>bif v_1 then bnd (dy m_3 ([e2]:List aV)) λ(l_2:List aV)=>J2 l_2 else J2 m_3) λJ3=>bnd (nw f.aI e2.A) λ(aP:Bool)=>(bif !aP then bnd (nw f.aI e2.B) λ(bt:Bool)=>(bif !bt then bnd (oT f.Links e2.A e2.B) λ(bL:Bool)=>J3 (!bL)else J3 false)else J3 false)) (λ(m_3:(List aV))=>some (aB.mk m_1 m_3)) []) []
end Go.Proofs.YtjdopimopgpagaaGreat
namespace Go.Proofs.YtjdopimopgpagaaGreat
open Go
set_option maxRecDepth 100000
set_option linter.all false
def dD(t:aU)(l:List Int):Option (Int×aU):=
 bnd (bR t (l.length:Int)) λ(ah:Int×aU)=>bnd (elO l ah.1) λ(e_1:Int)=>some (e_1,ah.2)
def ia(t:aU)(n:Int):Option (Bool×aU):=
 bnd (bR t n) λ(ah:Int×aU)=>some (decide (ah.1=w64 (n-1)),ah.2)
def gi(t:aU):Option (Int×aU):=
 bnd (dD t ([(-1:Int),(0:Int),(1:Int),(7:Int),(8:Int),(23:Int),(24:Int),(31:Int),(32:Int),(63:Int),(64:Int),(99:Int),(100:Int),(255:Int),(256:Int),(257:Int),(1000:Int),(1001:Int),(1023:Int),(1024:Int),(1000000:Int),(1000001:Int),(1099511627776:Int),(9223372036854775807:Int),(-9223372036854775808:Int)]:List Int)) λ(ah:Int×aU)=>some (ah.1,ah.2)
def jQ(t:aU):Option (Int×aU):=
 bnd (dD t ([(8:Int),(8:Int),(16:Int),(32:Int),(64:Int)]:List Int)) λ(ah:Int×aU)=>some (ah.1,ah.2)
def sO(l:List aV):Option (List aV):=
 bN l 0 (λ(j1:Int) (e1:aV) (Z1:(List aV)→Option _) (dH:(List aV))=>whl (λ(Z2:Int→Option _) (pQ:Int)=>jn (λ(v_1:Bool)=>bif v_1 then Z2 (w64 (pQ+1))else bnd (rL dH (0:Int) pQ) λ(l_1:List aV)=>bnd (dy [] l_1) λ(l_2:List aV)=>bnd (dy l_2 ([e1]:List aV)) λ(l_3:List aV)=>bnd (rL dH pQ (dH.length:Int)) λ(l_4:List aV)=>bnd (dy l_3 l_4) λ(l_5:List aV)=>Z1 l_5) λJ1=>(bif decide (pQ<(dH.length:Int))then bnd (elO dH pQ) λ(e_1:aV)=>(bif decide (e_1.A<e1.A)then J1 true else(bif decide (e_1.A=e1.A)then J1 (decide (e_1.B<e1.B))else J1 false))else J1 false)) (0:Int)) (λ(dH:(List aV))=>some dH) []
def vE(l:List Int):Option aU:=
 jn (λ(l_1:(List Int))=>some (aU.mk l_1 (0:Int))) λJ1=>bif decide (600<(l.length:Int))then bnd (rL l (0:Int) (600:Int)) λ(l_2:List Int)=>J1 l_2 else J1 l
def kj(t:aU)(most:Int)(n:Int):Option (aB×aU):=
 bnd (dS t (1:Int) most) λ(ah:Int×aU)=>chk (decide ((ah.1+1)≤9223372036854775807))<|gO ((ah.1+1)-(1:Int)).toNat (1:Int) (λ(j1:Int) (Z1:(List bf)→Option _) (m_1:(List bf))=>bnd (dy m_1 ([(bf.mk (j1:Int) true)]:List bf)) λ(l_1:List bf)=>Z1 l_1) (λ(j1:Int) (m_1:(List bf))=>bnd (dD ah.2 ([(1:Int),(2:Int),(2:Int),(5:Int)]:List Int)) λ(aD:Int×aU)=>chk (decide ((ah.1+1)≤9223372036854775807))<|gO ((ah.1+1)-(2:Int)).toNat (2:Int) (λ(j2:Int) (Z2:((List aV)×(List Int)×Int)→Option _) (sg:(List aV)×(List Int)×Int)=>match sg with|(m_2,m_3,m_4)=>bnd (dS (aU.mk m_3 m_4) (1:Int) (w64 ((j2:Int)-(1:Int)))) λ(aP:Int×aU)=>bnd (ia aP.2 (9:Int)) λ(bt:Bool×aU)=>chk (decide ((j2:Int)≤9223372036854775807))<|gO ((j2:Int)-(1:Int)).toNat (1:Int) (λ(j3:Int) (Z3:((List aV)×(List Int)×Int)→Option _) (sg:(List aV)×(List Int)×Int)=>match sg with|(m_5,m_6,m_7)=>jn (λ(sg:(List Int)×Int×(List aV))=>match sg with|(m_8,m_9,fQ)=>Z3 (fQ,m_8,m_9)) λJ1=>jn (λ(sg:Bool×(List Int)×Int)=>match sg with|(v_1,fF,jl)=>bif v_1 then bnd (dS (aU.mk fF jl) (1:Int) aD.1) λ(cU:Int×aU)=>bnd (dS cU.2 (1:Int) aD.1) λ(dz:Int×aU)=>bnd (bR dz.2 (4:Int)) λ(dW:Int×aU)=>bnd (dy m_5 ([(aV.mk (j3:Int) (j2:Int) cU.1 dz.1 dW.1)]:List aV)) λ(l_2:List aV)=>J1 (dW.2.L,dW.2.At,l_2)else J1 (fF,jl,m_5)) λJ2=>(bif decide ((j3:Int)=aP.1)then(bif !bt.1 then J2 (true,m_6,m_7)else bnd (ia (aU.mk m_6 m_7) (3:Int)) λ(bL:Bool×aU)=>J2 (bL.1,bL.2.L,bL.2.At))else bnd (ia (aU.mk m_6 m_7) (3:Int)) λ(cq:Bool×aU)=>J2 (cq.1,cq.2.L,cq.2.At))) (λ(j3:Int) (sg:(List aV)×(List Int)×Int)=>match sg with|(m_5,m_6,m_7)=>Z2 (m_5,m_6,m_7)) (m_2,bt.2.L,bt.2.At)) (λ(j2:Int) (sg:(List aV)×(List Int)×Int)=>match sg with|(m_2,m_3,m_4)=>bnd (sO m_2) λ(bJ:(List aV))=>jn (λ(sg:(List Int)×Int×(List bf)×(List aV))=>match sg with|(ny,nA,oB,oC)=>some ((aB.mk oB oC),(aU.mk ny nA))) λJ3=>jn (λ(sg:Bool×(List Int)×Int)=>match sg with|(v_2,mz,sP)=>bif v_2 then bnd (bR (aU.mk mz sP) (7:Int)) λ(ck:Int×aU)=>bif decide (ck.1=0)then bnd (dD ck.2 ([(0:Int),(1:Int),(99:Int),(100:Int),(-1:Int)]:List Int)) λ(fD:Int×aU)=>bnd (dy m_1 ([(bf.mk fD.1 false)]:List bf)) λ(l_3:List bf)=>J3 (fD.2.L,fD.2.At,l_3,bJ)else bif decide (ck.1=1)then bnd (bR ck.2 (4:Int)) λ(jm:Int×aU)=>bnd (bR jm.2 (4:Int)) λ(gC:Int×aU)=>bnd (dy bJ ([(aV.mk jm.1 gC.1 (1:Int) (1:Int) (0:Int))]:List aV)) λ(l_4:List aV)=>J3 (gC.2.L,gC.2.At,m_1,l_4)else bif decide (ck.1=2)then bif decide (0<(bJ.length:Int))then bnd (bR ck.2 (bJ.length:Int)) λ(mg:Int×aU)=>bnd (gi mg.2) λ(iX:Int×aU)=>bnd (elO bJ mg.1) λ(e_1:aV)=>bnd (gF bJ mg.1 (aV.mk e_1.A e_1.B iX.1 e_1.kP e_1.cg)) λ(l_5:List aV)=>J3 (iX.2.L,iX.2.At,m_1,l_5)else J3 (ck.2.L,ck.2.At,m_1,bJ)else bif decide (ck.1=3)then bif decide (0<(bJ.length:Int))then bnd (bR ck.2 (bJ.length:Int)) λ(kQ:Int×aU)=>bnd (gi kQ.2) λ(gD:Int×aU)=>bnd (elO bJ kQ.1) λ(e_2:aV)=>bnd (gF bJ kQ.1 (aV.mk e_2.A e_2.B e_2.lK gD.1 e_2.cg)) λ(l_6:List aV)=>J3 (gD.2.L,gD.2.At,m_1,l_6)else J3 (ck.2.L,ck.2.At,m_1,bJ)else bif decide (ck.1=4)then bif decide (0<(bJ.length:Int))then bnd (bR ck.2 (bJ.length:Int)) λ(tY:Int×aU)=>bnd (gi tY.2) λ(qu:Int×aU)=>bnd (elO bJ tY.1) λ(e_3:aV)=>bnd (gF bJ tY.1 (aV.mk e_3.A e_3.B e_3.lK e_3.kP qu.1)) λ(l_7:List aV)=>J3 (qu.2.L,qu.2.At,m_1,l_7)else J3 (ck.2.L,ck.2.At,m_1,bJ)else bif decide (ck.1=5)then bif decide (0<(bJ.length:Int))then bnd (bR ck.2 (bJ.length:Int)) λ(rF:Int×aU)=>bnd (elO bJ rF.1) λ(e_4:aV)=>bnd (dy bJ ([e_4]:List aV)) λ(l_8:List aV)=>J3 (rF.2.L,rF.2.At,m_1,l_8)else J3 (ck.2.L,ck.2.At,m_1,bJ)else gO ((75:Int)-(50:Int)).toNat (50:Int) (λ(j4:Int) (Z4:(List bf)→Option _) (rP:(List bf))=>bnd (dy rP ([(bf.mk (j4:Int) false)]:List bf)) λ(l_9:List bf)=>Z4 l_9) (λ(j4:Int) (rP:(List bf))=>J3 (ck.2.L,ck.2.At,rP,bJ)) m_1 else J3 (mz,sP,m_1,bJ)) λJ4=>(bif decide (0<n)then bnd (ia (aU.mk m_3 m_4) n) λ(dM:Bool×aU)=>J4 (dM.1,dM.2.L,dM.2.At)else J4 (false,m_3,m_4))) ([],aD.2.L,aD.2.At)) []
def lD(t:aU)(g:aB):Option (gu×aU):=
 jn (λ(sg:Bool×(List Int)×Int)=>match sg with|(v_1,m_1,m_2)=>bif v_1 then bnd (bR (aU.mk m_1 m_2) (g.Links.length:Int)) λ(aD:Int×aU)=>bnd (elO g.Links aD.1) λ(e_1:aV)=>bnd (bR aD.2 (2:Int)) λ(aP:Int×aU)=>bif decide (aP.1=0)then some ((gu.mk ([(lg.mk e_1.B e_1.A)]:List lg) []),aP.2)else some ((gu.mk ([(lg.mk e_1.A e_1.B)]:List lg) []),aP.2)else bif decide ((g.aI.length:Int)=(0:Int))then some ((gu.mk [] []),(aU.mk m_1 m_2))else bnd (bR (aU.mk m_1 m_2) (g.aI.length:Int)) λ(bt:Int×aU)=>bnd (elO g.aI bt.1) λ(e_2:bf)=>some ((gu.mk [] ([e_2.ID]:List Int)),bt.2)) λJ1=>(bif decide (0<(g.Links.length:Int))then bnd (bR t (3:Int)) λ(ah:Int×aU)=>J1 (decide (0<ah.1),ah.2.L,ah.2.At)else J1 (false,t.L,t.At))
end Go.Proofs.YtjdopimopgpagaaGreat
namespace Go.Proofs.YtjdopimopgpagaaGreat
open Go
set_option maxRecDepth 100000
set_option linter.all false
def mQ(xa0:Int):Option Bool:=
 some (!decide (xa0=xa0))
def eT(xa0:Int)(y:Int):Option Int:=
 bnd (mQ xa0) λ(ah:Bool)=>bnd (mQ y) λ(aD:Bool)=>bif ah then bif aD then some (0:Int)else some (-1:Int)else bif aD then some (1:Int)else bif decide (xa0<y)then some (-1:Int)else bif decide (y<xa0)then some (1:Int)else some (0:Int)
def nX(vals:List Int):Option Int:=
 bN vals 0 (λ(j1:Int) (e1:Int) (Z1:Unit→Option _) (sg:Unit)=>match sg with|()=>bif !decide (e1=0)then some e1 else Z1 ()) (λ(sg:Unit)=>match sg with|()=>some (0:Int)) ()
def ct(xa0:List bf)(target:Int)(cmp:bf→Int→Option Int):Option (Int×Bool):=
 whl (λ(Z1:(Int×Int)→Option _) (sg:Int×Int)=>match sg with|(i_1,j_1)=>bif decide (i_1<j_1)then bnd (elO xa0 (w64 (Int.fdiv (IntKind.wrap .u64 (w64 (i_1+j_1))) (2 ^ min (1:Int).toNat 64)))) λ(e_1:bf)=>bnd (cmp e_1 target) λ(ah:Int)=>bif decide (ah<0)then Z1 (w64 ((w64 (Int.fdiv (IntKind.wrap .u64 (w64 (i_1+j_1))) (2 ^ min (1:Int).toNat 64)))+(1:Int)),j_1)else Z1 (i_1,w64 (Int.fdiv (IntKind.wrap .u64 (w64 (i_1+j_1))) (2 ^ min (1:Int).toNat 64)))else(bif decide (i_1<(xa0.length:Int))then bnd (elO xa0 i_1) λ(e_2:bf)=>bnd (cmp e_2 target) λ(aD:Int)=>some (i_1,decide (aD=0))else some (i_1,false))) ((0:Int),(xa0.length:Int))
def eV(sa0:List aO)(f:aO→Option Bool):Option Int:=
 bN sa0 0 (λ(j1:Int) (e1:aO) (Z1:Unit→Option _) (sg:Unit)=>match sg with|()=>bnd (f e1) λ(ah:Bool)=>bif ah then some (j1:Int)else Z1 ()) (λ(sg:Unit)=>match sg with|()=>some (-1:Int)) ()
def dY(sa0:List aR)(f:aR→Option Bool):Option Int:=
 bN sa0 0 (λ(j1:Int) (e1:aR) (Z1:Unit→Option _) (sg:Unit)=>match sg with|()=>bnd (f e1) λ(ah:Bool)=>bif ah then some (j1:Int)else Z1 ()) (λ(sg:Unit)=>match sg with|()=>some (-1:Int)) ()
def cK(xa0:List aV)(target:aV)(cmp:aV→aV→Option Int):Option (Int×Bool):=
 whl (λ(Z1:(Int×Int)→Option _) (sg:Int×Int)=>match sg with|(i_1,j_1)=>bif decide (i_1<j_1)then bnd (elO xa0 (w64 (Int.fdiv (IntKind.wrap .u64 (w64 (i_1+j_1))) (2 ^ min (1:Int).toNat 64)))) λ(e_1:aV)=>bnd (cmp e_1 target) λ(ah:Int)=>bif decide (ah<0)then Z1 (w64 ((w64 (Int.fdiv (IntKind.wrap .u64 (w64 (i_1+j_1))) (2 ^ min (1:Int).toNat 64)))+(1:Int)),j_1)else Z1 (i_1,w64 (Int.fdiv (IntKind.wrap .u64 (w64 (i_1+j_1))) (2 ^ min (1:Int).toNat 64)))else(bif decide (i_1<(xa0.length:Int))then bnd (elO xa0 i_1) λ(e_2:aV)=>bnd (cmp e_2 target) λ(aD:Int)=>some (i_1,decide (aD=0))else some (i_1,false))) ((0:Int),(xa0.length:Int))
def jH(sa0:List Int)(v:Int):Option Int:=
 bN sa0 0 (λ(j1:Int) (e1:Int) (Z1:Unit→Option _) (sg:Unit)=>match sg with|()=>bif decide (v=e1)then some (j1:Int)else Z1 ()) (λ(sg:Unit)=>match sg with|()=>some (-1:Int)) ()
def ew(sa0:List bf)(f:bf→Option Bool):Option Int:=
 bN sa0 0 (λ(j1:Int) (e1:bf) (Z1:Unit→Option _) (sg:Unit)=>match sg with|()=>bnd (f e1) λ(ah:Bool)=>bif ah then some (j1:Int)else Z1 ()) (λ(sg:Unit)=>match sg with|()=>some (-1:Int)) ()
def eW(sa0:List aV)(f:aV→Option Bool):Option Int:=
 bN sa0 0 (λ(j1:Int) (e1:aV) (Z1:Unit→Option _) (sg:Unit)=>match sg with|()=>bnd (f e1) λ(ah:Bool)=>bif ah then some (j1:Int)else Z1 ()) (λ(sg:Unit)=>match sg with|()=>some (-1:Int)) ()
def ez(sa0:List ai)(f:ai→Option Bool):Option Int:=
 bN sa0 0 (λ(j1:Int) (e1:ai) (Z1:Unit→Option _) (sg:Unit)=>match sg with|()=>bnd (f e1) λ(ah:Bool)=>bif ah then some (j1:Int)else Z1 ()) (λ(sg:Unit)=>match sg with|()=>some (-1:Int)) ()
def fZ(sa0:List gR)(f:gR→Option Bool):Option Int:=
 bN sa0 0 (λ(j1:Int) (e1:gR) (Z1:Unit→Option _) (sg:Unit)=>match sg with|()=>bnd (f e1) λ(ah:Bool)=>bif ah then some (j1:Int)else Z1 ()) (λ(sg:Unit)=>match sg with|()=>some (-1:Int)) ()
def cO(xa0:List ai)(target:Int)(cmp:ai→Int→Option Int):Option (Int×Bool):=
 whl (λ(Z1:(Int×Int)→Option _) (sg:Int×Int)=>match sg with|(i_1,j_1)=>bif decide (i_1<j_1)then bnd (elO xa0 (w64 (Int.fdiv (IntKind.wrap .u64 (w64 (i_1+j_1))) (2 ^ min (1:Int).toNat 64)))) λ(e_1:ai)=>bnd (cmp e_1 target) λ(ah:Int)=>bif decide (ah<0)then Z1 (w64 ((w64 (Int.fdiv (IntKind.wrap .u64 (w64 (i_1+j_1))) (2 ^ min (1:Int).toNat 64)))+(1:Int)),j_1)else Z1 (i_1,w64 (Int.fdiv (IntKind.wrap .u64 (w64 (i_1+j_1))) (2 ^ min (1:Int).toNat 64)))else(bif decide (i_1<(xa0.length:Int))then bnd (elO xa0 i_1) λ(e_2:ai)=>bnd (cmp e_2 target) λ(aD:Int)=>some (i_1,decide (aD=0))else some (i_1,false))) ((0:Int),(xa0.length:Int))
def ei(sa0:List Int)(v:Int):Option Bool:=
 bnd (jH sa0 v) λ(ah:Int)=>some (decide (0≤ah))
def dw(sa0:List bf)(f:bf→Option Bool):Option Bool:=
 bnd (ew sa0 f) λ(ah:Int)=>some (decide (0≤ah))
def cH(sa0:List aV)(f:aV→Option Bool):Option Bool:=
 bnd (eW sa0 f) λ(ah:Int)=>some (decide (0≤ah))
def dx(sa0:List ai)(f:ai→Option Bool):Option Bool:=
 bnd (ez sa0 f) λ(ah:Int)=>some (decide (0≤ah))
def fG(sa0:List gR)(f:gR→Option Bool):Option Bool:=
 bnd (fZ sa0 f) λ(ah:Int)=>some (decide (0≤ah))
def jA(n:Int)(least:Int)(most:Int):Option Bool:=
 some ((decide (least≤n))&&(decide (n≤most)))
def iS(a:aV)(b:aV):Option Int:=
 bnd (eT a.A b.A) λ(ah:Int)=>bnd (eT a.B b.B) λ(aD:Int)=>bnd (nX ([ah,aD]:List Int)) λ(aP:Int)=>some aP
def kR(ra0:bf)(id:Int):Option Int:=
 bnd (eT ra0.ID id) λ(ah:Int)=>some ah
def mR(ra0:bf):Option Bool:=
 bnd (jA ra0.ID (1:Int) (99:Int)) λ(ah:Bool)=>some (!ah)
def ko(l:aV):Option Bool:=
 bnd (jA l.lK (1:Int) (1000:Int)) λ(ah:Bool)=>(bif !ah then some true else bnd (jA l.kP (1:Int) (1000:Int)) λ(aD:Bool)=>(bif !aD then some true else bnd (jA l.cg (0:Int) (1000:Int)) λ(aP:Bool)=>some (!aP)))
def iT(id:Int)(c_0:aB):Option Bool:=
 bnd (ct c_0.aI id kR) λ(ah:Int×Bool)=>some (!ah.2)
def mS(l:aV)(c_0:aB):Option Bool:=
 bnd (iT l.A c_0) λ(ah:Bool)=>(bif ah then some true else bnd (iT l.B c_0) λ(aD:Bool)=>some aD)
def mT(l:aV):Option Bool:=
 some (decide (l.B≤l.A))
def gT(t:aB):Option Int:=
 bif ((decide (24<(t.aI.length:Int)))||(decide (60<(t.Links.length:Int))))then some (3:Int)else bnd (dw t.aI mR) λ(ah:Bool)=>bif ah then some (2:Int)else bN t.aI 0 (λ(j1:Int) (e1:bf) (Z1:Unit→Option _) (sg:Unit)=>match sg with|()=>jn (λ(v_1:Bool)=>bif v_1 then some (25:Int)else Z1 ()) λJ1=>(bif decide (0<(j1:Int))then bnd (elO t.aI (w64 ((j1:Int)-(1:Int)))) λ(e_1:bf)=>J1 (decide (e1.ID≤e_1.ID))else J1 false)) (λ(sg:Unit)=>match sg with|()=>bnd (cH t.Links ko) λ(aD:Bool)=>bif aD then some (2:Int)else bnd (cH t.Links (λ(y0:aV)=>mS y0 t)) λ(aP:Bool)=>bif aP then some (4:Int)else bnd (cH t.Links mT) λ(bt:Bool)=>bif bt then some (8:Int)else bN t.Links 0 (λ(j2:Int) (e2:aV) (Z2:Unit→Option _) (sg:Unit)=>match sg with|()=>jn (λ(v_2:Bool)=>bif v_2 then some (25:Int)else Z2 ()) λJ2=>(bif decide (0<(j2:Int))then bnd (elO t.Links (w64 ((j2:Int)-(1:Int)))) λ(e_2:aV)=>bnd (iS e_2 e2) λ(bL:Int)=>J2 (decide (0≤bL))else J2 false)) (λ(sg:Unit)=>match sg with|()=>some (0:Int)) ()) ()
def gU(t:aB):Option Bool:=
 bnd (gT t) λ(ah:Int)=>some (decide (ah=0))
def kS(t:aB)(aM:Int):Option (bf×Bool):=
 bnd (ct t.aI aM kR) λ(ah:Int×Bool)=>bif !ah.2 then some ((bf.mk (0:Int) false),false)else bnd (elO t.aI ah.1) λ(e_1:bf)=>some (e_1,true)
def iU(t:aB)(aM:Int):Option Bool:=
 bnd (kS t aM) λ(ah:bf×Bool)=>bnd (gU t) λ(aD:Bool)=>(bif aD then some ah.2 else some false)
def kr(t:aB)(aM:Int):Option Bool:=
 bnd (kS t aM) λ(ah:bf×Bool)=>bnd (gU t) λ(aD:Bool)=>(bif aD then some ah.1.aY else some false)
def jo(t:aB)(eU:Int)(ki:Int):Option (Int×Bool):=
 bnd (gU t) λ(ah:Bool)=>bif !ah then some ((0:Int),false)else bnd (cK t.Links (aV.mk (if ki<eU then ki else eU) (if ki>eU then ki else eU) (0:Int) (0:Int) (0:Int)) iS) λ(aD:Int×Bool)=>bif !aD.2 then some ((0:Int),false)else bif decide (eU<ki)then bnd (elO t.Links aD.1) λ(e_1:aV)=>some (e_1.lK,true)else bnd (elO t.Links aD.1) λ(e_2:aV)=>some (e_2.kP,true)
end Go.Proofs.YtjdopimopgpagaaGreat
namespace Go.Proofs.YtjdopimopgpagaaGreat
open Go
set_option maxRecDepth 100000
set_option linter.all false
def qL(xa0:Int):Option Int:=
 jn (λ(sg:Int×Int)=>match sg with|(ah,n_1)=>jn (λ(sg:Int×Int)=>match sg with|(aD,n_2)=>jn (λ(sg:Int×Int)=>match sg with|(aP,n_3)=>bnd (ixS (⟨#[0,1,2,2,3,3,3,3,4,4,4,4,4,4,4,4,5,5,5,5,5,5,5,5,5,5,5,5,5,5,5,5,6,6,6,6,6,6,6,6,6,6,6,6,6,6,6,6,6,6,6,6,6,6,6,6,6,6,6,6,6,6,6,6,7,7,7,7,7,7,7,7,7,7,7,7,7,7,7,7,7,7,7,7,7,7,7,7,7,7,7,7,7,7,7,7,7,7,7,7,7,7,7,7,7,7,7,7,7,7,7,7,7,7,7,7,7,7,7,7,7,7,7,7,7,7,7,7,8,8,8,8,8,8,8,8,8,8,8,8,8,8,8,8,8,8,8,8,8,8,8,8,8,8,8,8,8,8,8,8,8,8,8,8,8,8,8,8,8,8,8,8,8,8,8,8,8,8,8,8,8,8,8,8,8,8,8,8,8,8,8,8,8,8,8,8,8,8,8,8,8,8,8,8,8,8,8,8,8,8,8,8,8,8,8,8,8,8,8,8,8,8,8,8,8,8,8,8,8,8,8,8,8,8,8,8,8,8,8,8,8,8,8,8,8,8,8,8,8,8,8,8,8,8,8,8]⟩:ByteArray) (IntKind.wrap .u8 aP)) λ(b_1:UInt8)=>some (w64 (n_3+(w64 (b_1.toNat:Int))))) λJ3=>bif decide (256≤aD)then J3 (Int.fdiv aD (2 ^ min (8:Int).toNat 64),w64 (n_2+8))else J3 (aD,n_2)) λJ2=>bif decide (65536≤ah)then J2 (Int.fdiv ah (2 ^ min (16:Int).toNat 64),w64 (n_1+16))else J2 (ah,n_1)) λJ1=>bif decide (4294967296≤xa0)then J1 (Int.fdiv xa0 (2 ^ min (32:Int).toNat 64),(32:Int))else J1 (xa0,(0:Int))
def sQ(xa0:Int):Option Int:=
 bnd (qL xa0) λ(ah:Int)=>some ah
def gG: Option Unit:=
 whl (λ(Z1:Unit→Option _) (sg:Unit)=>match sg with|()=>some ()) ()
def jc(limit:Int):Option Unit:=
 whl (λ(Z1:Unit→Option _) (sg:Unit)=>match sg with|()=>bnd (gG) λ(ah:Unit)=>some ()) ()
def oU: Option Unit:=
 bnd (sQ (0:Int)) λ(ah:Int)=>bnd (jc ah) λ(aD:Unit)=>some ()
end Go.Proofs.YtjdopimopgpagaaGreat
namespace Go.Proofs.YtjdopimopgpagaaGreat
open Go
set_option maxRecDepth 100000
set_option linter.all false
def gJ(t:aB)(aM:Int):Option (List Int):=
 bN t.Links 0 (λ(j1:Int) (e1:aV) (Z1:(List Int)→Option _) (dH:(List Int))=>jn (λ(qt:(List Int))=>Z1 qt) λJ1=>bif decide (aM=e1.A)then bnd (dy dH ([e1.B]:List Int)) λ(l_1:List Int)=>J1 l_1 else bif decide (aM=e1.B)then bnd (dy dH ([e1.A]:List Int)) λ(l_2:List Int)=>J1 l_2 else J1 dH) (λ(dH:(List Int))=>chk (decide (dH.length<4611686018427387904))<|some (jG dH)) []
def iq:Nat→Int→(List Int)→(List Int)→(List bf)→(List aV)→Option (List Int)
 |0,_,_,_,_,_=>none
 |n_+1,ra0,wW,vF,vG,vH=>jn (λ(v_1:Bool)=>bif v_1 then some wW else bnd (dy wW ([ra0]:List Int)) λ(l_1:List Int)=>bnd (gJ (aB.mk vG vH) ra0) λ(aP:(List Int))=>bN aP 0 (λ(j1:Int) (e1:Int) (Z1:(List Int)→Option _) (m_1:(List Int))=>bnd (iq n_ e1 m_1 vF vG vH) λ(bt:(List Int))=>Z1 bt) (λ(m_1:(List Int))=>some m_1) l_1) λJ1=>bnd (ei wW ra0) λ(ah:Bool)=>(bif ah then J1 true else bnd (ei vF ra0) λ(aD:Bool)=>J1 aD)
def ku(t:aB)(eU:Int)(closed:List Int):Option (List Int):=
 bnd (iq fuel eU [] closed t.aI t.Links) λ(ah:(List Int))=>chk (decide (ah.length<4611686018427387904))<|some (jG ah)
def iV(t:aB)(aM:Int):Option (List Int):=
 bnd (gU t) λ(ah:Bool)=>bif !ah then some []else bnd (gJ t aM) λ(aD:(List Int))=>some aD
def ir(t:aB)(a:Int)(b:Int):Option Bool:=
 bnd (iU t a) λ(ah:Bool)=>(bif ah then bnd (iU t b) λ(aD:Bool)=>(bif aD then bnd (ku t a []) λ(aP:(List Int))=>bnd (ei aP b) λ(bt:Bool)=>some bt else some false)else some false)
end Go.Proofs.YtjdopimopgpagaaGreat
namespace Go.Proofs.YtjdopimopgpagaaGreat
open Go
set_option maxRecDepth 100000
set_option linter.all false
def mj(n:Int):Option Bool:=
 some ((decide (n=8))||((decide (n=16))||((decide (n=32))||(decide (n=64)))))
def gj(n:Int)(low:Int)(high:Int):Option Bool:=
 some ((decide (low≤n))&&(decide (n≤high)))
def iI(l:List bG):Option Bool:=
 bif decide (8<(l.length:Int))then some false else bN l 0 (λ(j1:Int) (e1:bG) (Z1:Unit→Option _) (sg:Unit)=>match sg with|()=>jn (λ(v_1:Bool)=>bif v_1 then some false else Z1 ()) λJ1=>bnd (gj e1.bZ (0:Int) (7:Int)) λ(ah:Bool)=>(bif !ah then J1 true else bnd (gj e1.ID (1:Int) (256:Int)) λ(aD:Bool)=>(bif !aD then J1 true else bnd (mj e1.Length) λ(aP:Bool)=>(bif !aP then J1 true else(bif decide (0<(j1:Int))then bnd (elO l (w64 ((j1:Int)-(1:Int)))) λ(e_1:bG)=>J1 (decide (e1.bZ≤e_1.bZ))else J1 false))))) (λ(sg:Unit)=>match sg with|()=>some true) ()
def ic(a:ai):Option Bool:=
 jn (λ(v_1:Bool)=>bif v_1 then some false else bN a.Links 0 (λ(j1:Int) (e1:bw) (Z1:Unit→Option _) (sg:Unit)=>match sg with|()=>jn (λ(v_2:Bool)=>bif v_2 then some false else Z1 ()) λJ2=>bnd (gj e1.bu (1:Int) (99:Int)) λ(aP:Bool)=>(bif !aP then J2 true else(bif decide (e1.bu=a.af)then J2 true else bnd (gj e1.lq (1:Int) (1000:Int)) λ(bt:Bool)=>(bif !bt then J2 true else bnd (gj e1.cg (0:Int) (1000:Int)) λ(bL:Bool)=>(bif !bL then J2 true else(bif decide (0<(j1:Int))then bnd (elO a.Links (w64 ((j1:Int)-(1:Int)))) λ(e_1:bw)=>J2 (decide (e1.bu≤e_1.bu))else J2 false)))))) (λ(sg:Unit)=>match sg with|()=>bnd (iI a.Claims) λ(cq:Bool)=>some cq) ()) λJ1=>bnd (gj a.af (1:Int) (99:Int)) λ(ah:Bool)=>(bif !ah then J1 true else bnd (gj a.Seq (1:Int) (1000000:Int)) λ(aD:Bool)=>(bif !aD then J1 true else J1 (decide (23<(a.Links.length:Int)))))
def vJ(a:ai)(b:ai):Option Bool:=
 bif ((!decide (a.af=b.af))||((!decide (a.Seq=b.Seq))||((!(a.aY==b.aY))||((!decide ((a.Links.length:Int)=(b.Links.length:Int)))||(!decide ((a.Claims.length:Int)=(b.Claims.length:Int)))))))then some false else bN a.Links 0 (λ(j1:Int) (e1:bw) (Z1:Unit→Option _) (sg:Unit)=>match sg with|()=>bnd (elO b.Links (j1:Int)) λ(e_1:bw)=>bif !(nv e1 e_1)then some false else Z1 ()) (λ(sg:Unit)=>match sg with|()=>bN a.Claims 0 (λ(j2:Int) (e2:bG) (Z2:Unit→Option _) (sg:Unit)=>match sg with|()=>bnd (elO b.Claims (j2:Int)) λ(e_2:bG)=>bif !(nu e2 e_2)then some false else Z2 ()) (λ(sg:Unit)=>match sg with|()=>some true) ()) ()
end Go.Proofs.YtjdopimopgpagaaGreat
namespace Go.Proofs.YtjdopimopgpagaaGreat
open Go
set_option maxRecDepth 100000
set_option linter.all false
def iM(d:aF):Option Int:=
 bif decide (99<(d.aG.length:Int))then some (3:Int)else bN d.aG 0 (λ(j1:Int) (e1:ai) (Z1:Unit→Option _) (sg:Unit)=>match sg with|()=>bnd (ic e1) λ(ah:Bool)=>bif !ah then some (1:Int)else Z1 ()) (λ(sg:Unit)=>match sg with|()=>bN (List.drop 1 d.aG) 1 (λ(j2:Int) (e2:ai) (Z2:Unit→Option _) (sg:Unit)=>match sg with|()=>bnd (elO d.aG (w64 ((j2:Int)-(1:Int)))) λ(e_1:ai)=>bif decide (e2.af≤e_1.af)then some (25:Int)else Z2 ()) (λ(sg:Unit)=>match sg with|()=>some (0:Int)) ()) ()
def sR(d:aF)(aM:Int):Option (ai×Bool):=
 bN d.aG 0 (λ(j1:Int) (e1:ai) (Z1:Unit→Option _) (sg:Unit)=>match sg with|()=>bif decide (e1.af=aM)then some (e1,true)else Z1 ()) (λ(sg:Unit)=>match sg with|()=>some ((ai.mk (0:Int) (0:Int) false [] []),false)) ()
end Go.Proofs.YtjdopimopgpagaaGreat
namespace Go.Proofs.YtjdopimopgpagaaGreat
open Go
set_option maxRecDepth 100000
set_option linter.all false
def jq(n:Int):Option Bool:=
 some ((decide (n=8))||((decide (n=16))||((decide (n=32))||(decide (n=64)))))
def je(n:Int)(least:Int)(most:Int):Option Bool:=
 some ((decide (least≤n))&&(decide (n≤most)))
def iu(a:ai):Option Bool:=
 jn (λ(v_1:Bool)=>bif v_1 then some false else bN a.Links 0 (λ(j1:Int) (e1:bw) (Z1:Unit→Option _) (sg:Unit)=>match sg with|()=>jn (λ(v_2:Bool)=>bif v_2 then some false else Z1 ()) λJ2=>bnd (je e1.bu (1:Int) (99:Int)) λ(aP:Bool)=>(bif !aP then J2 true else(bif decide (e1.bu=a.af)then J2 true else bnd (je e1.lq (1:Int) (1000:Int)) λ(bt:Bool)=>(bif !bt then J2 true else bnd (je e1.cg (0:Int) (1000:Int)) λ(bL:Bool)=>(bif !bL then J2 true else(bif decide (0<(j1:Int))then bnd (elO a.Links (w64 ((j1:Int)-(1:Int)))) λ(e_1:bw)=>J2 (decide (e1.bu≤e_1.bu))else J2 false)))))) (λ(sg:Unit)=>match sg with|()=>bN a.Claims 0 (λ(j2:Int) (e2:bG) (Z2:Unit→Option _) (sg:Unit)=>match sg with|()=>jn (λ(v_3:Bool)=>bif v_3 then some false else Z2 ()) λJ3=>bnd (je e2.bZ (0:Int) (7:Int)) λ(cq:Bool)=>(bif !cq then J3 true else bnd (je e2.ID (1:Int) (256:Int)) λ(cU:Bool)=>(bif !cU then J3 true else bnd (jq e2.Length) λ(dz:Bool)=>(bif !dz then J3 true else(bif decide (0<(j2:Int))then bnd (elO a.Claims (w64 ((j2:Int)-(1:Int)))) λ(e_2:bG)=>J3 (decide (e2.bZ≤e_2.bZ))else J3 false))))) (λ(sg:Unit)=>match sg with|()=>some true) ()) ()) λJ1=>bnd (je a.af (1:Int) (99:Int)) λ(ah:Bool)=>(bif !ah then J1 true else bnd (je a.Seq (1:Int) (1000000:Int)) λ(aD:Bool)=>(bif !aD then J1 true else(bif decide (23<(a.Links.length:Int))then J1 true else J1 (decide (8<(a.Claims.length:Int))))))
def gV(a:List bw)(b:List bw):Option Bool:=
 bif !decide ((a.length:Int)=(b.length:Int))then some false else bN a 0 (λ(j1:Int) (e1:bw) (Z1:Unit→Option _) (sg:Unit)=>match sg with|()=>bnd (elO b (j1:Int)) λ(e_1:bw)=>bif !(nv e1 e_1)then some false else Z1 ()) (λ(sg:Unit)=>match sg with|()=>some true) ()
def gW(a:List bG)(b:List bG):Option Bool:=
 bif !decide ((a.length:Int)=(b.length:Int))then some false else bN a 0 (λ(j1:Int) (e1:bG) (Z1:Unit→Option _) (sg:Unit)=>match sg with|()=>bnd (elO b (j1:Int)) λ(e_1:bG)=>bif !(nu e1 e_1)then some false else Z1 ()) (λ(sg:Unit)=>match sg with|()=>some true) ()
def cI(s1:List ai)(s2:List ai)(eq:ai→ai→Option Bool):Option Bool:=
 bif !decide ((s1.length:Int)=(s2.length:Int))then some false else bN s1 0 (λ(j1:Int) (e1:ai) (Z1:Unit→Option _) (sg:Unit)=>match sg with|()=>bnd (elO s2 (j1:Int)) λ(e_1:ai)=>bnd (eq e1 e_1) λ(ah:Bool)=>bif !ah then some false else Z1 ()) (λ(sg:Unit)=>match sg with|()=>some true) ()
def jB(a:ai)(b:ai):Option Bool:=
 (bif decide (a.af=b.af)then(bif decide (a.Seq=b.Seq)then(bif (a.aY==b.aY)then bnd (gV a.Links b.Links) λ(ah:Bool)=>(bif ah then bnd (gW a.Claims b.Claims) λ(aD:Bool)=>some aD else some false)else some false)else some false)else some false)
def ec(sa0:List aV):Option (List aV):=
 bnd (dy ([]:List aV) sa0) λ(l_1:List aV)=>some l_1
def kT: Option (List aV):=
 bnd (dy ([]:List aV) []) λ(l_1:List aV)=>some l_1
def cV(s:List aV):Option (List aV):=ec s
def dU(sa0:List bG):Option (List bG):=
 bnd (dy ([]:List bG) sa0) λ(l_1:List bG)=>some l_1
def jX: Option (List bG):=
 bnd (dy ([]:List bG) []) λ(l_1:List bG)=>some l_1
def dh(s:List bG):Option (List bG):=dU s
def dV(sa0:List bw):Option (List bw):=
 bnd (dy ([]:List bw) sa0) λ(l_1:List bw)=>some l_1
def jY: Option (List bw):=
 bnd (dy ([]:List bw) []) λ(l_1:List bw)=>some l_1
def dI(s:List bw):Option (List bw):=dV s
def fE(a:ai):Option ai:=
 bnd (dI a.Links) λ(ah:(List bw))=>bnd (dh a.Claims) λ(aD:(List bG))=>some (ai.mk a.af a.Seq a.aY ah aD)
def mV(a:ai):Option Bool:=
 bnd (iu a) λ(ah:Bool)=>some (!ah)
def fU(d:aF):Option Int:=
 bif decide (99<(d.aG.length:Int))then some (3:Int)else bnd (dx d.aG mV) λ(ah:Bool)=>bif ah then some (1:Int)else bN d.aG 0 (λ(j1:Int) (e1:ai) (Z1:Unit→Option _) (sg:Unit)=>match sg with|()=>jn (λ(v_1:Bool)=>bif v_1 then some (25:Int)else Z1 ()) λJ1=>(bif decide (0<(j1:Int))then bnd (elO d.aG (w64 ((j1:Int)-(1:Int)))) λ(e_1:ai)=>J1 (decide (e1.af≤e_1.af))else J1 false)) (λ(sg:Unit)=>match sg with|()=>some (0:Int)) ()
def kU(a:aF)(b:aF):Option Bool:=
 bnd (cI a.aG b.aG jB) λ(ah:Bool)=>some ah
def kV(d:aF)(aM:Int):Option (ai×Bool):=
 bN d.aG 0 (λ(j1:Int) (e1:ai) (Z1:Unit→Option _) (sg:Unit)=>match sg with|()=>bif decide (e1.af=aM)then bnd (fE e1) λ(ah:ai)=>some (ah,true)else Z1 ()) (λ(sg:Unit)=>match sg with|()=>some ((ai.mk (0:Int) (0:Int) false [] []),false)) ()
end Go.Proofs.YtjdopimopgpagaaGreat
namespace Go.Proofs.YtjdopimopgpagaaGreat
open Go
set_option maxRecDepth 100000
set_option linter.all false
def jU(t:aU)(aM:Int)(n:Int):Option (ai×aU):=
 bnd (dD t ([(1:Int),(1:Int),(2:Int),(3:Int),(3:Int),(500000:Int),(1000000:Int)]:List Int)) λ(ah:Int×aU)=>bnd (bR ah.2 (3:Int)) λ(aD:Int×aU)=>gO ((7:Int)-(1:Int)).toNat (1:Int) (λ(j1:Int) (Z1:((List bw)×(List Int)×Int)→Option _) (sg:(List bw)×(List Int)×Int)=>match sg with|(m_1,m_2,m_3)=>jn (λ(sg:(List Int)×Int×(List bw))=>match sg with|(m_4,m_5,m_6)=>Z1 (m_6,m_4,m_5)) λJ1=>jn (λ(sg:Bool×(List Int)×Int)=>match sg with|(v_1,m_7,m_8)=>bif v_1 then bnd (dS (aU.mk m_7 m_8) (1:Int) (3:Int)) λ(bt:Int×aU)=>bnd (bR bt.2 (3:Int)) λ(bL:Int×aU)=>bnd (dy m_1 ([(bw.mk (j1:Int) bt.1 bL.1)]:List bw)) λ(l_1:List bw)=>J1 (bL.2.L,bL.2.At,l_1)else J1 (m_7,m_8,m_1)) λJ2=>(bif !decide ((j1:Int)=aM)then bnd (bR (aU.mk m_2 m_3) (2:Int)) λ(aP:Int×aU)=>J2 (decide (aP.1=0),aP.2.L,aP.2.At)else J2 (false,m_2,m_3))) (λ(j1:Int) (sg:(List bw)×(List Int)×Int)=>match sg with|(m_1,m_2,m_3)=>gO ((2:Int)-(0:Int)).toNat (0:Int) (λ(j2:Int) (Z2:((List bG)×(List Int)×Int)→Option _) (sg:(List bG)×(List Int)×Int)=>match sg with|(m_9,fQ,fF)=>jn (λ(sg:(List Int)×Int×(List bG))=>match sg with|(jl,ny,nA)=>Z2 (nA,jl,ny)) λJ3=>bnd (bR (aU.mk fQ fF) (2:Int)) λ(cq:Int×aU)=>bif decide (cq.1=0)then bnd (dS cq.2 (1:Int) (9:Int)) λ(cU:Int×aU)=>bnd (jQ cU.2) λ(dz:Int×aU)=>bnd (dy m_9 ([(bG.mk (j2:Int) cU.1 dz.1)]:List bG)) λ(l_2:List bG)=>J3 (dz.2.L,dz.2.At,l_2)else J3 (cq.2.L,cq.2.At,m_9)) (λ(j2:Int) (sg:(List bG)×(List Int)×Int)=>match sg with|(m_9,fQ,fF)=>jn (λ(sg:(List Int)×Int×Int×Int×(List bw)×(List bG))=>match sg with|(oB,oC,mz,sP,rP,aeu)=>some ((ai.mk mz sP (decide (0<aD.1)) rP aeu),(aU.mk oB oC))) λJ4=>jn (λ(sg:Bool×(List Int)×Int)=>match sg with|(v_2,aa8,aa9)=>bif v_2 then bnd (bR (aU.mk aa8 aa9) (6:Int)) λ(bJ:Int×aU)=>bif decide (bJ.1=0)then bnd (gi bJ.2) λ(dM:Int×aU)=>J4 (dM.2.L,dM.2.At,dM.1,ah.1,m_1,m_9)else bif decide (bJ.1=1)then bnd (gi bJ.2) λ(ck:Int×aU)=>J4 (ck.2.L,ck.2.At,aM,ck.1,m_1,m_9)else bif decide (bJ.1=2)then bnd (dD bJ.2 ([(0:Int),aM,(6:Int),(99:Int),(100:Int)]:List Int)) λ(fD:Int×aU)=>bnd (dD fD.2 ([(0:Int),(1:Int),(1000:Int),(1001:Int)]:List Int)) λ(jm:Int×aU)=>bnd (dD jm.2 ([(-1:Int),(0:Int),(1000:Int),(1001:Int)]:List Int)) λ(gC:Int×aU)=>bnd (dy m_1 ([(bw.mk fD.1 jm.1 gC.1)]:List bw)) λ(l_3:List bw)=>J4 (gC.2.L,gC.2.At,aM,ah.1,l_3,m_9)else bif decide (bJ.1=3)then bnd (dD bJ.2 ([(-1:Int),(0:Int),(7:Int),(8:Int)]:List Int)) λ(mg:Int×aU)=>bnd (dD mg.2 ([(0:Int),(1:Int),(256:Int),(257:Int)]:List Int)) λ(iX:Int×aU)=>bnd (dD iX.2 ([(0:Int),(8:Int),(9:Int),(64:Int)]:List Int)) λ(kQ:Int×aU)=>bnd (dy m_9 ([(bG.mk mg.1 iX.1 kQ.1)]:List bG)) λ(l_4:List bG)=>J4 (kQ.2.L,kQ.2.At,aM,ah.1,m_1,l_4)else bif decide (bJ.1=4)then gO ((54:Int)-(30:Int)).toNat (30:Int) (λ(j3:Int) (Z3:(List bw)→Option _) (ye:(List bw))=>bnd (dy ye ([(bw.mk (j3:Int) (1:Int) (0:Int))]:List bw)) λ(l_5:List bw)=>Z3 l_5) (λ(j3:Int) (ye:(List bw))=>J4 (bJ.2.L,bJ.2.At,aM,ah.1,ye,m_9)) m_1 else bif decide (0<(m_1.length:Int))then bnd (gi bJ.2) λ(gD:Int×aU)=>bnd (elO m_1 (0:Int)) λ(e_1:bw)=>bnd (gF m_1 (0:Int) (bw.mk e_1.bu gD.1 e_1.cg)) λ(l_6:List bw)=>J4 (gD.2.L,gD.2.At,aM,ah.1,l_6,m_9)else J4 (bJ.2.L,bJ.2.At,aM,ah.1,m_1,m_9)else J4 (aa8,aa9,aM,ah.1,m_1,m_9)) λJ5=>(bif decide (0<n)then bnd (ia (aU.mk fQ fF) n) λ(dW:Bool×aU)=>J5 (dW.1,dW.2.L,dW.2.At)else J5 (false,fQ,fF))) ([],m_2,m_3)) ([],aD.2.L,aD.2.At)
def kG(t:aU)(n:Int):Option (aF×aU):=
 gO ((7:Int)-(1:Int)).toNat (1:Int) (λ(j1:Int) (Z1:((List ai)×(List Int)×Int)→Option _) (sg:(List ai)×(List Int)×Int)=>match sg with|(m_1,m_2,m_3)=>jn (λ(sg:(List Int)×Int×(List ai))=>match sg with|(m_4,m_5,m_6)=>Z1 (m_6,m_4,m_5)) λJ1=>bnd (bR (aU.mk m_2 m_3) (4:Int)) λ(ah:Int×aU)=>bif decide (0<ah.1)then bnd (jU ah.2 (j1:Int) (0:Int)) λ(aD:ai×aU)=>bnd (dy m_1 ([aD.1]:List ai)) λ(l_1:List ai)=>J1 (aD.2.L,aD.2.At,l_1)else J1 (ah.2.L,ah.2.At,m_1)) (λ(j1:Int) (sg:(List ai)×(List Int)×Int)=>match sg with|(m_1,m_2,m_3)=>jn (λ(sg:(List Int)×Int×(List ai))=>match sg with|(m_7,m_8,m_9)=>some ((aF.mk m_9),(aU.mk m_7 m_8))) λJ2=>jn (λ(sg:Bool×(List Int)×Int)=>match sg with|(v_1,fQ,fF)=>bif v_1 then bnd (dD (aU.mk fQ fF) ([(1:Int),(6:Int),(7:Int)]:List Int)) λ(bt:Int×aU)=>bnd (jU bt.2 bt.1 (2:Int)) λ(bL:ai×aU)=>bnd (dy m_1 ([bL.1]:List ai)) λ(l_2:List ai)=>J2 (bL.2.L,bL.2.At,l_2)else J2 (fQ,fF,m_1)) λJ3=>(bif decide (0<n)then bnd (ia (aU.mk m_2 m_3) n) λ(aP:Bool×aU)=>J3 (aP.1,aP.2.L,aP.2.At)else J3 (false,m_2,m_3))) ([],t.L,t.At)
end Go.Proofs.YtjdopimopgpagaaGreat
namespace Go.Proofs.YtjdopimopgpagaaGreat
open Go
set_option maxRecDepth 100000
set_option linter.all false
def oV(n:Int):Option Int:=
 some (w64 (Int.tdiv (w64 (n+7)) (8:Int)))
def mF(sa0:bp):Option Bool:=
 jn (λ(v_1:Bool)=>bif v_1 then some false else(bif decide (w64 ((w64 ((8:Int)*(sa0.Data.length:Int)))-sa0.Bits)=(0:Int))then some true else bnd (elO sa0.Data (w64 ((sa0.Data.length:Int)-(1:Int)))) λ(e_1:Int)=>chk (decide (0≤w64 ((8:Int)-(w64 ((w64 ((8:Int)*(sa0.Data.length:Int)))-sa0.Bits)))))<|some (decide (IntKind.wrap .u8 (e_1*2 ^ min (w64 ((8:Int)-(w64 ((w64 ((8:Int)*(sa0.Data.length:Int)))-sa0.Bits)))).toNat 8)=(0:Int))))) λJ1=>(bif decide (sa0.Bits<0)then J1 true else(bif decide (8192<sa0.Bits)then J1 true else bnd (oV sa0.Bits) λ(ah:Int)=>J1 (!decide ((sa0.Data.length:Int)=ah))))
def qZ(sa0:bp)(i:Int):Option Int:=
 bnd (elO sa0.Data (w64 (Int.tdiv i (8:Int)))) λ(e_1:Int)=>chk (decide (0≤w64 ((7:Int)-(Int.tmod i (8:Int)))))<|some (IntKind.wrap .u64 (dR .and .u8 (Int.fdiv e_1 (2 ^ min (w64 ((7:Int)-(Int.tmod i (8:Int)))).toNat 8)) (1:Int)))
def oW(sa0:bp)(value:Int)(n:Int):Option bp:=
 whl (λ(Z1:(Int×(List Int)×Int)→Option _) (sg:Int×(List Int)×Int)=>match sg with|(n_1,m_1,m_2)=>bif decide (0<n_1)then jn (λ(sg:Int×(List Int))=>match sg with|(cR,m_3)=>chk (decide (0≤w64 (n_1-(if cR<n_1 then cR else n_1))))<|chk (decide (0≤(if cR<n_1 then cR else n_1)))<|bnd (elO m_3 (w64 ((m_3.length:Int)-(1:Int)))) λ(e_1:Int)=>chk (decide (0≤w64 (cR-(if cR<n_1 then cR else n_1))))<|bnd (gF m_3 (w64 ((m_3.length:Int)-(1:Int))) (dR .or .u8 e_1 (IntKind.wrap .u8 (IntKind.wrap .u64 ((dR .and .u64 (Int.fdiv value (2 ^ min (w64 (n_1-(if cR<n_1 then cR else n_1))).toNat 64)) (IntKind.wrap .u64 ((IntKind.wrap .u64 ((1:Int)*2 ^ min (if cR<n_1 then cR else n_1).toNat 64))-(1:Int))))*2 ^ min (w64 (cR-(if cR<n_1 then cR else n_1))).toNat 64))))) λ(l_2:List Int)=>Z1 (w64 (n_1-(if cR<n_1 then cR else n_1)),l_2,w64 (m_2+(if cR<n_1 then cR else n_1)))) λJ1=>bif decide (w64 ((w64 ((8:Int)*(m_1.length:Int)))-m_2)=(0:Int))then bnd (dy m_1 ([(0:Int)]:List Int)) λ(l_1:List Int)=>J1 ((8:Int),l_1)else J1 (w64 ((w64 ((8:Int)*(m_1.length:Int)))-m_2),m_1)else some (bp.mk m_1 m_2)) (n,sa0.Data,sa0.Bits)
def rI(sa0:bp):Option bp:=
 bnd (dy [] sa0.Data) λ(l_1:List Int)=>some (bp.mk l_1 sa0.Bits)
def n4(sa0:bp)(value:Int)(n:Int):Option (bp×Int):=
 bnd (mF sa0) λ(ah:Bool)=>bif !ah then some ((bp.mk [] (0:Int)),(1:Int))else jn (λ(v_1:Bool)=>bif v_1 then some ((bp.mk [] (0:Int)),(2:Int))else bif decide (8192<w64 (sa0.Bits+n))then some ((bp.mk [] (0:Int)),(3:Int))else bnd (rI sa0) λ(aD:bp)=>bnd (oW aD value n) λ(aP:bp)=>some (aP,(0:Int))) λJ1=>(bif decide (n<0)then J1 true else(bif decide (64<n)then J1 true else(bif decide (n<64)then chk (decide (0≤n))<|J1 (!decide (Int.fdiv value (2 ^ min n.toNat 64)=(0:Int)))else J1 false)))
def mG(sa0:bp):Option (Int×Int):=
 bnd (mF sa0) λ(ah:Bool)=>bif !ah then some ((0:Int),(1:Int))else chk (decide (sa0.Bits≤9223372036854775807))<|gO (sa0.Bits-0).toNat (0:Int) (λ(j1:Int) (Z1:Int→Option _) (fc:Int)=>jn (λ(qw:Int)=>Z1 qw) λJ1=>bnd (qZ sa0 (j1:Int)) λ(aD:Int)=>bif decide (Int.fdiv fc (2 ^ min (15:Int).toNat 64)=aD)then J1 (dR .and .u64 (IntKind.wrap .u64 (fc*2 ^ min (1:Int).toNat 64)) (65535:Int))else J1 (dR .xor .u64 (dR .and .u64 (IntKind.wrap .u64 (fc*2 ^ min (1:Int).toNat 64)) (65535:Int)) (4129:Int))) (λ(j1:Int) (fc:Int)=>some (fc,(0:Int))) (65535:Int)
end Go.Proofs.YtjdopimopgpagaaGreat
namespace Go.Proofs.YtjdopimopgpagaaGreat
open Go
set_option maxRecDepth 100000
set_option linter.all false
def pq(l:List Int)(i:Int):Option Int:=
 bnd (elO l (w64 (Int.tdiv i (8:Int)))) λ(e_1:Int)=>chk (decide (0≤IntKind.wrap .u64 (w64 ((7:Int)-(Int.tmod i (8:Int))))))<|some (dR .and .u64 (IntKind.wrap .u64 (Int.fdiv e_1 (2 ^ min (IntKind.wrap .u64 (w64 ((7:Int)-(Int.tmod i (8:Int))))).toNat 8))) (1:Int))
def oZ(sa0:bp):Option Bool:=
 bif ((decide (sa0.Bits<0))||((decide (8192<sa0.Bits))||(!decide ((sa0.Data.length:Int)=w64 (Int.tdiv (w64 (sa0.Bits+7)) (8:Int))))))then some false else whl (λ(Z1:Int→Option _) (i_1:Int)=>bif decide (i_1<w64 ((8:Int)*(sa0.Data.length:Int)))then bnd (pq sa0.Data i_1) λ(ah:Int)=>bif !decide (ah=0)then some false else Z1 (w64 (i_1+1))else some true) sa0.Bits
def tZ(sa0:bp)(b:Int):Option bp:=
 bnd (dy [] sa0.Data) λ(l_1:List Int)=>jn (λ(l_2:(List Int))=>jn (λ(l_4:(List Int))=>some (bp.mk l_4 (w64 (sa0.Bits+1)))) λJ2=>bif decide (b=1)then bnd (elO l_2 (w64 (Int.tdiv sa0.Bits (8:Int)))) λ(e_1:Int)=>chk (decide (0≤IntKind.wrap .u64 (w64 ((7:Int)-(Int.tmod sa0.Bits (8:Int))))))<|bnd (gF l_2 (w64 (Int.tdiv sa0.Bits (8:Int))) (dR .or .u8 e_1 (IntKind.wrap .u8 ((1:Int)*2 ^ min (IntKind.wrap .u64 (w64 ((7:Int)-(Int.tmod sa0.Bits (8:Int))))).toNat 8)))) λ(l_5:List Int)=>J2 l_5 else J2 l_2) λJ1=>bif decide (Int.tmod sa0.Bits (8:Int)=(0:Int))then bnd (dy l_1 ([(0:Int)]:List Int)) λ(l_3:List Int)=>J1 l_3 else J1 l_1
def tM(sa0:bp)(value:Int)(n:Int):Option (bp×Int):=
 bnd (oZ sa0) λ(ah:Bool)=>bif !ah then some ((bp.mk [] (0:Int)),(1:Int))else jn (λ(v_1:Bool)=>bif v_1 then some ((bp.mk [] (0:Int)),(2:Int))else bif decide (8192<w64 (sa0.Bits+n))then some ((bp.mk [] (0:Int)),(3:Int))else whl (λ(Z1:(Int×(List Int)×Int)→Option _) (sg:Int×(List Int)×Int)=>match sg with|(i_1,m_1,m_2)=>bif decide (0≤i_1)then chk (decide (0≤IntKind.wrap .u64 i_1))<|bnd (tZ (bp.mk m_1 m_2) (dR .and .u64 (Int.fdiv value (2 ^ min (IntKind.wrap .u64 i_1).toNat 64)) (1:Int))) λ(aD:bp)=>Z1 (w64 (i_1-1),aD.Data,aD.Bits)else some ((bp.mk m_1 m_2),(0:Int))) (w64 (n-1),sa0.Data,sa0.Bits)) λJ1=>(bif decide (n<0)then J1 true else(bif decide (64<n)then J1 true else(bif decide (n<64)then chk (decide (0≤IntKind.wrap .u64 n))<|J1 (!decide (Int.fdiv value (2 ^ min (IntKind.wrap .u64 n).toNat 64)=(0:Int)))else J1 false)))
def uP(sa0:bp):Option (bp×Int):=
 bnd (oZ sa0) λ(ah:Bool)=>bif !ah then some ((bp.mk [] (0:Int)),(1:Int))else whl (λ(Z1:((List Int)×Int)→Option _) (sg:(List Int)×Int)=>match sg with|(m_1,m_2)=>bif !decide (Int.tmod m_2 (8:Int)=(0:Int))then bnd (tZ (bp.mk m_1 m_2) (0:Int)) λ(aD:bp)=>Z1 (aD.Data,aD.Bits)else some ((bp.mk m_1 m_2),(0:Int))) (sa0.Data,sa0.Bits)
def mH(sa0:bp):Option (Int×Int):=
 bnd (oZ sa0) λ(ah:Bool)=>bif !ah then some ((0:Int),(1:Int))else chk (decide (sa0.Bits≤9223372036854775807))<|gO (sa0.Bits-0).toNat (0:Int) (λ(j1:Int) (Z1:Int→Option _) (aev:Int)=>jn (λ(vr_2:Int)=>Z1 vr_2) λJ1=>bnd (pq sa0.Data (j1:Int)) λ(aD:Int)=>bif !decide (Int.fdiv aev (2 ^ min (15:Int).toNat 64)=aD)then J1 (dR .xor .u64 (dR .and .u64 (IntKind.wrap .u64 (aev*2 ^ min (1:Int).toNat 64)) (65535:Int)) (4129:Int))else J1 (dR .and .u64 (IntKind.wrap .u64 (aev*2 ^ min (1:Int).toNat 64)) (65535:Int))) (λ(j1:Int) (aev:Int)=>some (aev,(0:Int))) (65535:Int)
def vN(length:Int):Option Int:=
 whl (λ(Z1:(Int×Int)→Option _) (sg:Int×Int)=>match sg with|(aew,n_1)=>bif decide (8<aew)then Z1 (w64 (Int.tdiv aew (2:Int)),w64 (n_1+1))else some n_1) (length,(0:Int))
end Go.Proofs.YtjdopimopgpagaaGreat
namespace Go.Proofs.YtjdopimopgpagaaGreat
open Go
set_option maxRecDepth 100000
set_option linter.all false
def dJ(sa0:bp)(n:Int)(width:Int):Option bp:=
 bnd (tM sa0 (IntKind.wrap .u64 n) width) λ(ah:bp×Int)=>some ah.1
def lU(a:ai):Option ((List Int)×Int):=
 bnd (ic a) λ(ah:Bool)=>bif !ah then some ([],(1:Int))else jn (λ(qg:Int)=>bnd (dJ (bp.mk [] (0:Int)) a.af (7:Int)) λ(aD:bp)=>bnd (dJ aD a.Seq (20:Int)) λ(aP:bp)=>bnd (dJ aP qg (1:Int)) λ(bt:bp)=>bnd (dJ bt (a.Links.length:Int) (5:Int)) λ(bL:bp)=>bN a.Links 0 (λ(j1:Int) (e1:bw) (Z1:((List Int)×Int)→Option _) (sg:(List Int)×Int)=>match sg with|(m_1,m_2)=>bnd (dJ (bp.mk m_1 m_2) e1.bu (7:Int)) λ(cq:bp)=>bnd (dJ cq e1.lq (10:Int)) λ(cU:bp)=>bnd (dJ cU e1.cg (10:Int)) λ(dz:bp)=>Z1 (dz.Data,dz.Bits)) (λ(sg:(List Int)×Int)=>match sg with|(m_1,m_2)=>bnd (dJ (bp.mk m_1 m_2) (a.Claims.length:Int) (4:Int)) λ(dW:bp)=>bN a.Claims 0 (λ(j2:Int) (e2:bG) (Z2:((List Int)×Int)→Option _) (sg:(List Int)×Int)=>match sg with|(m_3,m_4)=>bnd (dJ (bp.mk m_3 m_4) e2.bZ (3:Int)) λ(bJ:bp)=>bnd (dJ bJ e2.ID (9:Int)) λ(dM:bp)=>bnd (vN e2.Length) λ(ck:Int)=>bnd (dJ dM ck (2:Int)) λ(fD:bp)=>Z2 (fD.Data,fD.Bits)) (λ(sg:(List Int)×Int)=>match sg with|(m_3,m_4)=>bnd (mH (bp.mk m_3 m_4)) λ(jm:Int×Int)=>bnd (dJ (bp.mk m_3 m_4) (w64 jm.1) (16:Int)) λ(gC:bp)=>bnd (uP gC) λ(mg:bp×Int)=>some (mg.1.Data,(0:Int))) (dW.Data,dW.Bits)) (bL.Data,bL.Bits)) λJ1=>bif a.aY then J1 (1:Int)else J1 (0:Int)
def uQ(a:ai)(b:ai):Option Bool:=
 jn (λ(v_1:Bool)=>bif v_1 then some false else bnd (lU a) λ(aP:(List Int)×Int)=>bnd (lU b) λ(bt:(List Int)×Int)=>some ((decide (b.Seq<a.Seq))||((decide (a.Seq=b.Seq))&&(aoe .gtr (y9 aP.1) (y9 bt.1))))) λJ1=>bnd (ic a) λ(ah:Bool)=>(bif !ah then J1 true else bnd (ic b) λ(aD:Bool)=>(bif !aD then J1 true else J1 (!decide (a.af=b.af))))
end Go.Proofs.YtjdopimopgpagaaGreat
namespace Go.Proofs.YtjdopimopgpagaaGreat
open Go
set_option maxRecDepth 100000
set_option linter.all false
def b9(w:bP)(n:Int)(bits:Int):Option bP:=
 bnd (n4 w.s_ (IntKind.wrap .u64 n) bits) λ(ah:bp×Int)=>some (bP.mk ah.1)
def apM(a b:List Int):Int:=Go.Extern.BytealgCompare.cmp ⟨(a.map λn=>UInt8.ofNat n.toNat).toArray⟩ ⟨(b.map λn=>UInt8.ofNat n.toNat).toArray⟩
def sS(a b:List Int):Option Int:=some (apM a b)
def fe(a:ai):Option ((List Int)×Int):=
 bnd (iu a) λ(ah:Bool)=>bif !ah then some ([],(1:Int))else bnd (b9 (bP.mk (bp.mk [] (0:Int))) a.af (7:Int)) λ(aD:bP)=>bnd (b9 aD a.Seq (20:Int)) λ(aP:bP)=>jn (λ(qg:Int)=>bnd (b9 aP qg (1:Int)) λ(bt:bP)=>bnd (b9 bt (a.Links.length:Int) (5:Int)) λ(bL:bP)=>bN a.Links 0 (λ(j1:Int) (e1:bw) (Z1:((List Int)×Int)→Option _) (sg:(List Int)×Int)=>match sg with|(m_1,m_2)=>bnd (b9 (bP.mk (bp.mk m_1 m_2)) e1.bu (7:Int)) λ(cq:bP)=>bnd (b9 cq e1.lq (10:Int)) λ(cU:bP)=>bnd (b9 cU e1.cg (10:Int)) λ(dz:bP)=>Z1 (dz.s_.Data,dz.s_.Bits)) (λ(sg:(List Int)×Int)=>match sg with|(m_1,m_2)=>bnd (b9 (bP.mk (bp.mk m_1 m_2)) (a.Claims.length:Int) (4:Int)) λ(dW:bP)=>bN a.Claims 0 (λ(j2:Int) (e2:bG) (Z2:((List Int)×Int)→Option _) (sg:(List Int)×Int)=>match sg with|(m_3,m_4)=>whl (λ(Z3:Int→Option _) (kH:Int)=>chk (decide (0≤kH))<|bif decide (IntKind.wrap .i64 ((8:Int)*2 ^ min kH.toNat 64)<e2.Length)then Z3 (w64 (kH+1))else bnd (b9 (bP.mk (bp.mk m_3 m_4)) e2.bZ (3:Int)) λ(bJ:bP)=>bnd (b9 bJ e2.ID (9:Int)) λ(dM:bP)=>bnd (b9 dM kH (2:Int)) λ(ck:bP)=>Z2 (ck.s_.Data,ck.s_.Bits)) (0:Int)) (λ(sg:(List Int)×Int)=>match sg with|(m_3,m_4)=>bnd (mG (bp.mk m_3 m_4)) λ(fD:Int×Int)=>bnd (b9 (bP.mk (bp.mk m_3 m_4)) (w64 fD.1) (16:Int)) λ(jm:bP)=>some (jm.s_.Data,(0:Int))) (dW.s_.Data,dW.s_.Bits)) (bL.s_.Data,bL.s_.Bits)) λJ1=>bif a.aY then J1 (1:Int)else J1 (0:Int)
def n5(a:ai)(b:ai):Option Bool:=
 bnd (fe a) λ(ah:(List Int)×Int)=>bnd (fe b) λ(aD:(List Int)×Int)=>bif ((!decide (ah.2=0))||((!decide (aD.2=0))||(!decide (a.af=b.af))))then some false else(bif decide (b.Seq<a.Seq)then some true else(bif decide (a.Seq=b.Seq)then bnd (sS ah.1 aD.1) λ(aP:Int)=>some (decide (0<aP))else some false))
end Go.Proofs.YtjdopimopgpagaaGreat
namespace Go.Proofs.YtjdopimopgpagaaGreat
open Go
set_option maxRecDepth 100000
set_option linter.all false
def l6(xa0:ai)(aM:Int):Option Int:=
 bnd (eT xa0.af aM) λ(ah:Int)=>some ah
def jV(d:aF):Option aF:=
 bN d.aG 0 (λ(j1:Int) (e1:ai) (Z1:(List ai)→Option _) (m_1:(List ai))=>bnd (fE e1) λ(ah:ai)=>bnd (dy m_1 ([ah]:List ai)) λ(l_1:List ai)=>Z1 l_1) (λ(m_1:(List ai))=>some (aF.mk m_1)) []
def lV(d:aF)(a:ai):Option (Bool×aF):=
 bnd (cO d.aG a.af l6) λ(ah:Int×Bool)=>jn (λ(m_1:(List ai))=>some (true,(aF.mk m_1))) λJ1=>bif !ah.2 then bnd (fE a) λ(aD:ai)=>bnd (acf d.aG ah.1 aD) λ(l_1:List ai)=>J1 l_1 else bnd (elO d.aG ah.1) λ(e_1:ai)=>bnd (n5 a e_1) λ(aP:Bool)=>bif aP then bnd (fE a) λ(bt:ai)=>bnd (gF d.aG ah.1 bt) λ(l_2:List ai)=>J1 l_2 else some (false,d)
def n9(d:aF)(a:ai):Option (aF×Bool):=
 bnd (jV d) λ(ah:aF)=>jn (λ(v_1:Bool)=>bif v_1 then some (ah,false)else bnd (lV ah a) λ(bt:Bool×aF)=>some (bt.2,bt.1)) λJ1=>bnd (fU d) λ(aD:Int)=>(bif !decide (aD=0)then J1 true else bnd (iu a) λ(aP:Bool)=>J1 (!aP))
def l7(a:aF)(b:aF):Option (aF×Int):=
 jn (λ(v_1:Bool)=>bif v_1 then some ((aF.mk []),(1:Int))else bnd (jV a) λ(aP:aF)=>bN b.aG 0 (λ(j1:Int) (e1:ai) (Z1:(List ai)→Option _) (m_1:(List ai))=>bnd (lV (aF.mk m_1) e1) λ(bt:Bool×aF)=>Z1 bt.2.aG) (λ(m_1:(List ai))=>some ((aF.mk m_1),(0:Int))) aP.aG) λJ1=>bnd (fU a) λ(ah:Int)=>(bif !decide (ah=0)then J1 true else bnd (fU b) λ(aD:Int)=>J1 (!decide (aD=0)))
end Go.Proofs.YtjdopimopgpagaaGreat
namespace Go.Proofs.YtjdopimopgpagaaGreat
open Go
set_option maxRecDepth 100000
set_option linter.all false
def l8(d:aF)(a:ai):Option aF:=
 bN d.aG 0 (λ(j1:Int) (e1:ai) (Z1:(Bool×(List ai))→Option _) (sg:Bool×(List ai))=>match sg with|(mW,m_1)=>jn (λ(sg:Bool×(List ai))=>match sg with|(xz,m_2)=>Z1 (xz,m_2)) λJ1=>jn (λ(sg:Bool×(List ai))=>match sg with|(uy,m_3)=>bif !decide (e1.af=a.af)then bnd (dy m_3 ([e1]:List ai)) λ(l_2:List ai)=>J1 (uy,l_2)else J1 (uy,m_3)) λJ2=>bif ((!mW)&&(decide (a.af≤e1.af)))then bnd (dy m_1 ([a]:List ai)) λ(l_1:List ai)=>J2 (true,l_1)else J2 (mW,m_1)) (λ(sg:Bool×(List ai))=>match sg with|(mW,m_1)=>jn (λ(m_4:(List ai))=>some (aF.mk m_4)) λJ3=>bif !mW then bnd (dy m_1 ([a]:List ai)) λ(l_3:List ai)=>J3 l_3 else J3 m_1) (false,[])
def ua(d:aF)(a:ai):Option (aF×Bool):=
 jn (λ(v_1:Bool)=>bif v_1 then some (d,false)else bnd (sR d a.af) λ(aP:ai×Bool)=>jn (λ(v_2:Bool)=>bif v_2 then some (d,false)else bnd (l8 d a) λ(bL:aF)=>some (bL,true)) λJ2=>(bif aP.2 then bnd (uQ a aP.1) λ(bt:Bool)=>J2 (!bt)else J2 false)) λJ1=>bnd (iM d) λ(ah:Int)=>(bif !decide (ah=0)then J1 true else bnd (ic a) λ(aD:Bool)=>J1 (!aD))
def uR(a:aF)(b:aF):Option (aF×Int):=
 jn (λ(v_1:Bool)=>bif v_1 then some ((aF.mk []),(1:Int))else bN b.aG 0 (λ(j1:Int) (e1:ai) (Z1:(List ai)→Option _) (m_1:(List ai))=>bnd (ua (aF.mk m_1) e1) λ(aP:aF×Bool)=>Z1 aP.1.aG) (λ(m_1:(List ai))=>some ((aF.mk m_1),(0:Int))) a.aG) λJ1=>bnd (iM a) λ(ah:Int)=>(bif !decide (ah=0)then J1 true else bnd (iM b) λ(aD:Int)=>J1 (!decide (aD=0)))
end Go.Proofs.YtjdopimopgpagaaGreat
namespace Go.Proofs.YtjdopimopgpagaaGreat
open Go
set_option maxRecDepth 100000
set_option linter.all false
def sW(t:aB)(aM:Int)(seq:Int)(cL:List bG):Option (ai×Int):=
 bnd (iL t) λ(ah:Int)=>bif !decide (ah=0)then some ((ai.mk (0:Int) (0:Int) false [] []),(1:Int))else bnd (qY t aM) λ(aD:Bool)=>bif !aD then some ((ai.mk (0:Int) (0:Int) false [] []),(4:Int))else bnd (jk t aM) λ(aP:Bool)=>bnd (qe t aM) λ(bt:(List Int))=>bN bt 0 (λ(j1:Int) (e1:Int) (Z1:(List bw)→Option _) (m_1:(List bw))=>bnd (lu t aM e1) λ(bL:Int×Bool)=>bN t.Links 0 (λ(j2:Int) (e2:aV) (Z2:Int→Option _) (m_2:Int)=>jn (λ(m_3:Int)=>Z2 m_3) λJ1=>bif ((decide (e2.A=(if e1<aM then e1 else aM)))&&(decide (e2.B=(if e1>aM then e1 else aM))))then J1 e2.cg else J1 m_2) (λ(m_2:Int)=>bnd (dy m_1 ([(bw.mk e1 bL.1 m_2)]:List bw)) λ(l_1:List bw)=>Z1 l_1) (0:Int)) (λ(m_1:(List bw))=>bnd (ic (ai.mk aM seq aP m_1 cL)) λ(cq:Bool)=>bif !cq then some ((ai.mk (0:Int) (0:Int) false [] []),(2:Int))else some ((ai.mk aM seq aP m_1 cL),(0:Int))) []
end Go.Proofs.YtjdopimopgpagaaGreat
namespace Go.Proofs.YtjdopimopgpagaaGreat
open Go
set_option maxRecDepth 100000
set_option linter.all false
def ri(t:aB)(aM:Int)(seq:Int)(cL:List bG):Option (ai×Int):=
 bnd (gT t) λ(ah:Int)=>bif !decide (ah=0)then some ((ai.mk (0:Int) (0:Int) false [] []),(1:Int))else bnd (iU t aM) λ(aD:Bool)=>bif !aD then some ((ai.mk (0:Int) (0:Int) false [] []),(4:Int))else bnd (kr t aM) λ(aP:Bool)=>bnd (dy [] cL) λ(l_1:List bG)=>bN t.Links 0 (λ(j1:Int) (e1:aV) (Z1:(List bw)→Option _) (m_1:(List bw))=>jn (λ(m_2:(List bw))=>Z1 m_2) λJ1=>bif decide (aM=e1.A)then bnd (dy m_1 ([(bw.mk e1.B e1.lK e1.cg)]:List bw)) λ(l_2:List bw)=>J1 l_2 else bif decide (aM=e1.B)then bnd (dy m_1 ([(bw.mk e1.A e1.kP e1.cg)]:List bw)) λ(l_3:List bw)=>J1 l_3 else J1 m_1) (λ(m_1:(List bw))=>bnd (iu (ai.mk aM seq aP m_1 l_1)) λ(bt:Bool)=>bif !bt then some ((ai.mk (0:Int) (0:Int) false [] []),(2:Int))else some ((ai.mk aM seq aP m_1 l_1),(0:Int))) []
end Go.Proofs.YtjdopimopgpagaaGreat
namespace Go.Proofs.YtjdopimopgpagaaGreat
open Go
set_option maxRecDepth 100000
set_option linter.all false
def dO(f:aj):Option aB:=
 bnd (cV f.Links) λ(ah:(List aV))=>bN f.aA 0 (λ(j1:Int) (e1:aO) (Z1:(List bf)→Option _) (m_1:(List bf))=>bnd (dy m_1 ([(bf.mk e1.af e1.aY)]:List bf)) λ(l_1:List bf)=>Z1 l_1) (λ(m_1:(List bf))=>some (aB.mk m_1 ah)) []
def nO(n:aO)(c_0:Int):Option Bool:=
 some (decide (n.af=c_0))
def fM(f:aj)(aM:Int):Option (Int×Bool):=
 bnd (eV f.aA (λ(y0:aO)=>nO y0 aM)) λ(ah:Int)=>some (ah,decide (0≤ah))
def di(f:aj):Option Int:=
 jn (λ(v_1:Bool)=>bif v_1 then some (1:Int)else bN f.aA 0 (λ(j1:Int) (e1:aO) (Z1:Unit→Option _) (sg:Unit)=>match sg with|()=>jn (λ(v_2:Bool)=>bif v_2 then some (1:Int)else Z1 ()) λJ2=>(bif decide (e1.Seq<0)then J2 true else(bif decide (1000000<e1.Seq)then J2 true else bnd (iu (ai.mk e1.af (1:Int) false [] e1.Claims)) λ(aP:Bool)=>(bif !aP then J2 true else bnd (fU e1.Database) λ(bt:Int)=>J2 (!decide (bt=0)))))) (λ(sg:Unit)=>match sg with|()=>bN f.aq 0 (λ(j2:Int) (e2:aR) (Z2:Unit→Option _) (sg:Unit)=>match sg with|()=>bnd (fM f e2.cD) λ(bL:Int×Bool)=>bnd (fM f e2.To) λ(cq:Int×Bool)=>jn (λ(v_3:Bool)=>bif v_3 then some (1:Int)else Z2 ()) λJ3=>(bif !bL.2 then J3 true else(bif !cq.2 then J3 true else(bif decide (e2.cD=e2.To)then J3 true else bnd (fU e2.Database) λ(cU:Int)=>J3 (!decide (cU=0)))))) (λ(sg:Unit)=>match sg with|()=>some (0:Int)) ()) ()) λJ1=>bnd (dO f) λ(ah:aB)=>bnd (gT ah) λ(aD:Int)=>(bif !decide (aD=0)then J1 true else J1 (decide (400<(f.aq.length:Int))))
def gm(f:aj)(n:aO):Option (ai×Bool):=
 bif decide (n.Seq=0)then some ((ai.mk (0:Int) (0:Int) false [] []),false)else bnd (dO f) λ(ah:aB)=>bnd (ri ah n.af n.Seq n.Claims) λ(aD:ai×Int)=>some (aD.1,decide (aD.2=0))
def xA(f:aj)(aM:Int):Option (ai×Bool):=
 bnd (fM f aM) λ(ah:Int×Bool)=>jn (λ(v_1:Bool)=>bif v_1 then some ((ai.mk (0:Int) (0:Int) false [] []),false)else bnd (elO f.aA ah.1) λ(e_1:aO)=>bnd (gm f e_1) λ(aP:ai×Bool)=>some (aP.1,aP.2)) λJ1=>bnd (di f) λ(aD:Int)=>(bif !decide (aD=0)then J1 true else J1 (!ah.2))
def dN(d:aF):Option aF:=
 bN d.aG 0 (λ(j1:Int) (e1:ai) (Z1:(List ai)→Option _) (m_1:(List ai))=>bnd (dI e1.Links) λ(ah:(List bw))=>bnd (dh e1.Claims) λ(aD:(List bG))=>bnd (dy m_1 ([(ai.mk e1.af e1.Seq e1.aY ah aD)]:List ai)) λ(l_1:List ai)=>Z1 l_1) (λ(m_1:(List ai))=>some (aF.mk m_1)) []
def en(f:aj):Option aj:=
 bnd (cV f.Links) λ(ah:(List aV))=>bN f.aA 0 (λ(j1:Int) (e1:aO) (Z1:(List aO)→Option _) (m_1:(List aO))=>bnd (dh e1.Claims) λ(aD:(List bG))=>bnd (dN e1.Database) λ(aP:aF)=>bnd (dy m_1 ([(aO.mk e1.af e1.Seq e1.aY aD aP)]:List aO)) λ(l_1:List aO)=>Z1 l_1) (λ(m_1:(List aO))=>bN f.aq 0 (λ(j2:Int) (e2:aR) (Z2:(List aR)→Option _) (m_2:(List aR))=>bnd (dN e2.Database) λ(bt:aF)=>bnd (dy m_2 ([(aR.mk e2.cD e2.To bt)]:List aR)) λ(l_2:List aR)=>Z2 l_2) (λ(m_2:(List aR))=>some (aj.mk ah m_1 m_2)) []) []
def gX(f:aj):Option Bool:=
 jn (λ(v_1:Bool)=>bif v_1 then some false else bnd (dO f) λ(aD:aB)=>bN f.aA 0 (λ(j1:Int) (e1:aO) (Z1:Unit→Option _) (sg:Unit)=>match sg with|()=>bnd (gm f e1) λ(aP:ai×Bool)=>bnd (kV e1.Database e1.af) λ(bt:ai×Bool)=>jn (λ(v_2:Bool)=>bif v_2 then some false else bnd (rL f.aA (0:Int) (j1:Int)) λ(l_1:List aO)=>bN l_1 0 (λ(j2:Int) (e2:aO) (Z2:Unit→Option _) (sg:Unit)=>match sg with|()=>jn (λ(v_3:Bool)=>bif v_3 then some false else Z2 ()) λJ3=>bnd (ir aD e2.af e1.af) λ(cq:Bool)=>(bif cq then bnd (kU e2.Database e1.Database) λ(cU:Bool)=>J3 (!cU)else J3 false)) (λ(sg:Unit)=>match sg with|()=>Z1 ()) ()) λJ2=>(bif !aP.2 then J2 true else(bif !bt.2 then J2 true else bnd (jB aP.1 bt.1) λ(bL:Bool)=>J2 (!bL)))) (λ(sg:Unit)=>match sg with|()=>some true) ()) λJ1=>bnd (di f) λ(ah:Int)=>(bif !decide (ah=0)then J1 true else J1 (decide (0<(f.aq.length:Int))))
end Go.Proofs.YtjdopimopgpagaaGreat
namespace Go.Proofs.YtjdopimopgpagaaGreat
open Go
set_option maxRecDepth 100000
set_option linter.all false
def dg(m:aK)(i:Int):Option aK:=
 bnd (elO m.f_.aA i) λ(e_1:aO)=>bnd (gm m.f_ e_1) λ(ah:ai×Bool)=>bif ah.2 then bnd (n9 e_1.Database ah.1) λ(aD:aF×Bool)=>bnd (gF m.f_.aA i (aO.mk e_1.af e_1.Seq e_1.aY e_1.Claims aD.1)) λ(l_1:List aO)=>some (aK.mk (aj.mk m.f_.Links l_1 m.f_.aq))else some m
def fR(m:aK)(i:Int):Option aK:=
 bnd (elO m.f_.aA i) λ(e_1:aO)=>bnd (dO m.f_) λ(ah:aB)=>bnd (iV ah e_1.af) λ(aD:(List Int))=>bN aD 0 (λ(j1:Int) (e1:Int) (Z1:(List aR)→Option _) (m_1:(List aR))=>bnd (dN e_1.Database) λ(aP:aF)=>bnd (dy m_1 ([(aR.mk e_1.af e1 aP)]:List aR)) λ(l_1:List aR)=>Z1 l_1) (λ(m_1:(List aR))=>some (aK.mk (aj.mk m.f_.Links m.f_.aA m_1))) m.f_.aq
def eo(m:aK)(k:Int):Option aK:=
 bnd (elO m.f_.aq k) λ(e_1:aR)=>bnd (x2 m.f_.aq k (w64 (k+1))) λ(l_1:List aR)=>bnd (dO (aj.mk m.f_.Links m.f_.aA l_1)) λ(ah:aB)=>bnd (jo ah e_1.cD e_1.To) λ(aD:Int×Bool)=>bif !aD.2 then some (aK.mk (aj.mk m.f_.Links m.f_.aA l_1))else bnd (fM (aj.mk m.f_.Links m.f_.aA l_1) e_1.To) λ(aP:Int×Bool)=>bnd (elO m.f_.aA aP.1) λ(e_2:aO)=>bnd (l7 e_2.Database e_1.Database) λ(bt:aF×Int)=>bnd (gF m.f_.aA aP.1 (aO.mk e_2.af e_2.Seq e_2.aY e_2.Claims bt.1)) λ(l_2:List aO)=>bnd (elO l_2 aP.1) λ(e_3:aO)=>bnd (kV e_3.Database e_3.af) λ(bL:ai×Bool)=>bnd (gm (aj.mk m.f_.Links l_2 l_1) e_3) λ(cq:ai×Bool)=>jn (λ(v_1:Bool)=>bif v_1 then bnd (gF l_2 aP.1 (aO.mk e_3.af (w64 (bL.1.Seq+1)) e_3.aY e_3.Claims e_3.Database)) λ(l_3:List aO)=>bnd (dg (aK.mk (aj.mk m.f_.Links l_3 l_1)) aP.1) λ(dz:aK)=>some dz else some (aK.mk (aj.mk m.f_.Links l_2 l_1))) λJ1=>(bif bL.2 then(bif !cq.2 then J1 (decide (bL.1.Seq<1000000))else bnd (jB bL.1 cq.1) λ(cU:Bool)=>(bif !cU then J1 (decide (bL.1.Seq<1000000))else J1 false))else J1 false)
def fH(m:aK):Option aK:=
 whl (λ(Z1:((List aV)×(List aO)×(List aR))→Option _) (sg:(List aV)×(List aO)×(List aR))=>match sg with|(m_1,m_2,m_3)=>bif decide (0<(m_3.length:Int))then bnd (eo (aK.mk (aj.mk m_1 m_2 m_3)) (0:Int)) λ(ah:aK)=>Z1 (ah.f_.Links,ah.f_.aA,ah.f_.aq)else some (aK.mk (aj.mk m_1 m_2 m_3))) (m.f_.Links,m.f_.aA,m.f_.aq)
def gb(m:aK):Option aK:=
 bN m.f_.aA 0 (λ(j1:Int) (e1:aO) (Z1:((List aV)×(List aO)×(List aR))→Option _) (sg:(List aV)×(List aO)×(List aR))=>match sg with|(m_1,m_2,m_3)=>bnd (fR (aK.mk (aj.mk m_1 m_2 m_3)) (j1:Int)) λ(ah:aK)=>Z1 (ah.f_.Links,ah.f_.aA,ah.f_.aq)) (λ(sg:(List aV)×(List aO)×(List aR))=>match sg with|(m_1,m_2,m_3)=>some (aK.mk (aj.mk m_1 m_2 m_3))) (m.f_.Links,m.f_.aA,m.f_.aq)
def cQ(sa0:List aR)(del:aR→Option Bool):Option (List aR):=
 bnd (dY sa0 del) λ(ah:Int)=>bif decide (ah=(-1:Int))then some sa0 else whl (λ(Z1:((List aR)×Int×Int)→Option _) (sg:(List aR)×Int×Int)=>match sg with|(oK,i_1,j_1)=>bif decide (j_1<(oK.length:Int))then jn (λ(sg:(List aR)×Int)=>match sg with|(acB,i_2)=>Z1 (acB,i_2,w64 (j_1+1))) λJ1=>bnd (elO oK j_1) λ(e_1:aR)=>bnd (del e_1) λ(aD:Bool)=>bif !aD then bnd (elO oK i_1) λ(e_2:aR)=>bnd (gF oK i_1 e_1) λ(l_1:List aR)=>J1 (l_1,w64 (i_1+1))else J1 (oK,i_1)else chk (decide (0≤i_1∧i_1<(oK.length:Int)))<|bnd (rL (oK.take i_1.toNat++List.replicate (oK.length-i_1.toNat) (aR.mk (0:Int) (0:Int) (aF.mk []))) (0:Int) i_1) λ(l_2:List aR)=>some l_2) (sa0,ah,w64 (ah+1))
end Go.Proofs.YtjdopimopgpagaaGreat
namespace Go.Proofs.YtjdopimopgpagaaGreat
open Go
set_option maxRecDepth 100000
set_option linter.all false
def eC(f:aj)(aM:Int):Option (aK×Int×Int):=
 bnd (di f) λ(ah:Int)=>bif !decide (ah=0)then none else bnd (fM f aM) λ(aD:Int×Bool)=>bif !aD.2 then none else bnd (en f) λ(aP:aj)=>some ((aK.mk aP),aD.1,(0:Int))
def gx(f:aj)(aM:Int):Option (Int×Int):=
 bnd (di f) λ(ah:Int)=>bif !decide (ah=0)then some ((0:Int),(1:Int))else bnd (fM f aM) λ(aD:Int×Bool)=>bif !aD.2 then some ((0:Int),(4:Int))else bnd (en f) λ(aP:aj)=>none
def dX(f:aj)(k:Int):Option (aK×Int):=
 bnd (di f) λ(ah:Int)=>bif !decide (ah=0)then none else bif ((decide (k<0))||(decide ((f.aq.length:Int)≤k)))then none else bnd (en f) λ(aD:aj)=>some ((aK.mk aD),(0:Int))
def fI(f:aj)(k:Int):Option Int:=
 bnd (di f) λ(ah:Int)=>bif !decide (ah=0)then some (1:Int)else bif ((decide (k<0))||(decide ((f.aq.length:Int)≤k)))then some (4:Int)else bnd (en f) λ(aD:aj)=>none
def qh(oa0:gR)(c_0:aB):Option Bool:=
 bnd (iU c_0 oa0.af) λ(ah:Bool)=>some (!ah)
def rQ(t:aB)(cL:List gR):Option (aj×Int):=
 bnd (gT t) λ(ah:Int)=>bif !decide (ah=0)then some ((aj.mk [] [] []),(1:Int))else bnd (fG cL (λ(y0:gR)=>qh y0 t)) λ(aD:Bool)=>bif aD then some ((aj.mk [] [] []),(4:Int))else bN cL 0 (λ(j1:Int) (e1:gR) (Z1:Unit→Option _) (sg:Unit)=>match sg with|()=>jn (λ(v_1:Bool)=>bif v_1 then some ((aj.mk [] [] []),(25:Int))else Z1 ()) λJ1=>(bif decide (0<(j1:Int))then bnd (elO cL (w64 ((j1:Int)-(1:Int)))) λ(e_1:gR)=>bnd (eT e_1.af e1.af) λ(aP:Int)=>bnd (eT e_1.Claim.bZ e1.Claim.bZ) λ(bt:Int)=>bnd (nX ([aP,bt]:List Int)) λ(bL:Int)=>J1 (decide (0≤bL))else J1 false)) (λ(sg:Unit)=>match sg with|()=>bnd (cV t.Links) λ(cq:(List aV))=>bN t.aI 0 (λ(j2:Int) (e2:bf) (Z2:(List aO)→Option _) (m_1:(List aO))=>bN cL 0 (λ(j3:Int) (e3:gR) (Z3:(List bG)→Option _) (m_2:(List bG))=>jn (λ(m_3:(List bG))=>Z3 m_3) λJ2=>bif decide (e3.af=e2.ID)then bnd (dy m_2 ([e3.Claim]:List bG)) λ(l_1:List bG)=>J2 l_1 else J2 m_2) (λ(m_2:(List bG))=>bnd (dy m_1 ([(aO.mk e2.ID (0:Int) e2.aY m_2 (aF.mk []))]:List aO)) λ(l_2:List aO)=>Z2 l_2) []) (λ(m_1:(List aO))=>bnd (di (aj.mk cq m_1 [])) λ(cU:Int)=>bif !decide (cU=0)then some ((aj.mk [] [] []),(1:Int))else some ((aj.mk cq m_1 []),(0:Int))) []) ()
def lN(f:aj)(aM:Int):Option (aj×Int):=
 els (eC f aM) (λah=>bif !decide (ah.2.2=0)then some ((aj.mk [] [] []),ah.2.2)else bnd (elO ah.1.f_.aA ah.2.1) λ(e_1:aO)=>bif decide (e_1.Seq=1000000)then some ((aj.mk [] [] []),(7:Int))else bnd (gF ah.1.f_.aA ah.2.1 (aO.mk e_1.af (w64 (e_1.Seq+1)) e_1.aY e_1.Claims e_1.Database)) λ(l_1:List aO)=>bnd (dg (aK.mk (aj.mk ah.1.f_.Links l_1 ah.1.f_.aq)) ah.2.1) λ(aD:aK)=>some (aD.f_,(0:Int)))<|bnd (gx f aM) λaP=>bif !decide (aP.2=0)then some ((aj.mk [] [] []),aP.2)else none
def kJ(f:aj)(aM:Int):Option (aj×Int):=
 els (eC f aM) (λah=>bif !decide (ah.2.2=0)then some ((aj.mk [] [] []),ah.2.2)else bnd (elO ah.1.f_.aA ah.2.1) λ(e_1:aO)=>bnd (gF ah.1.f_.aA ah.2.1 (aO.mk e_1.af e_1.Seq e_1.aY e_1.Claims (aF.mk []))) λ(l_1:List aO)=>bnd (elO l_1 ah.2.1) λ(e_2:aO)=>bnd (gF l_1 ah.2.1 (aO.mk e_2.af (1:Int) e_2.aY e_2.Claims e_2.Database)) λ(l_2:List aO)=>bnd (dg (aK.mk (aj.mk ah.1.f_.Links l_2 ah.1.f_.aq)) ah.2.1) λ(aD:aK)=>some (aD.f_,(0:Int)))<|bnd (gx f aM) λaP=>bif !decide (aP.2=0)then some ((aj.mk [] [] []),aP.2)else none
def mX(f:aj)(aM:Int):Option (aj×Int):=
 els (eC f aM) (λah=>bif !decide (ah.2.2=0)then some ((aj.mk [] [] []),ah.2.2)else bnd (fR ah.1 ah.2.1) λ(aD:aK)=>bif decide (400<(aD.f_.aq.length:Int))then some ((aj.mk [] [] []),(3:Int))else some (aD.f_,(0:Int)))<|bnd (gx f aM) λaP=>bif !decide (aP.2=0)then some ((aj.mk [] [] []),aP.2)else none
def kK(f:aj)(k:Int):Option (aj×Int):=
 els (dX f k) (λah=>bif !decide (ah.2=0)then some ((aj.mk [] [] []),ah.2)else bnd (eo ah.1 k) λ(aD:aK)=>some (aD.f_,(0:Int)))<|bnd (fI f k) λaP=>bif !decide (aP=0)then some ((aj.mk [] [] []),aP)else none
def mY(f:aj)(k:Int):Option (aj×Int):=
 els (dX f k) (λah=>bif !decide (ah.2=0)then some ((aj.mk [] [] []),ah.2)else bnd (x2 ah.1.f_.aq k (w64 (k+1))) λ(l_1:List aR)=>some ((aj.mk ah.1.f_.Links ah.1.f_.aA l_1),(0:Int)))<|bnd (fI f k) λaD=>bif !decide (aD=0)then some ((aj.mk [] [] []),aD)else none
def lF(f:aj)(k:Int):Option (aj×Int):=
 els (dX f k) (λah=>bif !decide (ah.2=0)then some ((aj.mk [] [] []),ah.2)else bif decide ((f.aq.length:Int)=(400:Int))then some ((aj.mk [] [] []),(3:Int))else bnd (elO f.aq k) λ(e_1:aR)=>bnd (dN e_1.Database) λ(aD:aF)=>bnd (dy ah.1.f_.aq ([(aR.mk e_1.cD e_1.To aD)]:List aR)) λ(l_1:List aR)=>some ((aj.mk ah.1.f_.Links ah.1.f_.aA l_1),(0:Int)))<|bnd (fI f k) λaP=>bif !decide (aP=0)then some ((aj.mk [] [] []),aP)else bif decide ((f.aq.length:Int)=(400:Int))then some ((aj.mk [] [] []),(3:Int))else bnd (elO f.aq k) λ(e_2:aR)=>bnd (dN e_2.Database) λ(bt:aF)=>none
def jK(xa0:aR)(c_0:aB):Option Bool:=
 bnd (jo c_0 xa0.cD xa0.To) λ(ah:Int×Bool)=>some (!ah.2)
def gp(f:aj)(links:List aV):Option (aj×Int):=
 bnd (en f) λ(ah:aj)=>bnd (cV links) λ(aD:(List aV))=>jn (λ(v_1:Bool)=>bif v_1 then some ((aj.mk [] [] []),(1:Int))else bnd (dO (aj.mk aD ah.aA ah.aq)) λ(bL:aB)=>bnd (cQ ah.aq (λ(y0:aR)=>jK y0 bL)) λ(cq:(List aR))=>bN ah.aA 0 (λ(j1:Int) (e1:aO) (Z1:((List aV)×(List aO)×(List aR))→Option _) (sg:(List aV)×(List aO)×(List aR))=>match sg with|(m_1,m_2,m_3)=>jn (λ(sg:(List aV)×(List aO)×(List aR))=>match sg with|(m_4,m_5,m_6)=>Z1 (m_4,m_5,m_6)) λJ2=>bnd (elO m_2 (j1:Int)) λ(e_1:aO)=>bnd (elO f.aA (j1:Int)) λ(e_2:aO)=>bnd (gm f e_2) λ(cU:ai×Bool)=>bnd (gm (aj.mk m_1 m_2 m_3) e_1) λ(dz:ai×Bool)=>jn (λ(v_2:Bool)=>bif v_2 then bnd (gF m_2 (j1:Int) (aO.mk e_1.af (w64 (e_1.Seq+1)) e_1.aY e_1.Claims e_1.Database)) λ(l_1:List aO)=>bnd (dg (aK.mk (aj.mk m_1 l_1 m_3)) (j1:Int)) λ(bJ:aK)=>J2 (bJ.f_.Links,bJ.f_.aA,bJ.f_.aq)else J2 (m_1,m_2,m_3)) λJ3=>(bif dz.2 then bnd (jB cU.1 dz.1) λ(dW:Bool)=>(bif !dW then J3 (decide (e_1.Seq<1000000))else J3 false)else J3 false)) (λ(sg:(List aV)×(List aO)×(List aR))=>match sg with|(m_1,m_2,m_3)=>some ((aj.mk m_1 m_2 m_3),(0:Int))) (aD,ah.aA,cq)) λJ1=>bnd (di f) λ(aP:Int)=>(bif !decide (aP=0)then J1 true else bnd (di (aj.mk aD ah.aA ah.aq)) λ(bt:Int)=>J1 (!decide (bt=0)))
def gY(f:aj):Option (aj×Int):=
 bnd (di f) λ(ah:Int)=>bif !decide (ah=0)then some ((aj.mk [] [] []),(1:Int))else bnd (en f) λ(aD:aj)=>bnd (fH (aK.mk aD)) λ(aP:aK)=>bnd (gb aP) λ(bt:aK)=>bnd (fH bt) λ(bL:aK)=>some (bL.f_,(0:Int))
def jy(n:Int):Option Int:=
 some (w64 ((2:Int)*(if(1099511627776:Int)<(if(0:Int)>n then(0:Int)else n)then(1099511627776:Int)else(if(0:Int)>n then(0:Int)else n))))
end Go.Proofs.YtjdopimopgpagaaGreat
namespace Go.Proofs.YtjdopimopgpagaaGreat
open Go
set_option maxRecDepth 100000
set_option linter.all false
def eE(f:aj):Option aB:=
 bN f.aA 0 (λ(j1:Int) (e1:aO) (Z1:(List bf)→Option _) (m_1:(List bf))=>bnd (dy m_1 ([(bf.mk e1.af e1.aY)]:List bf)) λ(l_1:List bf)=>Z1 l_1) (λ(m_1:(List bf))=>some (aB.mk m_1 f.Links)) []
def jC(f:aj)(aM:Int):Option Int:=
 bN f.aA 0 (λ(j1:Int) (e1:aO) (Z1:Unit→Option _) (sg:Unit)=>match sg with|()=>bif decide (e1.af=aM)then some (j1:Int)else Z1 ()) (λ(sg:Unit)=>match sg with|()=>some (-1:Int)) ()
def o5(f:aj):Option Bool:=
 jn (λ(v_1:Bool)=>bif v_1 then some false else bN f.aA 0 (λ(j1:Int) (e1:aO) (Z1:Unit→Option _) (sg:Unit)=>match sg with|()=>jn (λ(v_2:Bool)=>bif v_2 then some false else Z1 ()) λJ2=>(bif decide (e1.Seq<0)then J2 true else(bif decide (1000000<e1.Seq)then J2 true else bnd (iI e1.Claims) λ(aP:Bool)=>(bif !aP then J2 true else bnd (iM e1.Database) λ(bt:Int)=>J2 (!decide (bt=0)))))) (λ(sg:Unit)=>match sg with|()=>bN f.aq 0 (λ(j2:Int) (e2:aR) (Z2:Unit→Option _) (sg:Unit)=>match sg with|()=>jn (λ(v_3:Bool)=>bif v_3 then some false else Z2 ()) λJ3=>bnd (jC f e2.cD) λ(bL:Int)=>(bif decide (bL<0)then J3 true else bnd (jC f e2.To) λ(cq:Int)=>(bif decide (cq<0)then J3 true else(bif decide (e2.cD=e2.To)then J3 true else bnd (iM e2.Database) λ(cU:Int)=>J3 (!decide (cU=0)))))) (λ(sg:Unit)=>match sg with|()=>some true) ()) ()) λJ1=>bnd (eE f) λ(ah:aB)=>bnd (iL ah) λ(aD:Int)=>(bif !decide (aD=0)then J1 true else J1 (decide (400<(f.aq.length:Int))))
def nG(f:aj)(i:Int)(seq:Int):Option (ai×Bool):=
 bnd (eE f) λ(ah:aB)=>bnd (elO f.aA i) λ(e_1:aO)=>bnd (sW ah e_1.af seq e_1.Claims) λ(aD:ai×Int)=>some (aD.1,decide (aD.2=0))
def pz(f:aj)(aM:Int):Option (ai×Bool):=
 bnd (jC f aM) λ(ah:Int)=>jn (λ(v_1:Bool)=>bif v_1 then some ((ai.mk (0:Int) (0:Int) false [] []),false)else bnd (elO f.aA ah) λ(e_2:aO)=>bnd (nG f ah e_2.Seq) λ(aP:ai×Bool)=>some (aP.1,aP.2)) λJ1=>bnd (o5 f) λ(aD:Bool)=>(bif !aD then J1 true else(bif decide (ah<0)then J1 true else bnd (elO f.aA ah) λ(e_1:aO)=>J1 (decide (e_1.Seq=0))))
def sY(f:aj)(i:Int)(n:aO):Option aj:=
 bnd (dy [] f.aA) λ(l_1:List aO)=>bnd (elO l_1 i) λ(e_1:aO)=>bnd (gF l_1 i n) λ(l_2:List aO)=>some (aj.mk f.Links l_2 f.aq)
def mI(f:aj)(i:Int)(seq:Int):Option aj:=
 bnd (elO f.aA i) λ(e_1:aO)=>bnd (nG f i seq) λ(ah:ai×Bool)=>bnd (ua e_1.Database ah.1) λ(aD:aF×Bool)=>bnd (sY f i (aO.mk e_1.af seq e_1.aY e_1.Claims aD.1)) λ(aP:aj)=>some aP
def oe(f:aj)(m:aR):Option aj:=
 bnd (eE f) λ(ah:aB)=>bnd (lu ah m.cD m.To) λ(aD:Int×Bool)=>bif !aD.2 then some f else bnd (jC f m.To) λ(aP:Int)=>bnd (elO f.aA aP) λ(e_1:aO)=>bnd (uR e_1.Database m.Database) λ(bt:aF×Int)=>bnd (sY f aP (aO.mk e_1.af e_1.Seq e_1.aY e_1.Claims bt.1)) λ(bL:aj)=>bnd (sR bt.1 m.To) λ(cq:ai×Bool)=>bif !cq.2 then some bL else bnd (nG bL aP e_1.Seq) λ(cU:ai×Bool)=>jn (λ(v_1:Bool)=>bif v_1 then some bL else bnd (mI bL aP (w64 (cq.1.Seq+1))) λ(dW:aj)=>some dW) λJ1=>(bif decide (0<e_1.Seq)then(bif cU.2 then bnd (vJ cq.1 cU.1) λ(dz:Bool)=>(bif dz then J1 true else J1 (decide (1000000<w64 (cq.1.Seq+1))))else J1 (decide (1000000<w64 (cq.1.Seq+1))))else J1 (decide (1000000<w64 (cq.1.Seq+1))))
end Go.Proofs.YtjdopimopgpagaaGreat
namespace Go.Proofs.YtjdopimopgpagaaGreat
open Go
set_option maxRecDepth 100000
set_option linter.all false
def mJ(t:aU)(most:Int):Option (aF×aU):=
 bnd (bR t (3:Int)) λ(ah:Int×aU)=>bif decide (ah.1=0)then some ((aF.mk []),ah.2)else bnd (kG ah.2 (0:Int)) λ(aD:aF×aU)=>whl (λ(Z1:(Int×(List ai))→Option _) (sg:Int×(List ai))=>match sg with|(i_1,m_1)=>bif decide (i_1<(m_1.length:Int))then bnd (elO m_1 i_1) λ(e_1:ai)=>bnd (gF m_1 i_1 (ai.mk e_1.af (if most<e_1.Seq then most else e_1.Seq) e_1.aY e_1.Links e_1.Claims)) λ(l_1:List ai)=>Z1 (w64 (i_1+1),l_1)else some ((aF.mk m_1),aD.2)) ((0:Int),aD.1.aG)
def mZ(t:aU)(gn:Int)(most:Int):Option (aj×aU):=
 bnd (kj t gn (0:Int)) λ(ah:aB×aU)=>bN ah.1.aI 0 (λ(j1:Int) (e1:bf) (Z1:((List aO)×(List Int)×Int)→Option _) (sg:(List aO)×(List Int)×Int)=>match sg with|(m_1,m_2,m_3)=>bnd (dD (aU.mk m_2 m_3) ([(0:Int),(1:Int),(1:Int),(2:Int),(400000:Int)]:List Int)) λ(aD:Int×aU)=>bnd (bR aD.2 (5:Int)) λ(aP:Int×aU)=>bnd (mJ aP.2 most) λ(bt:aF×aU)=>gO ((2:Int)-(0:Int)).toNat (0:Int) (λ(j2:Int) (Z2:((List bG)×(List Int)×Int)→Option _) (sg:(List bG)×(List Int)×Int)=>match sg with|(m_4,m_5,m_6)=>jn (λ(sg:(List Int)×Int×(List bG))=>match sg with|(m_7,m_8,m_9)=>Z2 (m_9,m_7,m_8)) λJ1=>bnd (bR (aU.mk m_5 m_6) (2:Int)) λ(bL:Int×aU)=>bif decide (bL.1=0)then bnd (dS bL.2 (1:Int) (6:Int)) λ(cq:Int×aU)=>bnd (jQ cq.2) λ(cU:Int×aU)=>bnd (dy m_4 ([(bG.mk (j2:Int) cq.1 cU.1)]:List bG)) λ(l_1:List bG)=>J1 (cU.2.L,cU.2.At,l_1)else J1 (bL.2.L,bL.2.At,m_4)) (λ(j2:Int) (sg:(List bG)×(List Int)×Int)=>match sg with|(m_4,m_5,m_6)=>bnd (dy m_1 ([(aO.mk e1.ID (if aD.1<most then aD.1 else most) (decide (0<aP.1)) m_4 bt.1)]:List aO)) λ(l_2:List aO)=>Z1 (l_2,m_5,m_6)) ([],bt.2.L,bt.2.At)) (λ(sg:(List aO)×(List Int)×Int)=>match sg with|(m_1,m_2,m_3)=>bnd (bR (aU.mk m_2 m_3) (4:Int)) λ(dz:Int×aU)=>whl (λ(Z3:(Int×(List aR)×(List Int)×Int)→Option _) (sg:Int×(List aR)×(List Int)×Int)=>match sg with|(i_1,fQ,fF,jl)=>bif ((decide (0<i_1))&&(decide (1<(ah.1.aI.length:Int))))then bnd (bR (aU.mk fF jl) (ah.1.aI.length:Int)) λ(dW:Int×aU)=>bnd (dS dW.2 (1:Int) (w64 ((ah.1.aI.length:Int)-(1:Int)))) λ(bJ:Int×aU)=>bnd (qd (w64 (dW.1+bJ.1)) (ah.1.aI.length:Int)) λ(dM:Int)=>bnd (elO ah.1.aI dW.1) λ(e_1:bf)=>bnd (elO ah.1.aI dM) λ(e_2:bf)=>bnd (mJ bJ.2 most) λ(ck:aF×aU)=>bnd (dy fQ ([(aR.mk e_1.ID e_2.ID ck.1)]:List aR)) λ(l_3:List aR)=>Z3 (w64 (i_1-1),l_3,ck.2.L,ck.2.At)else some ((aj.mk ah.1.Links m_1 fQ),(aU.mk fF jl))) (dz.1,[],dz.2.L,dz.2.At)) ([],ah.2.L,ah.2.At)
def tN(t:aU):Option (Bool×aU):=
 some (decide (t.At<(t.L.length:Int)),t)
end Go.Proofs.YtjdopimopgpagaaGreat
