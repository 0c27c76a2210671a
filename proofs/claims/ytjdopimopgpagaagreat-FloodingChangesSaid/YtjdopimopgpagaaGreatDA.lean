/- Several texts in one. No condition but those that stand in each. -/
import Derived.Test.YtjdopimopgpagaaGreatT
namespace Go.Proofs.YtjdopimopgpagaaGreat
open Go
set_option maxRecDepth 100000
set_option linter.all false
def mR(l:List Int)(n:Int):Option Bool:=
 bL l 0 (λ(j1:Int) (e1:Int) (Z1:Unit→Option _) (sg:Unit)=>match sg with|()=>bif decide (e1=n)then some true else Z1 ()) (λ(sg:Unit)=>match sg with|()=>some false) ()
end Go.Proofs.YtjdopimopgpagaaGreat
namespace Go.Proofs.YtjdopimopgpagaaGreat
open Go
set_option maxRecDepth 100000
set_option linter.all false
def pF(n:Int):Option Bool:=
 some ((decide (1≤n))&&(decide (n≤1000)))
def mS(t:aA)(ra1:Int):Option Bool:=
 bL t.aH 0 (λ(j1:Int) (e1:bh) (Z1:Unit→Option _) (sg:Unit)=>match sg with|()=>bif decide (e1.ID=ra1)then some true else Z1 ()) (λ(sg:Unit)=>match sg with|()=>some false) ()
def ji(t:aA)(eG:Int)(jY:Int):Option (Int×Bool):=
 bL t.Links 0 (λ(j1:Int) (e1:aK) (Z1:Unit→Option _) (sg:Unit)=>match sg with|()=>bif ((decide (e1.A=eG))&&(decide (e1.B=jY)))then some (e1.iX,true)else bif ((decide (e1.B=eG))&&(decide (e1.A=jY)))then some (e1.iL,true)else Z1 ()) (λ(sg:Unit)=>match sg with|()=>some ((0:Int),false)) ()
def ig(t:aA):Option Int:=
 bif ((decide (24<(t.aH.length:Int)))||(decide (60<(t.Links.length:Int))))then some (3:Int)else bL t.aH 0 (λ(j1:Int) (e1:bh) (Z1:Unit→Option _) (sg:Unit)=>match sg with|()=>bif ((decide (e1.ID<1))||(decide (99<e1.ID)))then some (2:Int)else Z1 ()) (λ(sg:Unit)=>match sg with|()=>bL (List.drop 1 t.aH) 1 (λ(j2:Int) (e2:bh) (Z2:Unit→Option _) (sg:Unit)=>match sg with|()=>bnd (elO t.aH (w64 ((j2:Int)-(1:Int)))) λ(e_1:bh)=>bif decide (e2.ID≤e_1.ID)then some (25:Int)else Z2 ()) (λ(sg:Unit)=>match sg with|()=>bL t.Links 0 (λ(j3:Int) (e3:aK) (Z3:Unit→Option _) (sg:Unit)=>match sg with|()=>jn (λ(v_1:Bool)=>bif v_1 then some (2:Int)else Z3 ()) λJ1=>bnd (pF e3.iX) λ(af:Bool)=>(bif !af then J1 true else bnd (pF e3.iL) λ(aD:Bool)=>(bif !aD then J1 true else(bif decide (e3.bX<0)then J1 true else J1 (decide (1000<e3.bX)))))) (λ(sg:Unit)=>match sg with|()=>bL t.Links 0 (λ(j4:Int) (e4:aK) (Z4:Unit→Option _) (sg:Unit)=>match sg with|()=>jn (λ(v_2:Bool)=>bif v_2 then some (4:Int)else Z4 ()) λJ2=>bnd (mS t e4.A) λ(aP:Bool)=>(bif !aP then J2 true else bnd (mS t e4.B) λ(bt:Bool)=>J2 (!bt))) (λ(sg:Unit)=>match sg with|()=>bL t.Links 0 (λ(j5:Int) (e5:aK) (Z5:Unit→Option _) (sg:Unit)=>match sg with|()=>bif decide (e5.B≤e5.A)then some (8:Int)else Z5 ()) (λ(sg:Unit)=>match sg with|()=>bL (List.drop 1 t.Links) 1 (λ(j6:Int) (e6:aK) (Z6:Unit→Option _) (sg:Unit)=>match sg with|()=>bnd (elO t.Links (w64 ((j6:Int)-(1:Int)))) λ(e_2:aK)=>bif ((decide (e6.A<e_2.A))||((decide (e_2.A=e6.A))&&(decide (e6.B≤e_2.B))))then some (25:Int)else Z6 ()) (λ(sg:Unit)=>match sg with|()=>some (0:Int)) ()) ()) ()) ()) ()) ()
def pG(xa0:Int)(n:Int):Option Int:=
 bif decide (n<1)then some (0:Int)else chk (decide (n≠0))<|jn (λ(af:Int)=>some af) λJ1=>bif decide (Int.tmod xa0 n<0)then J1 (w64 ((Int.tmod xa0 n)+n))else J1 (Int.tmod xa0 n)
def oC(t:aS):Option (Int×aS):=
 bif decide ((t.L.length:Int)≤t.At)then some ((0:Int),t)else bnd (elO t.L (w64 ((w64 (t.At+1))-(1:Int)))) λ(e_1:Int)=>some (e_1,(aS.mk t.L (w64 (t.At+1))))
def bR(t:aS)(n:Int):Option (Int×aS):=
 bnd (oC t) λ(af:Int×aS)=>bnd (pG af.1 n) λ(aD:Int)=>some (aD,af.2)
def ef(t:aS)(low:Int)(high:Int):Option (Int×aS):=
 bnd (bR t (w64 ((w64 (high-low))+(1:Int)))) λ(af:Int×aS)=>some (w64 (low+af.1),af.2)
end Go.Proofs.YtjdopimopgpagaaGreat
namespace Go.Proofs.YtjdopimopgpagaaGreat
open Go
set_option maxRecDepth 100000
set_option linter.all false
def qx(t:aA)(ra1:Int):Option Bool:=
 bnd (ig t) λ(af:Int)=>(bif decide (af=0)then bnd (mS t ra1) λ(aD:Bool)=>some aD else some false)
def iZ(t:aA)(ra1:Int):Option Bool:=
 bnd (ig t) λ(af:Int)=>bif !decide (af=0)then some false else bL t.aH 0 (λ(j1:Int) (e1:bh) (Z1:Unit→Option _) (sg:Unit)=>match sg with|()=>bif decide (e1.ID=ra1)then some e1.aX else Z1 ()) (λ(sg:Unit)=>match sg with|()=>some false) ()
def pH(t:aA)(ra1:Int):Option (List Int):=
 bL t.aH 0 (λ(j1:Int) (e1:bh) (Z1:(List Int)→Option _) (dK:(List Int))=>jn (λ(qc:(List Int))=>Z1 qc) λJ1=>bnd (ji t ra1 e1.ID) λ(af:Int×Bool)=>bif af.2 then bnd (dh dK ([e1.ID]:List Int)) λ(l_1:List Int)=>J1 l_1 else J1 dK) (λ(dK:(List Int))=>some dK) []
def oD(l:List kM)(a:Int)(b:Int):Option Bool:=
 bL l 0 (λ(j1:Int) (e1:kM) (Z1:Unit→Option _) (sg:Unit)=>match sg with|()=>bif (bif decide (e1.cD=a)then((decide (e1.To=b))||((decide (e1.cD=b))&&(decide (e1.To=a))))else((decide (e1.cD=b))&&(decide (e1.To=a))))then some true else Z1 ()) (λ(sg:Unit)=>match sg with|()=>some false) ()
def mz(t:aA)(f:gR):Option aA:=
 bnd (ig t) λ(af:Int)=>bif !decide (af=0)then some (aA.mk [] [])else bL t.aH 0 (λ(j1:Int) (e1:bh) (Z1:(List bh)→Option _) (m_1:(List bh))=>jn (λ(m_2:(List bh))=>Z1 m_2) λJ1=>bnd (mR f.aH e1.ID) λ(aD:Bool)=>bif !aD then bnd (dh m_1 ([e1]:List bh)) λ(l_1:List bh)=>J1 l_1 else J1 m_1) (λ(m_1:(List bh))=>bL t.Links 0 (λ(j2:Int) (e2:aK) (Z2:(List aK)→Option _) (m_3:(List aK))=>jn (λ(m_4:(List aK))=>Z2 m_4) λJ2=>jn (λ(v_1:Bool)=>bif v_1 then bnd (dh m_3 ([e2]:List aK)) λ(l_2:List aK)=>J2 l_2 else J2 m_3) λJ3=>bnd (mR f.aH e2.A) λ(aP:Bool)=>(bif !aP then bnd (mR f.aH e2.B) λ(bt:Bool)=>(bif !bt then bnd (oD f.Links e2.A e2.B) λ(bF:Bool)=>J3 (!bF)else J3 false)else J3 false)) (λ(m_3:(List aK))=>some (aA.mk m_1 m_3)) []) []
def pI(a:aA)(b:aA):Option Bool:=
 bif ((!decide ((a.aH.length:Int)=(b.aH.length:Int)))||(!decide ((a.Links.length:Int)=(b.Links.length:Int))))then some false else bL a.aH 0 (λ(j1:Int) (e1:bh) (Z1:Unit→Option _) (sg:Unit)=>match sg with|()=>bnd (elO b.aH (j1:Int)) λ(e_1:bh)=>bif !(tO e1 e_1)then some false else Z1 ()) (λ(sg:Unit)=>match sg with|()=>bL a.Links 0 (λ(j2:Int) (e2:aK) (Z2:Unit→Option _) (sg:Unit)=>match sg with|()=>bnd (elO b.Links (j2:Int)) λ(e_2:aK)=>bif !(wM e2 e_2)then some false else Z2 ()) (λ(sg:Unit)=>match sg with|()=>some true) ()) ()
end Go.Proofs.YtjdopimopgpagaaGreat
namespace Go.Proofs.YtjdopimopgpagaaGreat
open Go
set_option maxRecDepth 100000
set_option linter.all false
def dw(t:aS)(l:List Int):Option (Int×aS):=
 bnd (bR t (l.length:Int)) λ(af:Int×aS)=>bnd (elO l af.1) λ(e_1:Int)=>some (e_1,af.2)
def fN(t:aS)(n:Int):Option (Bool×aS):=
 bnd (bR t n) λ(af:Int×aS)=>some (decide (af.1=w64 (n-1)),af.2)
def eR(t:aS):Option (Int×aS):=
 bnd (dw t ([(-1:Int),(0:Int),(1:Int),(7:Int),(8:Int),(23:Int),(24:Int),(31:Int),(32:Int),(63:Int),(64:Int),(99:Int),(100:Int),(255:Int),(256:Int),(257:Int),(1000:Int),(1001:Int),(1023:Int),(1024:Int),(1000000:Int),(1000001:Int),(1099511627776:Int),(9223372036854775807:Int),(-9223372036854775808:Int)]:List Int)) λ(af:Int×aS)=>some (af.1,af.2)
def jG(t:aS):Option (Int×aS):=
 bnd (dw t ([(8:Int),(8:Int),(16:Int),(32:Int),(64:Int)]:List Int)) λ(af:Int×aS)=>some (af.1,af.2)
def n4(l:List aK):Option (List aK):=
 bL l 0 (λ(j1:Int) (e1:aK) (Z1:(List aK)→Option _) (dK:(List aK))=>whl (λ(Z2:Int→Option _) (oZ:Int)=>jn (λ(v_1:Bool)=>bif v_1 then Z2 (w64 (oZ+1))else bnd (nw dK (0:Int) oZ) λ(l_1:List aK)=>bnd (dh [] l_1) λ(l_2:List aK)=>bnd (dh l_2 ([e1]:List aK)) λ(l_3:List aK)=>bnd (nw dK oZ (dK.length:Int)) λ(l_4:List aK)=>bnd (dh l_3 l_4) λ(l_5:List aK)=>Z1 l_5) λJ1=>(bif decide (oZ<(dK.length:Int))then bnd (elO dK oZ) λ(e_1:aK)=>(bif decide (e_1.A<e1.A)then J1 true else(bif decide (e_1.A=e1.A)then J1 (decide (e_1.B<e1.B))else J1 false))else J1 false)) (0:Int)) (λ(dK:(List aK))=>some dK) []
def vp(l:List Int):Option aS:=
 jn (λ(l_1:(List Int))=>some (aS.mk l_1 (0:Int))) λJ1=>bif decide (600<(l.length:Int))then bnd (nw l (0:Int) (600:Int)) λ(l_2:List Int)=>J1 l_2 else J1 l
def fH(t:aS)(most:Int)(n:Int):Option (aA×aS):=
 bnd (ef t (1:Int) most) λ(af:Int×aS)=>chk (decide ((af.1+1)≤9223372036854775807))<|fV ((af.1+1)-(1:Int)).toNat (1:Int) (λ(j1:Int) (Z1:(List bh)→Option _) (m_1:(List bh))=>bnd (dh m_1 ([(bh.mk (j1:Int) true)]:List bh)) λ(l_1:List bh)=>Z1 l_1) (λ(j1:Int) (m_1:(List bh))=>bnd (dw af.2 ([(1:Int),(2:Int),(2:Int),(5:Int)]:List Int)) λ(aD:Int×aS)=>chk (decide ((af.1+1)≤9223372036854775807))<|fV ((af.1+1)-(2:Int)).toNat (2:Int) (λ(j2:Int) (Z2:((List aK)×(List Int)×Int)→Option _) (sg:(List aK)×(List Int)×Int)=>match sg with|(m_2,m_3,m_4)=>bnd (ef (aS.mk m_3 m_4) (1:Int) (w64 ((j2:Int)-(1:Int)))) λ(aP:Int×aS)=>bnd (fN aP.2 (9:Int)) λ(bt:Bool×aS)=>chk (decide ((j2:Int)≤9223372036854775807))<|fV ((j2:Int)-(1:Int)).toNat (1:Int) (λ(j3:Int) (Z3:((List aK)×(List Int)×Int)→Option _) (sg:(List aK)×(List Int)×Int)=>match sg with|(m_5,m_6,m_7)=>jn (λ(sg:(List Int)×Int×(List aK))=>match sg with|(m_8,m_9,gT)=>Z3 (gT,m_8,m_9)) λJ1=>jn (λ(sg:Bool×(List Int)×Int)=>match sg with|(v_1,gH,lZ)=>bif v_1 then bnd (ef (aS.mk gH lZ) (1:Int) aD.1) λ(cw:Int×aS)=>bnd (ef cw.2 (1:Int) aD.1) λ(cr:Int×aS)=>bnd (bR cr.2 (4:Int)) λ(dJ:Int×aS)=>bnd (dh m_5 ([(aK.mk (j3:Int) (j2:Int) cw.1 cr.1 dJ.1)]:List aK)) λ(l_2:List aK)=>J1 (dJ.2.L,dJ.2.At,l_2)else J1 (gH,lZ,m_5)) λJ2=>(bif decide ((j3:Int)=aP.1)then(bif !bt.1 then J2 (true,m_6,m_7)else bnd (fN (aS.mk m_6 m_7) (3:Int)) λ(bF:Bool×aS)=>J2 (bF.1,bF.2.L,bF.2.At))else bnd (fN (aS.mk m_6 m_7) (3:Int)) λ(cg:Bool×aS)=>J2 (cg.1,cg.2.L,cg.2.At))) (λ(j3:Int) (sg:(List aK)×(List Int)×Int)=>match sg with|(m_5,m_6,m_7)=>Z2 (m_5,m_6,m_7)) (m_2,bt.2.L,bt.2.At)) (λ(j2:Int) (sg:(List aK)×(List Int)×Int)=>match sg with|(m_2,m_3,m_4)=>bnd (n4 m_2) λ(bK:(List aK))=>jn (λ(sg:(List Int)×Int×(List bh)×(List aK))=>match sg with|(ur,uu,vq,vr)=>some ((aA.mk vq vr),(aS.mk ur uu))) λJ3=>jn (λ(sg:Bool×(List Int)×Int)=>match sg with|(v_2,sv,sx)=>bif v_2 then bnd (bR (aS.mk sv sx) (7:Int)) λ(cn:Int×aS)=>bif decide (cn.1=0)then bnd (dw cn.2 ([(0:Int),(1:Int),(99:Int),(100:Int),(-1:Int)]:List Int)) λ(gY:Int×aS)=>bnd (dh m_1 ([(bh.mk gY.1 false)]:List bh)) λ(l_3:List bh)=>J3 (gY.2.L,gY.2.At,l_3,bK)else bif decide (cn.1=1)then bnd (bR cn.2 (4:Int)) λ(mA:Int×aS)=>bnd (bR mA.2 (4:Int)) λ(lR:Int×aS)=>bnd (dh bK ([(aK.mk mA.1 lR.1 (1:Int) (1:Int) (0:Int))]:List aK)) λ(l_4:List aK)=>J3 (lR.2.L,lR.2.At,m_1,l_4)else bif decide (cn.1=2)then bif decide (0<(bK.length:Int))then bnd (bR cn.2 (bK.length:Int)) λ(lS:Int×aS)=>bnd (eR lS.2) λ(nj:Int×aS)=>bnd (elO bK lS.1) λ(e_1:aK)=>bnd (ic bK lS.1 (aK.mk e_1.A e_1.B nj.1 e_1.iL e_1.bX)) λ(l_5:List aK)=>J3 (nj.2.L,nj.2.At,m_1,l_5)else J3 (cn.2.L,cn.2.At,m_1,bK)else bif decide (cn.1=3)then bif decide (0<(bK.length:Int))then bnd (bR cn.2 (bK.length:Int)) λ(qP:Int×aS)=>bnd (eR qP.2) λ(mB:Int×aS)=>bnd (elO bK qP.1) λ(e_2:aK)=>bnd (ic bK qP.1 (aK.mk e_2.A e_2.B e_2.iX mB.1 e_2.bX)) λ(l_6:List aK)=>J3 (mB.2.L,mB.2.At,m_1,l_6)else J3 (cn.2.L,cn.2.At,m_1,bK)else bif decide (cn.1=4)then bif decide (0<(bK.length:Int))then bnd (bR cn.2 (bK.length:Int)) λ(ady:Int×aS)=>bnd (eR ady.2) λ(vX:Int×aS)=>bnd (elO bK ady.1) λ(e_3:aK)=>bnd (ic bK ady.1 (aK.mk e_3.A e_3.B e_3.iX e_3.iL vX.1)) λ(l_7:List aK)=>J3 (vX.2.L,vX.2.At,m_1,l_7)else J3 (cn.2.L,cn.2.At,m_1,bK)else bif decide (cn.1=5)then bif decide (0<(bK.length:Int))then bnd (bR cn.2 (bK.length:Int)) λ(xL:Int×aS)=>bnd (elO bK xL.1) λ(e_4:aK)=>bnd (dh bK ([e_4]:List aK)) λ(l_8:List aK)=>J3 (xL.2.L,xL.2.At,m_1,l_8)else J3 (cn.2.L,cn.2.At,m_1,bK)else fV ((75:Int)-(50:Int)).toNat (50:Int) (λ(j4:Int) (Z4:(List bh)→Option _) (ry:(List bh))=>bnd (dh ry ([(bh.mk (j4:Int) false)]:List bh)) λ(l_9:List bh)=>Z4 l_9) (λ(j4:Int) (ry:(List bh))=>J3 (cn.2.L,cn.2.At,ry,bK)) m_1 else J3 (sv,sx,m_1,bK)) λJ4=>(bif decide (0<n)then bnd (fN (aS.mk m_3 m_4) n) λ(ei:Bool×aS)=>J4 (ei.1,ei.2.L,ei.2.At)else J4 (false,m_3,m_4))) ([],aD.2.L,aD.2.At)) []
def kU(t:aS)(g:aA):Option (gR×aS):=
 jn (λ(sg:Bool×(List Int)×Int)=>match sg with|(v_1,m_1,m_2)=>bif v_1 then bnd (bR (aS.mk m_1 m_2) (g.Links.length:Int)) λ(aD:Int×aS)=>bnd (elO g.Links aD.1) λ(e_1:aK)=>bnd (bR aD.2 (2:Int)) λ(aP:Int×aS)=>bif decide (aP.1=0)then some ((gR.mk ([(kM.mk e_1.B e_1.A)]:List kM) []),aP.2)else some ((gR.mk ([(kM.mk e_1.A e_1.B)]:List kM) []),aP.2)else bif decide ((g.aH.length:Int)=(0:Int))then some ((gR.mk [] []),(aS.mk m_1 m_2))else bnd (bR (aS.mk m_1 m_2) (g.aH.length:Int)) λ(bt:Int×aS)=>bnd (elO g.aH bt.1) λ(e_2:bh)=>some ((gR.mk [] ([e_2.ID]:List Int)),bt.2)) λJ1=>(bif decide (0<(g.Links.length:Int))then bnd (bR t (3:Int)) λ(af:Int×aS)=>J1 (decide (0<af.1),af.2.L,af.2.At)else J1 (false,t.L,t.At))
end Go.Proofs.YtjdopimopgpagaaGreat
namespace Go.Proofs.YtjdopimopgpagaaGreat
open Go
set_option maxRecDepth 100000
set_option linter.all false
def mC(xa0:Int):Option Bool:=
 some (!decide (xa0=xa0))
def eF(xa0:Int)(y:Int):Option Int:=
 bnd (mC xa0) λ(af:Bool)=>bnd (mC y) λ(aD:Bool)=>bif af then bif aD then some (0:Int)else some (-1:Int)else bif aD then some (1:Int)else bif decide (xa0<y)then some (-1:Int)else bif decide (y<xa0)then some (1:Int)else some (0:Int)
def nB(vals:List Int):Option Int:=
 bL vals 0 (λ(j1:Int) (e1:Int) (Z1:Unit→Option _) (sg:Unit)=>match sg with|()=>bif !decide (e1=0)then some e1 else Z1 ()) (λ(sg:Unit)=>match sg with|()=>some (0:Int)) ()
def cz(xa0:List bh)(target:Int)(cmp:bh→Int→Option Int):Option (Int×Bool):=
 whl (λ(Z1:(Int×Int)→Option _) (sg:Int×Int)=>match sg with|(i_1,j_1)=>bif decide (i_1<j_1)then bnd (elO xa0 (w64 (Int.fdiv (IntKind.wrap .u64 (w64 (i_1+j_1))) (2 ^ min (1:Int).toNat 64)))) λ(e_1:bh)=>bnd (cmp e_1 target) λ(af:Int)=>bif decide (af<0)then Z1 (w64 ((w64 (Int.fdiv (IntKind.wrap .u64 (w64 (i_1+j_1))) (2 ^ min (1:Int).toNat 64)))+(1:Int)),j_1)else Z1 (i_1,w64 (Int.fdiv (IntKind.wrap .u64 (w64 (i_1+j_1))) (2 ^ min (1:Int).toNat 64)))else(bif decide (i_1<(xa0.length:Int))then bnd (elO xa0 i_1) λ(e_2:bh)=>bnd (cmp e_2 target) λ(aD:Int)=>some (i_1,decide (aD=0))else some (i_1,false))) ((0:Int),(xa0.length:Int))
def eM(sa0:List aW)(f:aW→Option Bool):Option Int:=
 bL sa0 0 (λ(j1:Int) (e1:aW) (Z1:Unit→Option _) (sg:Unit)=>match sg with|()=>bnd (f e1) λ(af:Bool)=>bif af then some (j1:Int)else Z1 ()) (λ(sg:Unit)=>match sg with|()=>some (-1:Int)) ()
def dS(sa0:List aR)(f:aR→Option Bool):Option Int:=
 bL sa0 0 (λ(j1:Int) (e1:aR) (Z1:Unit→Option _) (sg:Unit)=>match sg with|()=>bnd (f e1) λ(af:Bool)=>bif af then some (j1:Int)else Z1 ()) (λ(sg:Unit)=>match sg with|()=>some (-1:Int)) ()
def cL(xa0:List aK)(target:aK)(cmp:aK→aK→Option Int):Option (Int×Bool):=
 whl (λ(Z1:(Int×Int)→Option _) (sg:Int×Int)=>match sg with|(i_1,j_1)=>bif decide (i_1<j_1)then bnd (elO xa0 (w64 (Int.fdiv (IntKind.wrap .u64 (w64 (i_1+j_1))) (2 ^ min (1:Int).toNat 64)))) λ(e_1:aK)=>bnd (cmp e_1 target) λ(af:Int)=>bif decide (af<0)then Z1 (w64 ((w64 (Int.fdiv (IntKind.wrap .u64 (w64 (i_1+j_1))) (2 ^ min (1:Int).toNat 64)))+(1:Int)),j_1)else Z1 (i_1,w64 (Int.fdiv (IntKind.wrap .u64 (w64 (i_1+j_1))) (2 ^ min (1:Int).toNat 64)))else(bif decide (i_1<(xa0.length:Int))then bnd (elO xa0 i_1) λ(e_2:aK)=>bnd (cmp e_2 target) λ(aD:Int)=>some (i_1,decide (aD=0))else some (i_1,false))) ((0:Int),(xa0.length:Int))
def l6(sa0:List Int)(v:Int):Option Int:=
 bL sa0 0 (λ(j1:Int) (e1:Int) (Z1:Unit→Option _) (sg:Unit)=>match sg with|()=>bif decide (v=e1)then some (j1:Int)else Z1 ()) (λ(sg:Unit)=>match sg with|()=>some (-1:Int)) ()
def dZ(sa0:List bh)(f:bh→Option Bool):Option Int:=
 bL sa0 0 (λ(j1:Int) (e1:bh) (Z1:Unit→Option _) (sg:Unit)=>match sg with|()=>bnd (f e1) λ(af:Bool)=>bif af then some (j1:Int)else Z1 ()) (λ(sg:Unit)=>match sg with|()=>some (-1:Int)) ()
def eN(sa0:List aK)(f:aK→Option Bool):Option Int:=
 bL sa0 0 (λ(j1:Int) (e1:aK) (Z1:Unit→Option _) (sg:Unit)=>match sg with|()=>bnd (f e1) λ(af:Bool)=>bif af then some (j1:Int)else Z1 ()) (λ(sg:Unit)=>match sg with|()=>some (-1:Int)) ()
def ec(sa0:List ai)(f:ai→Option Bool):Option Int:=
 bL sa0 0 (λ(j1:Int) (e1:ai) (Z1:Unit→Option _) (sg:Unit)=>match sg with|()=>bnd (f e1) λ(af:Bool)=>bif af then some (j1:Int)else Z1 ()) (λ(sg:Unit)=>match sg with|()=>some (-1:Int)) ()
def fO(sa0:List gy)(f:gy→Option Bool):Option Int:=
 bL sa0 0 (λ(j1:Int) (e1:gy) (Z1:Unit→Option _) (sg:Unit)=>match sg with|()=>bnd (f e1) λ(af:Bool)=>bif af then some (j1:Int)else Z1 ()) (λ(sg:Unit)=>match sg with|()=>some (-1:Int)) ()
def cR(xa0:List ai)(target:Int)(cmp:ai→Int→Option Int):Option (Int×Bool):=
 whl (λ(Z1:(Int×Int)→Option _) (sg:Int×Int)=>match sg with|(i_1,j_1)=>bif decide (i_1<j_1)then bnd (elO xa0 (w64 (Int.fdiv (IntKind.wrap .u64 (w64 (i_1+j_1))) (2 ^ min (1:Int).toNat 64)))) λ(e_1:ai)=>bnd (cmp e_1 target) λ(af:Int)=>bif decide (af<0)then Z1 (w64 ((w64 (Int.fdiv (IntKind.wrap .u64 (w64 (i_1+j_1))) (2 ^ min (1:Int).toNat 64)))+(1:Int)),j_1)else Z1 (i_1,w64 (Int.fdiv (IntKind.wrap .u64 (w64 (i_1+j_1))) (2 ^ min (1:Int).toNat 64)))else(bif decide (i_1<(xa0.length:Int))then bnd (elO xa0 i_1) λ(e_2:ai)=>bnd (cmp e_2 target) λ(aD:Int)=>some (i_1,decide (aD=0))else some (i_1,false))) ((0:Int),(xa0.length:Int))
def fP(sa0:List Int)(v:Int):Option Bool:=
 bnd (l6 sa0 v) λ(af:Int)=>some (decide (0≤af))
def dy(sa0:List bh)(f:bh→Option Bool):Option Bool:=
 bnd (dZ sa0 f) λ(af:Int)=>some (decide (0≤af))
def cK(sa0:List aK)(f:aK→Option Bool):Option Bool:=
 bnd (eN sa0 f) λ(af:Int)=>some (decide (0≤af))
def dz(sa0:List ai)(f:ai→Option Bool):Option Bool:=
 bnd (ec sa0 f) λ(af:Int)=>some (decide (0≤af))
def fB(sa0:List gy)(f:gy→Option Bool):Option Bool:=
 bnd (fO sa0 f) λ(af:Int)=>some (decide (0≤af))
def jj(n:Int)(least:Int)(most:Int):Option Bool:=
 some ((decide (least≤n))&&(decide (n≤most)))
def iF(a:aK)(b:aK):Option Int:=
 bnd (eF a.A b.A) λ(af:Int)=>bnd (eF a.B b.B) λ(aD:Int)=>bnd (nB ([af,aD]:List Int)) λ(aP:Int)=>some aP
def ko(ra0:bh)(id:Int):Option Int:=
 bnd (eF ra0.ID id) λ(af:Int)=>some af
def mD(ra0:bh):Option Bool:=
 bnd (jj ra0.ID (1:Int) (99:Int)) λ(af:Bool)=>some (!af)
def jZ(l:aK):Option Bool:=
 bnd (jj l.iX (1:Int) (1000:Int)) λ(af:Bool)=>(bif !af then some true else bnd (jj l.iL (1:Int) (1000:Int)) λ(aD:Bool)=>(bif !aD then some true else bnd (jj l.bX (0:Int) (1000:Int)) λ(aP:Bool)=>some (!aP)))
def iG(id:Int)(c_0:aA):Option Bool:=
 bnd (cz c_0.aH id ko) λ(af:Int×Bool)=>some (!af.2)
def mE(l:aK)(c_0:aA):Option Bool:=
 bnd (iG l.A c_0) λ(af:Bool)=>(bif af then some true else bnd (iG l.B c_0) λ(aD:Bool)=>some aD)
def mF(l:aK):Option Bool:=
 some (decide (l.B≤l.A))
def gz(t:aA):Option Int:=
 bif ((decide (24<(t.aH.length:Int)))||(decide (60<(t.Links.length:Int))))then some (3:Int)else bnd (dy t.aH mD) λ(af:Bool)=>bif af then some (2:Int)else bL t.aH 0 (λ(j1:Int) (e1:bh) (Z1:Unit→Option _) (sg:Unit)=>match sg with|()=>jn (λ(v_1:Bool)=>bif v_1 then some (25:Int)else Z1 ()) λJ1=>(bif decide (0<(j1:Int))then bnd (elO t.aH (w64 ((j1:Int)-(1:Int)))) λ(e_1:bh)=>J1 (decide (e1.ID≤e_1.ID))else J1 false)) (λ(sg:Unit)=>match sg with|()=>bnd (cK t.Links jZ) λ(aD:Bool)=>bif aD then some (2:Int)else bnd (cK t.Links (λ(y0:aK)=>mE y0 t)) λ(aP:Bool)=>bif aP then some (4:Int)else bnd (cK t.Links mF) λ(bt:Bool)=>bif bt then some (8:Int)else bL t.Links 0 (λ(j2:Int) (e2:aK) (Z2:Unit→Option _) (sg:Unit)=>match sg with|()=>jn (λ(v_2:Bool)=>bif v_2 then some (25:Int)else Z2 ()) λJ2=>(bif decide (0<(j2:Int))then bnd (elO t.Links (w64 ((j2:Int)-(1:Int)))) λ(e_2:aK)=>bnd (iF e_2 e2) λ(bF:Int)=>J2 (decide (0≤bF))else J2 false)) (λ(sg:Unit)=>match sg with|()=>some (0:Int)) ()) ()
def gA(t:aA):Option Bool:=
 bnd (gz t) λ(af:Int)=>some (decide (af=0))
def kr(t:aA)(aN:Int):Option (bh×Bool):=
 bnd (cz t.aH aN ko) λ(af:Int×Bool)=>bif !af.2 then some ((bh.mk (0:Int) false),false)else bnd (elO t.aH af.1) λ(e_1:bh)=>some (e_1,true)
def iH(t:aA)(aN:Int):Option Bool:=
 bnd (kr t aN) λ(af:bh×Bool)=>bnd (gA t) λ(aD:Bool)=>(bif aD then some af.2 else some false)
def j7(t:aA)(aN:Int):Option Bool:=
 bnd (kr t aN) λ(af:bh×Bool)=>bnd (gA t) λ(aD:Bool)=>(bif aD then some af.1.aX else some false)
def ja(t:aA)(eG:Int)(jY:Int):Option (Int×Bool):=
 bnd (gA t) λ(af:Bool)=>bif !af then some ((0:Int),false)else bnd (cL t.Links (aK.mk (if jY<eG then jY else eG) (if jY>eG then jY else eG) (0:Int) (0:Int) (0:Int)) iF) λ(aD:Int×Bool)=>bif !aD.2 then some ((0:Int),false)else bif decide (eG<jY)then bnd (elO t.Links aD.1) λ(e_1:aK)=>some (e_1.iX,true)else bnd (elO t.Links aD.1) λ(e_2:aK)=>some (e_2.iL,true)
end Go.Proofs.YtjdopimopgpagaaGreat
namespace Go.Proofs.YtjdopimopgpagaaGreat
open Go
set_option maxRecDepth 100000
set_option linter.all false
def qo(xa0:Int):Option Int:=
 jn (λ(sg:Int×Int)=>match sg with|(af,n_1)=>jn (λ(sg:Int×Int)=>match sg with|(aD,n_2)=>jn (λ(sg:Int×Int)=>match sg with|(aP,n_3)=>bnd (ixS (⟨#[0,1,2,2,3,3,3,3,4,4,4,4,4,4,4,4,5,5,5,5,5,5,5,5,5,5,5,5,5,5,5,5,6,6,6,6,6,6,6,6,6,6,6,6,6,6,6,6,6,6,6,6,6,6,6,6,6,6,6,6,6,6,6,6,7,7,7,7,7,7,7,7,7,7,7,7,7,7,7,7,7,7,7,7,7,7,7,7,7,7,7,7,7,7,7,7,7,7,7,7,7,7,7,7,7,7,7,7,7,7,7,7,7,7,7,7,7,7,7,7,7,7,7,7,7,7,7,7,8,8,8,8,8,8,8,8,8,8,8,8,8,8,8,8,8,8,8,8,8,8,8,8,8,8,8,8,8,8,8,8,8,8,8,8,8,8,8,8,8,8,8,8,8,8,8,8,8,8,8,8,8,8,8,8,8,8,8,8,8,8,8,8,8,8,8,8,8,8,8,8,8,8,8,8,8,8,8,8,8,8,8,8,8,8,8,8,8,8,8,8,8,8,8,8,8,8,8,8,8,8,8,8,8,8,8,8,8,8,8,8,8,8,8,8,8,8,8,8,8,8,8,8,8,8,8,8]⟩:ByteArray) (IntKind.wrap .u8 aP)) λ(b_1:UInt8)=>some (w64 (n_3+(w64 (b_1.toNat:Int))))) λJ3=>bif decide (256≤aD)then J3 (Int.fdiv aD (2 ^ min (8:Int).toNat 64),w64 (n_2+8))else J3 (aD,n_2)) λJ2=>bif decide (65536≤af)then J2 (Int.fdiv af (2 ^ min (16:Int).toNat 64),w64 (n_1+16))else J2 (af,n_1)) λJ1=>bif decide (4294967296≤xa0)then J1 (Int.fdiv xa0 (2 ^ min (32:Int).toNat 64),(32:Int))else J1 (xa0,(0:Int))
def sy(xa0:Int):Option Int:=
 bnd (qo xa0) λ(af:Int)=>some af
def gn: Option Unit:=
 whl (λ(Z1:Unit→Option _) (sg:Unit)=>match sg with|()=>some ()) ()
def iQ(limit:Int):Option Unit:=
 whl (λ(Z1:Unit→Option _) (sg:Unit)=>match sg with|()=>bnd (gn) λ(af:Unit)=>some ()) ()
def oE: Option Unit:=
 bnd (sy (0:Int)) λ(af:Int)=>bnd (iQ af) λ(aD:Unit)=>some ()
end Go.Proofs.YtjdopimopgpagaaGreat
namespace Go.Proofs.YtjdopimopgpagaaGreat
open Go
set_option maxRecDepth 100000
set_option linter.all false
def ku(t:aA)(aN:Int):Option (List Int):=
 bL t.Links 0 (λ(j1:Int) (e1:aK) (Z1:(List Int)→Option _) (dK:(List Int))=>jn (λ(qc:(List Int))=>Z1 qc) λJ1=>bif decide (aN=e1.A)then bnd (dh dK ([e1.B]:List Int)) λ(l_1:List Int)=>J1 l_1 else bif decide (aN=e1.B)then bnd (dh dK ([e1.A]:List Int)) λ(l_2:List Int)=>J1 l_2 else J1 dK) (λ(dK:(List Int))=>chk (decide (dK.length<4611686018427387904))<|some (kZ dK)) []
def lg:Nat→Int→(List Int)→(List Int)→(List bh)→(List aK)→Option (List Int)
 |0,_,_,_,_,_=>none
 |n_+1,ra0,wB,vt,vu,vv=>jn (λ(v_1:Bool)=>bif v_1 then some wB else bnd (dh wB ([ra0]:List Int)) λ(l_1:List Int)=>bnd (ku (aA.mk vu vv) ra0) λ(aP:(List Int))=>bL aP 0 (λ(j1:Int) (e1:Int) (Z1:(List Int)→Option _) (m_1:(List Int))=>bnd (lg n_ e1 m_1 vt vu vv) λ(bt:(List Int))=>Z1 bt) (λ(m_1:(List Int))=>some m_1) l_1) λJ1=>bnd (fP wB ra0) λ(af:Bool)=>(bif af then J1 true else bnd (fP vt ra0) λ(aD:Bool)=>J1 aD)
def pJ(t:aA)(eG:Int)(closed:List Int):Option (List Int):=
 bnd (lg fuel eG [] closed t.aH t.Links) λ(af:(List Int))=>chk (decide (af.length<4611686018427387904))<|some (kZ af)
def nE(t:aA)(aN:Int):Option (List Int):=
 bnd (gA t) λ(af:Bool)=>bif !af then some []else bnd (ku t aN) λ(aD:(List Int))=>some aD
def oe(t:aA)(a:Int)(b:Int):Option Bool:=
 bnd (iH t a) λ(af:Bool)=>(bif af then bnd (iH t b) λ(aD:Bool)=>(bif aD then bnd (pJ t a []) λ(aP:(List Int))=>bnd (fP aP b) λ(bt:Bool)=>some bt else some false)else some false)
end Go.Proofs.YtjdopimopgpagaaGreat
namespace Go.Proofs.YtjdopimopgpagaaGreat
open Go
set_option maxRecDepth 100000
set_option linter.all false
def lU(n:Int):Option Bool:=
 some ((decide (n=8))||((decide (n=16))||((decide (n=32))||(decide (n=64)))))
def fT(n:Int)(low:Int)(high:Int):Option Bool:=
 some ((decide (low≤n))&&(decide (n≤high)))
def ia(l:List bH):Option Bool:=
 bif decide (8<(l.length:Int))then some false else bL l 0 (λ(j1:Int) (e1:bH) (Z1:Unit→Option _) (sg:Unit)=>match sg with|()=>jn (λ(v_1:Bool)=>bif v_1 then some false else Z1 ()) λJ1=>bnd (fT e1.b9 (0:Int) (7:Int)) λ(af:Bool)=>(bif !af then J1 true else bnd (fT e1.ID (1:Int) (256:Int)) λ(aD:Bool)=>(bif !aD then J1 true else bnd (lU e1.Length) λ(aP:Bool)=>(bif !aP then J1 true else(bif decide (0<(j1:Int))then bnd (elO l (w64 ((j1:Int)-(1:Int)))) λ(e_1:bH)=>J1 (decide (e1.b9≤e_1.b9))else J1 false))))) (λ(sg:Unit)=>match sg with|()=>some true) ()
def gF(a:ai):Option Bool:=
 jn (λ(v_1:Bool)=>bif v_1 then some false else bL a.Links 0 (λ(j1:Int) (e1:bA) (Z1:Unit→Option _) (sg:Unit)=>match sg with|()=>jn (λ(v_2:Bool)=>bif v_2 then some false else Z1 ()) λJ2=>bnd (fT e1.bx (1:Int) (99:Int)) λ(aP:Bool)=>(bif !aP then J2 true else(bif decide (e1.bx=a.ah)then J2 true else bnd (fT e1.kN (1:Int) (1000:Int)) λ(bt:Bool)=>(bif !bt then J2 true else bnd (fT e1.bX (0:Int) (1000:Int)) λ(bF:Bool)=>(bif !bF then J2 true else(bif decide (0<(j1:Int))then bnd (elO a.Links (w64 ((j1:Int)-(1:Int)))) λ(e_1:bA)=>J2 (decide (e1.bx≤e_1.bx))else J2 false)))))) (λ(sg:Unit)=>match sg with|()=>bnd (ia a.Claims) λ(cg:Bool)=>some cg) ()) λJ1=>bnd (fT a.ah (1:Int) (99:Int)) λ(af:Bool)=>(bif !af then J1 true else bnd (fT a.Seq (1:Int) (1000000:Int)) λ(aD:Bool)=>(bif !aD then J1 true else J1 (decide (23<(a.Links.length:Int)))))
def lK(a:ai)(b:ai):Option Bool:=
 bif ((!decide (a.ah=b.ah))||((!decide (a.Seq=b.Seq))||((!(a.aX==b.aX))||((!decide ((a.Links.length:Int)=(b.Links.length:Int)))||(!decide ((a.Claims.length:Int)=(b.Claims.length:Int)))))))then some false else bL a.Links 0 (λ(j1:Int) (e1:bA) (Z1:Unit→Option _) (sg:Unit)=>match sg with|()=>bnd (elO b.Links (j1:Int)) λ(e_1:bA)=>bif !(iw e1 e_1)then some false else Z1 ()) (λ(sg:Unit)=>match sg with|()=>bL a.Claims 0 (λ(j2:Int) (e2:bH) (Z2:Unit→Option _) (sg:Unit)=>match sg with|()=>bnd (elO b.Claims (j2:Int)) λ(e_2:bH)=>bif !(fZ e2 e_2)then some false else Z2 ()) (λ(sg:Unit)=>match sg with|()=>some true) ()) ()
end Go.Proofs.YtjdopimopgpagaaGreat
namespace Go.Proofs.YtjdopimopgpagaaGreat
open Go
set_option maxRecDepth 100000
set_option linter.all false
def ij(d:aG):Option Int:=
 bif decide (99<(d.aC.length:Int))then some (3:Int)else bL d.aC 0 (λ(j1:Int) (e1:ai) (Z1:Unit→Option _) (sg:Unit)=>match sg with|()=>bnd (gF e1) λ(af:Bool)=>bif !af then some (1:Int)else Z1 ()) (λ(sg:Unit)=>match sg with|()=>bL (List.drop 1 d.aC) 1 (λ(j2:Int) (e2:ai) (Z2:Unit→Option _) (sg:Unit)=>match sg with|()=>bnd (elO d.aC (w64 ((j2:Int)-(1:Int)))) λ(e_1:ai)=>bif decide (e2.ah≤e_1.ah)then some (25:Int)else Z2 ()) (λ(sg:Unit)=>match sg with|()=>some (0:Int)) ()) ()
def nF(a:aG)(b:aG):Option Bool:=
 bif !decide ((a.aC.length:Int)=(b.aC.length:Int))then some false else bL a.aC 0 (λ(j1:Int) (e1:ai) (Z1:Unit→Option _) (sg:Unit)=>match sg with|()=>bnd (elO b.aC (j1:Int)) λ(e_1:ai)=>bnd (lK e1 e_1) λ(af:Bool)=>bif !af then some false else Z1 ()) (λ(sg:Unit)=>match sg with|()=>some true) ()
def nG(d:aG)(aN:Int):Option (ai×Bool):=
 bL d.aC 0 (λ(j1:Int) (e1:ai) (Z1:Unit→Option _) (sg:Unit)=>match sg with|()=>bif decide (e1.ah=aN)then some (e1,true)else Z1 ()) (λ(sg:Unit)=>match sg with|()=>some ((ai.mk (0:Int) (0:Int) false [] []),false)) ()
end Go.Proofs.YtjdopimopgpagaaGreat
namespace Go.Proofs.YtjdopimopgpagaaGreat
open Go
set_option maxRecDepth 100000
set_option linter.all false
def jb(n:Int):Option Bool:=
 some ((decide (n=8))||((decide (n=16))||((decide (n=32))||(decide (n=64)))))
def iS(n:Int)(least:Int)(most:Int):Option Bool:=
 some ((decide (least≤n))&&(decide (n≤most)))
def gJ(a:ai):Option Bool:=
 jn (λ(v_1:Bool)=>bif v_1 then some false else bL a.Links 0 (λ(j1:Int) (e1:bA) (Z1:Unit→Option _) (sg:Unit)=>match sg with|()=>jn (λ(v_2:Bool)=>bif v_2 then some false else Z1 ()) λJ2=>bnd (iS e1.bx (1:Int) (99:Int)) λ(aP:Bool)=>(bif !aP then J2 true else(bif decide (e1.bx=a.ah)then J2 true else bnd (iS e1.kN (1:Int) (1000:Int)) λ(bt:Bool)=>(bif !bt then J2 true else bnd (iS e1.bX (0:Int) (1000:Int)) λ(bF:Bool)=>(bif !bF then J2 true else(bif decide (0<(j1:Int))then bnd (elO a.Links (w64 ((j1:Int)-(1:Int)))) λ(e_1:bA)=>J2 (decide (e1.bx≤e_1.bx))else J2 false)))))) (λ(sg:Unit)=>match sg with|()=>bL a.Claims 0 (λ(j2:Int) (e2:bH) (Z2:Unit→Option _) (sg:Unit)=>match sg with|()=>jn (λ(v_3:Bool)=>bif v_3 then some false else Z2 ()) λJ3=>bnd (iS e2.b9 (0:Int) (7:Int)) λ(cg:Bool)=>(bif !cg then J3 true else bnd (iS e2.ID (1:Int) (256:Int)) λ(cw:Bool)=>(bif !cw then J3 true else bnd (jb e2.Length) λ(cr:Bool)=>(bif !cr then J3 true else(bif decide (0<(j2:Int))then bnd (elO a.Claims (w64 ((j2:Int)-(1:Int)))) λ(e_2:bH)=>J3 (decide (e2.b9≤e_2.b9))else J3 false))))) (λ(sg:Unit)=>match sg with|()=>some true) ()) ()) λJ1=>bnd (iS a.ah (1:Int) (99:Int)) λ(af:Bool)=>(bif !af then J1 true else bnd (iS a.Seq (1:Int) (1000000:Int)) λ(aD:Bool)=>(bif !aD then J1 true else(bif decide (23<(a.Links.length:Int))then J1 true else J1 (decide (8<(a.Claims.length:Int))))))
def gB(a:List bA)(b:List bA):Option Bool:=
 bif !decide ((a.length:Int)=(b.length:Int))then some false else bL a 0 (λ(j1:Int) (e1:bA) (Z1:Unit→Option _) (sg:Unit)=>match sg with|()=>bnd (elO b (j1:Int)) λ(e_1:bA)=>bif !(iw e1 e_1)then some false else Z1 ()) (λ(sg:Unit)=>match sg with|()=>some true) ()
def gC(a:List bH)(b:List bH):Option Bool:=
 bif !decide ((a.length:Int)=(b.length:Int))then some false else bL a 0 (λ(j1:Int) (e1:bH) (Z1:Unit→Option _) (sg:Unit)=>match sg with|()=>bnd (elO b (j1:Int)) λ(e_1:bH)=>bif !(fZ e1 e_1)then some false else Z1 ()) (λ(sg:Unit)=>match sg with|()=>some true) ()
def dD(s1:List ai)(s2:List ai)(eq:ai→ai→Option Bool):Option Bool:=
 bif !decide ((s1.length:Int)=(s2.length:Int))then some false else bL s1 0 (λ(j1:Int) (e1:ai) (Z1:Unit→Option _) (sg:Unit)=>match sg with|()=>bnd (elO s2 (j1:Int)) λ(e_1:ai)=>bnd (eq e1 e_1) λ(af:Bool)=>bif !af then some false else Z1 ()) (λ(sg:Unit)=>match sg with|()=>some true) ()
def jk(a:ai)(b:ai):Option Bool:=
 (bif decide (a.ah=b.ah)then(bif decide (a.Seq=b.Seq)then(bif (a.aX==b.aX)then bnd (gB a.Links b.Links) λ(af:Bool)=>(bif af then bnd (gC a.Claims b.Claims) λ(aD:Bool)=>some aD else some false)else some false)else some false)else some false)
def dV(sa0:List aK):Option (List aK):=
 bnd (dh ([]:List aK) sa0) λ(l_1:List aK)=>some l_1
def kG: Option (List aK):=
 bnd (dh ([]:List aK) []) λ(l_1:List aK)=>some l_1
def cV(s:List aK):Option (List aK):=dV s
def dO(sa0:List bH):Option (List bH):=
 bnd (dh ([]:List bH) sa0) λ(l_1:List bH)=>some l_1
def jO: Option (List bH):=
 bnd (dh ([]:List bH) []) λ(l_1:List bH)=>some l_1
def dg(s:List bH):Option (List bH):=dO s
def dP(sa0:List bA):Option (List bA):=
 bnd (dh ([]:List bA) sa0) λ(l_1:List bA)=>some l_1
def jP: Option (List bA):=
 bnd (dh ([]:List bA) []) λ(l_1:List bA)=>some l_1
def dL(s:List bA):Option (List bA):=dP s
def fu(a:ai):Option ai:=
 bnd (dL a.Links) λ(af:(List bA))=>bnd (dg a.Claims) λ(aD:(List bH))=>some (ai.mk a.ah a.Seq a.aX af aD)
def mH(a:ai):Option Bool:=
 bnd (gJ a) λ(af:Bool)=>some (!af)
def fL(d:aG):Option Int:=
 bif decide (99<(d.aC.length:Int))then some (3:Int)else bnd (dz d.aC mH) λ(af:Bool)=>bif af then some (1:Int)else bL d.aC 0 (λ(j1:Int) (e1:ai) (Z1:Unit→Option _) (sg:Unit)=>match sg with|()=>jn (λ(v_1:Bool)=>bif v_1 then some (25:Int)else Z1 ()) λJ1=>(bif decide (0<(j1:Int))then bnd (elO d.aC (w64 ((j1:Int)-(1:Int)))) λ(e_1:ai)=>J1 (decide (e1.ah≤e_1.ah))else J1 false)) (λ(sg:Unit)=>match sg with|()=>some (0:Int)) ()
def sB(a:aG)(b:aG):Option Bool:=
 bnd (dD a.aC b.aC jk) λ(af:Bool)=>some af
def kH(d:aG)(aN:Int):Option (ai×Bool):=
 bL d.aC 0 (λ(j1:Int) (e1:ai) (Z1:Unit→Option _) (sg:Unit)=>match sg with|()=>bif decide (e1.ah=aN)then bnd (fu e1) λ(af:ai)=>some (af,true)else Z1 ()) (λ(sg:Unit)=>match sg with|()=>some ((ai.mk (0:Int) (0:Int) false [] []),false)) ()
end Go.Proofs.YtjdopimopgpagaaGreat
namespace Go.Proofs.YtjdopimopgpagaaGreat
open Go
set_option maxRecDepth 100000
set_option linter.all false
def jJ(t:aS)(aN:Int)(n:Int):Option (ai×aS):=
 bnd (dw t ([(1:Int),(1:Int),(2:Int),(3:Int),(3:Int),(500000:Int),(1000000:Int)]:List Int)) λ(af:Int×aS)=>bnd (bR af.2 (3:Int)) λ(aD:Int×aS)=>fV ((7:Int)-(1:Int)).toNat (1:Int) (λ(j1:Int) (Z1:((List bA)×(List Int)×Int)→Option _) (sg:(List bA)×(List Int)×Int)=>match sg with|(m_1,m_2,m_3)=>jn (λ(sg:(List Int)×Int×(List bA))=>match sg with|(m_4,m_5,m_6)=>Z1 (m_6,m_4,m_5)) λJ1=>jn (λ(sg:Bool×(List Int)×Int)=>match sg with|(v_1,m_7,m_8)=>bif v_1 then bnd (ef (aS.mk m_7 m_8) (1:Int) (3:Int)) λ(bt:Int×aS)=>bnd (bR bt.2 (3:Int)) λ(bF:Int×aS)=>bnd (dh m_1 ([(bA.mk (j1:Int) bt.1 bF.1)]:List bA)) λ(l_1:List bA)=>J1 (bF.2.L,bF.2.At,l_1)else J1 (m_7,m_8,m_1)) λJ2=>(bif !decide ((j1:Int)=aN)then bnd (bR (aS.mk m_2 m_3) (2:Int)) λ(aP:Int×aS)=>J2 (decide (aP.1=0),aP.2.L,aP.2.At)else J2 (false,m_2,m_3))) (λ(j1:Int) (sg:(List bA)×(List Int)×Int)=>match sg with|(m_1,m_2,m_3)=>fV ((2:Int)-(0:Int)).toNat (0:Int) (λ(j2:Int) (Z2:((List bH)×(List Int)×Int)→Option _) (sg:(List bH)×(List Int)×Int)=>match sg with|(m_9,gT,gH)=>jn (λ(sg:(List Int)×Int×(List bH))=>match sg with|(lZ,ur,uu)=>Z2 (uu,lZ,ur)) λJ3=>bnd (bR (aS.mk gT gH) (2:Int)) λ(cg:Int×aS)=>bif decide (cg.1=0)then bnd (ef cg.2 (1:Int) (9:Int)) λ(cw:Int×aS)=>bnd (jG cw.2) λ(cr:Int×aS)=>bnd (dh m_9 ([(bH.mk (j2:Int) cw.1 cr.1)]:List bH)) λ(l_2:List bH)=>J3 (cr.2.L,cr.2.At,l_2)else J3 (cg.2.L,cg.2.At,m_9)) (λ(j2:Int) (sg:(List bH)×(List Int)×Int)=>match sg with|(m_9,gT,gH)=>jn (λ(sg:(List Int)×Int×Int×Int×(List bA)×(List bH))=>match sg with|(vq,vr,sv,sx,ry,ad9)=>some ((ai.mk sv sx (decide (0<aD.1)) ry ad9),(aS.mk vq vr))) λJ4=>jn (λ(sg:Bool×(List Int)×Int)=>match sg with|(v_2,aaV,aaW)=>bif v_2 then bnd (bR (aS.mk aaV aaW) (6:Int)) λ(bK:Int×aS)=>bif decide (bK.1=0)then bnd (eR bK.2) λ(ei:Int×aS)=>J4 (ei.2.L,ei.2.At,ei.1,af.1,m_1,m_9)else bif decide (bK.1=1)then bnd (eR bK.2) λ(cn:Int×aS)=>J4 (cn.2.L,cn.2.At,aN,cn.1,m_1,m_9)else bif decide (bK.1=2)then bnd (dw bK.2 ([(0:Int),aN,(6:Int),(99:Int),(100:Int)]:List Int)) λ(gY:Int×aS)=>bnd (dw gY.2 ([(0:Int),(1:Int),(1000:Int),(1001:Int)]:List Int)) λ(mA:Int×aS)=>bnd (dw mA.2 ([(-1:Int),(0:Int),(1000:Int),(1001:Int)]:List Int)) λ(lR:Int×aS)=>bnd (dh m_1 ([(bA.mk gY.1 mA.1 lR.1)]:List bA)) λ(l_3:List bA)=>J4 (lR.2.L,lR.2.At,aN,af.1,l_3,m_9)else bif decide (bK.1=3)then bnd (dw bK.2 ([(-1:Int),(0:Int),(7:Int),(8:Int)]:List Int)) λ(lS:Int×aS)=>bnd (dw lS.2 ([(0:Int),(1:Int),(256:Int),(257:Int)]:List Int)) λ(nj:Int×aS)=>bnd (dw nj.2 ([(0:Int),(8:Int),(9:Int),(64:Int)]:List Int)) λ(qP:Int×aS)=>bnd (dh m_9 ([(bH.mk lS.1 nj.1 qP.1)]:List bH)) λ(l_4:List bH)=>J4 (qP.2.L,qP.2.At,aN,af.1,m_1,l_4)else bif decide (bK.1=4)then fV ((54:Int)-(30:Int)).toNat (30:Int) (λ(j3:Int) (Z3:(List bA)→Option _) (xO:(List bA))=>bnd (dh xO ([(bA.mk (j3:Int) (1:Int) (0:Int))]:List bA)) λ(l_5:List bA)=>Z3 l_5) (λ(j3:Int) (xO:(List bA))=>J4 (bK.2.L,bK.2.At,aN,af.1,xO,m_9)) m_1 else bif decide (0<(m_1.length:Int))then bnd (eR bK.2) λ(mB:Int×aS)=>bnd (elO m_1 (0:Int)) λ(e_1:bA)=>bnd (ic m_1 (0:Int) (bA.mk e_1.bx mB.1 e_1.bX)) λ(l_6:List bA)=>J4 (mB.2.L,mB.2.At,aN,af.1,l_6,m_9)else J4 (bK.2.L,bK.2.At,aN,af.1,m_1,m_9)else J4 (aaV,aaW,aN,af.1,m_1,m_9)) λJ5=>(bif decide (0<n)then bnd (fN (aS.mk gT gH) n) λ(dJ:Bool×aS)=>J5 (dJ.1,dJ.2.L,dJ.2.At)else J5 (false,gT,gH))) ([],m_2,m_3)) ([],aD.2.L,aD.2.At)
def iI(t:aS)(n:Int):Option (aG×aS):=
 fV ((7:Int)-(1:Int)).toNat (1:Int) (λ(j1:Int) (Z1:((List ai)×(List Int)×Int)→Option _) (sg:(List ai)×(List Int)×Int)=>match sg with|(m_1,m_2,m_3)=>jn (λ(sg:(List Int)×Int×(List ai))=>match sg with|(m_4,m_5,m_6)=>Z1 (m_6,m_4,m_5)) λJ1=>bnd (bR (aS.mk m_2 m_3) (4:Int)) λ(af:Int×aS)=>bif decide (0<af.1)then bnd (jJ af.2 (j1:Int) (0:Int)) λ(aD:ai×aS)=>bnd (dh m_1 ([aD.1]:List ai)) λ(l_1:List ai)=>J1 (aD.2.L,aD.2.At,l_1)else J1 (af.2.L,af.2.At,m_1)) (λ(j1:Int) (sg:(List ai)×(List Int)×Int)=>match sg with|(m_1,m_2,m_3)=>jn (λ(sg:(List Int)×Int×(List ai))=>match sg with|(m_7,m_8,m_9)=>some ((aG.mk m_9),(aS.mk m_7 m_8))) λJ2=>jn (λ(sg:Bool×(List Int)×Int)=>match sg with|(v_1,gT,gH)=>bif v_1 then bnd (dw (aS.mk gT gH) ([(1:Int),(6:Int),(7:Int)]:List Int)) λ(bt:Int×aS)=>bnd (jJ bt.2 bt.1 (2:Int)) λ(bF:ai×aS)=>bnd (dh m_1 ([bF.1]:List ai)) λ(l_2:List ai)=>J2 (bF.2.L,bF.2.At,l_2)else J2 (gT,gH,m_1)) λJ3=>(bif decide (0<n)then bnd (fN (aS.mk m_2 m_3) n) λ(aP:Bool×aS)=>J3 (aP.1,aP.2.L,aP.2.At)else J3 (false,m_2,m_3))) ([],t.L,t.At)
end Go.Proofs.YtjdopimopgpagaaGreat
namespace Go.Proofs.YtjdopimopgpagaaGreat
open Go
set_option maxRecDepth 100000
set_option linter.all false
def oF(n:Int):Option Int:=
 some (w64 (Int.tdiv (w64 (n+7)) (8:Int)))
def me(sa0:bp):Option Bool:=
 jn (λ(v_1:Bool)=>bif v_1 then some false else(bif decide (w64 ((w64 ((8:Int)*(sa0.Data.length:Int)))-sa0.Bits)=(0:Int))then some true else bnd (elO sa0.Data (w64 ((sa0.Data.length:Int)-(1:Int)))) λ(e_1:Int)=>chk (decide (0≤w64 ((8:Int)-(w64 ((w64 ((8:Int)*(sa0.Data.length:Int)))-sa0.Bits)))))<|some (decide (IntKind.wrap .u8 (e_1*2 ^ min (w64 ((8:Int)-(w64 ((w64 ((8:Int)*(sa0.Data.length:Int)))-sa0.Bits)))).toNat 8)=(0:Int))))) λJ1=>(bif decide (sa0.Bits<0)then J1 true else(bif decide (8192<sa0.Bits)then J1 true else bnd (oF sa0.Bits) λ(af:Int)=>J1 (!decide ((sa0.Data.length:Int)=af))))
def qy(sa0:bp)(i:Int):Option Int:=
 bnd (elO sa0.Data (w64 (Int.tdiv i (8:Int)))) λ(e_1:Int)=>chk (decide (0≤w64 ((7:Int)-(Int.tmod i (8:Int)))))<|some (IntKind.wrap .u64 (dx .and .u8 (Int.fdiv e_1 (2 ^ min (w64 ((7:Int)-(Int.tmod i (8:Int)))).toNat 8)) (1:Int)))
def oG(sa0:bp)(value:Int)(n:Int):Option bp:=
 whl (λ(Z1:(Int×(List Int)×Int)→Option _) (sg:Int×(List Int)×Int)=>match sg with|(n_1,m_1,m_2)=>bif decide (0<n_1)then jn (λ(sg:Int×(List Int))=>match sg with|(cU,m_3)=>chk (decide (0≤w64 (n_1-(if cU<n_1 then cU else n_1))))<|chk (decide (0≤(if cU<n_1 then cU else n_1)))<|bnd (elO m_3 (w64 ((m_3.length:Int)-(1:Int)))) λ(e_1:Int)=>chk (decide (0≤w64 (cU-(if cU<n_1 then cU else n_1))))<|bnd (ic m_3 (w64 ((m_3.length:Int)-(1:Int))) (dx .or .u8 e_1 (IntKind.wrap .u8 (IntKind.wrap .u64 ((dx .and .u64 (Int.fdiv value (2 ^ min (w64 (n_1-(if cU<n_1 then cU else n_1))).toNat 64)) (IntKind.wrap .u64 ((IntKind.wrap .u64 ((1:Int)*2 ^ min (if cU<n_1 then cU else n_1).toNat 64))-(1:Int))))*2 ^ min (w64 (cU-(if cU<n_1 then cU else n_1))).toNat 64))))) λ(l_2:List Int)=>Z1 (w64 (n_1-(if cU<n_1 then cU else n_1)),l_2,w64 (m_2+(if cU<n_1 then cU else n_1)))) λJ1=>bif decide (w64 ((w64 ((8:Int)*(m_1.length:Int)))-m_2)=(0:Int))then bnd (dh m_1 ([(0:Int)]:List Int)) λ(l_1:List Int)=>J1 ((8:Int),l_1)else J1 (w64 ((w64 ((8:Int)*(m_1.length:Int)))-m_2),m_1)else some (bp.mk m_1 m_2)) (n,sa0.Data,sa0.Bits)
def qV(sa0:bp):Option bp:=
 bnd (dh [] sa0.Data) λ(l_1:List Int)=>some (bp.mk l_1 sa0.Bits)
def nH(sa0:bp)(value:Int)(n:Int):Option (bp×Int):=
 bnd (me sa0) λ(af:Bool)=>bif !af then some ((bp.mk [] (0:Int)),(1:Int))else jn (λ(v_1:Bool)=>bif v_1 then some ((bp.mk [] (0:Int)),(2:Int))else bif decide (8192<w64 (sa0.Bits+n))then some ((bp.mk [] (0:Int)),(3:Int))else bnd (qV sa0) λ(aD:bp)=>bnd (oG aD value n) λ(aP:bp)=>some (aP,(0:Int))) λJ1=>(bif decide (n<0)then J1 true else(bif decide (64<n)then J1 true else(bif decide (n<64)then chk (decide (0≤n))<|J1 (!decide (Int.fdiv value (2 ^ min n.toNat 64)=(0:Int)))else J1 false)))
def mg(sa0:bp):Option (Int×Int):=
 bnd (me sa0) λ(af:Bool)=>bif !af then some ((0:Int),(1:Int))else chk (decide (sa0.Bits≤9223372036854775807))<|fV (sa0.Bits-0).toNat (0:Int) (λ(j1:Int) (Z1:Int→Option _) (eW:Int)=>jn (λ(qe:Int)=>Z1 qe) λJ1=>bnd (qy sa0 (j1:Int)) λ(aD:Int)=>bif decide (Int.fdiv eW (2 ^ min (15:Int).toNat 64)=aD)then J1 (dx .and .u64 (IntKind.wrap .u64 (eW*2 ^ min (1:Int).toNat 64)) (65535:Int))else J1 (dx .xor .u64 (dx .and .u64 (IntKind.wrap .u64 (eW*2 ^ min (1:Int).toNat 64)) (65535:Int)) (4129:Int))) (λ(j1:Int) (eW:Int)=>some (eW,(0:Int))) (65535:Int)
end Go.Proofs.YtjdopimopgpagaaGreat
namespace Go.Proofs.YtjdopimopgpagaaGreat
open Go
set_option maxRecDepth 100000
set_option linter.all false
def lD(l:List Int)(i:Int):Option Int:=
 bnd (elO l (w64 (Int.tdiv i (8:Int)))) λ(e_1:Int)=>chk (decide (0≤IntKind.wrap .u64 (w64 ((7:Int)-(Int.tmod i (8:Int))))))<|some (dx .and .u64 (IntKind.wrap .u64 (Int.fdiv e_1 (2 ^ min (IntKind.wrap .u64 (w64 ((7:Int)-(Int.tmod i (8:Int))))).toNat 8))) (1:Int))
def kO(sa0:bp):Option Bool:=
 bif ((decide (sa0.Bits<0))||((decide (8192<sa0.Bits))||(!decide ((sa0.Data.length:Int)=w64 (Int.tdiv (w64 (sa0.Bits+7)) (8:Int))))))then some false else whl (λ(Z1:Int→Option _) (i_1:Int)=>bif decide (i_1<w64 ((8:Int)*(sa0.Data.length:Int)))then bnd (lD sa0.Data i_1) λ(af:Int)=>bif !decide (af=0)then some false else Z1 (w64 (i_1+1))else some true) sa0.Bits
def oN(sa0:bp)(b:Int):Option bp:=
 bnd (dh [] sa0.Data) λ(l_1:List Int)=>jn (λ(l_2:(List Int))=>jn (λ(l_4:(List Int))=>some (bp.mk l_4 (w64 (sa0.Bits+1)))) λJ2=>bif decide (b=1)then bnd (elO l_2 (w64 (Int.tdiv sa0.Bits (8:Int)))) λ(e_1:Int)=>chk (decide (0≤IntKind.wrap .u64 (w64 ((7:Int)-(Int.tmod sa0.Bits (8:Int))))))<|bnd (ic l_2 (w64 (Int.tdiv sa0.Bits (8:Int))) (dx .or .u8 e_1 (IntKind.wrap .u8 ((1:Int)*2 ^ min (IntKind.wrap .u64 (w64 ((7:Int)-(Int.tmod sa0.Bits (8:Int))))).toNat 8)))) λ(l_5:List Int)=>J2 l_5 else J2 l_2) λJ1=>bif decide (Int.tmod sa0.Bits (8:Int)=(0:Int))then bnd (dh l_1 ([(0:Int)]:List Int)) λ(l_3:List Int)=>J1 l_3 else J1 l_1
def nI(sa0:bp)(value:Int)(n:Int):Option (bp×Int):=
 bnd (kO sa0) λ(af:Bool)=>bif !af then some ((bp.mk [] (0:Int)),(1:Int))else jn (λ(v_1:Bool)=>bif v_1 then some ((bp.mk [] (0:Int)),(2:Int))else bif decide (8192<w64 (sa0.Bits+n))then some ((bp.mk [] (0:Int)),(3:Int))else whl (λ(Z1:(Int×(List Int)×Int)→Option _) (sg:Int×(List Int)×Int)=>match sg with|(i_1,m_1,m_2)=>bif decide (0≤i_1)then chk (decide (0≤IntKind.wrap .u64 i_1))<|bnd (oN (bp.mk m_1 m_2) (dx .and .u64 (Int.fdiv value (2 ^ min (IntKind.wrap .u64 i_1).toNat 64)) (1:Int))) λ(aD:bp)=>Z1 (w64 (i_1-1),aD.Data,aD.Bits)else some ((bp.mk m_1 m_2),(0:Int))) (w64 (n-1),sa0.Data,sa0.Bits)) λJ1=>(bif decide (n<0)then J1 true else(bif decide (64<n)then J1 true else(bif decide (n<64)then chk (decide (0≤IntKind.wrap .u64 n))<|J1 (!decide (Int.fdiv value (2 ^ min (IntKind.wrap .u64 n).toNat 64)=(0:Int)))else J1 false)))
def oH(sa0:bp):Option (bp×Int):=
 bnd (kO sa0) λ(af:Bool)=>bif !af then some ((bp.mk [] (0:Int)),(1:Int))else whl (λ(Z1:((List Int)×Int)→Option _) (sg:(List Int)×Int)=>match sg with|(m_1,m_2)=>bif !decide (Int.tmod m_2 (8:Int)=(0:Int))then bnd (oN (bp.mk m_1 m_2) (0:Int)) λ(aD:bp)=>Z1 (aD.Data,aD.Bits)else some ((bp.mk m_1 m_2),(0:Int))) (sa0.Data,sa0.Bits)
def jl(sa0:bp):Option (Int×Int):=
 bnd (kO sa0) λ(af:Bool)=>bif !af then some ((0:Int),(1:Int))else chk (decide (sa0.Bits≤9223372036854775807))<|fV (sa0.Bits-0).toNat (0:Int) (λ(j1:Int) (Z1:Int→Option _) (pL:Int)=>jn (λ(acj:Int)=>Z1 acj) λJ1=>bnd (lD sa0.Data (j1:Int)) λ(aD:Int)=>bif !decide (Int.fdiv pL (2 ^ min (15:Int).toNat 64)=aD)then J1 (dx .xor .u64 (dx .and .u64 (IntKind.wrap .u64 (pL*2 ^ min (1:Int).toNat 64)) (65535:Int)) (4129:Int))else J1 (dx .and .u64 (IntKind.wrap .u64 (pL*2 ^ min (1:Int).toNat 64)) (65535:Int))) (λ(j1:Int) (pL:Int)=>some (pL,(0:Int))) (65535:Int)
def pM(length:Int):Option Int:=
 whl (λ(Z1:(Int×Int)→Option _) (sg:Int×Int)=>match sg with|(ou,n_1)=>bif decide (8<ou)then Z1 (w64 (Int.tdiv ou (2:Int)),w64 (n_1+1))else some n_1) (length,(0:Int))
end Go.Proofs.YtjdopimopgpagaaGreat
namespace Go.Proofs.YtjdopimopgpagaaGreat
open Go
set_option maxRecDepth 100000
set_option linter.all false
def dA(sa0:bp)(n:Int)(width:Int):Option bp:=
 bnd (nI sa0 (IntKind.wrap .u64 n) width) λ(af:bp×Int)=>some af.1
def iJ(a:ai):Option ((List Int)×Int):=
 bnd (gF a) λ(af:Bool)=>bif !af then some ([],(1:Int))else jn (λ(j8:Int)=>bnd (dA (bp.mk [] (0:Int)) a.ah (7:Int)) λ(aD:bp)=>bnd (dA aD a.Seq (20:Int)) λ(aP:bp)=>bnd (dA aP j8 (1:Int)) λ(bt:bp)=>bnd (dA bt (a.Links.length:Int) (5:Int)) λ(bF:bp)=>bL a.Links 0 (λ(j1:Int) (e1:bA) (Z1:((List Int)×Int)→Option _) (sg:(List Int)×Int)=>match sg with|(m_1,m_2)=>bnd (dA (bp.mk m_1 m_2) e1.bx (7:Int)) λ(cg:bp)=>bnd (dA cg e1.kN (10:Int)) λ(cw:bp)=>bnd (dA cw e1.bX (10:Int)) λ(cr:bp)=>Z1 (cr.Data,cr.Bits)) (λ(sg:(List Int)×Int)=>match sg with|(m_1,m_2)=>bnd (dA (bp.mk m_1 m_2) (a.Claims.length:Int) (4:Int)) λ(dJ:bp)=>bL a.Claims 0 (λ(j2:Int) (e2:bH) (Z2:((List Int)×Int)→Option _) (sg:(List Int)×Int)=>match sg with|(m_3,m_4)=>bnd (dA (bp.mk m_3 m_4) e2.b9 (3:Int)) λ(bK:bp)=>bnd (dA bK e2.ID (9:Int)) λ(ei:bp)=>bnd (pM e2.Length) λ(cn:Int)=>bnd (dA ei cn (2:Int)) λ(gY:bp)=>Z2 (gY.Data,gY.Bits)) (λ(sg:(List Int)×Int)=>match sg with|(m_3,m_4)=>bnd (jl (bp.mk m_3 m_4)) λ(mA:Int×Int)=>bnd (dA (bp.mk m_3 m_4) (w64 mA.1) (16:Int)) λ(lR:bp)=>bnd (oH lR) λ(lS:bp×Int)=>some (lS.1.Data,(0:Int))) (dJ.Data,dJ.Bits)) (bF.Data,bF.Bits)) λJ1=>bif a.aX then J1 (1:Int)else J1 (0:Int)
def oI(a:ai)(b:ai):Option Bool:=
 jn (λ(v_1:Bool)=>bif v_1 then some false else bnd (iJ a) λ(aP:(List Int)×Int)=>bnd (iJ b) λ(bt:(List Int)×Int)=>some ((decide (b.Seq<a.Seq))||((decide (a.Seq=b.Seq))&&(vk .gtr (iW aP.1) (iW bt.1))))) λJ1=>bnd (gF a) λ(af:Bool)=>(bif !af then J1 true else bnd (gF b) λ(aD:Bool)=>(bif !aD then J1 true else J1 (!decide (a.ah=b.ah))))
end Go.Proofs.YtjdopimopgpagaaGreat
namespace Go.Proofs.YtjdopimopgpagaaGreat
open Go
set_option maxRecDepth 100000
set_option linter.all false
def cc(w:bQ)(n:Int)(bits:Int):Option bQ:=
 bnd (nH w.s_ (IntKind.wrap .u64 n) bits) λ(af:bp×Int)=>some (bQ.mk af.1)
def apj(a b:List Int):Int:=Go.Extern.BytealgCompare.cmp ⟨(a.map λn=>UInt8.ofNat n.toNat).toArray⟩ ⟨(b.map λn=>UInt8.ofNat n.toNat).toArray⟩
def sC(a b:List Int):Option Int:=some (apj a b)
def eX(a:ai):Option ((List Int)×Int):=
 bnd (gJ a) λ(af:Bool)=>bif !af then some ([],(1:Int))else bnd (cc (bQ.mk (bp.mk [] (0:Int))) a.ah (7:Int)) λ(aD:bQ)=>bnd (cc aD a.Seq (20:Int)) λ(aP:bQ)=>jn (λ(j8:Int)=>bnd (cc aP j8 (1:Int)) λ(bt:bQ)=>bnd (cc bt (a.Links.length:Int) (5:Int)) λ(bF:bQ)=>bL a.Links 0 (λ(j1:Int) (e1:bA) (Z1:((List Int)×Int)→Option _) (sg:(List Int)×Int)=>match sg with|(m_1,m_2)=>bnd (cc (bQ.mk (bp.mk m_1 m_2)) e1.bx (7:Int)) λ(cg:bQ)=>bnd (cc cg e1.kN (10:Int)) λ(cw:bQ)=>bnd (cc cw e1.bX (10:Int)) λ(cr:bQ)=>Z1 (cr.s_.Data,cr.s_.Bits)) (λ(sg:(List Int)×Int)=>match sg with|(m_1,m_2)=>bnd (cc (bQ.mk (bp.mk m_1 m_2)) (a.Claims.length:Int) (4:Int)) λ(dJ:bQ)=>bL a.Claims 0 (λ(j2:Int) (e2:bH) (Z2:((List Int)×Int)→Option _) (sg:(List Int)×Int)=>match sg with|(m_3,m_4)=>whl (λ(Z3:Int→Option _) (j9:Int)=>chk (decide (0≤j9))<|bif decide (IntKind.wrap .i64 ((8:Int)*2 ^ min j9.toNat 64)<e2.Length)then Z3 (w64 (j9+1))else bnd (cc (bQ.mk (bp.mk m_3 m_4)) e2.b9 (3:Int)) λ(bK:bQ)=>bnd (cc bK e2.ID (9:Int)) λ(ei:bQ)=>bnd (cc ei j9 (2:Int)) λ(cn:bQ)=>Z2 (cn.s_.Data,cn.s_.Bits)) (0:Int)) (λ(sg:(List Int)×Int)=>match sg with|(m_3,m_4)=>bnd (mg (bp.mk m_3 m_4)) λ(gY:Int×Int)=>bnd (cc (bQ.mk (bp.mk m_3 m_4)) (w64 gY.1) (16:Int)) λ(mA:bQ)=>some (mA.s_.Data,(0:Int))) (dJ.s_.Data,dJ.s_.Bits)) (bF.s_.Data,bF.s_.Bits)) λJ1=>bif a.aX then J1 (1:Int)else J1 (0:Int)
def nJ(a:ai)(b:ai):Option Bool:=
 bnd (eX a) λ(af:(List Int)×Int)=>bnd (eX b) λ(aD:(List Int)×Int)=>bif ((!decide (af.2=0))||((!decide (aD.2=0))||(!decide (a.ah=b.ah))))then some false else(bif decide (b.Seq<a.Seq)then some true else(bif decide (a.Seq=b.Seq)then bnd (sC af.1 aD.1) λ(aP:Int)=>some (decide (0<aP))else some false))
end Go.Proofs.YtjdopimopgpagaaGreat
namespace Go.Proofs.YtjdopimopgpagaaGreat
open Go
set_option maxRecDepth 100000
set_option linter.all false
def lM(xa0:ai)(aN:Int):Option Int:=
 bnd (eF xa0.ah aN) λ(af:Int)=>some af
def jK(d:aG):Option aG:=
 bL d.aC 0 (λ(j1:Int) (e1:ai) (Z1:(List ai)→Option _) (m_1:(List ai))=>bnd (fu e1) λ(af:ai)=>bnd (dh m_1 ([af]:List ai)) λ(l_1:List ai)=>Z1 l_1) (λ(m_1:(List ai))=>some (aG.mk m_1)) []
def lG(d:aG)(a:ai):Option (Bool×aG):=
 bnd (cR d.aC a.ah lM) λ(af:Int×Bool)=>jn (λ(m_1:(List ai))=>some (true,(aG.mk m_1))) λJ1=>bif !af.2 then bnd (fu a) λ(aD:ai)=>bnd (ab5 d.aC af.1 aD) λ(l_1:List ai)=>J1 l_1 else bnd (elO d.aC af.1) λ(e_1:ai)=>bnd (nJ a e_1) λ(aP:Bool)=>bif aP then bnd (fu a) λ(bt:ai)=>bnd (ic d.aC af.1 bt) λ(l_2:List ai)=>J1 l_2 else some (false,d)
def nK(d:aG)(a:ai):Option (aG×Bool):=
 bnd (jK d) λ(af:aG)=>jn (λ(v_1:Bool)=>bif v_1 then some (af,false)else bnd (lG af a) λ(bt:Bool×aG)=>some (bt.2,bt.1)) λJ1=>bnd (fL d) λ(aD:Int)=>(bif !decide (aD=0)then J1 true else bnd (gJ a) λ(aP:Bool)=>J1 (!aP))
def lN(a:aG)(b:aG):Option (aG×Int):=
 jn (λ(v_1:Bool)=>bif v_1 then some ((aG.mk []),(1:Int))else bnd (jK a) λ(aP:aG)=>bL b.aC 0 (λ(j1:Int) (e1:ai) (Z1:(List ai)→Option _) (m_1:(List ai))=>bnd (lG (aG.mk m_1) e1) λ(bt:Bool×aG)=>Z1 bt.2.aC) (λ(m_1:(List ai))=>some ((aG.mk m_1),(0:Int))) aP.aC) λJ1=>bnd (fL a) λ(af:Int)=>(bif !decide (af=0)then J1 true else bnd (fL b) λ(aD:Int)=>J1 (!decide (aD=0)))
end Go.Proofs.YtjdopimopgpagaaGreat
namespace Go.Proofs.YtjdopimopgpagaaGreat
open Go
set_option maxRecDepth 100000
set_option linter.all false
def pN(d:aG)(a:ai):Option aG:=
 bL d.aC 0 (λ(j1:Int) (e1:ai) (Z1:(Bool×(List ai))→Option _) (sg:Bool×(List ai))=>match sg with|(mI,m_1)=>jn (λ(sg:Bool×(List ai))=>match sg with|(wY,m_2)=>Z1 (wY,m_2)) λJ1=>jn (λ(sg:Bool×(List ai))=>match sg with|(tY,m_3)=>bif !decide (e1.ah=a.ah)then bnd (dh m_3 ([e1]:List ai)) λ(l_2:List ai)=>J1 (tY,l_2)else J1 (tY,m_3)) λJ2=>bif ((!mI)&&(decide (a.ah≤e1.ah)))then bnd (dh m_1 ([a]:List ai)) λ(l_1:List ai)=>J2 (true,l_1)else J2 (mI,m_1)) (λ(sg:Bool×(List ai))=>match sg with|(mI,m_1)=>jn (λ(m_4:(List ai))=>some (aG.mk m_4)) λJ3=>bif !mI then bnd (dh m_1 ([a]:List ai)) λ(l_3:List ai)=>J3 l_3 else J3 m_1) (false,[])
def oO(d:aG)(a:ai):Option (aG×Bool):=
 jn (λ(v_1:Bool)=>bif v_1 then some (d,false)else bnd (nG d a.ah) λ(aP:ai×Bool)=>jn (λ(v_2:Bool)=>bif v_2 then some (d,false)else bnd (pN d a) λ(bF:aG)=>some (bF,true)) λJ2=>(bif aP.2 then bnd (oI a aP.1) λ(bt:Bool)=>J2 (!bt)else J2 false)) λJ1=>bnd (ij d) λ(af:Int)=>(bif !decide (af=0)then J1 true else bnd (gF a) λ(aD:Bool)=>J1 (!aD))
def uw(a:aG)(b:aG):Option (aG×Int):=
 jn (λ(v_1:Bool)=>bif v_1 then some ((aG.mk []),(1:Int))else bL b.aC 0 (λ(j1:Int) (e1:ai) (Z1:(List ai)→Option _) (m_1:(List ai))=>bnd (oO (aG.mk m_1) e1) λ(aP:aG×Bool)=>Z1 aP.1.aC) (λ(m_1:(List ai))=>some ((aG.mk m_1),(0:Int))) a.aC) λJ1=>bnd (ij a) λ(af:Int)=>(bif !decide (af=0)then J1 true else bnd (ij b) λ(aD:Int)=>J1 (!decide (aD=0)))
end Go.Proofs.YtjdopimopgpagaaGreat
namespace Go.Proofs.YtjdopimopgpagaaGreat
open Go
set_option maxRecDepth 100000
set_option linter.all false
def sF(t:aA)(aN:Int)(seq:Int)(cM:List bH):Option (ai×Int):=
 bnd (ig t) λ(af:Int)=>bif !decide (af=0)then some ((ai.mk (0:Int) (0:Int) false [] []),(1:Int))else bnd (qx t aN) λ(aD:Bool)=>bif !aD then some ((ai.mk (0:Int) (0:Int) false [] []),(4:Int))else bnd (iZ t aN) λ(aP:Bool)=>bnd (pH t aN) λ(bt:(List Int))=>bL bt 0 (λ(j1:Int) (e1:Int) (Z1:(List bA)→Option _) (m_1:(List bA))=>bnd (ji t aN e1) λ(bF:Int×Bool)=>bL t.Links 0 (λ(j2:Int) (e2:aK) (Z2:Int→Option _) (m_2:Int)=>jn (λ(m_3:Int)=>Z2 m_3) λJ1=>bif ((decide (e2.A=(if e1<aN then e1 else aN)))&&(decide (e2.B=(if e1>aN then e1 else aN))))then J1 e2.bX else J1 m_2) (λ(m_2:Int)=>bnd (dh m_1 ([(bA.mk e1 bF.1 m_2)]:List bA)) λ(l_1:List bA)=>Z1 l_1) (0:Int)) (λ(m_1:(List bA))=>bnd (gF (ai.mk aN seq aP m_1 cM)) λ(cg:Bool)=>bif !cg then some ((ai.mk (0:Int) (0:Int) false [] []),(2:Int))else some ((ai.mk aN seq aP m_1 cM),(0:Int))) []
end Go.Proofs.YtjdopimopgpagaaGreat
namespace Go.Proofs.YtjdopimopgpagaaGreat
open Go
set_option maxRecDepth 100000
set_option linter.all false
def qz(t:aA)(aN:Int)(seq:Int)(cM:List bH):Option (ai×Int):=
 bnd (gz t) λ(af:Int)=>bif !decide (af=0)then some ((ai.mk (0:Int) (0:Int) false [] []),(1:Int))else bnd (iH t aN) λ(aD:Bool)=>bif !aD then some ((ai.mk (0:Int) (0:Int) false [] []),(4:Int))else bnd (j7 t aN) λ(aP:Bool)=>bnd (dh [] cM) λ(l_1:List bH)=>bL t.Links 0 (λ(j1:Int) (e1:aK) (Z1:(List bA)→Option _) (m_1:(List bA))=>jn (λ(m_2:(List bA))=>Z1 m_2) λJ1=>bif decide (aN=e1.A)then bnd (dh m_1 ([(bA.mk e1.B e1.iX e1.bX)]:List bA)) λ(l_2:List bA)=>J1 l_2 else bif decide (aN=e1.B)then bnd (dh m_1 ([(bA.mk e1.A e1.iL e1.bX)]:List bA)) λ(l_3:List bA)=>J1 l_3 else J1 m_1) (λ(m_1:(List bA))=>bnd (gJ (ai.mk aN seq aP m_1 l_1)) λ(bt:Bool)=>bif !bt then some ((ai.mk (0:Int) (0:Int) false [] []),(2:Int))else some ((ai.mk aN seq aP m_1 l_1),(0:Int))) []
end Go.Proofs.YtjdopimopgpagaaGreat
namespace Go.Proofs.YtjdopimopgpagaaGreat
open Go
set_option maxRecDepth 100000
set_option linter.all false
def dW(f:aB):Option aA:=
 bnd (cV f.Links) λ(af:(List aK))=>bL f.aF 0 (λ(j1:Int) (e1:aW) (Z1:(List bh)→Option _) (m_1:(List bh))=>bnd (dh m_1 ([(bh.mk e1.ah e1.aX)]:List bh)) λ(l_1:List bh)=>Z1 l_1) (λ(m_1:(List bh))=>some (aA.mk m_1 af)) []
def nk(n:aW)(c_0:Int):Option Bool:=
 some (decide (n.ah=c_0))
def gj(f:aB)(aN:Int):Option (Int×Bool):=
 bnd (eM f.aF (λ(y0:aW)=>nk y0 aN)) λ(af:Int)=>some (af,decide (0≤af))
def en(f:aB):Option Int:=
 jn (λ(v_1:Bool)=>bif v_1 then some (1:Int)else bL f.aF 0 (λ(j1:Int) (e1:aW) (Z1:Unit→Option _) (sg:Unit)=>match sg with|()=>jn (λ(v_2:Bool)=>bif v_2 then some (1:Int)else Z1 ()) λJ2=>(bif decide (e1.Seq<0)then J2 true else(bif decide (1000000<e1.Seq)then J2 true else bnd (gJ (ai.mk e1.ah (1:Int) false [] e1.Claims)) λ(aP:Bool)=>(bif !aP then J2 true else bnd (fL e1.Database) λ(bt:Int)=>J2 (!decide (bt=0)))))) (λ(sg:Unit)=>match sg with|()=>bL f.ay 0 (λ(j2:Int) (e2:aR) (Z2:Unit→Option _) (sg:Unit)=>match sg with|()=>bnd (gj f e2.cD) λ(bF:Int×Bool)=>bnd (gj f e2.To) λ(cg:Int×Bool)=>jn (λ(v_3:Bool)=>bif v_3 then some (1:Int)else Z2 ()) λJ3=>(bif !bF.2 then J3 true else(bif !cg.2 then J3 true else(bif decide (e2.cD=e2.To)then J3 true else bnd (fL e2.Database) λ(cw:Int)=>J3 (!decide (cw=0)))))) (λ(sg:Unit)=>match sg with|()=>some (0:Int)) ()) ()) λJ1=>bnd (dW f) λ(af:aA)=>bnd (gz af) λ(aD:Int)=>(bif !decide (aD=0)then J1 true else J1 (decide (400<(f.ay.length:Int))))
def gK(f:aB)(n:aW):Option (ai×Bool):=
 bif decide (n.Seq=0)then some ((ai.mk (0:Int) (0:Int) false [] []),false)else bnd (dW f) λ(af:aA)=>bnd (qz af n.ah n.Seq n.Claims) λ(aD:ai×Int)=>some (aD.1,decide (aD.2=0))
def eP(d:aG):Option aG:=
 bL d.aC 0 (λ(j1:Int) (e1:ai) (Z1:(List ai)→Option _) (m_1:(List ai))=>bnd (dL e1.Links) λ(af:(List bA))=>bnd (dg e1.Claims) λ(aD:(List bH))=>bnd (dh m_1 ([(ai.mk e1.ah e1.Seq e1.aX af aD)]:List ai)) λ(l_1:List ai)=>Z1 l_1) (λ(m_1:(List ai))=>some (aG.mk m_1)) []
def gD(f:aB):Option aB:=
 bnd (cV f.Links) λ(af:(List aK))=>bL f.aF 0 (λ(j1:Int) (e1:aW) (Z1:(List aW)→Option _) (m_1:(List aW))=>bnd (dg e1.Claims) λ(aD:(List bH))=>bnd (eP e1.Database) λ(aP:aG)=>bnd (dh m_1 ([(aW.mk e1.ah e1.Seq e1.aX aD aP)]:List aW)) λ(l_1:List aW)=>Z1 l_1) (λ(m_1:(List aW))=>bL f.ay 0 (λ(j2:Int) (e2:aR) (Z2:(List aR)→Option _) (m_2:(List aR))=>bnd (eP e2.Database) λ(bt:aG)=>bnd (dh m_2 ([(aR.mk e2.cD e2.To bt)]:List aR)) λ(l_2:List aR)=>Z2 l_2) (λ(m_2:(List aR))=>some (aB.mk af m_1 m_2)) []) []
def pO(f:aB):Option Bool:=
 jn (λ(v_1:Bool)=>bif v_1 then some false else bnd (dW f) λ(aD:aA)=>bL f.aF 0 (λ(j1:Int) (e1:aW) (Z1:Unit→Option _) (sg:Unit)=>match sg with|()=>bnd (gK f e1) λ(aP:ai×Bool)=>bnd (kH e1.Database e1.ah) λ(bt:ai×Bool)=>jn (λ(v_2:Bool)=>bif v_2 then some false else bnd (nw f.aF (0:Int) (j1:Int)) λ(l_1:List aW)=>bL l_1 0 (λ(j2:Int) (e2:aW) (Z2:Unit→Option _) (sg:Unit)=>match sg with|()=>jn (λ(v_3:Bool)=>bif v_3 then some false else Z2 ()) λJ3=>bnd (oe aD e2.ah e1.ah) λ(cg:Bool)=>(bif cg then bnd (sB e2.Database e1.Database) λ(cw:Bool)=>J3 (!cw)else J3 false)) (λ(sg:Unit)=>match sg with|()=>Z1 ()) ()) λJ2=>(bif !aP.2 then J2 true else(bif !bt.2 then J2 true else bnd (jk aP.1 bt.1) λ(bF:Bool)=>J2 (!bF)))) (λ(sg:Unit)=>match sg with|()=>some true) ()) λJ1=>bnd (en f) λ(af:Int)=>(bif !decide (af=0)then J1 true else J1 (decide (0<(f.ay.length:Int))))
end Go.Proofs.YtjdopimopgpagaaGreat
namespace Go.Proofs.YtjdopimopgpagaaGreat
open Go
set_option maxRecDepth 100000
set_option linter.all false
def dB(m:aV)(i:Int):Option aV:=
 bnd (elO m.f_.aF i) λ(e_1:aW)=>bnd (gK m.f_ e_1) λ(af:ai×Bool)=>bif af.2 then bnd (nK e_1.Database af.1) λ(aD:aG×Bool)=>bnd (ic m.f_.aF i (aW.mk e_1.ah e_1.Seq e_1.aX e_1.Claims aD.1)) λ(l_1:List aW)=>some (aV.mk (aB.mk m.f_.Links l_1 m.f_.ay))else some m
def l9(m:aV)(i:Int):Option aV:=
 bnd (elO m.f_.aF i) λ(e_1:aW)=>bnd (dW m.f_) λ(af:aA)=>bnd (nE af e_1.ah) λ(aD:(List Int))=>bL aD 0 (λ(j1:Int) (e1:Int) (Z1:(List aR)→Option _) (m_1:(List aR))=>bnd (eP e_1.Database) λ(aP:aG)=>bnd (dh m_1 ([(aR.mk e_1.ah e1 aP)]:List aR)) λ(l_1:List aR)=>Z1 l_1) (λ(m_1:(List aR))=>some (aV.mk (aB.mk m.f_.Links m.f_.aF m_1))) m.f_.ay
def eT(m:aV)(k:Int):Option aV:=
 bnd (elO m.f_.ay k) λ(e_1:aR)=>bnd (aaC m.f_.ay k (w64 (k+1))) λ(l_1:List aR)=>bnd (dW (aB.mk m.f_.Links m.f_.aF l_1)) λ(af:aA)=>bnd (ja af e_1.cD e_1.To) λ(aD:Int×Bool)=>bif !aD.2 then some (aV.mk (aB.mk m.f_.Links m.f_.aF l_1))else bnd (gj (aB.mk m.f_.Links m.f_.aF l_1) e_1.To) λ(aP:Int×Bool)=>bnd (elO m.f_.aF aP.1) λ(e_2:aW)=>bnd (lN e_2.Database e_1.Database) λ(bt:aG×Int)=>bnd (ic m.f_.aF aP.1 (aW.mk e_2.ah e_2.Seq e_2.aX e_2.Claims bt.1)) λ(l_2:List aW)=>bnd (elO l_2 aP.1) λ(e_3:aW)=>bnd (kH e_3.Database e_3.ah) λ(bF:ai×Bool)=>bnd (gK (aB.mk m.f_.Links l_2 l_1) e_3) λ(cg:ai×Bool)=>jn (λ(v_1:Bool)=>bif v_1 then bnd (ic l_2 aP.1 (aW.mk e_3.ah (w64 (bF.1.Seq+1)) e_3.aX e_3.Claims e_3.Database)) λ(l_3:List aW)=>bnd (dB (aV.mk (aB.mk m.f_.Links l_3 l_1)) aP.1) λ(cr:aV)=>some cr else some (aV.mk (aB.mk m.f_.Links l_2 l_1))) λJ1=>(bif bF.2 then(bif !cg.2 then J1 (decide (bF.1.Seq<1000000))else bnd (jk bF.1 cg.1) λ(cw:Bool)=>(bif !cw then J1 (decide (bF.1.Seq<1000000))else J1 false))else J1 false)
def jc(m:aV):Option aV:=
 whl (λ(Z1:((List aK)×(List aW)×(List aR))→Option _) (sg:(List aK)×(List aW)×(List aR))=>match sg with|(m_1,m_2,m_3)=>bif decide (0<(m_3.length:Int))then bnd (eT (aV.mk (aB.mk m_1 m_2 m_3)) (0:Int)) λ(af:aV)=>Z1 (af.f_.Links,af.f_.aF,af.f_.ay)else some (aV.mk (aB.mk m_1 m_2 m_3))) (m.f_.Links,m.f_.aF,m.f_.ay)
def kQ(m:aV):Option aV:=
 bL m.f_.aF 0 (λ(j1:Int) (e1:aW) (Z1:((List aK)×(List aW)×(List aR))→Option _) (sg:(List aK)×(List aW)×(List aR))=>match sg with|(m_1,m_2,m_3)=>bnd (l9 (aV.mk (aB.mk m_1 m_2 m_3)) (j1:Int)) λ(af:aV)=>Z1 (af.f_.Links,af.f_.aF,af.f_.ay)) (λ(sg:(List aK)×(List aW)×(List aR))=>match sg with|(m_1,m_2,m_3)=>some (aV.mk (aB.mk m_1 m_2 m_3))) (m.f_.Links,m.f_.aF,m.f_.ay)
def cS(sa0:List aR)(del:aR→Option Bool):Option (List aR):=
 bnd (dS sa0 del) λ(af:Int)=>bif decide (af=(-1:Int))then some sa0 else whl (λ(Z1:((List aR)×Int×Int)→Option _) (sg:(List aR)×Int×Int)=>match sg with|(ov,i_1,j_1)=>bif decide (j_1<(ov.length:Int))then jn (λ(sg:(List aR)×Int)=>match sg with|(acp,i_2)=>Z1 (acp,i_2,w64 (j_1+1))) λJ1=>bnd (elO ov j_1) λ(e_1:aR)=>bnd (del e_1) λ(aD:Bool)=>bif !aD then bnd (elO ov i_1) λ(e_2:aR)=>bnd (ic ov i_1 e_1) λ(l_1:List aR)=>J1 (l_1,w64 (i_1+1))else J1 (ov,i_1)else chk (decide (0≤i_1∧i_1<(ov.length:Int)))<|bnd (nw (ov.take i_1.toNat++List.replicate (ov.length-i_1.toNat) (aR.mk (0:Int) (0:Int) (aG.mk []))) (0:Int) i_1) λ(l_2:List aR)=>some l_2) (sa0,af,w64 (af+1))
end Go.Proofs.YtjdopimopgpagaaGreat
namespace Go.Proofs.YtjdopimopgpagaaGreat
open Go
set_option maxRecDepth 100000
set_option linter.all false
def oy(f:aB)(aN:Int):Option (aV×Int×Int):=
 bnd (en f) λ(af:Int)=>bif !decide (af=0)then none else bnd (gj f aN) λ(aD:Int×Bool)=>bif !aD.2 then none else bnd (gD f) λ(aP:aB)=>some ((aV.mk aP),aD.1,(0:Int))
def oV(f:aB)(aN:Int):Option (Int×Int):=
 bnd (en f) λ(af:Int)=>bif !decide (af=0)then some ((0:Int),(1:Int))else bnd (gj f aN) λ(aD:Int×Bool)=>bif !aD.2 then some ((0:Int),(4:Int))else bnd (gD f) λ(aP:aB)=>none
def pP(oa0:gy)(c_0:aA):Option Bool:=
 bnd (iH c_0 oa0.ah) λ(af:Bool)=>some (!af)
def rA(t:aA)(cM:List gy):Option (aB×Int):=
 bnd (gz t) λ(af:Int)=>bif !decide (af=0)then some ((aB.mk [] [] []),(1:Int))else bnd (fB cM (λ(y0:gy)=>pP y0 t)) λ(aD:Bool)=>bif aD then some ((aB.mk [] [] []),(4:Int))else bL cM 0 (λ(j1:Int) (e1:gy) (Z1:Unit→Option _) (sg:Unit)=>match sg with|()=>jn (λ(v_1:Bool)=>bif v_1 then some ((aB.mk [] [] []),(25:Int))else Z1 ()) λJ1=>(bif decide (0<(j1:Int))then bnd (elO cM (w64 ((j1:Int)-(1:Int)))) λ(e_1:gy)=>bnd (eF e_1.ah e1.ah) λ(aP:Int)=>bnd (eF e_1.Claim.b9 e1.Claim.b9) λ(bt:Int)=>bnd (nB ([aP,bt]:List Int)) λ(bF:Int)=>J1 (decide (0≤bF))else J1 false)) (λ(sg:Unit)=>match sg with|()=>bnd (cV t.Links) λ(cg:(List aK))=>bL t.aH 0 (λ(j2:Int) (e2:bh) (Z2:(List aW)→Option _) (m_1:(List aW))=>bL cM 0 (λ(j3:Int) (e3:gy) (Z3:(List bH)→Option _) (m_2:(List bH))=>jn (λ(m_3:(List bH))=>Z3 m_3) λJ2=>bif decide (e3.ah=e2.ID)then bnd (dh m_2 ([e3.Claim]:List bH)) λ(l_1:List bH)=>J2 l_1 else J2 m_2) (λ(m_2:(List bH))=>bnd (dh m_1 ([(aW.mk e2.ID (0:Int) e2.aX m_2 (aG.mk []))]:List aW)) λ(l_2:List aW)=>Z2 l_2) []) (λ(m_1:(List aW))=>bnd (en (aB.mk cg m_1 [])) λ(cw:Int)=>bif !decide (cw=0)then some ((aB.mk [] [] []),(1:Int))else some ((aB.mk cg m_1 []),(0:Int))) []) ()
def lu(f:aB)(aN:Int):Option (aB×Int):=
 els (oy f aN) (λaf=>bif !decide (af.2.2=0)then some ((aB.mk [] [] []),af.2.2)else bnd (elO af.1.f_.aF af.2.1) λ(e_1:aW)=>bif decide (e_1.Seq=1000000)then some ((aB.mk [] [] []),(7:Int))else bnd (ic af.1.f_.aF af.2.1 (aW.mk e_1.ah (w64 (e_1.Seq+1)) e_1.aX e_1.Claims e_1.Database)) λ(l_1:List aW)=>bnd (dB (aV.mk (aB.mk af.1.f_.Links l_1 af.1.f_.ay)) af.2.1) λ(aD:aV)=>some (aD.f_,(0:Int)))<|bnd (oV f aN) λaP=>bif !decide (aP.2=0)then some ((aB.mk [] [] []),aP.2)else none
def jA(xa0:aR)(c_0:aA):Option Bool:=
 bnd (ja c_0 xa0.cD xa0.To) λ(af:Int×Bool)=>some (!af.2)
def gW(f:aB)(links:List aK):Option (aB×Int):=
 bnd (gD f) λ(af:aB)=>bnd (cV links) λ(aD:(List aK))=>jn (λ(v_1:Bool)=>bif v_1 then some ((aB.mk [] [] []),(1:Int))else bnd (dW (aB.mk aD af.aF af.ay)) λ(bF:aA)=>bnd (cS af.ay (λ(y0:aR)=>jA y0 bF)) λ(cg:(List aR))=>bL af.aF 0 (λ(j1:Int) (e1:aW) (Z1:((List aK)×(List aW)×(List aR))→Option _) (sg:(List aK)×(List aW)×(List aR))=>match sg with|(m_1,m_2,m_3)=>jn (λ(sg:(List aK)×(List aW)×(List aR))=>match sg with|(m_4,m_5,m_6)=>Z1 (m_4,m_5,m_6)) λJ2=>bnd (elO m_2 (j1:Int)) λ(e_1:aW)=>bnd (elO f.aF (j1:Int)) λ(e_2:aW)=>bnd (gK f e_2) λ(cw:ai×Bool)=>bnd (gK (aB.mk m_1 m_2 m_3) e_1) λ(cr:ai×Bool)=>jn (λ(v_2:Bool)=>bif v_2 then bnd (ic m_2 (j1:Int) (aW.mk e_1.ah (w64 (e_1.Seq+1)) e_1.aX e_1.Claims e_1.Database)) λ(l_1:List aW)=>bnd (dB (aV.mk (aB.mk m_1 l_1 m_3)) (j1:Int)) λ(bK:aV)=>J2 (bK.f_.Links,bK.f_.aF,bK.f_.ay)else J2 (m_1,m_2,m_3)) λJ3=>(bif cr.2 then bnd (jk cw.1 cr.1) λ(dJ:Bool)=>(bif !dJ then J3 (decide (e_1.Seq<1000000))else J3 false)else J3 false)) (λ(sg:(List aK)×(List aW)×(List aR))=>match sg with|(m_1,m_2,m_3)=>some ((aB.mk m_1 m_2 m_3),(0:Int))) (aD,af.aF,cg)) λJ1=>bnd (en f) λ(aP:Int)=>(bif !decide (aP=0)then J1 true else bnd (en (aB.mk aD af.aF af.ay)) λ(bt:Int)=>J1 (!decide (bt=0)))
def rB(f:aB):Option (aB×Int):=
 bnd (en f) λ(af:Int)=>bif !decide (af=0)then some ((aB.mk [] [] []),(1:Int))else bnd (gD f) λ(aD:aB)=>bnd (jc (aV.mk aD)) λ(aP:aV)=>bnd (kQ aP) λ(bt:aV)=>bnd (jc bt) λ(bF:aV)=>some (bF.f_,(0:Int))
end Go.Proofs.YtjdopimopgpagaaGreat
namespace Go.Proofs.YtjdopimopgpagaaGreat
open Go
set_option maxRecDepth 100000
set_option linter.all false
def dM(f:aB):Option aA:=
 bL f.aF 0 (λ(j1:Int) (e1:aW) (Z1:(List bh)→Option _) (m_1:(List bh))=>bnd (dh m_1 ([(bh.mk e1.ah e1.aX)]:List bh)) λ(l_1:List bh)=>Z1 l_1) (λ(m_1:(List bh))=>some (aA.mk m_1 f.Links)) []
def kR(f:aB)(aN:Int):Option Int:=
 bL f.aF 0 (λ(j1:Int) (e1:aW) (Z1:Unit→Option _) (sg:Unit)=>match sg with|()=>bif decide (e1.ah=aN)then some (j1:Int)else Z1 ()) (λ(sg:Unit)=>match sg with|()=>some (-1:Int)) ()
def mh(f:aB):Option Bool:=
 jn (λ(v_1:Bool)=>bif v_1 then some false else bL f.aF 0 (λ(j1:Int) (e1:aW) (Z1:Unit→Option _) (sg:Unit)=>match sg with|()=>jn (λ(v_2:Bool)=>bif v_2 then some false else Z1 ()) λJ2=>(bif decide (e1.Seq<0)then J2 true else(bif decide (1000000<e1.Seq)then J2 true else bnd (ia e1.Claims) λ(aP:Bool)=>(bif !aP then J2 true else bnd (ij e1.Database) λ(bt:Int)=>J2 (!decide (bt=0)))))) (λ(sg:Unit)=>match sg with|()=>bL f.ay 0 (λ(j2:Int) (e2:aR) (Z2:Unit→Option _) (sg:Unit)=>match sg with|()=>jn (λ(v_3:Bool)=>bif v_3 then some false else Z2 ()) λJ3=>bnd (kR f e2.cD) λ(bF:Int)=>(bif decide (bF<0)then J3 true else bnd (kR f e2.To) λ(cg:Int)=>(bif decide (cg<0)then J3 true else(bif decide (e2.cD=e2.To)then J3 true else bnd (ij e2.Database) λ(cw:Int)=>J3 (!decide (cw=0)))))) (λ(sg:Unit)=>match sg with|()=>some true) ()) ()) λJ1=>bnd (dM f) λ(af:aA)=>bnd (ig af) λ(aD:Int)=>(bif !decide (aD=0)then J1 true else J1 (decide (400<(f.ay.length:Int))))
def jS(f:aB)(i:Int)(seq:Int):Option (ai×Bool):=
 bnd (dM f) λ(af:aA)=>bnd (elO f.aF i) λ(e_1:aW)=>bnd (sF af e_1.ah seq e_1.Claims) λ(aD:ai×Int)=>some (aD.1,decide (aD.2=0))
def nL(f:aB)(i:Int)(n:aW):Option aB:=
 bnd (dh [] f.aF) λ(l_1:List aW)=>bnd (elO l_1 i) λ(e_1:aW)=>bnd (ic l_1 i n) λ(l_2:List aW)=>some (aB.mk f.Links l_2 f.ay)
def iq(f:aB)(i:Int)(seq:Int):Option aB:=
 bnd (elO f.aF i) λ(e_1:aW)=>bnd (jS f i seq) λ(af:ai×Bool)=>bnd (oO e_1.Database af.1) λ(aD:aG×Bool)=>bnd (nL f i (aW.mk e_1.ah seq e_1.aX e_1.Claims aD.1)) λ(aP:aB)=>some aP
def nM(f:aB)(m:aR):Option aB:=
 bnd (dM f) λ(af:aA)=>bnd (ji af m.cD m.To) λ(aD:Int×Bool)=>bif !aD.2 then some f else bnd (kR f m.To) λ(aP:Int)=>bnd (elO f.aF aP) λ(e_1:aW)=>bnd (uw e_1.Database m.Database) λ(bt:aG×Int)=>bnd (nL f aP (aW.mk e_1.ah e_1.Seq e_1.aX e_1.Claims bt.1)) λ(bF:aB)=>bnd (nG bt.1 m.To) λ(cg:ai×Bool)=>bif !cg.2 then some bF else bnd (jS bF aP e_1.Seq) λ(cw:ai×Bool)=>jn (λ(v_1:Bool)=>bif v_1 then some bF else bnd (iq bF aP (w64 (cg.1.Seq+1))) λ(dJ:aB)=>some dJ) λJ1=>(bif decide (0<e_1.Seq)then(bif cw.2 then bnd (lK cg.1 cw.1) λ(cr:Bool)=>(bif cr then J1 true else J1 (decide (1000000<w64 (cg.1.Seq+1))))else J1 (decide (1000000<w64 (cg.1.Seq+1))))else J1 (decide (1000000<w64 (cg.1.Seq+1))))
def jL(f:aB)(links:List aK):Option (aB×Int):=
 bnd (mh f) λ(af:Bool)=>bif !af then some ((aB.mk [] [] []),(1:Int))else bnd (mh (aB.mk links f.aF f.ay)) λ(aD:Bool)=>bif !aD then some ((aB.mk [] [] []),(1:Int))else bL f.ay 0 (λ(j1:Int) (e1:aR) (Z1:(List aR)→Option _) (m_1:(List aR))=>jn (λ(m_2:(List aR))=>Z1 m_2) λJ1=>bnd (dM (aB.mk links f.aF m_1)) λ(aP:aA)=>bnd (ji aP e1.cD e1.To) λ(bt:Int×Bool)=>bif bt.2 then bnd (dh m_1 ([e1]:List aR)) λ(l_1:List aR)=>J1 l_1 else J1 m_1) (λ(m_1:(List aR))=>bL f.aF 0 (λ(j2:Int) (e2:aW) (Z2:((List aK)×(List aW)×(List aR))→Option _) (sg:(List aK)×(List aW)×(List aR))=>match sg with|(m_3,m_4,m_5)=>jn (λ(sg:(List aK)×(List aW)×(List aR))=>match sg with|(m_6,m_7,m_8)=>Z2 (m_6,m_7,m_8)) λJ2=>bnd (jS f (j2:Int) (if(1:Int)>e2.Seq then(1:Int)else e2.Seq)) λ(bF:ai×Bool)=>bnd (jS (aB.mk m_3 m_4 m_5) (j2:Int) (if(1:Int)>e2.Seq then(1:Int)else e2.Seq)) λ(cg:ai×Bool)=>jn (λ(v_1:Bool)=>bif v_1 then bnd (iq (aB.mk m_3 m_4 m_5) (j2:Int) (w64 (e2.Seq+1))) λ(cr:aB)=>J2 (cr.Links,cr.aF,cr.ay)else J2 (m_3,m_4,m_5)) λJ3=>(bif decide (0<e2.Seq)then(bif decide (e2.Seq<1000000)then bnd (lK bF.1 cg.1) λ(cw:Bool)=>J3 (!cw)else J3 false)else J3 false)) (λ(sg:(List aK)×(List aW)×(List aR))=>match sg with|(m_3,m_4,m_5)=>some ((aB.mk m_3 m_4 m_5),(0:Int))) (links,f.aF,m_1)) []
def pQ(a:aB)(b:aB):Option Bool:=
 jn (λ(v_1:Bool)=>bif v_1 then some false else bL a.aF 0 (λ(j1:Int) (e1:aW) (Z1:Unit→Option _) (sg:Unit)=>match sg with|()=>bnd (elO b.aF (j1:Int)) λ(e_1:aW)=>jn (λ(v_2:Bool)=>bif v_2 then some false else bL e1.Claims 0 (λ(j2:Int) (e2:bH) (Z2:Unit→Option _) (sg:Unit)=>match sg with|()=>bnd (elO e_1.Claims (j2:Int)) λ(e_2:bH)=>bif !(fZ e2 e_2)then some false else Z2 ()) (λ(sg:Unit)=>match sg with|()=>Z1 ()) ()) λJ2=>(bif !decide (e1.Seq=e_1.Seq)then J2 true else bnd (nF e1.Database e_1.Database) λ(bt:Bool)=>(bif !bt then J2 true else J2 (!decide ((e1.Claims.length:Int)=(e_1.Claims.length:Int)))))) (λ(sg:Unit)=>match sg with|()=>bL a.ay 0 (λ(j3:Int) (e3:aR) (Z3:Unit→Option _) (sg:Unit)=>match sg with|()=>bnd (elO b.ay (j3:Int)) λ(e_3:aR)=>jn (λ(v_3:Bool)=>bif v_3 then some false else Z3 ()) λJ3=>(bif !decide (e3.cD=e_3.cD)then J3 true else(bif !decide (e3.To=e_3.To)then J3 true else bnd (nF e3.Database e_3.Database) λ(bF:Bool)=>J3 (!bF)))) (λ(sg:Unit)=>match sg with|()=>some true) ()) ()) λJ1=>bnd (dM a) λ(af:aA)=>bnd (dM b) λ(aD:aA)=>bnd (pI af aD) λ(aP:Bool)=>(bif !aP then J1 true else J1 (!decide ((a.ay.length:Int)=(b.ay.length:Int))))
end Go.Proofs.YtjdopimopgpagaaGreat
namespace Go.Proofs.YtjdopimopgpagaaGreat
open Go
set_option maxRecDepth 100000
set_option linter.all false
def mj(t:aS)(most:Int):Option (aG×aS):=
 bnd (bR t (3:Int)) λ(af:Int×aS)=>bif decide (af.1=0)then some ((aG.mk []),af.2)else bnd (iI af.2 (0:Int)) λ(aD:aG×aS)=>whl (λ(Z1:(Int×(List ai))→Option _) (sg:Int×(List ai))=>match sg with|(i_1,m_1)=>bif decide (i_1<(m_1.length:Int))then bnd (elO m_1 i_1) λ(e_1:ai)=>bnd (ic m_1 i_1 (ai.mk e_1.ah (if most<e_1.Seq then most else e_1.Seq) e_1.aX e_1.Links e_1.Claims)) λ(l_1:List ai)=>Z1 (w64 (i_1+1),l_1)else some ((aG.mk m_1),aD.2)) ((0:Int),aD.1.aC)
def mJ(t:aS)(kI:Int)(most:Int):Option (aB×aS):=
 bnd (fH t kI (0:Int)) λ(af:aA×aS)=>bL af.1.aH 0 (λ(j1:Int) (e1:bh) (Z1:((List aW)×(List Int)×Int)→Option _) (sg:(List aW)×(List Int)×Int)=>match sg with|(m_1,m_2,m_3)=>bnd (dw (aS.mk m_2 m_3) ([(0:Int),(1:Int),(1:Int),(2:Int),(400000:Int)]:List Int)) λ(aD:Int×aS)=>bnd (bR aD.2 (5:Int)) λ(aP:Int×aS)=>bnd (mj aP.2 most) λ(bt:aG×aS)=>fV ((2:Int)-(0:Int)).toNat (0:Int) (λ(j2:Int) (Z2:((List bH)×(List Int)×Int)→Option _) (sg:(List bH)×(List Int)×Int)=>match sg with|(m_4,m_5,m_6)=>jn (λ(sg:(List Int)×Int×(List bH))=>match sg with|(m_7,m_8,m_9)=>Z2 (m_9,m_7,m_8)) λJ1=>bnd (bR (aS.mk m_5 m_6) (2:Int)) λ(bF:Int×aS)=>bif decide (bF.1=0)then bnd (ef bF.2 (1:Int) (6:Int)) λ(cg:Int×aS)=>bnd (jG cg.2) λ(cw:Int×aS)=>bnd (dh m_4 ([(bH.mk (j2:Int) cg.1 cw.1)]:List bH)) λ(l_1:List bH)=>J1 (cw.2.L,cw.2.At,l_1)else J1 (bF.2.L,bF.2.At,m_4)) (λ(j2:Int) (sg:(List bH)×(List Int)×Int)=>match sg with|(m_4,m_5,m_6)=>bnd (dh m_1 ([(aW.mk e1.ID (if aD.1<most then aD.1 else most) (decide (0<aP.1)) m_4 bt.1)]:List aW)) λ(l_2:List aW)=>Z1 (l_2,m_5,m_6)) ([],bt.2.L,bt.2.At)) (λ(sg:(List aW)×(List Int)×Int)=>match sg with|(m_1,m_2,m_3)=>bnd (bR (aS.mk m_2 m_3) (4:Int)) λ(cr:Int×aS)=>whl (λ(Z3:(Int×(List aR)×(List Int)×Int)→Option _) (sg:Int×(List aR)×(List Int)×Int)=>match sg with|(i_1,gT,gH,lZ)=>bif ((decide (0<i_1))&&(decide (1<(af.1.aH.length:Int))))then bnd (bR (aS.mk gH lZ) (af.1.aH.length:Int)) λ(dJ:Int×aS)=>bnd (ef dJ.2 (1:Int) (w64 ((af.1.aH.length:Int)-(1:Int)))) λ(bK:Int×aS)=>bnd (pG (w64 (dJ.1+bK.1)) (af.1.aH.length:Int)) λ(ei:Int)=>bnd (elO af.1.aH dJ.1) λ(e_1:bh)=>bnd (elO af.1.aH ei) λ(e_2:bh)=>bnd (mj bK.2 most) λ(cn:aG×aS)=>bnd (dh gT ([(aR.mk e_1.ID e_2.ID cn.1)]:List aR)) λ(l_3:List aR)=>Z3 (w64 (i_1-1),l_3,cn.2.L,cn.2.At)else some ((aB.mk af.1.Links m_1 gT),(aS.mk gH lZ))) (cr.1,[],cr.2.L,cr.2.At)) ([],af.2.L,af.2.At)
end Go.Proofs.YtjdopimopgpagaaGreat
