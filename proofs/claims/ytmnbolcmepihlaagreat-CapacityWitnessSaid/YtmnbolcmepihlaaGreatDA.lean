/- Several texts in one. No condition but those that stand in each. -/
import Derived.Test.YtmnbolcmepihlaaGreatWF
import Derived.Test.YtmnbolcmepihlaaGreatWD
namespace Go.Proofs.YtmnbolcmepihlaaGreat
open Go
set_option maxRecDepth 100000
set_option linter.all false
noncomputable section
def eT(xa0:Int):Option Bool:=
 some (!decide (xa0=xa0))
def b8(xa0:Int)(y:Int):Option Int:=
 bnd (eT xa0) λ(ay:Bool)=>bnd (eT y) λ(aI:Bool)=>bif ay then bif aI then some (0:Int)else some (-1:Int)else bif aI then some (1:Int)else bif decide (xa0<y)then some (-1:Int)else bif decide (y<xa0)then some (1:Int)else some (0:Int)
def eE(vals:List Int):Option Int:=
 bZ vals 0 (λ(j1:Int) (e1:Int) (Z1:Unit→Option _) (sg:Unit)=>match sg with|()=>bif !decide (e1=0)then some e1 else Z1 ()) (λ(sg:Unit)=>match sg with|()=>some (0:Int)) ()
def bY(xa0:List aY)(target:aY)(cmp:aY→aY→Option Int):Option (Int×Bool):=
 whl (λ(Z1:(Int×Int)→Option _) (sg:Int×Int)=>match sg with|(i_1,j_1)=>bif decide (i_1<j_1)then bnd (elO xa0 (w64 (Int.fdiv (IntKind.wrap .u64 (w64 (i_1+j_1))) (2 ^ min (1:Int).toNat 64)))) λ(e_1:aY)=>bnd (cmp e_1 target) λ(ay:Int)=>bif decide (ay<0)then Z1 (w64 ((w64 (Int.fdiv (IntKind.wrap .u64 (w64 (i_1+j_1))) (2 ^ min (1:Int).toNat 64)))+(1:Int)),j_1)else Z1 (i_1,w64 (Int.fdiv (IntKind.wrap .u64 (w64 (i_1+j_1))) (2 ^ min (1:Int).toNat 64)))else(bif decide (i_1<(xa0.length:Int))then bnd (elO xa0 i_1) λ(e_2:aY)=>bnd (cmp e_2 target) λ(aI:Int)=>some (i_1,decide (aI=0))else some (i_1,false))) ((0:Int),(xa0.length:Int))
def bL(xa0:List aW)(target:Int)(cmp:aW→Int→Option Int):Option (Int×Bool):=
 whl (λ(Z1:(Int×Int)→Option _) (sg:Int×Int)=>match sg with|(i_1,j_1)=>bif decide (i_1<j_1)then bnd (elO xa0 (w64 (Int.fdiv (IntKind.wrap .u64 (w64 (i_1+j_1))) (2 ^ min (1:Int).toNat 64)))) λ(e_1:aW)=>bnd (cmp e_1 target) λ(ay:Int)=>bif decide (ay<0)then Z1 (w64 ((w64 (Int.fdiv (IntKind.wrap .u64 (w64 (i_1+j_1))) (2 ^ min (1:Int).toNat 64)))+(1:Int)),j_1)else Z1 (i_1,w64 (Int.fdiv (IntKind.wrap .u64 (w64 (i_1+j_1))) (2 ^ min (1:Int).toNat 64)))else(bif decide (i_1<(xa0.length:Int))then bnd (elO xa0 i_1) λ(e_2:aW)=>bnd (cmp e_2 target) λ(aI:Int)=>some (i_1,decide (aI=0))else some (i_1,false))) ((0:Int),(xa0.length:Int))
def gp(sa0:List Int)(v:Int):Option Int:=
 bZ sa0 0 (λ(j1:Int) (e1:Int) (Z1:Unit→Option _) (sg:Unit)=>match sg with|()=>bif decide (v=e1)then some (j1:Int)else Z1 ()) (λ(sg:Unit)=>match sg with|()=>some (-1:Int)) ()
def dJ(sa0:List aW)(f:aW→Option Bool):Option Int:=
 bZ sa0 0 (λ(j1:Int) (e1:aW) (Z1:Unit→Option _) (sg:Unit)=>match sg with|()=>bnd (f e1) λ(ay:Bool)=>bif ay then some (j1:Int)else Z1 ()) (λ(sg:Unit)=>match sg with|()=>some (-1:Int)) ()
def dU(sa0:List aY)(f:aY→Option Bool):Option Int:=
 bZ sa0 0 (λ(j1:Int) (e1:aY) (Z1:Unit→Option _) (sg:Unit)=>match sg with|()=>bnd (f e1) λ(ay:Bool)=>bif ay then some (j1:Int)else Z1 ()) (λ(sg:Unit)=>match sg with|()=>some (-1:Int)) ()
def dP(sa0:List af)(f:af→Option Bool):Option Int:=
 bZ sa0 0 (λ(j1:Int) (e1:af) (Z1:Unit→Option _) (sg:Unit)=>match sg with|()=>bnd (f e1) λ(ay:Bool)=>bif ay then some (j1:Int)else Z1 ()) (λ(sg:Unit)=>match sg with|()=>some (-1:Int)) ()
def eF(sa0:List Int)(v:Int):Option Bool:=
 bnd (gp sa0 v) λ(ay:Int)=>some (decide (0≤ay))
def cB(sa0:List aW)(f:aW→Option Bool):Option Bool:=
 bnd (dJ sa0 f) λ(ay:Int)=>some (decide (0≤ay))
def bX(sa0:List aY)(f:aY→Option Bool):Option Bool:=
 bnd (dU sa0 f) λ(ay:Int)=>some (decide (0≤ay))
def gi(n:Int)(least:Int)(most:Int):Option Bool:=
 some ((decide (least≤n))&&(decide (n≤most)))
def fN(a:aY)(b:aY):Option Int:=
 bnd (b8 a.A b.A) λ(ay:Int)=>bnd (b8 a.B b.B) λ(aI:Int)=>bnd (eE ([ay,aI]:List Int)) λ(bk:Int)=>some bk
def gP(ra0:aW)(id:Int):Option Int:=
 bnd (b8 ra0.ID id) λ(ay:Int)=>some ay
def iZ(ra0:aW):Option Bool:=
 bnd (gi ra0.ID (1:Int) (99:Int)) λ(ay:Bool)=>some (!ay)
def gK(l:aY):Option Bool:=
 bnd (gi l.lZ (1:Int) (1000:Int)) λ(ay:Bool)=>(bif !ay then some true else bnd (gi l.l5 (1:Int) (1000:Int)) λ(aI:Bool)=>(bif !aI then some true else bnd (gi l.fh (0:Int) (1000:Int)) λ(bk:Bool)=>some (!bk)))
def fO(id:Int)(c_0:aq):Option Bool:=
 bnd (bL c_0.aS id gP) λ(ay:Int×Bool)=>some (!ay.2)
def ja(l:aY)(c_0:aq):Option Bool:=
 bnd (fO l.A c_0) λ(ay:Bool)=>(bif ay then some true else bnd (fO l.B c_0) λ(aI:Bool)=>some aI)
def jb(l:aY):Option Bool:=
 some (decide (l.B≤l.A))
def fJ(t:aq):Option Int:=
 bif ((decide (24<(t.aS.length:Int)))||(decide (60<(t.Links.length:Int))))then some (3:Int)else bnd (cB t.aS iZ) λ(ay:Bool)=>bif ay then some (2:Int)else bZ t.aS 0 (λ(j1:Int) (e1:aW) (Z1:Unit→Option _) (sg:Unit)=>match sg with|()=>jn (λ(v_1:Bool)=>bif v_1 then some (25:Int)else Z1 ()) λJ1=>(bif decide (0<(j1:Int))then bnd (elO t.aS (w64 ((j1:Int)-(1:Int)))) λ(e_1:aW)=>J1 (decide (e1.ID≤e_1.ID))else J1 false)) (λ(sg:Unit)=>match sg with|()=>bnd (bX t.Links gK) λ(aI:Bool)=>bif aI then some (2:Int)else bnd (bX t.Links (λ(y0:aY)=>ja y0 t)) λ(bk:Bool)=>bif bk then some (4:Int)else bnd (bX t.Links jb) λ(ck:Bool)=>bif ck then some (8:Int)else bZ t.Links 0 (λ(j2:Int) (e2:aY) (Z2:Unit→Option _) (sg:Unit)=>match sg with|()=>jn (λ(v_2:Bool)=>bif v_2 then some (25:Int)else Z2 ()) λJ2=>(bif decide (0<(j2:Int))then bnd (elO t.Links (w64 ((j2:Int)-(1:Int)))) λ(e_2:aY)=>bnd (fN e_2 e2) λ(dA:Int)=>J2 (decide (0≤dA))else J2 false)) (λ(sg:Unit)=>match sg with|()=>some (0:Int)) ()) ()
def gB(t:aq):Option Bool:=
 bnd (fJ t) λ(ay:Int)=>some (decide (ay=0))
def jc(t:aq)(iG:Int):Option (aW×Bool):=
 bnd (bL t.aS iG gP) λ(ay:Int×Bool)=>bif !ay.2 then some ((aW.mk (0:Int) false),false)else bnd (elO t.aS ay.1) λ(e_1:aW)=>some (e_1,true)
def iz(t:aq)(iG:Int):Option Bool:=
 bnd (jc t iG) λ(ay:aW×Bool)=>bnd (gB t) λ(aI:Bool)=>(bif aI then some ay.2 else some false)
def jd(t:aq)(lR:Int)(qv:Int):Option (Int×Bool):=
 bnd (gB t) λ(ay:Bool)=>bif !ay then some ((0:Int),false)else bnd (bY t.Links (aY.mk (if qv<lR then qv else lR) (if qv>lR then qv else lR) (0:Int) (0:Int) (0:Int)) fN) λ(aI:Int×Bool)=>bif !aI.2 then some ((0:Int),false)else bif decide (lR<qv)then bnd (elO t.Links aI.1) λ(e_1:aY)=>some (e_1.lZ,true)else bnd (elO t.Links aI.1) λ(e_2:aY)=>some (e_2.l5,true)
end
end Go.Proofs.YtmnbolcmepihlaaGreat
namespace Go.Proofs.YtmnbolcmepihlaaGreat
open Go
set_option maxRecDepth 100000
set_option linter.all false
noncomputable section
def lJ(xa0:Int):Option Int:=
 jn (λ(sg:Int×Int)=>match sg with|(ay,n_1)=>jn (λ(sg:Int×Int)=>match sg with|(aI,n_2)=>jn (λ(sg:Int×Int)=>match sg with|(bk,n_3)=>bnd (ixS (⟨#[0,1,2,2,3,3,3,3,4,4,4,4,4,4,4,4,5,5,5,5,5,5,5,5,5,5,5,5,5,5,5,5,6,6,6,6,6,6,6,6,6,6,6,6,6,6,6,6,6,6,6,6,6,6,6,6,6,6,6,6,6,6,6,6,7,7,7,7,7,7,7,7,7,7,7,7,7,7,7,7,7,7,7,7,7,7,7,7,7,7,7,7,7,7,7,7,7,7,7,7,7,7,7,7,7,7,7,7,7,7,7,7,7,7,7,7,7,7,7,7,7,7,7,7,7,7,7,7,8,8,8,8,8,8,8,8,8,8,8,8,8,8,8,8,8,8,8,8,8,8,8,8,8,8,8,8,8,8,8,8,8,8,8,8,8,8,8,8,8,8,8,8,8,8,8,8,8,8,8,8,8,8,8,8,8,8,8,8,8,8,8,8,8,8,8,8,8,8,8,8,8,8,8,8,8,8,8,8,8,8,8,8,8,8,8,8,8,8,8,8,8,8,8,8,8,8,8,8,8,8,8,8,8,8,8,8,8,8,8,8,8,8,8,8,8,8,8,8,8,8,8,8,8,8,8,8]⟩:ByteArray) (IntKind.wrap .u8 bk)) λ(b_1:UInt8)=>some (w64 (n_3+(w64 (b_1.toNat:Int))))) λJ3=>bif decide (256≤aI)then J3 (Int.fdiv aI (2 ^ min (8:Int).toNat 64),w64 (n_2+8))else J3 (aI,n_2)) λJ2=>bif decide (65536≤ay)then J2 (Int.fdiv ay (2 ^ min (16:Int).toNat 64),w64 (n_1+16))else J2 (ay,n_1)) λJ1=>bif decide (4294967296≤xa0)then J1 (Int.fdiv xa0 (2 ^ min (32:Int).toNat 64),(32:Int))else J1 (xa0,(0:Int))
def mY(xa0:Int):Option Int:=
 bnd (lJ xa0) λ(ay:Int)=>some ay
def eW: Option Unit:=
 whl (λ(Z1:Unit→Option _) (sg:Unit)=>match sg with|()=>some ()) ()
def fS(limit:Int):Option Unit:=
 whl (λ(Z1:Unit→Option _) (sg:Unit)=>match sg with|()=>bnd (eW) λ(ay:Unit)=>some ()) ()
def ko: Option Unit:=
 bnd (mY (0:Int)) λ(ay:Int)=>bnd (fS ay) λ(aI:Unit)=>some ()
end
end Go.Proofs.YtmnbolcmepihlaaGreat
namespace Go.Proofs.YtmnbolcmepihlaaGreat
open Go
set_option maxRecDepth 100000
set_option linter.all false
noncomputable section
def hU(t:List Int):Option bp:=
 bnd (mc t (0:Int) (if(2000:Int)<(t.length:Int)then(2000:Int)else(t.length:Int))) λ(l_1:List Int)=>some (bp.mk l_1 (0:Int))
def fH(t:bp):Option (Int×bp):=
 bif decide ((t.L.length:Int)≤t.At)then some ((0:Int),t)else bnd (elO t.L (w64 ((w64 (t.At+1))-(1:Int)))) λ(e_1:Int)=>some (e_1,(bp.mk t.L (w64 (t.At+1))))
def ia(xa0:Int)(n:Int):Option Int:=
 bif decide (n<1)then some (0:Int)else chk (decide (n≠0))<|jn (λ(ay:Int)=>some ay) λJ1=>bif decide (Int.tmod xa0 n<0)then J1 (w64 ((Int.tmod xa0 n)+n))else J1 (Int.tmod xa0 n)
def bO(t:bp)(n:Int):Option (Int×bp):=
 bnd (fH t) λ(ay:Int×bp)=>bnd (ia ay.1 n) λ(aI:Int)=>some (aI,ay.2)
def dS(t:bp)(lo:Int)(hi:Int):Option (Int×bp):=
 bnd (bO t (w64 ((w64 (hi-lo))+(1:Int)))) λ(ay:Int×bp)=>some (w64 (lo+ay.1),ay.2)
def cZ(t:bp)(l:List Int):Option (Int×bp):=
 bnd (bO t (l.length:Int)) λ(ay:Int×bp)=>bnd (elO l ay.1) λ(e_1:Int)=>some (e_1,ay.2)
def fm(l:List Int)(xa1:Int):Option Bool:=
 bZ l 0 (λ(j1:Int) (e1:Int) (Z1:Unit→Option _) (sg:Unit)=>match sg with|()=>bif decide (e1=xa1)then some true else Z1 ()) (λ(sg:Unit)=>match sg with|()=>some false) ()
def ic(l:List Int)(xa1:Int):Option (List Int):=
 whl (λ(Z1:Int→Option _) (k_1:Int)=>jn (λ(v_1:Bool)=>bif v_1 then Z1 (w64 (k_1+1))else jn (λ(v_2:Bool)=>bif v_2 then some l else bnd (mc l k_1 (l.length:Int)) λ(l_1:List Int)=>bnd (gV ([xa1]:List Int) l_1) λ(l_2:List Int)=>bnd (mc l (0:Int) k_1) λ(l_3:List Int)=>bnd (gV l_3 l_2) λ(l_4:List Int)=>some l_4) λJ2=>(bif decide (k_1<(l.length:Int))then bnd (elO l k_1) λ(e_2:Int)=>J2 (decide (e_2=xa1))else J2 false)) λJ1=>(bif decide (k_1<(l.length:Int))then bnd (elO l k_1) λ(e_1:Int)=>J1 (decide (e_1<xa1))else J1 false)) (0:Int)
def gL(a:List Int)(b:List Int):Option Bool:=
 bif !decide ((a.length:Int)=(b.length:Int))then some false else bZ a 0 (λ(j1:Int) (e1:Int) (Z1:Unit→Option _) (sg:Unit)=>match sg with|()=>bnd (elO b (j1:Int)) λ(e_1:Int)=>bif !decide (e1=e_1)then some false else Z1 ()) (λ(sg:Unit)=>match sg with|()=>some true) ()
end
end Go.Proofs.YtmnbolcmepihlaaGreat
namespace Go.Proofs.YtmnbolcmepihlaaGreat
open Go
set_option maxRecDepth 100000
set_option linter.all false
noncomputable section
def jL(t:bp)(most:Int):Option (aq×bp):=
 bnd (dS t (1:Int) most) λ(ay:Int×bp)=>chk (decide (ay.1≤9223372036854775807))<|jV (ay.1-0).toNat (0:Int) (λ(j1:Int) (Z1:(Int×(List aW)×(List Int)×Int)→Option _) (sg:Int×(List aW)×(List Int)×Int)=>match sg with|(qw,m_1,m_2,m_3)=>bnd (cZ (bp.mk m_2 m_3) ([(1:Int),(1:Int),(1:Int),(2:Int),(5:Int)]:List Int)) λ(aI:Int×bp)=>bnd (gV m_1 ([(aW.mk (w64 (qw+aI.1)) true)]:List aW)) λ(l_1:List aW)=>Z1 (w64 (qw+aI.1),l_1,aI.2.L,aI.2.At)) (λ(j1:Int) (sg:Int×(List aW)×(List Int)×Int)=>match sg with|(qw,m_1,m_2,m_3)=>chk (decide (0<ay.1)&&decide (ay.1≤4294967296))<|chk (decide (((List.replicate ay.1.toNat []:List (List Bool)).length:Int)≤9223372036854775807))<|jV (((List.replicate ay.1.toNat []:List (List Bool)).length:Int)-(0:Int)).toNat (0:Int) (λ(j2:Int) (Z2:(List (List Bool))→Option _) (m_4:(List (List Bool)))=>chk (decide (0≤ay.1)&&decide (ay.1≤4294967296))<|bnd (elO m_4 (j2:Int)) λ(e_1:List Bool)=>Z2 (List.set m_4 (j2:Int).toNat (List.replicate (ay.1).toNat false))) (λ(j2:Int) (m_4:(List (List Bool)))=>chk (decide (ay.1≤9223372036854775807))<|jV (ay.1-1).toNat (1:Int) (λ(j3:Int) (Z3:((List Int)×Int×(List (List Bool)))→Option _) (sg:(List Int)×Int×(List (List Bool)))=>match sg with|(m_5,m_6,m_7)=>jn (λ(sg:(List (List Bool))×(List Int)×Int)=>match sg with|(m_8,m_9,xB)=>Z3 (m_9,xB,m_8)) λJ1=>bnd (bO (bp.mk m_5 m_6) (12:Int)) λ(bk:Int×bp)=>bif decide (bk.1<11)then bnd (bO bk.2 (j3:Int)) λ(ck:Int×bp)=>bnd (elO m_7 ck.1) λ(e_2:List Bool)=>bnd (elO e_2 (j3:Int)) λ(e_3:Bool)=>bnd (ow e_2 (j3:Int) true) λ(l_2:List Bool)=>J1 ((List.set m_7 ck.1.toNat l_2),ck.2.L,ck.2.At)else J1 (m_7,bk.2.L,bk.2.At)) (λ(j3:Int) (sg:(List Int)×Int×(List (List Bool)))=>match sg with|(m_5,m_6,m_7)=>bnd (bO (bp.mk m_5 m_6) (w64 (ay.1+2))) λ(dA:Int×bp)=>whl (λ(Z4:(Int×(List Int)×Int×(List (List Bool)))→Option _) (sg:Int×(List Int)×Int×(List (List Bool)))=>match sg with|(i_1,xC,xD,ec)=>bif decide (0<i_1)then jn (λ(sg:(List (List Bool))×(List Int)×Int)=>match sg with|(xE,xF,xG)=>Z4 (w64 (i_1-1),xF,xG,xE)) λJ2=>bnd (bO (bp.mk xC xD) ay.1) λ(dg:Int×bp)=>bnd (bO dg.2 ay.1) λ(dD:Int×bp)=>bif !decide (dg.1=dD.1)then bnd (elO ec (if dD.1<dg.1 then dD.1 else dg.1)) λ(e_4:List Bool)=>bnd (elO e_4 (if dD.1>dg.1 then dD.1 else dg.1)) λ(e_5:Bool)=>bnd (ow e_4 (if dD.1>dg.1 then dD.1 else dg.1) true) λ(l_3:List Bool)=>J2 ((List.set ec (if dD.1<dg.1 then dD.1 else dg.1).toNat l_3),dD.2.L,dD.2.At)else J2 (ec,dD.2.L,dD.2.At)else bnd (bO (bp.mk xC xD) (3:Int)) λ(kY:Int×bp)=>chk (decide ((ec.length:Int)≤9223372036854775807))<|jV ((ec.length:Int)-(0:Int)).toNat (0:Int) (λ(j5:Int) (Z5:((List aY)×(List Int)×Int)→Option _) (sg:(List aY)×(List Int)×Int)=>match sg with|(sI,sJ,sK)=>chk (decide ((ec.length:Int)≤9223372036854775807))<|jV ((ec.length:Int)-(0:Int)).toNat (0:Int) (λ(j6:Int) (Z6:((List aY)×(List Int)×Int)→Option _) (sg:(List aY)×(List Int)×Int)=>match sg with|(nK,pQ,pR)=>jn (λ(sg:(List Int)×Int×(List aY))=>match sg with|(xH,xI,xJ)=>Z6 (xJ,xH,xI)) λJ3=>bnd (elO ec (j5:Int)) λ(e_6:List Bool)=>bnd (elO e_6 (j6:Int)) λ(e_7:Bool)=>bif !e_7 then J3 (pQ,pR,nK)else bnd (elO m_1 (j5:Int)) λ(e_8:aW)=>bnd (elO m_1 (j6:Int)) λ(e_9:aW)=>bnd (cZ (bp.mk pQ pR) ([(0:Int),(1:Int),(2:Int),(3:Int),(5:Int),(10:Int),(1000:Int)]:List Int)) λ(mm:Int×bp)=>jn (λ(sg:(List Int)×Int×Int×Int)=>match sg with|(xK,xL,z6,z7)=>bnd (gV nK ([(aY.mk e_8.ID e_9.ID z6 z7 mm.1)]:List aY)) λ(l_4:List aY)=>J3 (xK,xL,l_4)) λJ4=>bif !(decide (kY.1=0))then bnd (dS mm.2 (1:Int) (20:Int)) λ(uR:Int×bp)=>bnd (cZ uR.2 ([(1:Int),(2:Int),(3:Int),uR.1,(1000:Int)]:List Int)) λ(lF:Int×bp)=>bnd (dS lF.2 (1:Int) (20:Int)) λ(ab8:Int×bp)=>bnd (cZ ab8.2 ([lF.1,lF.1,ab8.1]:List Int)) λ(oR:Int×bp)=>J4 (oR.2.L,oR.2.At,lF.1,oR.1)else J4 (mm.2.L,mm.2.At,(1:Int),(1:Int))) (λ(j6:Int) (sg:(List aY)×(List Int)×Int)=>match sg with|(nK,pQ,pR)=>Z5 (nK,pQ,pR)) (sI,sJ,sK)) (λ(j5:Int) (sg:(List aY)×(List Int)×Int)=>match sg with|(sI,sJ,sK)=>some ((aq.mk m_1 sI),(bp.mk sJ sK))) ([],kY.2.L,kY.2.At)) (dA.1,dA.2.L,dA.2.At,m_7)) (m_2,m_3,m_4)) (List.replicate ay.1.toNat []:List (List Bool))) ((0:Int),[],ay.2.L,ay.2.At)
def mZ(t:bp)(p:aq)(n:Int):Option ((List Int)×bp):=
 bnd (bO t (w64 (n+1))) λ(ay:Int×bp)=>whl (λ(Z1:((List Int)×Int×(List Int)×Int)→Option _) (sg:(List Int)×Int×(List Int)×Int)=>match sg with|(bU,i_1,m_1,m_2)=>bif ((decide (0<i_1))&&(decide (0<(p.aS.length:Int))))then bnd (bO (bp.mk m_1 m_2) (p.aS.length:Int)) λ(aI:Int×bp)=>bnd (elO p.aS aI.1) λ(e_1:aW)=>bnd (ic bU e_1.ID) λ(bk:(List Int))=>Z1 (bk,w64 (i_1-1),aI.2.L,aI.2.At)else some (bU,(bp.mk m_1 m_2))) ([],ay.1,ay.2.L,ay.2.At)
end
end Go.Proofs.YtmnbolcmepihlaaGreat
namespace Go.Proofs.YtmnbolcmepihlaaGreat
open Go
set_option maxRecDepth 100000
set_option linter.all false
noncomputable section
def gN(xa0:Int):Option Bool:=
 some (!decide (xa0=xa0))
def jM(xa0:Int)(y:Int):Option Bool:=
 bnd (eT xa0) λ(ay:Bool)=>(bif ay then bnd (eT y) λ(aI:Bool)=>(bif !aI then some true else some (decide (xa0<y)))else some (decide (xa0<y)))
def dY(xa0:List Int)(target:Int):Option (Int×Bool):=
 whl (λ(Z1:(Int×Int)→Option _) (sg:Int×Int)=>match sg with|(i_1,j_1)=>bif decide (i_1<j_1)then bnd (elO xa0 (w64 (Int.fdiv (IntKind.wrap .u64 (w64 (i_1+j_1))) (2 ^ min (1:Int).toNat 64)))) λ(e_1:Int)=>bnd (jM e_1 target) λ(ay:Bool)=>bif ay then Z1 (w64 ((w64 (Int.fdiv (IntKind.wrap .u64 (w64 (i_1+j_1))) (2 ^ min (1:Int).toNat 64)))+(1:Int)),j_1)else Z1 (i_1,w64 (Int.fdiv (IntKind.wrap .u64 (w64 (i_1+j_1))) (2 ^ min (1:Int).toNat 64)))else(bif decide (i_1<(xa0.length:Int))then bnd (elO xa0 i_1) λ(e_2:Int)=>(bif decide (e_2=target)then some (i_1,true)else bnd (gN e_2) λ(aI:Bool)=>(bif aI then bnd (gN target) λ(bk:Bool)=>some (i_1,bk)else some (i_1,false)))else some (i_1,false))) ((0:Int),(xa0.length:Int))
def fP(n:Int):Option Bool:=
 some ((decide (1≤n))&&(decide (n≤99)))
def gu(t:aX):Option (List (Int×Bool)):=
 whl (λ(Z1:(Bool×(List (Int×Bool)))→Option _) (sg:Bool×(List (Int×Bool)))=>match sg with|(o7,m_1)=>bif o7 then bZ t.Links 0 (λ(j2:Int) (e2:aF) (Z2:(Bool×(List (Int×Bool)))→Option _) (sg:Bool×(List (Int×Bool)))=>match sg with|(jN,m_2)=>jn (λ(sg:Bool×(List (Int×Bool)))=>match sg with|(o8,m_3)=>Z2 (o8,m_3)) λJ1=>bif (((aO m_2 e2.aJ).getD false)&&(!((aO m_2 e2.To).getD false)))then J1 (true,bt m_2 e2.To true)else J1 (jN,m_2)) (λ(sg:Bool×(List (Int×Bool)))=>match sg with|(jN,m_2)=>Z1 (jN,m_2)) (false,m_1)else some m_1) (true,bt [] t.bK true)
def eY(t:aX):Option Int:=
 bnd (fP t.bK) λ(ay:Bool)=>bif !ay then some (2:Int)else bZ t.Links 0 (λ(j1:Int) (e1:aF) (Z1:Unit→Option _) (sg:Unit)=>match sg with|()=>jn (λ(v_1:Bool)=>bif v_1 then some (2:Int)else Z1 ()) λJ1=>bnd (fP e1.aJ) λ(aI:Bool)=>(bif !aI then J1 true else bnd (fP e1.To) λ(bk:Bool)=>J1 (!bk))) (λ(sg:Unit)=>match sg with|()=>bZ (List.drop 1 t.Links) 1 (λ(j2:Int) (e2:aF) (Z2:Unit→Option _) (sg:Unit)=>match sg with|()=>bnd (elO t.Links (w64 ((j2:Int)-(1:Int)))) λ(e_1:aF)=>bnd (b8 e_1.aJ e2.aJ) λ(ck:Int)=>bnd (b8 e_1.To e2.To) λ(dA:Int)=>bnd (eE ([ck,dA]:List Int)) λ(dg:Int)=>bif decide (0≤dg)then some (25:Int)else Z2 ()) (λ(sg:Unit)=>match sg with|()=>bZ t.Links 0 (λ(j3:Int) (e3:aF) (Z3:(List (Int×Bool))→Option _) (m_1:(List (Int×Bool)))=>bif ((aO m_1 e3.To).getD false)then some (8:Int)else Z3 (bt m_1 e3.To true)) (λ(m_1:(List (Int×Bool)))=>bnd (gu t) λ(dD:(List (Int×Bool)))=>bZ t.Links 0 (λ(j4:Int) (e4:aF) (Z4:Unit→Option _) (sg:Unit)=>match sg with|()=>bif !((aO dD e4.aJ).getD false)then some (10:Int)else Z4 ()) (λ(sg:Unit)=>match sg with|()=>some (0:Int)) ()) (bt [] t.bK true)) ()) ()
def gv(t:aX):Option (List Int):=
 bnd (eY t) λ(ay:Int)=>bif !decide (ay=0)then some []else bZ t.Links 0 (λ(j1:Int) (e1:aF) (Z1:(List Int)→Option _) (bU:(List Int))=>bnd (gV bU ([e1.To]:List Int)) λ(l_1:List Int)=>Z1 l_1) (λ(bU:(List Int))=>chk (decide (bU.length<4611686018427387904))<|some (fW bU)) ([t.bK]:List Int)
end
end Go.Proofs.YtmnbolcmepihlaaGreat
namespace Go.Proofs.YtmnbolcmepihlaaGreat
open Go
set_option maxRecDepth 100000
set_option linter.all false
noncomputable section
def jf(a:aF)(b:aF):Option Int:=
 bnd (b8 a.aJ b.aJ) λ(ay:Int)=>bnd (b8 a.To b.To) λ(aI:Int)=>bnd (eE ([ay,aI]:List Int)) λ(bk:Int)=>some bk
def nc(a:af)(b:af):Option Int:=
 bnd (b8 a.Hop.aJ b.Hop.aJ) λ(ay:Int)=>bnd (b8 a.Hop.To b.Hop.To) λ(aI:Int)=>bnd (eE ([ay,aI]:List Int)) λ(bk:Int)=>some bk
def jg(a:bP)(b:bP):Option Int:=
 bnd (b8 a.aJ b.aJ) λ(ay:Int)=>bnd (b8 a.To b.To) λ(aI:Int)=>bnd (eE ([ay,aI]:List Int)) λ(bk:Int)=>some bk
end
end Go.Proofs.YtmnbolcmepihlaaGreat
namespace Go.Proofs.YtmnbolcmepihlaaGreat
open Go
set_option maxRecDepth 100000
set_option linter.all false
noncomputable section
def ng(t:aq):Option (List af):=
 bZ t.Links 0 (λ(j1:Int) (e1:aY) (Z1:(List af)→Option _) (bU:(List af))=>bnd (gV bU ([(af.mk (aF.mk e1.A e1.B) e1.lZ),(af.mk (aF.mk e1.B e1.A) e1.l5)]:List af)) λ(l_1:List af)=>Z1 l_1) (λ(bU:(List af))=>bnd (iM (cD [λx:af=>x.Hop.aJ,λx:af=>x.Hop.To]) bU) λ(l_2:List af)=>some l_2) []
end
end Go.Proofs.YtmnbolcmepihlaaGreat
namespace Go.Proofs.YtmnbolcmepihlaaGreat
open Go
set_option maxRecDepth 100000
set_option linter.all false
noncomputable section
def gw(l:List Int):Option Bool:=
 bZ (List.drop 1 l) 1 (λ(j1:Int) (e1:Int) (Z1:Unit→Option _) (sg:Unit)=>match sg with|()=>bnd (elO l (w64 ((j1:Int)-(1:Int)))) λ(e_1:Int)=>bif decide (e1≤e_1)then some false else Z1 ()) (λ(sg:Unit)=>match sg with|()=>some true) ()
def gx(t:aq)(xa1:aX)(receivers:List Int):Option Int:=
 bnd (fJ t) λ(ay:Int)=>bif !decide (ay=0)then some (1:Int)else bnd (eY xa1) λ(aI:Int)=>bif !decide (aI=0)then some aI else bnd (gV ([xa1.bK]:List Int) receivers) λ(l_1:List Int)=>bZ l_1 0 (λ(j1:Int) (e1:Int) (Z1:Unit→Option _) (sg:Unit)=>match sg with|()=>bnd (iz t e1) λ(bk:Bool)=>bif !bk then some (4:Int)else Z1 ()) (λ(sg:Unit)=>match sg with|()=>bZ xa1.Links 0 (λ(j2:Int) (e2:aF) (Z2:Unit→Option _) (sg:Unit)=>match sg with|()=>bnd (jd t e2.aJ e2.To) λ(ck:Int×Bool)=>bif !ck.2 then some (4:Int)else Z2 ()) (λ(sg:Unit)=>match sg with|()=>bnd (gw receivers) λ(dA:Bool)=>bif !dA then some (25:Int)else bnd (gv xa1) λ(dg:(List Int))=>bZ receivers 0 (λ(j3:Int) (e3:Int) (Z3:Unit→Option _) (sg:Unit)=>match sg with|()=>bnd (eF dg e3) λ(dD:Bool)=>bif !dD then some (9:Int)else Z3 ()) (λ(sg:Unit)=>match sg with|()=>some (0:Int)) ()) ()) ()
end
end Go.Proofs.YtmnbolcmepihlaaGreat
namespace Go.Proofs.YtmnbolcmepihlaaGreat
open Go
set_option maxRecDepth 100000
set_option linter.all false
noncomputable section
def iI(t:aq)(d:aR):Option Int:=
 bif decide (6<(d.bq.length:Int))then some (3:Int)else bZ (List.drop 1 d.bq) 1 (λ(j1:Int) (e1:Int) (Z1:Unit→Option _) (sg:Unit)=>match sg with|()=>bnd (elO d.bq (w64 ((j1:Int)-(1:Int)))) λ(e_1:Int)=>bif decide (e1≤e_1)then some (25:Int)else Z1 ()) (λ(sg:Unit)=>match sg with|()=>bnd (gV ([d.bK]:List Int) d.bq) λ(l_1:List Int)=>bZ l_1 0 (λ(j2:Int) (e2:Int) (Z2:Unit→Option _) (sg:Unit)=>match sg with|()=>bnd (iz t e2) λ(ay:Bool)=>bif !ay then some (4:Int)else Z2 ()) (λ(sg:Unit)=>match sg with|()=>bif ((decide (d.eD<1))||(decide (1000<d.eD)))then some (2:Int)else some (0:Int)) ()) ()
def fL(t:aq)(bH:List aR):Option Int:=
 bnd (fJ t) λ(ay:Int)=>bif !decide (ay=0)then some (1:Int)else bif decide (12<(bH.length:Int))then some (3:Int)else bZ bH 0 (λ(j1:Int) (e1:aR) (Z1:Unit→Option _) (sg:Unit)=>match sg with|()=>bnd (iI t e1) λ(aI:Int)=>bif !decide (aI=0)then some aI else Z1 ()) (λ(sg:Unit)=>match sg with|()=>some (0:Int)) ()
def gD(t:aq):Option (List (aF×Int)):=
 bZ t.Links 0 (λ(j1:Int) (e1:aY) (Z1:(List (aF×Int))→Option _) (m_1:(List (aF×Int)))=>Z1 (dQ bh (dQ bh m_1 (aF.mk e1.A e1.B) e1.fh) (aF.mk e1.B e1.A) e1.fh)) (λ(m_1:(List (aF×Int)))=>some m_1) []
def cS(sa0:List af)(del:af→Option Bool):Option (List af):=
 bnd (dP sa0 del) λ(ay:Int)=>bif decide (ay=(-1:Int))then some sa0 else whl (λ(Z1:((List af)×Int×Int)→Option _) (sg:(List af)×Int×Int)=>match sg with|(j7,i_1,j_1)=>bif decide (j_1<(j7.length:Int))then jn (λ(sg:(List af)×Int)=>match sg with|(xT,i_2)=>Z1 (xT,i_2,w64 (j_1+1))) λJ1=>bnd (elO j7 j_1) λ(e_1:af)=>bnd (del e_1) λ(aI:Bool)=>bif !aI then bnd (elO j7 i_1) λ(e_2:af)=>bnd (ow j7 i_1 e_1) λ(l_1:List af)=>J1 (l_1,w64 (i_1+1))else J1 (j7,i_1)else chk (decide (0≤i_1∧i_1<(j7.length:Int)))<|bnd (mc (j7.take i_1.toNat++List.replicate (j7.length-i_1.toNat) (af.mk (aF.mk (0:Int) (0:Int)) (0:Int))) (0:Int) i_1) λ(l_2:List af)=>some l_2) (sa0,ay,w64 (ay+1))
def gq(a:af)(c_0:List (aF×Int))(c_1:Int):Option Bool:=
 some (decide (((bN bh c_0 a.Hop).getD (0:Int))<c_1))
def eZ(ra0:List (aF×Int))(t:aq)(gb:Int):Option (List af):=
 bnd (ng t) λ(ay:(List af))=>bnd (cS ay (λ(y0:af)=>gq y0 ra0 gb)) λ(aI:(List af))=>some aI
def cu(ra0:List (aF×Int))(xa1:aX)(gb:Int):Option (Bool×(List (aF×Int))):=
 bZ xa1.Links 0 (λ(j1:Int) (e1:aF) (Z1:(Bool×(List (aF×Int)))→Option _) (sg:Bool×(List (aF×Int)))=>match sg with|(lU,m_1)=>chk (bN bh m_1 e1).isSome<|(bif lU then Z1 (decide (0≤((bN bh (dQ bh m_1 e1 (w64 (((bN bh m_1 e1).getD (0:Int))-gb))) e1).getD (0:Int))),dQ bh m_1 e1 (w64 (((bN bh m_1 e1).getD (0:Int))-gb)))else Z1 (false,dQ bh m_1 e1 (w64 (((bN bh m_1 e1).getD (0:Int))-gb))))) (λ(sg:Bool×(List (aF×Int)))=>match sg with|(lU,m_1)=>some (lU,m_1)) (true,ra0)
def jh(xa0:aX):Option Bool:=
 some ((decide (xa0.bK=0))&&(decide ((xa0.Links.length:Int)=(0:Int))))
end
end Go.Proofs.YtmnbolcmepihlaaGreat
namespace Go.Proofs.YtmnbolcmepihlaaGreat
open Go
set_option maxRecDepth 100000
set_option linter.all false
noncomputable section
def ji(ai:List af)(root:Int):Option (List Int):=
 whl (λ(Z1:((List Int)×Int×(List (Int×Bool)))→Option _) (sg:(List Int)×Int×(List (Int×Bool)))=>match sg with|(bU,i_1,m_1)=>bif decide (i_1<(bU.length:Int))then bZ ai 0 (λ(j2:Int) (e2:af) (Z2:((List Int)×(List (Int×Bool)))→Option _) (sg:(List Int)×(List (Int×Bool)))=>match sg with|(gR,m_2)=>jn (λ(sg:(List Int)×(List (Int×Bool)))=>match sg with|(uS,m_3)=>Z2 (uS,m_3)) λJ1=>jn (λ(v_1:Bool)=>bif v_1 then bnd (gV gR ([e2.Hop.To]:List Int)) λ(l_1:List Int)=>J1 (l_1,bt m_2 e2.Hop.To true)else J1 (gR,m_2)) λJ2=>bnd (elO gR i_1) λ(e_1:Int)=>(bif decide (e2.Hop.aJ=e_1)then J2 (!((aO m_2 e2.Hop.To).getD false))else J2 false)) (λ(sg:(List Int)×(List (Int×Bool)))=>match sg with|(gR,m_2)=>Z1 (gR,w64 (i_1+1),m_2)) (bU,m_1)else chk (decide (bU.length<4611686018427387904))<|some (fW bU)) (([root]:List Int),(0:Int),bt [] root true)
def iL(t:aq)(ra1:List (aF×Int))(d:aR):Option ((List Int)×Bool):=
 bnd (eZ ra1 t d.eD) λ(ay:(List af))=>bnd (ji ay d.bK) λ(aI:(List Int))=>bZ d.bq 0 (λ(j1:Int) (e1:Int) (Z1:Unit→Option _) (sg:Unit)=>match sg with|()=>bnd (dY aI e1) λ(bk:Int×Bool)=>bif !bk.2 then some (aI,false)else Z1 ()) (λ(sg:Unit)=>match sg with|()=>some (aI,true)) ()
def fq(t:aq)(rest:List bP)(d:aR):Option ((List Int)×Int):=
 bnd (fL t ([d]:List aR)) λ(ay:Int)=>bif !decide (ay=0)then some ([],ay)else bnd (j8 rest) λ(aI:(List (aF×Int)))=>bnd (iL t aI d) λ(bk:(List Int)×Bool)=>bif bk.2 then some ([],(9:Int))else some (bk.1,(0:Int))
def fE(t:aq)(bH:List aR)(l:List aX):Option ((List bP)×Int):=
 bnd (fL t bH) λ(ay:Int)=>bif !decide (ay=0)then some ([],ay)else bif decide ((bH.length:Int)<(l.length:Int))then some ([],(8:Int))else bnd (gD t) λ(aI:(List (aF×Int)))=>bZ l 0 (λ(j1:Int) (e1:aX) (Z1:(List (aF×Int))→Option _) (m_1:(List (aF×Int)))=>jn (λ(sg:Bool×(List (aF×Int)))=>match sg with|(v_1,m_2)=>bif v_1 then some ([],(1:Int))else Z1 m_2) λJ1=>bnd (jh e1) λ(bk:Bool)=>(bif !bk then bnd (gx t e1 []) λ(ck:Int)=>(bif !decide (ck=0)then J1 (true,m_1)else bnd (elO bH (j1:Int)) λ(e_1:aR)=>bnd (cu m_1 e1 e_1.eD) λ(dA:Bool×(List (aF×Int)))=>J1 (!dA.1,dA.2))else bnd (elO bH (j1:Int)) λ(e_2:aR)=>bnd (cu m_1 e1 e_2.eD) λ(dg:Bool×(List (aF×Int)))=>J1 (!dg.1,dg.2))) (λ(m_1:(List (aF×Int)))=>bnd (iK m_1) λ(dD:(List bP))=>some (dD,(0:Int))) aI
end
end Go.Proofs.YtmnbolcmepihlaaGreat
namespace Go.Proofs.YtmnbolcmepihlaaGreat
open Go
set_option maxRecDepth 100000
set_option linter.all false
noncomputable section
def gE{β:Type}(t:aq)(bH:List aR)(K0:((List aX)×Int)→Option β):Option β:=
 bnd (fL t bH) λ(ay:Int)=>bif !decide (ay=0)then K0 ([],ay)else bnd (gD t) λ(aI:(List (aF×Int)))=>chk (decide (0≤(bH.length:Int))&&decide ((bH.length:Int)≤4294967296))<|bZ bH 0 (λ(j1:Int) (e1:aR) (Z1:((List aX)×(List (aF×Int)))→Option _) (sg:(List aX)×(List (aF×Int)))=>match sg with|(bU,m_1)=>jn (λ(sg:(List aX)×(List (aF×Int)))=>match sg with|(gR,m_2)=>Z1 (gR,m_2)) λJ1=>bnd (eZ m_1 t e1.eD) λ(bk:(List af))=>iH bk e1.bK e1.bq λ(ck:(List aF)×Int×Bool)=>bif ck.2.2 then bnd (elO bU (j1:Int)) λ(e_1:aX)=>bnd (ow bU (j1:Int) (aX.mk e1.bK ck.1)) λ(l_1:List aX)=>bnd (elO l_1 (j1:Int)) λ(e_2:aX)=>bnd (cu m_1 e_2 e1.eD) λ(dA:Bool×(List (aF×Int)))=>J1 (l_1,dA.2)else J1 (bU,m_1)) (λ(sg:(List aX)×(List (aF×Int)))=>match sg with|(bU,m_1)=>K0 (bU,(0:Int))) ((List.replicate ((bH.length:Int)).toNat (aX.mk (0:Int) [])),aI)
end
end Go.Proofs.YtmnbolcmepihlaaGreat
namespace Go.Proofs.YtmnbolcmepihlaaGreat
open Go
set_option maxRecDepth 100000
set_option linter.all false
noncomputable section
def kr(t:bp)(p:aq)(n:Int):Option ((List aR)×bp):=
 bnd (bO t (w64 (n+1))) λ(ay:Int×bp)=>whl (λ(Z1:((List aR)×Int×(List Int)×Int)→Option _) (sg:(List aR)×Int×(List Int)×Int)=>match sg with|(bU,i_1,m_1,m_2)=>bif decide (0<i_1)then bnd (bO (bp.mk m_1 m_2) (p.aS.length:Int)) λ(aI:Int×bp)=>bnd (elO p.aS aI.1) λ(e_1:aW)=>bnd (mZ aI.2 p (3:Int)) λ(bk:(List Int)×bp)=>bnd (cZ bk.2 ([(1:Int),(1:Int),(2:Int),(3:Int),(5:Int),(1000:Int)]:List Int)) λ(ck:Int×bp)=>bnd (gV bU ([(aR.mk e_1.ID bk.1 ck.1)]:List aR)) λ(l_1:List aR)=>Z1 (l_1,w64 (i_1-1),ck.2.L,ck.2.At)else some (bU,(bp.mk m_1 m_2))) ([],ay.1,ay.2.L,ay.2.At)
end
end Go.Proofs.YtmnbolcmepihlaaGreat
