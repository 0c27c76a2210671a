/- Several texts in one. No condition but those that stand in each. -/
import Derived.Test.YtdjeacigeegklaaGreatT
namespace Go.Proofs.YtdjeacigeegklaaGreat
open Go
set_option maxRecDepth 100000
set_option linter.all false
noncomputable section
def n9(l:List Int)(n:Int):Option Bool:=
 bJ l 0 (λ(j1:Int) (e1:Int) (Z1:Unit→Option _) (sg:Unit)=>match sg with|()=>bif decide (e1=n)then some true else Z1 ()) (λ(sg:Unit)=>match sg with|()=>some false) ()
end
end Go.Proofs.YtdjeacigeegklaaGreat
namespace Go.Proofs.YtdjeacigeegklaaGreat
open Go
set_option maxRecDepth 100000
set_option linter.all false
noncomputable section
def nt(n:Int):Option Bool:=
 some ((decide (1≤n))&&(decide (n≤1000)))
def lC(t:aa)(ra1:Int):Option Bool:=
 bJ t.aq 0 (λ(j1:Int) (e1:aM) (Z1:Unit→Option _) (sg:Unit)=>match sg with|()=>bif decide (e1.ID=ra1)then some true else Z1 ()) (λ(sg:Unit)=>match sg with|()=>some false) ()
def kJ(t:aa)(cN:Int)(gv:Int):Option (Int×Bool):=
 bJ t.Links 0 (λ(j1:Int) (e1:bA) (Z1:Unit→Option _) (sg:Unit)=>match sg with|()=>bif ((decide (e1.A=cN))&&(decide (e1.B=gv)))then some (e1.iC,true)else bif ((decide (e1.B=cN))&&(decide (e1.A=gv)))then some (e1.iD,true)else Z1 ()) (λ(sg:Unit)=>match sg with|()=>some ((0:Int),false)) ()
def gx(t:aa):Option Int:=
 bif ((decide (24<(t.aq.length:Int)))||(decide (60<(t.Links.length:Int))))then some (3:Int)else bJ t.aq 0 (λ(j1:Int) (e1:aM) (Z1:Unit→Option _) (sg:Unit)=>match sg with|()=>bif ((decide (e1.ID<1))||(decide (99<e1.ID)))then some (2:Int)else Z1 ()) (λ(sg:Unit)=>match sg with|()=>bJ (List.drop 1 t.aq) 1 (λ(j2:Int) (e2:aM) (Z2:Unit→Option _) (sg:Unit)=>match sg with|()=>bnd (elO t.aq (w64 ((j2:Int)-(1:Int)))) λ(e_1:aM)=>bif decide (e2.ID≤e_1.ID)then some (25:Int)else Z2 ()) (λ(sg:Unit)=>match sg with|()=>bJ t.Links 0 (λ(j3:Int) (e3:bA) (Z3:Unit→Option _) (sg:Unit)=>match sg with|()=>jn (λ(v_1:Bool)=>bif v_1 then some (2:Int)else Z3 ()) λJ1=>bnd (nt e3.iC) λ(ai:Bool)=>(bif !ai then J1 true else bnd (nt e3.iD) λ(aL:Bool)=>(bif !aL then J1 true else(bif decide (e3.mj<0)then J1 true else J1 (decide (1000<e3.mj)))))) (λ(sg:Unit)=>match sg with|()=>bJ t.Links 0 (λ(j4:Int) (e4:bA) (Z4:Unit→Option _) (sg:Unit)=>match sg with|()=>jn (λ(v_2:Bool)=>bif v_2 then some (4:Int)else Z4 ()) λJ2=>bnd (lC t e4.A) λ(aV:Bool)=>(bif !aV then J2 true else bnd (lC t e4.B) λ(bz:Bool)=>J2 (!bz))) (λ(sg:Unit)=>match sg with|()=>bJ t.Links 0 (λ(j5:Int) (e5:bA) (Z5:Unit→Option _) (sg:Unit)=>match sg with|()=>bif decide (e5.B≤e5.A)then some (8:Int)else Z5 ()) (λ(sg:Unit)=>match sg with|()=>bJ (List.drop 1 t.Links) 1 (λ(j6:Int) (e6:bA) (Z6:Unit→Option _) (sg:Unit)=>match sg with|()=>bnd (elO t.Links (w64 ((j6:Int)-(1:Int)))) λ(e_2:bA)=>bif ((decide (e6.A<e_2.A))||((decide (e_2.A=e6.A))&&(decide (e6.B≤e_2.B))))then some (25:Int)else Z6 ()) (λ(sg:Unit)=>match sg with|()=>some (0:Int)) ()) ()) ()) ()) ()) ()
end
end Go.Proofs.YtdjeacigeegklaaGreat
namespace Go.Proofs.YtdjeacigeegklaaGreat
open Go
set_option maxRecDepth 100000
set_option linter.all false
noncomputable section
def mJ(t:aa)(ra1:Int):Option Bool:=
 bnd (gx t) λ(ai:Int)=>(bif decide (ai=0)then bnd (lC t ra1) λ(aL:Bool)=>some aL else some false)
def lS(t:aa)(ra1:Int):Option (List Int):=
 bJ t.aq 0 (λ(j1:Int) (e1:aM) (Z1:(List Int)→Option _) (bg:(List Int))=>jn (λ(cK:(List Int))=>Z1 cK) λJ1=>bnd (kJ t ra1 e1.ID) λ(ai:Int×Bool)=>bif ai.2 then bnd (dy bg ([e1.ID]:List Int)) λ(l_1:List Int)=>J1 l_1 else J1 bg) (λ(bg:(List Int))=>some bg) []
def jb(t:aa)(ra1:Int):Option (List Int):=
 bnd (gx t) λ(ai:Int)=>bif !decide (ai=0)then some []else bnd (lS t ra1) λ(aL:(List Int))=>some aL
def rD(l:List cw)(a:Int)(b:Int):Option Bool:=
 bJ l 0 (λ(j1:Int) (e1:cw) (Z1:Unit→Option _) (sg:Unit)=>match sg with|()=>bif (bif decide (e1.ez=a)then((decide (e1.To=b))||((decide (e1.ez=b))&&(decide (e1.To=a))))else((decide (e1.ez=b))&&(decide (e1.To=a))))then some true else Z1 ()) (λ(sg:Unit)=>match sg with|()=>some false) ()
def mT(t:aa)(f:dO):Option aa:=
 bnd (gx t) λ(ai:Int)=>bif !decide (ai=0)then some (aa.mk [] [])else bJ t.aq 0 (λ(j1:Int) (e1:aM) (Z1:(List aM)→Option _) (m_1:(List aM))=>jn (λ(m_2:(List aM))=>Z1 m_2) λJ1=>bnd (n9 f.aq e1.ID) λ(aL:Bool)=>bif !aL then bnd (dy m_1 ([e1]:List aM)) λ(l_1:List aM)=>J1 l_1 else J1 m_1) (λ(m_1:(List aM))=>bJ t.Links 0 (λ(j2:Int) (e2:bA) (Z2:(List bA)→Option _) (m_3:(List bA))=>jn (λ(m_4:(List bA))=>Z2 m_4) λJ2=>jn (λ(v_1:Bool)=>bif v_1 then bnd (dy m_3 ([e2]:List bA)) λ(l_2:List bA)=>J2 l_2 else J2 m_3) λJ3=>bnd (n9 f.aq e2.A) λ(aV:Bool)=>(bif !aV then bnd (n9 f.aq e2.B) λ(bz:Bool)=>(bif !bz then bnd (rD f.Links e2.A e2.B) λ(cq:Bool)=>J3 (!cq)else J3 false)else J3 false)) (λ(m_3:(List bA))=>some (aa.mk m_1 m_3)) []) []
end
end Go.Proofs.YtdjeacigeegklaaGreat
namespace Go.Proofs.YtdjeacigeegklaaGreat
open Go
set_option maxRecDepth 100000
set_option linter.all false
noncomputable section
def jm(xa0:Int):Option Bool:=
 some (!decide (xa0=xa0))
def eD(xa0:Int)(y:Int):Option Int:=
 bnd (jm xa0) λ(ai:Bool)=>bnd (jm y) λ(aL:Bool)=>bif ai then bif aL then some (0:Int)else some (-1:Int)else bif aL then some (1:Int)else bif decide (xa0<y)then some (-1:Int)else bif decide (y<xa0)then some (1:Int)else some (0:Int)
def nu(vals:List Int):Option Int:=
 bJ vals 0 (λ(j1:Int) (e1:Int) (Z1:Unit→Option _) (sg:Unit)=>match sg with|()=>bif !decide (e1=0)then some e1 else Z1 ()) (λ(sg:Unit)=>match sg with|()=>some (0:Int)) ()
def ct(xa0:List aM)(target:Int)(cmp:aM→Int→Option Int):Option (Int×Bool):=
 whl (λ(Z1:(Int×Int)→Option _) (sg:Int×Int)=>match sg with|(i_1,j_1)=>bif decide (i_1<j_1)then bnd (elO xa0 (w64 (Int.fdiv (IntKind.wrap .u64 (w64 (i_1+j_1))) (2 ^ min (1:Int).toNat 64)))) λ(e_1:aM)=>bnd (cmp e_1 target) λ(ai:Int)=>bif decide (ai<0)then Z1 (w64 ((w64 (Int.fdiv (IntKind.wrap .u64 (w64 (i_1+j_1))) (2 ^ min (1:Int).toNat 64)))+(1:Int)),j_1)else Z1 (i_1,w64 (Int.fdiv (IntKind.wrap .u64 (w64 (i_1+j_1))) (2 ^ min (1:Int).toNat 64)))else(bif decide (i_1<(xa0.length:Int))then bnd (elO xa0 i_1) λ(e_2:aM)=>bnd (cmp e_2 target) λ(aL:Int)=>some (i_1,decide (aL=0))else some (i_1,false))) ((0:Int),(xa0.length:Int))
def iE(sa0:List Int)(v:Int):Option Int:=
 bJ sa0 0 (λ(j1:Int) (e1:Int) (Z1:Unit→Option _) (sg:Unit)=>match sg with|()=>bif decide (v=e1)then some (j1:Int)else Z1 ()) (λ(sg:Unit)=>match sg with|()=>some (-1:Int)) ()
def dF(sa0:List aj)(f:aj→Option Bool):Option Int:=
 bJ sa0 0 (λ(j1:Int) (e1:aj) (Z1:Unit→Option _) (sg:Unit)=>match sg with|()=>bnd (f e1) λ(ai:Bool)=>bif ai then some (j1:Int)else Z1 ()) (λ(sg:Unit)=>match sg with|()=>some (-1:Int)) ()
def dY(sa0:List aM)(f:aM→Option Bool):Option Int:=
 bJ sa0 0 (λ(j1:Int) (e1:aM) (Z1:Unit→Option _) (sg:Unit)=>match sg with|()=>bnd (f e1) λ(ai:Bool)=>bif ai then some (j1:Int)else Z1 ()) (λ(sg:Unit)=>match sg with|()=>some (-1:Int)) ()
def eG(sa0:List bA)(f:bA→Option Bool):Option Int:=
 bJ sa0 0 (λ(j1:Int) (e1:bA) (Z1:Unit→Option _) (sg:Unit)=>match sg with|()=>bnd (f e1) λ(ai:Bool)=>bif ai then some (j1:Int)else Z1 ()) (λ(sg:Unit)=>match sg with|()=>some (-1:Int)) ()
def fJ(sa0:List cw)(v:cw):Option Int:=
 bJ sa0 0 (λ(j1:Int) (e1:cw) (Z1:Unit→Option _) (sg:Unit)=>match sg with|()=>bif kO v e1 then some (j1:Int)else Z1 ()) (λ(sg:Unit)=>match sg with|()=>some (-1:Int)) ()
def cE(sa0:List Int)(v:Int):Option Bool:=
 bnd (iE sa0 v) λ(ai:Int)=>some (decide (0≤ai))
def cI(sa0:List aj)(f:aj→Option Bool):Option Bool:=
 bnd (dF sa0 f) λ(ai:Int)=>some (decide (0≤ai))
def cU(sa0:List aM)(f:aM→Option Bool):Option Bool:=
 bnd (dY sa0 f) λ(ai:Int)=>some (decide (0≤ai))
def cD(sa0:List bA)(f:bA→Option Bool):Option Bool:=
 bnd (eG sa0 f) λ(ai:Int)=>some (decide (0≤ai))
def dB(sa0:List cw)(v:cw):Option Bool:=
 bnd (fJ sa0 v) λ(ai:Int)=>some (decide (0≤ai))
def iy(n:Int)(least:Int)(most:Int):Option Bool:=
 some ((decide (least≤n))&&(decide (n≤most)))
def jc(a:bA)(b:bA):Option Int:=
 bnd (eD a.A b.A) λ(ai:Int)=>bnd (eD a.B b.B) λ(aL:Int)=>bnd (nu ([ai,aL]:List Int)) λ(aV:Int)=>some aV
def jo(ra0:aM)(id:Int):Option Int:=
 bnd (eD ra0.ID id) λ(ai:Int)=>some ai
def kP(ra0:aM):Option Bool:=
 bnd (iy ra0.ID (1:Int) (99:Int)) λ(ai:Bool)=>some (!ai)
def jd(l:bA):Option Bool:=
 bnd (iy l.iC (1:Int) (1000:Int)) λ(ai:Bool)=>(bif !ai then some true else bnd (iy l.iD (1:Int) (1000:Int)) λ(aL:Bool)=>(bif !aL then some true else bnd (iy l.mj (0:Int) (1000:Int)) λ(aV:Bool)=>some (!aV)))
def gH(id:Int)(c_0:aa):Option Bool:=
 bnd (ct c_0.aq id jo) λ(ai:Int×Bool)=>some (!ai.2)
def kQ(l:bA)(c_0:aa):Option Bool:=
 bnd (gH l.A c_0) λ(ai:Bool)=>(bif ai then some true else bnd (gH l.B c_0) λ(aL:Bool)=>some aL)
def kR(l:bA):Option Bool:=
 some (decide (l.B≤l.A))
def gy(t:aa):Option Int:=
 bif ((decide (24<(t.aq.length:Int)))||(decide (60<(t.Links.length:Int))))then some (3:Int)else bnd (cU t.aq kP) λ(ai:Bool)=>bif ai then some (2:Int)else bJ t.aq 0 (λ(j1:Int) (e1:aM) (Z1:Unit→Option _) (sg:Unit)=>match sg with|()=>jn (λ(v_1:Bool)=>bif v_1 then some (25:Int)else Z1 ()) λJ1=>(bif decide (0<(j1:Int))then bnd (elO t.aq (w64 ((j1:Int)-(1:Int)))) λ(e_1:aM)=>J1 (decide (e1.ID≤e_1.ID))else J1 false)) (λ(sg:Unit)=>match sg with|()=>bnd (cD t.Links jd) λ(aL:Bool)=>bif aL then some (2:Int)else bnd (cD t.Links (λ(y0:bA)=>kQ y0 t)) λ(aV:Bool)=>bif aV then some (4:Int)else bnd (cD t.Links kR) λ(bz:Bool)=>bif bz then some (8:Int)else bJ t.Links 0 (λ(j2:Int) (e2:bA) (Z2:Unit→Option _) (sg:Unit)=>match sg with|()=>jn (λ(v_2:Bool)=>bif v_2 then some (25:Int)else Z2 ()) λJ2=>(bif decide (0<(j2:Int))then bnd (elO t.Links (w64 ((j2:Int)-(1:Int)))) λ(e_2:bA)=>bnd (jc e_2 e2) λ(cq:Int)=>J2 (decide (0≤cq))else J2 false)) (λ(sg:Unit)=>match sg with|()=>some (0:Int)) ()) ()
def iL(t:aa):Option Bool:=
 bnd (gy t) λ(ai:Int)=>some (decide (ai=0))
def kS(t:aa)(aY:Int):Option (aM×Bool):=
 bnd (ct t.aq aY jo) λ(ai:Int×Bool)=>bif !ai.2 then some ((aM.mk (0:Int) false),false)else bnd (elO t.aq ai.1) λ(e_1:aM)=>some (e_1,true)
def jQ(t:aa)(aY:Int):Option Bool:=
 bnd (kS t aY) λ(ai:aM×Bool)=>bnd (iL t) λ(aL:Bool)=>(bif aL then some ai.2 else some false)
def gI(t:aa)(f:dO):Option aa:=
 bnd (iL t) λ(ai:Bool)=>bif !ai then some (aa.mk [] [])else bJ t.aq 0 (λ(j1:Int) (e1:aM) (Z1:(List aM)→Option _) (m_1:(List aM))=>jn (λ(m_2:(List aM))=>Z1 m_2) λJ1=>bnd (cE f.aq e1.ID) λ(aL:Bool)=>bif !aL then bnd (dy m_1 ([e1]:List aM)) λ(l_1:List aM)=>J1 l_1 else J1 m_1) (λ(m_1:(List aM))=>bJ t.Links 0 (λ(j2:Int) (e2:bA) (Z2:(List bA)→Option _) (m_3:(List bA))=>jn (λ(m_4:(List bA))=>Z2 m_4) λJ2=>jn (λ(uR:Bool)=>bif !uR then bnd (dy m_3 ([e2]:List bA)) λ(l_2:List bA)=>J2 l_2 else J2 m_3) λJ3=>bnd (cE f.aq e2.A) λ(aV:Bool)=>(bif aV then J3 true else bnd (cE f.aq e2.B) λ(bz:Bool)=>(bif bz then J3 true else bnd (dB f.Links (cw.mk e2.A e2.B)) λ(cq:Bool)=>(bif cq then J3 true else bnd (dB f.Links (cw.mk e2.B e2.A)) λ(cH:Bool)=>J3 cH)))) (λ(m_3:(List bA))=>some (aa.mk m_1 m_3)) []) []
end
end Go.Proofs.YtdjeacigeegklaaGreat
namespace Go.Proofs.YtdjeacigeegklaaGreat
open Go
set_option maxRecDepth 100000
set_option linter.all false
noncomputable section
def nO(xa0:Int):Option Int:=
 jn (λ(sg:Int×Int)=>match sg with|(ai,n_1)=>jn (λ(sg:Int×Int)=>match sg with|(aL,n_2)=>jn (λ(sg:Int×Int)=>match sg with|(aV,n_3)=>bnd (ixS (⟨#[0,1,2,2,3,3,3,3,4,4,4,4,4,4,4,4,5,5,5,5,5,5,5,5,5,5,5,5,5,5,5,5,6,6,6,6,6,6,6,6,6,6,6,6,6,6,6,6,6,6,6,6,6,6,6,6,6,6,6,6,6,6,6,6,7,7,7,7,7,7,7,7,7,7,7,7,7,7,7,7,7,7,7,7,7,7,7,7,7,7,7,7,7,7,7,7,7,7,7,7,7,7,7,7,7,7,7,7,7,7,7,7,7,7,7,7,7,7,7,7,7,7,7,7,7,7,7,7,8,8,8,8,8,8,8,8,8,8,8,8,8,8,8,8,8,8,8,8,8,8,8,8,8,8,8,8,8,8,8,8,8,8,8,8,8,8,8,8,8,8,8,8,8,8,8,8,8,8,8,8,8,8,8,8,8,8,8,8,8,8,8,8,8,8,8,8,8,8,8,8,8,8,8,8,8,8,8,8,8,8,8,8,8,8,8,8,8,8,8,8,8,8,8,8,8,8,8,8,8,8,8,8,8,8,8,8,8,8,8,8,8,8,8,8,8,8,8,8,8,8,8,8,8,8,8,8]⟩:ByteArray) (IntKind.wrap .u8 aV)) λ(b_1:UInt8)=>some (w64 (n_3+(w64 (b_1.toNat:Int))))) λJ3=>bif decide (256≤aL)then J3 (Int.fdiv aL (2 ^ min (8:Int).toNat 64),w64 (n_2+8))else J3 (aL,n_2)) λJ2=>bif decide (65536≤ai)then J2 (Int.fdiv ai (2 ^ min (16:Int).toNat 64),w64 (n_1+16))else J2 (ai,n_1)) λJ1=>bif decide (4294967296≤xa0)then J1 (Int.fdiv xa0 (2 ^ min (32:Int).toNat 64),(32:Int))else J1 (xa0,(0:Int))
def pN(xa0:Int):Option Int:=
 bnd (nO xa0) λ(ai:Int)=>some ai
def fR: Option Unit:=
 whl (λ(Z1:Unit→Option _) (sg:Unit)=>match sg with|()=>some ()) ()
def gT(limit:Int):Option Unit:=
 whl (λ(Z1:Unit→Option _) (sg:Unit)=>match sg with|()=>bnd (fR) λ(ai:Unit)=>some ()) ()
def mE: Option Unit:=
 bnd (pN (0:Int)) λ(ai:Int)=>bnd (gT ai) λ(aL:Unit)=>some ()
end
end Go.Proofs.YtdjeacigeegklaaGreat
namespace Go.Proofs.YtdjeacigeegklaaGreat
open Go
set_option maxRecDepth 100000
set_option linter.all false
noncomputable section
def gJ(t:aa)(aY:Int):Option (List Int):=
 bJ t.Links 0 (λ(j1:Int) (e1:bA) (Z1:(List Int)→Option _) (bg:(List Int))=>jn (λ(cK:(List Int))=>Z1 cK) λJ1=>bif decide (aY=e1.A)then bnd (dy bg ([e1.B]:List Int)) λ(l_1:List Int)=>J1 l_1 else bif decide (aY=e1.B)then bnd (dy bg ([e1.A]:List Int)) λ(l_2:List Int)=>J1 l_2 else J1 bg) (λ(bg:(List Int))=>chk (decide (bg.length<4611686018427387904))<|some (iB bg)) []
def fZ:Nat→Int→(List Int)→(List Int)→(List aM)→(List bA)→Option (List Int)
 |0,_,_,_,_,_=>none
 |n_+1,ra0,uz,tr,tu,tv=>jn (λ(v_1:Bool)=>bif v_1 then some uz else bnd (dy uz ([ra0]:List Int)) λ(l_1:List Int)=>bnd (gJ (aa.mk tu tv) ra0) λ(aV:(List Int))=>bJ aV 0 (λ(j1:Int) (e1:Int) (Z1:(List Int)→Option _) (m_1:(List Int))=>bnd (fZ n_ e1 m_1 tr tu tv) λ(bz:(List Int))=>Z1 bz) (λ(m_1:(List Int))=>some m_1) l_1) λJ1=>bnd (cE uz ra0) λ(ai:Bool)=>(bif ai then J1 true else bnd (cE tr ra0) λ(aL:Bool)=>J1 aL)
def je(t:aa)(cN:Int)(closed:List Int):Option (List Int):=
 bnd (fZ fuel cN [] closed t.aq t.Links) λ(ai:(List Int))=>chk (decide (ai.length<4611686018427387904))<|some (iB ai)
def ig(t:aa)(a:Int)(b:Int):Option Bool:=
 bnd (jQ t a) λ(ai:Bool)=>(bif ai then bnd (jQ t b) λ(aL:Bool)=>(bif aL then bnd (je t a []) λ(aV:(List Int))=>bnd (cE aV b) λ(bz:Bool)=>some bz else some false)else some false)
end
end Go.Proofs.YtdjeacigeegklaaGreat
namespace Go.Proofs.YtdjeacigeegklaaGreat
open Go
set_option maxRecDepth 100000
set_option linter.all false
noncomputable section
def jC(t:List Int):Option aZ:=
 bnd (lq t (0:Int) (if(2000:Int)<(t.length:Int)then(2000:Int)else(t.length:Int))) λ(l_1:List Int)=>some (aZ.mk l_1 (0:Int))
def gw(t:aZ):Option (Int×aZ):=
 bif decide ((t.L.length:Int)≤t.At)then some ((0:Int),t)else bnd (elO t.L (w64 ((w64 (t.At+1))-(1:Int)))) λ(e_1:Int)=>some (e_1,(aZ.mk t.L (w64 (t.At+1))))
def jD(xa0:Int)(n:Int):Option Int:=
 bif decide (n<1)then some (0:Int)else chk (decide (n≠0))<|jn (λ(ai:Int)=>some ai) λJ1=>bif decide (Int.tmod xa0 n<0)then J1 (w64 ((Int.tmod xa0 n)+n))else J1 (Int.tmod xa0 n)
def bG(t:aZ)(n:Int):Option (Int×aZ):=
 bnd (gw t) λ(ai:Int×aZ)=>bnd (jD ai.1 n) λ(aL:Int)=>some (aL,ai.2)
def eA(t:aZ)(lo:Int)(hi:Int):Option (Int×aZ):=
 bnd (bG t (w64 ((w64 (hi-lo))+(1:Int)))) λ(ai:Int×aZ)=>some (w64 (lo+ai.1),ai.2)
def dI(t:aZ)(l:List Int):Option (Int×aZ):=
 bnd (bG t (l.length:Int)) λ(ai:Int×aZ)=>bnd (elO l ai.1) λ(e_1:Int)=>some (e_1,ai.2)
def eT(l:List Int)(xa1:Int):Option Bool:=
 bJ l 0 (λ(j1:Int) (e1:Int) (Z1:Unit→Option _) (sg:Unit)=>match sg with|()=>bif decide (e1=xa1)then some true else Z1 ()) (λ(sg:Unit)=>match sg with|()=>some false) ()
def ir(l:List Int)(xa1:Int):Option (List Int):=
 whl (λ(Z1:Int→Option _) (k_1:Int)=>jn (λ(v_1:Bool)=>bif v_1 then Z1 (w64 (k_1+1))else jn (λ(v_2:Bool)=>bif v_2 then some l else bnd (lq l k_1 (l.length:Int)) λ(l_1:List Int)=>bnd (dy ([xa1]:List Int) l_1) λ(l_2:List Int)=>bnd (lq l (0:Int) k_1) λ(l_3:List Int)=>bnd (dy l_3 l_2) λ(l_4:List Int)=>some l_4) λJ2=>(bif decide (k_1<(l.length:Int))then bnd (elO l k_1) λ(e_2:Int)=>J2 (decide (e_2=xa1))else J2 false)) λJ1=>(bif decide (k_1<(l.length:Int))then bnd (elO l k_1) λ(e_1:Int)=>J1 (decide (e_1<xa1))else J1 false)) (0:Int)
def gK(a:List Int)(b:List Int):Option Bool:=
 bif !decide ((a.length:Int)=(b.length:Int))then some false else bJ a 0 (λ(j1:Int) (e1:Int) (Z1:Unit→Option _) (sg:Unit)=>match sg with|()=>bnd (elO b (j1:Int)) λ(e_1:Int)=>bif !decide (e1=e_1)then some false else Z1 ()) (λ(sg:Unit)=>match sg with|()=>some true) ()
end
end Go.Proofs.YtdjeacigeegklaaGreat
namespace Go.Proofs.YtdjeacigeegklaaGreat
open Go
set_option maxRecDepth 100000
set_option linter.all false
noncomputable section
def jR(n:Int):Option Bool:=
 some ((decide (n=8))||((decide (n=16))||((decide (n=32))||(decide (n=64)))))
def gM(n:Int):Option Bool:=
 some ((decide (1≤n))&&(decide (n≤99)))
def fF(e:aK):Option Int:=
 bnd (jR e.Length) λ(ai:Bool)=>bJ e.List 0 (λ(j1:Int) (e1:aj) (Z1:Bool→Option _) (mz:Bool)=>(bif mz then(bif decide (0≤e1.Bit)then(bif decide (e1.Bit<e.Length)then bnd (gM e1.bx) λ(aL:Bool)=>(bif aL then bnd (gM e1.To) λ(aV:Bool)=>Z1 aV else Z1 false)else Z1 false)else Z1 false)else Z1 false)) (λ(mz:Bool)=>bif !mz then some (2:Int)else bJ e.List 0 (λ(j2:Int) (e2:aj) (Z2:Unit→Option _) (sg:Unit)=>match sg with|()=>bif ((decide (e2.Kind<1))||(decide (3<e2.Kind)))then some (1:Int)else Z2 ()) (λ(sg:Unit)=>match sg with|()=>bJ e.List 0 (λ(j3:Int) (e3:aj) (Z3:Unit→Option _) (sg:Unit)=>match sg with|()=>bif !((decide (e3.To=e3.bx))==(decide (e3.Kind=3)))then some (8:Int)else Z3 ()) (λ(sg:Unit)=>match sg with|()=>bJ (List.drop 1 e.List) 1 (λ(j4:Int) (e4:aj) (Z4:Unit→Option _) (sg:Unit)=>match sg with|()=>bnd (elO e.List (w64 ((j4:Int)-(1:Int)))) λ(e_1:aj)=>bif decide (e4.Bit≤e_1.Bit)then some (25:Int)else Z4 ()) (λ(sg:Unit)=>match sg with|()=>bJ e.List 0 (λ(j5:Int) (e5:aj) (Z5:Unit→Option _) (sg:Unit)=>match sg with|()=>bnd (lq e.List (0:Int) (j5:Int)) λ(l_1:List aj)=>bJ l_1 0 (λ(j6:Int) (e6:aj) (Z6:Unit→Option _) (sg:Unit)=>match sg with|()=>bif ((decide (e5.bx=e6.bx))&&((decide (e5.Kind=e6.Kind))&&(decide (e5.To=e6.To))))then some (5:Int)else Z6 ()) (λ(sg:Unit)=>match sg with|()=>Z5 ()) ()) (λ(sg:Unit)=>match sg with|()=>some (0:Int)) ()) ()) ()) ()) ai
def mK(e:aK)(ra1:Int):Option Int:=
 jn (λ(bg:Int)=>some bg) λJ1=>bnd (fF e) λ(ai:Int)=>bif decide (ai=0)then bJ e.List 0 (λ(j1:Int) (e1:aj) (Z1:Int→Option _) (cK:Int)=>jn (λ(x7:Int)=>Z1 x7) λJ2=>bif decide (e1.bx=ra1)then chk (decide (0≤IntKind.wrap .u64 e1.Bit))<|J2 (aS .or .u64 cK (IntKind.wrap .u64 ((1:Int)*2 ^ min (IntKind.wrap .u64 e1.Bit).toNat 64)))else J2 cK) (λ(cK:Int)=>J1 cK) (0:Int)else J1 (0:Int)
def pP(e:aK)(ra1:Int)(kind:Int)(qp:Int):Option (Int×Bool):=
 jn (λ(sg:Unit)=>match sg with|()=>some ((0:Int),false)) λJ1=>bnd (fF e) λ(ai:Int)=>bif decide (ai=0)then bJ e.List 0 (λ(j1:Int) (e1:aj) (Z1:Unit→Option _) (sg:Unit)=>match sg with|()=>bif ((decide (e1.bx=ra1))&&((decide (e1.Kind=kind))&&(decide (e1.To=qp))))then some (e1.Bit,true)else Z1 ()) (λ(sg:Unit)=>match sg with|()=>J1 ()) ()else J1 ()
def jZ(t:aa)(n:Int):Option (aK×Int):=
 bnd (gx t) λ(ai:Int)=>bif !decide (ai=0)then some ((aK.mk (0:Int) []),(1:Int))else bnd (jR n) λ(aL:Bool)=>bif !aL then some ((aK.mk (0:Int) []),(2:Int))else bJ t.aq 0 (λ(j1:Int) (e1:aM) (Z1:(List aj)→Option _) (m_1:(List aj))=>bnd (dy m_1 ([(aj.mk (m_1.length:Int) e1.ID (3:Int) e1.ID)]:List aj)) λ(l_1:List aj)=>bnd (jb t e1.ID) λ(aV:(List Int))=>bJ aV 0 (λ(j2:Int) (e2:Int) (Z2:(List aj)→Option _) (m_2:(List aj))=>bnd (dy m_2 ([(aj.mk (m_2.length:Int) e1.ID (1:Int) e2)]:List aj)) λ(l_2:List aj)=>Z2 l_2) (λ(m_2:(List aj))=>Z1 m_2) l_1) (λ(m_1:(List aj))=>bif decide (n<(m_1.length:Int))then some ((aK.mk (0:Int) []),(3:Int))else some ((aK.mk n m_1),(0:Int))) []
def lH(t:mm):Option Int:=
 bnd (gM t.nq) λ(ai:Bool)=>bJ t.Links 0 (λ(j1:Int) (e1:cw) (Z1:Bool→Option _) (vM:Bool)=>(bif vM then bnd (gM e1.ez) λ(aL:Bool)=>(bif aL then bnd (gM e1.To) λ(aV:Bool)=>Z1 aV else Z1 false)else Z1 false)) (λ(vM:Bool)=>bif !vM then some (2:Int)else bJ (List.drop 1 t.Links) 1 (λ(j2:Int) (e2:cw) (Z2:Unit→Option _) (sg:Unit)=>match sg with|()=>bnd (elO t.Links (w64 ((j2:Int)-(1:Int)))) λ(e_1:cw)=>bif ((decide (e2.ez<e_1.ez))||((decide (e_1.ez=e2.ez))&&(decide (e2.To≤e_1.To))))then some (25:Int)else Z2 ()) (λ(sg:Unit)=>match sg with|()=>bJ t.Links 0 (λ(j3:Int) (e3:cw) (Z3:Unit→Option _) (sg:Unit)=>match sg with|()=>bnd (lq t.Links (0:Int) (j3:Int)) λ(l_1:List cw)=>bJ l_1 0 (λ(j4:Int) (e4:cw) (Z4:Unit→Option _) (sg:Unit)=>match sg with|()=>bif decide (e4.To=e3.To)then some (8:Int)else Z4 ()) (λ(sg:Unit)=>match sg with|()=>bif decide (e3.To=t.nq)then some (8:Int)else Z3 ()) ()) (λ(sg:Unit)=>match sg with|()=>whl (λ(Z5:((List Int)×Bool)→Option _) (sg:(List Int)×Bool)=>match sg with|(nv,oN)=>bif oN then bJ t.Links 0 (λ(j6:Int) (e6:cw) (Z6:((List Int)×Bool)→Option _) (sg:(List Int)×Bool)=>match sg with|(gp,jg)=>jn (λ(sg:(List Int)×Bool)=>match sg with|(oO,oP)=>Z6 (oO,oP)) λJ1=>jn (λ(v_1:Bool)=>bif v_1 then bnd (dy gp ([e6.To]:List Int)) λ(l_2:List Int)=>J1 (l_2,true)else J1 (gp,jg)) λJ2=>bnd (eT gp e6.ez) λ(bz:Bool)=>(bif bz then bnd (eT gp e6.To) λ(cq:Bool)=>J2 (!cq)else J2 false)) (λ(sg:(List Int)×Bool)=>match sg with|(gp,jg)=>Z5 (gp,jg)) (nv,false)else bJ t.Links 0 (λ(j7:Int) (e7:cw) (Z7:Unit→Option _) (sg:Unit)=>match sg with|()=>bnd (eT nv e7.ez) λ(cH:Bool)=>bif !cH then some (10:Int)else Z7 ()) (λ(sg:Unit)=>match sg with|()=>some (0:Int)) ()) (([t.nq]:List Int),true)) ()) ()) ai
def pQ(t:mm):Option (List Int):=
 bnd (lH t) λ(ai:Int)=>bif !decide (ai=0)then some []else bJ t.Links 0 (λ(j1:Int) (e1:cw) (Z1:(List Int)→Option _) (bg:(List Int))=>bnd (ir bg e1.To) λ(aL:(List Int))=>Z1 aL) (λ(bg:(List Int))=>some bg) ([t.nq]:List Int)
def nQ(l:List Int):Option Bool:=
 bJ (List.drop 1 l) 1 (λ(j1:Int) (e1:Int) (Z1:Unit→Option _) (sg:Unit)=>match sg with|()=>bnd (elO l (w64 ((j1:Int)-(1:Int)))) λ(e_1:Int)=>bif decide (e1≤e_1)then some false else Z1 ()) (λ(sg:Unit)=>match sg with|()=>some true) ()
def pR(e:aK)(t:mm)(receivers:List Int):Option (Int×Int):=
 bnd (fF e) λ(ai:Int)=>bif !decide (ai=0)then some ((0:Int),ai)else bnd (lH t) λ(aL:Int)=>bif !decide (aL=0)then some ((0:Int),aL)else bnd (nQ receivers) λ(aV:Bool)=>bif !aV then some ((0:Int),(25:Int))else bnd (pQ t) λ(bz:(List Int))=>bJ receivers 0 (λ(j1:Int) (e1:Int) (Z1:Unit→Option _) (sg:Unit)=>match sg with|()=>bnd (eT bz e1) λ(cq:Bool)=>bif !cq then some ((0:Int),(8:Int))else Z1 ()) (λ(sg:Unit)=>match sg with|()=>bJ t.Links 0 (λ(j2:Int) (e2:cw) (Z2:Int→Option _) (bg:Int)=>bnd (pP e e2.ez (1:Int) e2.To) λ(cH:Int×Bool)=>bif !cH.2 then some ((0:Int),(4:Int))else chk (decide (0≤IntKind.wrap .u64 cH.1))<|Z2 (aS .or .u64 bg (IntKind.wrap .u64 ((1:Int)*2 ^ min (IntKind.wrap .u64 cH.1).toNat 64)))) (λ(bg:Int)=>bJ receivers 0 (λ(j3:Int) (e3:Int) (Z3:Int→Option _) (cK:Int)=>bnd (pP e e3 (3:Int) e3) λ(bZ:Int×Bool)=>bif !bZ.2 then some ((0:Int),(4:Int))else chk (decide (0≤IntKind.wrap .u64 bZ.1))<|Z3 (aS .or .u64 cK (IntKind.wrap .u64 ((1:Int)*2 ^ min (IntKind.wrap .u64 bZ.1).toNat 64)))) (λ(cK:Int)=>some (cK,(0:Int))) bg) (0:Int)) ()
end
end Go.Proofs.YtdjeacigeegklaaGreat
namespace Go.Proofs.YtdjeacigeegklaaGreat
open Go
set_option maxRecDepth 100000
set_option linter.all false
noncomputable section
def lU(t:aZ)(most:Int):Option (aa×aZ):=
 bnd (eA t (1:Int) most) λ(ai:Int×aZ)=>chk (decide (ai.1≤9223372036854775807))<|lp (ai.1-0).toNat (0:Int) (λ(j1:Int) (Z1:(Int×(List aM)×(List Int)×Int)→Option _) (sg:Int×(List aM)×(List Int)×Int)=>match sg with|(uA,m_1,m_2,m_3)=>bnd (dI (aZ.mk m_2 m_3) ([(1:Int),(1:Int),(1:Int),(2:Int),(5:Int)]:List Int)) λ(aL:Int×aZ)=>bnd (dy m_1 ([(aM.mk (w64 (uA+aL.1)) true)]:List aM)) λ(l_1:List aM)=>Z1 (w64 (uA+aL.1),l_1,aL.2.L,aL.2.At)) (λ(j1:Int) (sg:Int×(List aM)×(List Int)×Int)=>match sg with|(uA,m_1,m_2,m_3)=>chk (decide (0<ai.1)&&decide (ai.1≤4294967296))<|chk (decide (((List.replicate ai.1.toNat []:List (List Bool)).length:Int)≤9223372036854775807))<|lp (((List.replicate ai.1.toNat []:List (List Bool)).length:Int)-(0:Int)).toNat (0:Int) (λ(j2:Int) (Z2:(List (List Bool))→Option _) (m_4:(List (List Bool)))=>chk (decide (0≤ai.1)&&decide (ai.1≤4294967296))<|bnd (elO m_4 (j2:Int)) λ(e_1:List Bool)=>Z2 (List.set m_4 (j2:Int).toNat (List.replicate (ai.1).toNat false))) (λ(j2:Int) (m_4:(List (List Bool)))=>chk (decide (ai.1≤9223372036854775807))<|lp (ai.1-1).toNat (1:Int) (λ(j3:Int) (Z3:((List Int)×Int×(List (List Bool)))→Option _) (sg:(List Int)×Int×(List (List Bool)))=>match sg with|(m_5,m_6,m_7)=>jn (λ(sg:(List (List Bool))×(List Int)×Int)=>match sg with|(m_8,m_9,rF)=>Z3 (m_9,rF,m_8)) λJ1=>bnd (bG (aZ.mk m_5 m_6) (12:Int)) λ(aV:Int×aZ)=>bif decide (aV.1<11)then bnd (bG aV.2 (j3:Int)) λ(bz:Int×aZ)=>bnd (elO m_7 bz.1) λ(e_2:List Bool)=>bnd (elO e_2 (j3:Int)) λ(e_3:Bool)=>bnd (ot e_2 (j3:Int) true) λ(l_2:List Bool)=>J1 ((List.set m_7 bz.1.toNat l_2),bz.2.L,bz.2.At)else J1 (m_7,aV.2.L,aV.2.At)) (λ(j3:Int) (sg:(List Int)×Int×(List (List Bool)))=>match sg with|(m_5,m_6,m_7)=>bnd (bG (aZ.mk m_5 m_6) (w64 (ai.1+2))) λ(cq:Int×aZ)=>whl (λ(Z4:(Int×(List Int)×Int×(List (List Bool)))→Option _) (sg:Int×(List Int)×Int×(List (List Bool)))=>match sg with|(i_1,rG,iM,dK)=>bif decide (0<i_1)then jn (λ(sg:(List (List Bool))×(List Int)×Int)=>match sg with|(mA,qq,qs)=>Z4 (w64 (i_1-1),qq,qs,mA)) λJ2=>bnd (bG (aZ.mk rG iM) ai.1) λ(cH:Int×aZ)=>bnd (bG cH.2 ai.1) λ(bZ:Int×aZ)=>bif !decide (cH.1=bZ.1)then bnd (elO dK (if bZ.1<cH.1 then bZ.1 else cH.1)) λ(e_4:List Bool)=>bnd (elO e_4 (if bZ.1>cH.1 then bZ.1 else cH.1)) λ(e_5:Bool)=>bnd (ot e_4 (if bZ.1>cH.1 then bZ.1 else cH.1) true) λ(l_3:List Bool)=>J2 ((List.set dK (if bZ.1<cH.1 then bZ.1 else cH.1).toNat l_3),bZ.2.L,bZ.2.At)else J2 (dK,bZ.2.L,bZ.2.At)else bnd (bG (aZ.mk rG iM) (3:Int)) λ(dw:Int×aZ)=>chk (decide ((dK.length:Int)≤9223372036854775807))<|lp ((dK.length:Int)-(0:Int)).toNat (0:Int) (λ(j5:Int) (Z5:((List bA)×(List Int)×Int)→Option _) (sg:(List bA)×(List Int)×Int)=>match sg with|(ow,lV,lW)=>chk (decide ((dK.length:Int)≤9223372036854775807))<|lp ((dK.length:Int)-(0:Int)).toNat (0:Int) (λ(j6:Int) (Z6:((List bA)×(List Int)×Int)→Option _) (sg:(List bA)×(List Int)×Int)=>match sg with|(kG,lX,nw)=>jn (λ(sg:(List Int)×Int×(List bA))=>match sg with|(rH,rI,nR)=>Z6 (nR,rH,rI)) λJ3=>bnd (elO dK (j5:Int)) λ(e_6:List Bool)=>bnd (elO e_6 (j6:Int)) λ(e_7:Bool)=>bif !e_7 then J3 (lX,nw,kG)else bnd (elO m_1 (j5:Int)) λ(e_8:aM)=>bnd (elO m_1 (j6:Int)) λ(e_9:aM)=>bnd (dI (aZ.mk lX nw) ([(0:Int),(1:Int),(2:Int),(3:Int),(5:Int),(10:Int),(1000:Int)]:List Int)) λ(nS:Int×aZ)=>jn (λ(sg:(List Int)×Int×Int×Int)=>match sg with|(nT,lY,acG,acH)=>bnd (dy kG ([(bA.mk e_8.ID e_9.ID acG acH nS.1)]:List bA)) λ(l_4:List bA)=>J3 (nT,lY,l_4)) λJ4=>bif !(decide (dw.1=0))then bnd (eA nS.2 (1:Int) (20:Int)) λ(ud:Int×aZ)=>bnd (dI ud.2 ([(1:Int),(2:Int),(3:Int),ud.1,(1000:Int)]:List Int)) λ(nF:Int×aZ)=>bnd (eA nF.2 (1:Int) (20:Int)) λ(aeX:Int×aZ)=>bnd (dI aeX.2 ([nF.1,nF.1,aeX.1]:List Int)) λ(sy:Int×aZ)=>J4 (sy.2.L,sy.2.At,nF.1,sy.1)else J4 (nS.2.L,nS.2.At,(1:Int),(1:Int))) (λ(j6:Int) (sg:(List bA)×(List Int)×Int)=>match sg with|(kG,lX,nw)=>Z5 (kG,lX,nw)) (ow,lV,lW)) (λ(j5:Int) (sg:(List bA)×(List Int)×Int)=>match sg with|(ow,lV,lW)=>some ((aa.mk m_1 ow),(aZ.mk lV lW))) ([],dw.2.L,dw.2.At)) (cq.1,cq.2.L,cq.2.At,m_7)) (m_2,m_3,m_4)) (List.replicate ai.1.toNat []:List (List Bool))) ((0:Int),[],ai.2.L,ai.2.At)
def pT(t:aZ)(p:aa)(n:Int):Option ((List Int)×aZ):=
 bnd (bG t (w64 (n+1))) λ(ai:Int×aZ)=>whl (λ(Z1:((List Int)×Int×(List Int)×Int)→Option _) (sg:(List Int)×Int×(List Int)×Int)=>match sg with|(bg,i_1,m_1,m_2)=>bif ((decide (0<i_1))&&(decide (0<(p.aq.length:Int))))then bnd (bG (aZ.mk m_1 m_2) (p.aq.length:Int)) λ(aL:Int×aZ)=>bnd (elO p.aq aL.1) λ(e_1:aM)=>bnd (ir bg e_1.ID) λ(aV:(List Int))=>Z1 (aV,w64 (i_1-1),aL.2.L,aL.2.At)else some (bg,(aZ.mk m_1 m_2))) ([],ai.1,ai.2.L,ai.2.At)
def nx(t:aZ)(p:aa):Option (aK×aZ):=
 bnd (dI t ([(64:Int),(64:Int),(32:Int),(16:Int)]:List Int)) λ(ai:Int×aZ)=>bnd (jZ p (64:Int)) λ(aL:aK×Int)=>jn (λ(sg:Bool×(List Int)×Int)=>match sg with|(v_1,m_1,m_2)=>bif v_1 then some (aL.1,(aZ.mk m_1 m_2))else bJ p.aq 0 (λ(j1:Int) (e1:aM) (Z1:((List aj)×(List Int)×Int)→Option _) (sg:(List aj)×(List Int)×Int)=>match sg with|(m_3,m_4,m_5)=>jn (λ(sg:(List Int)×Int×(List aj))=>match sg with|(m_6,m_7,m_8)=>Z1 (m_8,m_6,m_7)) λJ2=>jn (λ(sg:(List Int)×Int×(List aj))=>match sg with|(m_9,rF,rG)=>bJ p.Links 0 (λ(j2:Int) (e2:bA) (Z2:((List aj)×(List Int)×Int)→Option _) (sg:(List aj)×(List Int)×Int)=>match sg with|(iM,dK,mA)=>jn (λ(sg:(List Int)×Int×(List aj))=>match sg with|(qq,qs,ow)=>Z2 (ow,qq,qs)) λJ4=>jn (λ(x8:Int)=>jn (λ(vO:Int)=>jn (λ(sg:Bool×(List Int)×Int)=>match sg with|(v_2,lV,lW)=>bif v_2 then bnd (dy iM ([(aj.mk (iM.length:Int) e1.ID (1:Int) vO)]:List aj)) λ(l_2:List aj)=>J4 (lV,lW,l_2)else J4 (lV,lW,iM)) λJ7=>(bif !decide (vO=0)then bnd (bG (aZ.mk dK mA) (5:Int)) λ(cq:Int×aZ)=>J7 (decide (0<cq.1),cq.2.L,cq.2.At)else J7 (false,dK,mA))) λJ6=>bif decide (e2.B=e1.ID)then J6 e2.A else J6 x8) λJ5=>bif decide (e2.A=e1.ID)then J5 e2.B else J5 (0:Int)) (λ(sg:(List aj)×(List Int)×Int)=>match sg with|(iM,dK,mA)=>bnd (bG (aZ.mk dK mA) (p.aq.length:Int)) λ(cH:Int×aZ)=>bnd (elO p.aq cH.1) λ(e_1:aM)=>jn (λ(sg:Bool×(List Int)×Int)=>match sg with|(v_3,kG,lX)=>bif v_3 then bnd (dy iM ([(aj.mk (iM.length:Int) e1.ID (2:Int) e_1.ID)]:List aj)) λ(l_3:List aj)=>J2 (kG,lX,l_3)else J2 (kG,lX,iM)) λJ8=>(bif !decide (e_1.ID=e1.ID)then bnd (bG cH.2 (3:Int)) λ(bZ:Int×aZ)=>J8 (decide (bZ.1=0),bZ.2.L,bZ.2.At)else J8 (false,cH.2.L,cH.2.At))) (rG,m_9,rF)) λJ3=>bnd (bG (aZ.mk m_4 m_5) (5:Int)) λ(bz:Int×aZ)=>bif decide (0<bz.1)then bnd (dy m_3 ([(aj.mk (m_3.length:Int) e1.ID (3:Int) e1.ID)]:List aj)) λ(l_1:List aj)=>J3 (bz.2.L,bz.2.At,l_1)else J3 (bz.2.L,bz.2.At,m_3)) (λ(sg:(List aj)×(List Int)×Int)=>match sg with|(m_3,m_4,m_5)=>bnd (lq m_3 (0:Int) (if ai.1<(m_3.length:Int)then ai.1 else(m_3.length:Int))) λ(l_4:List aj)=>jn (λ(sg:(List Int)×Int×(List aj))=>match sg with|(nw,rH,rI)=>some ((aK.mk ai.1 rI),(aZ.mk nw rH))) λJ9=>jn (λ(sg:Bool×(List Int)×Int)=>match sg with|(v_4,nR,nT)=>bif v_4 then bJ l_4 0 (λ(j3:Int) (e3:aj) (Z3:(List aj)→Option _) (lY:(List aj))=>bnd (elO lY (j3:Int)) λ(e_2:aj)=>bnd (ot lY (j3:Int) (aj.mk (w64 (e_2.Bit+(w64 (ai.1-(lY.length:Int))))) e_2.bx e_2.Kind e_2.To)) λ(l_5:List aj)=>Z3 l_5) (λ(lY:(List aj))=>J9 (nR,nT,lY)) l_4 else J9 (nR,nT,l_4)) λJ10=>bnd (bG (aZ.mk m_4 m_5) (3:Int)) λ(dw:Int×aZ)=>(bif decide (dw.1=0)then J10 (decide ((l_4.length:Int)<ai.1),dw.2.L,dw.2.At)else J10 (false,dw.2.L,dw.2.At))) ([],m_1,m_2)) λJ1=>(bif decide (aL.2=0)then bnd (bG ai.2 (2:Int)) λ(aV:Int×aZ)=>J1 (decide (aV.1=0),aV.2.L,aV.2.At)else J1 (false,ai.2.L,ai.2.At))
end
end Go.Proofs.YtdjeacigeegklaaGreat
namespace Go.Proofs.YtdjeacigeegklaaGreat
open Go
set_option maxRecDepth 100000
set_option linter.all false
noncomputable section
def ga(n:Int):Option Bool:=
 some ((decide (n=8))||((decide (n=16))||((decide (n=32))||(decide (n=64)))))
def oh(length:Int):Option Int:=
 bnd (ga length) λ(ai:Bool)=>bif !ai then some (0:Int)else chk (decide (0≤w64 ((64:Int)-length)))<|some (Int.fdiv (18446744073709551615:Int) (2 ^ min (w64 ((64:Int)-length)).toNat 64))
def lZ(b:Int)(length:Int):Option Bool:=
 bnd (ga length) λ(ai:Bool)=>(bif ai then bnd (oh length) λ(aL:Int)=>some (decide (aS .andNot .u64 b aL=0))else some false)
def jh(n:Int):Option Bool:=
 some ((decide (1≤n))&&(decide (n≤99)))
def l5(a:aj):Option cr:=
 some (cr.mk a.bx a.Kind a.To)
def fG(e:aK):Option Int:=
 bnd (ga e.Length) λ(ai:Bool)=>bif !ai then some (2:Int)else bJ e.List 0 (λ(j1:Int) (e1:aj) (Z1:Unit→Option _) (sg:Unit)=>match sg with|()=>jn (λ(v_1:Bool)=>bif v_1 then some (2:Int)else Z1 ()) λJ1=>(bif decide (e1.Bit<0)then J1 true else(bif decide (e.Length≤e1.Bit)then J1 true else bnd (jh e1.bx) λ(aL:Bool)=>(bif !aL then J1 true else bnd (jh e1.To) λ(aV:Bool)=>J1 (!aV))))) (λ(sg:Unit)=>match sg with|()=>bJ e.List 0 (λ(j2:Int) (e2:aj) (Z2:Unit→Option _) (sg:Unit)=>match sg with|()=>bif ((decide (e2.Kind<1))||(decide (3<e2.Kind)))then some (1:Int)else Z2 ()) (λ(sg:Unit)=>match sg with|()=>bJ e.List 0 (λ(j3:Int) (e3:aj) (Z3:Unit→Option _) (sg:Unit)=>match sg with|()=>bif !((decide (e3.To=e3.bx))==(decide (e3.Kind=3)))then some (8:Int)else Z3 ()) (λ(sg:Unit)=>match sg with|()=>bJ (List.drop 1 e.List) 1 (λ(j4:Int) (e4:aj) (Z4:Unit→Option _) (sg:Unit)=>match sg with|()=>bnd (elO e.List (w64 ((j4:Int)-(1:Int)))) λ(e_1:aj)=>bif decide (e4.Bit≤e_1.Bit)then some (25:Int)else Z4 ()) (λ(sg:Unit)=>match sg with|()=>bJ e.List 0 (λ(j5:Int) (e5:aj) (Z5:(List (cr×Bool))→Option _) (m_1:(List (cr×Bool)))=>bnd (l5 e5) λ(bz:cr)=>bif ((iK dx m_1 bz).getD false)then some (5:Int)else bnd (l5 e5) λ(cq:cr)=>Z5 (nM dx m_1 cq true)) (λ(m_1:(List (cr×Bool)))=>some (0:Int)) []) ()) ()) ()) ()
def jq(e:aK)(aY:Int):Option Int:=
 jn (λ(b_1:Int)=>some b_1) λJ1=>bnd (fG e) λ(ai:Int)=>bif decide (ai=0)then bJ e.List 0 (λ(j1:Int) (e1:aj) (Z1:Int→Option _) (b_2:Int)=>jn (λ(b_3:Int)=>Z1 b_3) λJ2=>bif decide (e1.bx=aY)then chk (decide (0≤e1.Bit))<|J2 (aS .or .u64 b_2 (IntKind.wrap .u64 ((1:Int)*2 ^ min e1.Bit.toNat 64)))else J2 b_2) (λ(b_2:Int)=>J1 b_2) (0:Int)else J1 (0:Int)
end
end Go.Proofs.YtdjeacigeegklaaGreat
namespace Go.Proofs.YtdjeacigeegklaaGreat
open Go
set_option maxRecDepth 100000
set_option linter.all false
noncomputable section
def lI(a:aB)(b:aB):Option Int:=
 bnd (eD a.to_ b.to_) λ(ai:Int)=>some ai
end
end Go.Proofs.YtdjeacigeegklaaGreat
namespace Go.Proofs.YtdjeacigeegklaaGreat
open Go
set_option maxRecDepth 100000
set_option linter.all false
noncomputable section
def iN(t:aa):Option Bool:=
 bnd (gy t) λ(ai:Int)=>some (decide (ai=0))
def kT(t:aa):Option eO:=
 bJ t.aq 0 (λ(j1:Int) (e1:aM) (Z1:((List (Int×List aB))×(List (Int×List aB)))→Option _) (sg:(List (Int×List aB))×(List (Int×List aB)))=>match sg with|(m_1,m_2)=>Z1 (bM m_1 e1.ID [],bM m_2 e1.ID [])) (λ(sg:(List (Int×List aB))×(List (Int×List aB)))=>match sg with|(m_1,m_2)=>bJ t.Links 0 (λ(j2:Int) (e2:bA) (Z2:((List (Int×List aB))×(List (Int×List aB)))→Option _) (sg:(List (Int×List aB))×(List (Int×List aB)))=>match sg with|(m_3,m_4)=>bnd (dy ((aC m_3 e2.A).getD []) ([(aB.mk e2.B e2.iC)]:List aB)) λ(l_1:List aB)=>bnd (dy ((aC (bM m_3 e2.A l_1) e2.B).getD []) ([(aB.mk e2.A e2.iD)]:List aB)) λ(l_2:List aB)=>bnd (dy ((aC m_4 e2.B).getD []) ([(aB.mk e2.A e2.iC)]:List aB)) λ(l_3:List aB)=>bnd (dy ((aC (bM m_4 e2.B l_3) e2.A).getD []) ([(aB.mk e2.B e2.iD)]:List aB)) λ(l_4:List aB)=>Z2 (bM (bM m_3 e2.A l_1) e2.B l_2,bM (bM m_4 e2.B l_3) e2.A l_4)) (λ(sg:(List (Int×List aB))×(List (Int×List aB)))=>match sg with|(m_3,m_4)=>bnd (qP m_3 (λ(n_1:Int) (v_1:List aB) (m_5:(List (Int×List aB)))=>chk (aC m_5 n_1).isSome<|bnd (pJ (jY [λx:aB=>x.to_]) ((aC m_5 n_1).getD [])) λ(l_5:List aB)=>some (bM m_5 n_1 l_5)) m_3) λ(R1:(List (Int×List aB)))=>some (eO.mk R1 m_4)) (m_1,m_2)) (([]:List (Int×List aB)),([]:List (Int×List aB)))
def eP(links:List (Int×List aB))(cN:Int):Option (List (Int×Int)):=
 bif !((aC links cN).isSome)then some []else jn (λ(sg:(List (Int×Int))×(List (Int×Int)))=>match sg with|(m_1,m_2)=>some m_1) λJ1=>whl (λ(Z1:((List (Int×Int))×(List (Int×Int)))→Option _) (sg:(List (Int×Int))×(List (Int×Int)))=>match sg with|(m_3,m_4)=>bif decide (0<(m_4.length:Int))then bnd (qP m_4 (λ(n_1:Int) (v_1:Int) (cV:Int)=>bif ((decide (cV=0))||((decide (v_1<((aC m_4 cV).getD (0:Int))))||((decide (v_1=((aC m_4 cV).getD (0:Int))))&&(decide (n_1<cV)))))then some n_1 else some cV) (0:Int)) λ(R1:Int)=>bif decide (((bM m_3 R1 ((aC m_4 R1).getD (0:Int))).length:Int)=(links.length:Int))then J1 (bM m_3 R1 ((aC m_4 R1).getD (0:Int)),mO m_4 R1)else bJ ((aC links R1).getD []) 0 (λ(j2:Int) (e2:aB) (Z2:(List (Int×Int))→Option _) (m_5:(List (Int×Int)))=>jn (λ(m_6:(List (Int×Int)))=>Z2 m_6) λJ2=>bif (aC (bM m_3 R1 ((aC m_4 R1).getD (0:Int))) e2.to_).isSome then J2 m_5 else bif ((!((aC m_5 e2.to_).isSome))||(decide (w64 (((aC m_4 R1).getD (0:Int))+e2.fe)<((aC m_5 e2.to_).getD (0:Int)))))then J2 (bM m_5 e2.to_ (w64 (((aC m_4 R1).getD (0:Int))+e2.fe)))else J2 m_5) (λ(m_5:(List (Int×Int)))=>Z1 (bM m_3 R1 ((aC m_4 R1).getD (0:Int)),m_5)) (mO m_4 R1)else J1 (m_3,m_4)) ([],bM [] cN (0:Int))
def gN(g:eO)(eM:List (Int×Int))(dR:Int):Option (List Int):=
 bif !((aC eM dR).isSome)then some []else bJ ((aC g.lB dR).getD []) 0 (λ(j1:Int) (e1:aB) (Z1:(List Int)→Option _) (bg:(List Int))=>jn (λ(cK:(List Int))=>Z1 cK) λJ1=>bif (((aC eM e1.to_).isSome)&&(decide (w64 (e1.fe+((aC eM e1.to_).getD (0:Int)))=((aC eM dR).getD (0:Int)))))then bnd (dy bg ([e1.to_]:List Int)) λ(l_1:List Int)=>J1 l_1 else J1 bg) (λ(bg:(List Int))=>some bg) []
def iO(t:aa)(cN:Int)(gv:Int):Option (List Int):=
 jn (λ(v_1:Bool)=>bif v_1 then some []else bnd (kT t) λ(aL:eO)=>bnd (eP aL.in_ gv) λ(aV:(List (Int×Int)))=>whl (λ(Z1:((List Int)×Int)→Option _) (sg:(List Int)×Int)=>match sg with|(bg,vQ)=>bif !decide (vQ=gv)then bnd (gN aL aV vQ) λ(bz:(List Int))=>bif decide ((bz.length:Int)=(0:Int))then some []else bnd (elO bz (0:Int)) λ(e_1:Int)=>bnd (dy bg ([e_1]:List Int)) λ(l_1:List Int)=>bnd (elO l_1 (w64 ((l_1.length:Int)-(1:Int)))) λ(e_2:Int)=>Z1 (l_1,e_2)else some bg) ([],cN)) λJ1=>bnd (iN t) λ(ai:Bool)=>(bif !ai then J1 true else J1 (decide (cN=gv)))
end
end Go.Proofs.YtdjeacigeegklaaGreat
namespace Go.Proofs.YtdjeacigeegklaaGreat
open Go
set_option maxRecDepth 100000
set_option linter.all false
noncomputable section
def iS(n:Int)(most:Int):Option Bool:=
 some ((decide (0≤n))&&(decide (n≤most)))
def l7(p:aT):Option Bool:=
 (bif decide (1≤p.Mode)then(bif decide (p.Mode≤3)then bnd (iS p.cA (7:Int)) λ(ai:Bool)=>(bif ai then bnd (iS p.Set (31:Int)) λ(aL:Bool)=>(bif aL then bnd (lZ p.Bits p.Length) λ(aV:Bool)=>(bif aV then bnd (iS p.TTL (63:Int)) λ(bz:Bool)=>(bif bz then bnd (iS p.cZ (1023:Int)) λ(cq:Bool)=>(bif cq then bnd (iS p.de (256:Int)) λ(cH:Bool)=>(bif cH then bnd (iS p.eE (7:Int)) λ(bZ:Bool)=>(bif bZ then some (decide ((p.cS.size:Int)≤(64:Int)))else some false)else some false)else some false)else some false)else some false)else some false)else some false)else some false)else some false)
def ji(e:aK)(p:aT):Option Int:=
 bif !decide (p.Mode=2)then some (7:Int)else bif !decide (p.Length=e.Length)then some (8:Int)else some (0:Int)
def iI(e:aK)(aY:Int)(p:aT):Option (bQ×(List cc)):=
 bnd (jq e aY) λ(ai:Int)=>bJ e.List 0 (λ(j1:Int) (e1:aj) (Z1:((List cc)×Int×Int×(List bp))→Option _) (sg:(List cc)×Int×Int×(List bp))=>match sg with|(gr,m_1,m_2,m_3)=>jn (λ(sg:(List cc)×Int×Int×(List bp))=>match sg with|(sI,m_4,m_5,m_6)=>Z1 (sI,m_4,m_5,m_6)) λJ1=>chk (decide (0≤e1.Bit))<|bif ((!decide (e1.bx=aY))||(decide (aS .and .u64 p.Bits (IntKind.wrap .u64 ((1:Int)*2 ^ min e1.Bit.toNat 64))=(0:Int))))then J1 (gr,m_1,m_2,m_3)else bif decide (e1.Kind=3)then J1 (gr,aS .or .u64 m_1 (IntKind.wrap .u64 ((1:Int)*2 ^ min e1.Bit.toNat 64)),m_2,m_3)else bif decide (p.TTL=0)then J1 (gr,m_1,aS .or .u64 m_2 (IntKind.wrap .u64 ((1:Int)*2 ^ min e1.Bit.toNat 64)),m_3)else bif !decide (aS .andNot .u64 p.Bits ai=0)then jn (λ(m_7:(List Int))=>bnd (dy m_3 ([(bp.mk e1.To (gG.mk m_7 (aT.mk p.Mode p.cA p.Set p.Length (w64 (p.TTL-1)) p.cZ p.de p.eE (aS .andNot .u64 p.Bits ai) p.cS)))]:List bp)) λ(l_1:List bp)=>bnd (dy gr ([(cc.mk e1 (bp.mk e1.To (gG.mk m_7 (aT.mk p.Mode p.cA p.Set p.Length (w64 (p.TTL-1)) p.cZ p.de p.eE (aS .andNot .u64 p.Bits ai) p.cS))))]:List cc)) λ(l_2:List cc)=>J1 (l_2,m_1,m_2,l_1)) λJ2=>bif decide (e1.Kind=2)then J2 ([e1.To]:List Int)else J2 []else J1 (gr,m_1,m_2,m_3)) (λ(sg:(List cc)×Int×Int×(List bp))=>match sg with|(gr,m_1,m_2,m_3)=>some ((bQ.mk m_1 m_2 m_3),gr)) ([],(0:Int),(0:Int),[])
def ij(e:aK)(aY:Int)(p:aT):Option (bQ×Int):=
 jn (λ(v_1:Bool)=>bif v_1 then some ((bQ.mk (0:Int) (0:Int) []),(1:Int))else bnd (ji e p) λ(aV:Int)=>bif !decide (aV=0)then some ((bQ.mk (0:Int) (0:Int) []),aV)else bnd (iI e aY p) λ(bz:bQ×(List cc))=>some (bz.1,(0:Int))) λJ1=>bnd (fG e) λ(ai:Int)=>(bif !decide (ai=0)then J1 true else bnd (l7 p) λ(aL:Bool)=>J1 (!aL))
end
end Go.Proofs.YtdjeacigeegklaaGreat
namespace Go.Proofs.YtdjeacigeegklaaGreat
open Go
set_option maxRecDepth 100000
set_option linter.all false
noncomputable section
def kr(n:Int):Option Bool:=
 some ((decide (n=8))||((decide (n=16))||((decide (n=32))||(decide (n=64)))))
def uC(k:Int):Option Int:=
 bif ((decide (k<0))||(decide (63<k)))then some (0:Int)else chk (decide (0≤IntKind.wrap .u64 k))<|some (IntKind.wrap .u64 ((1:Int)*2 ^ min (IntKind.wrap .u64 k).toNat 64))
def pU(length:Int):Option Int:=
 bnd (kr length) λ(ai:Bool)=>bif !ai then some (0:Int)else chk (decide (length≤9223372036854775807))<|lp (length-0).toNat (0:Int) (λ(j1:Int) (Z1:Int→Option _) (b_1:Int)=>bnd (uC (j1:Int)) λ(aL:Int)=>Z1 (aS .or .u64 b_1 aL)) (λ(j1:Int) (b_1:Int)=>some b_1) (0:Int)
def mF(b:Int)(length:Int):Option Bool:=
 bnd (kr length) λ(ai:Bool)=>(bif ai then bnd (pU length) λ(aL:Int)=>some (decide (aS .andNot .u64 b aL=0))else some false)
def gb(n:Int)(most:Int):Option Bool:=
 some ((decide (0≤n))&&(decide (n≤most)))
def mG(p:aT):Option Bool:=
 (bif decide (1≤p.Mode)then(bif decide (p.Mode≤3)then bnd (gb p.cA (7:Int)) λ(ai:Bool)=>(bif ai then bnd (gb p.Set (31:Int)) λ(aL:Bool)=>(bif aL then bnd (mF p.Bits p.Length) λ(aV:Bool)=>(bif aV then bnd (gb p.TTL (63:Int)) λ(bz:Bool)=>(bif bz then bnd (gb p.cZ (1023:Int)) λ(cq:Bool)=>(bif cq then bnd (gb p.de (256:Int)) λ(cH:Bool)=>(bif cH then bnd (gb p.eE (7:Int)) λ(bZ:Bool)=>(bif bZ then some (decide ((p.cS.size:Int)≤(64:Int)))else some false)else some false)else some false)else some false)else some false)else some false)else some false)else some false)else some false)
def rJ(t:aa)(ra1:Int):Option Int:=
 bJ t.aq 0 (λ(j1:Int) (e1:aM) (Z1:Unit→Option _) (sg:Unit)=>match sg with|()=>bif decide (e1.ID=ra1)then some (j1:Int)else Z1 ()) (λ(sg:Unit)=>match sg with|()=>some (0:Int)) ()
def vR(t:aa)(toa1:Int):Option (List Int):=
 chk (decide (0≤(t.aq.length:Int))&&decide ((t.aq.length:Int)≤4294967296))<|whl (λ(Z1:((List Int)×Int)→Option _) (sg:(List Int)×Int)=>match sg with|(d_1,i_1)=>bif decide (i_1<(d_1.length:Int))then jn (λ(d_2:(List Int))=>Z1 (d_2,w64 (i_1+1))) λJ1=>bnd (elO d_1 i_1) λ(e_1:Int)=>bnd (ot d_1 i_1 (1073741824:Int)) λ(l_1:List Int)=>bnd (elO t.aq i_1) λ(e_2:aM)=>bif decide (e_2.ID=toa1)then bnd (elO l_1 i_1) λ(e_3:Int)=>bnd (ot l_1 i_1 (0:Int)) λ(l_2:List Int)=>J1 l_2 else J1 l_1 else whl (λ(Z2:((List Int)×Int)→Option _) (sg:(List Int)×Int)=>match sg with|(d_3,adH)=>bif decide (adH<(d_3.length:Int))then bJ t.Links 0 (λ(j3:Int) (e3:bA) (Z3:(List Int)→Option _) (d_4:(List Int))=>jn (λ(d_5:(List Int))=>Z3 d_5) λJ2=>bnd (rJ t e3.A) λ(ai:Int)=>bnd (rJ t e3.B) λ(aL:Int)=>jn (λ(d_6:(List Int))=>bnd (elO d_6 ai) λ(e_6:Int)=>bif decide (e_6<1073741824)then bnd (elO d_6 aL) λ(e_7:Int)=>bnd (ot d_6 aL (if(w64 (e3.iD+e_6))<e_7 then w64 (e3.iD+e_6)else e_7)) λ(l_4:List Int)=>J2 l_4 else J2 d_6) λJ3=>bnd (elO d_4 aL) λ(e_4:Int)=>bif decide (e_4<1073741824)then bnd (elO d_4 ai) λ(e_5:Int)=>bnd (ot d_4 ai (if(w64 (e3.iC+e_4))<e_5 then w64 (e3.iC+e_4)else e_5)) λ(l_3:List Int)=>J3 l_3 else J3 d_4) (λ(d_4:(List Int))=>Z2 (d_4,w64 (adH+1))) d_3 else some d_3) (d_1,(0:Int))) ((List.replicate ((t.aq.length:Int)).toNat (0:Int)),(0:Int))
def nG(t:aa)(d:List Int)(ra2:Int):Option Int:=
 bJ t.aq 0 (λ(j1:Int) (e1:aM) (Z1:Unit→Option _) (sg:Unit)=>match sg with|()=>bif decide (e1.ID=ra2)then bnd (elO d (j1:Int)) λ(e_1:Int)=>some e_1 else Z1 ()) (λ(sg:Unit)=>match sg with|()=>some (1073741824:Int)) ()
def rK(t:aa)(d:List Int)(dR:Int):Option (List Int):=
 bnd (nG t d dR) λ(ai:Int)=>bif ((decide (ai=1073741824))||(decide (ai=0)))then some []else bnd (lS t dR) λ(aL:(List Int))=>bJ aL 0 (λ(j1:Int) (e1:Int) (Z1:(List Int)→Option _) (bg:(List Int))=>jn (λ(cK:(List Int))=>Z1 cK) λJ1=>bnd (kJ t dR e1) λ(aV:Int×Bool)=>jn (λ(v_1:Bool)=>bif v_1 then bnd (dy bg ([e1]:List Int)) λ(l_1:List Int)=>J1 l_1 else J1 bg) λJ2=>bnd (nG t d e1) λ(bz:Int)=>(bif decide (bz<1073741824)then bnd (nG t d e1) λ(cq:Int)=>J2 (decide (w64 (aV.1+cq)=ai))else J2 false)) (λ(bg:(List Int))=>some bg) []
def oo(t:aa)(cN:Int)(gv:Int):Option (List Int):=
 jn (λ(v_1:Bool)=>bif v_1 then some []else bnd (vR t gv) λ(aV:(List Int))=>whl (λ(Z1:(Int×(List Int))→Option _) (sg:Int×(List Int))=>match sg with|(adI,bg)=>bif !decide (adI=gv)then bnd (rK t aV adI) λ(bz:(List Int))=>bif decide ((bz.length:Int)=(0:Int))then some []else bnd (elO bz (0:Int)) λ(e_1:Int)=>bnd (dy bg ([e_1]:List Int)) λ(l_1:List Int)=>Z1 (e_1,l_1)else some bg) (cN,[])) λJ1=>bnd (mJ t cN) λ(ai:Bool)=>(bif !ai then J1 true else bnd (mJ t gv) λ(aL:Bool)=>J1 (!aL))
def j8(e:aK)(p:aT):Option Int:=
 bif !decide (p.Mode=2)then some (7:Int)else bif !decide (p.Length=e.Length)then some (8:Int)else some (0:Int)
def jr(e:aK)(aY:Int)(p:aT):Option (bQ×Int):=
 jn (λ(v_1:Bool)=>bif v_1 then some ((bQ.mk (0:Int) (0:Int) []),(1:Int))else bnd (j8 e p) λ(aV:Int)=>bif !decide (aV=0)then some ((bQ.mk (0:Int) (0:Int) []),aV)else bnd (mK e aY) λ(bz:Int)=>bJ e.List 0 (λ(j1:Int) (e1:aj) (Z1:(Int×Int×(List bp))→Option _) (sg:Int×Int×(List bp))=>match sg with|(m_1,m_2,m_3)=>jn (λ(sg:Int×Int×(List bp))=>match sg with|(m_4,m_5,m_6)=>Z1 (m_4,m_5,m_6)) λJ2=>chk (decide (0≤IntKind.wrap .u64 e1.Bit))<|bif ((!decide (e1.bx=aY))||(decide (aS .and .u64 p.Bits (IntKind.wrap .u64 ((1:Int)*2 ^ min (IntKind.wrap .u64 e1.Bit).toNat 64))=(0:Int))))then J2 (m_1,m_2,m_3)else bif decide (e1.Kind=3)then J2 (aS .or .u64 m_1 (IntKind.wrap .u64 ((1:Int)*2 ^ min (IntKind.wrap .u64 e1.Bit).toNat 64)),m_2,m_3)else bif decide (p.TTL=0)then J2 (m_1,aS .or .u64 m_2 (IntKind.wrap .u64 ((1:Int)*2 ^ min (IntKind.wrap .u64 e1.Bit).toNat 64)),m_3)else bif !decide (aS .andNot .u64 p.Bits bz=0)then jn (λ(m_7:(List Int))=>bnd (dy m_3 ([(bp.mk e1.To (gG.mk m_7 (aT.mk p.Mode p.cA p.Set p.Length (w64 (p.TTL-1)) p.cZ p.de p.eE (aS .andNot .u64 p.Bits bz) p.cS)))]:List bp)) λ(l_1:List bp)=>J2 (m_1,m_2,l_1)) λJ3=>bif decide (e1.Kind=2)then J3 ([e1.To]:List Int)else J3 []else J2 (m_1,m_2,m_3)) (λ(sg:Int×Int×(List bp))=>match sg with|(m_1,m_2,m_3)=>some ((bQ.mk m_1 m_2 m_3),(0:Int))) ((0:Int),(0:Int),[])) λJ1=>bnd (fF e) λ(ai:Int)=>(bif !decide (ai=0)then J1 true else bnd (mG p) λ(aL:Bool)=>J1 (!aL))
def fM(a:bQ)(b:bQ):Option Bool:=
 bif ((!decide (a.Local=b.Local))||((!decide (a.lQ=b.lQ))||(!decide ((a.bu.length:Int)=(b.bu.length:Int)))))then some false else bJ a.bu 0 (λ(j1:Int) (e1:bp) (Z1:Unit→Option _) (sg:Unit)=>match sg with|()=>bnd (elO b.bu (j1:Int)) λ(e_1:bp)=>bif ((!decide (e1.To=e_1.To))||((!(jO e1.Frame.aI e_1.Frame.aI))||(!decide ((e1.Frame.eF.length:Int)=(e_1.Frame.eF.length:Int)))))then some false else bJ e1.Frame.eF 0 (λ(j2:Int) (e2:Int) (Z2:Unit→Option _) (sg:Unit)=>match sg with|()=>bnd (elO e_1.Frame.eF (j2:Int)) λ(e_2:Int)=>bif !decide (e2=e_2)then some false else Z2 ()) (λ(sg:Unit)=>match sg with|()=>Z1 ()) ()) (λ(sg:Unit)=>match sg with|()=>some true) ()
end
end Go.Proofs.YtdjeacigeegklaaGreat
namespace Go.Proofs.YtdjeacigeegklaaGreat
open Go
set_option maxRecDepth 100000
set_option linter.all false
noncomputable section
def fP(sa0:List Int):Option (List Int):=
 bnd (dy ([]:List Int) sa0) λ(l_1:List Int)=>some l_1
def mU: Option (List Int):=
 bnd (dy ([]:List Int) []) λ(l_1:List Int)=>some l_1
def iG(s:List Int):Option (List Int):=fP s
def mV(a:aj):Option Bool:=
 some (decide (a.Kind=2))
def mH(e:aK):Option Bool:=
 bnd (fG e) λ(ai:Int)=>(bif decide (ai=0)then bnd (cI e.List mV) λ(aL:Bool)=>some (!aL)else some false)
def iz(c:bp)(gR:List Int)(bits:Int):Option bp:=
 bnd (elO gR (0:Int)) λ(e_1:Int)=>bnd (lq gR (1:Int) (gR.length:Int)) λ(l_1:List Int)=>bnd (iG l_1) λ(ai:(List Int))=>some (bp.mk e_1 (gG.mk ai (aT.mk c.Frame.aI.Mode c.Frame.aI.cA c.Frame.aI.Set c.Frame.aI.Length c.Frame.aI.TTL c.Frame.aI.cZ c.Frame.aI.de c.Frame.aI.eE bits c.Frame.aI.cS)))
def l8(e:aK)(t:aa)(aY:Int)(c:bp):Option ((List bp)×Int):=
 bnd (jq e c.To) λ(ai:Int)=>bnd (gI t (dO.mk [] ([c.To]:List Int))) λ(aL:aa)=>bJ e.List 0 (λ(j1:Int) (e1:aj) (Z1:((List bp)×Int×Int)→Option _) (sg:(List bp)×Int×Int)=>match sg with|(bg,dS,dM)=>jn (λ(sg:(List bp)×Int×Int)=>match sg with|(cK,ue,oQ)=>Z1 (cK,ue,oQ)) λJ1=>chk (decide (0≤e1.Bit))<|bif ((!decide (e1.bx=c.To))||(decide (aS .and .u64 c.Frame.aI.Bits (IntKind.wrap .u64 ((1:Int)*2 ^ min e1.Bit.toNat 64))=(0:Int))))then J1 (bg,dS,dM)else bif decide (e1.Kind=3)then J1 (bg,aS .or .u64 dS (IntKind.wrap .u64 ((1:Int)*2 ^ min e1.Bit.toNat 64)),dM)else bif decide (e1.To=aY)then J1 (bg,dS,dM)else bnd (ig aL aY e1.To) λ(aV:Bool)=>bif !aV then J1 (bg,aS .or .u64 dS (IntKind.wrap .u64 ((1:Int)*2 ^ min e1.Bit.toNat 64)),aS .or .u64 dM (IntKind.wrap .u64 ((1:Int)*2 ^ min e1.Bit.toNat 64)))else bif !decide (aS .andNot .u64 c.Frame.aI.Bits ai=0)then bnd (iO aL aY e1.To) λ(bz:(List Int))=>bnd (iz c bz (aS .andNot .u64 c.Frame.aI.Bits ai)) λ(cq:bp)=>bnd (dy bg ([cq]:List bp)) λ(l_1:List bp)=>J1 (l_1,dS,dM)else J1 (bg,dS,dM)) (λ(sg:(List bp)×Int×Int)=>match sg with|(bg,dS,dM)=>bif decide (dS=0)then some (bg,(0:Int))else bnd (gI t (dO.mk ([(cw.mk aY c.To)]:List cw) [])) λ(cH:aa)=>bnd (iO cH aY c.To) λ(bZ:(List Int))=>bif decide ((bZ.length:Int)=(0:Int))then some (bg,dS)else jn (λ(aac:Int)=>bnd (iz c bZ aac) λ(dw:bp)=>bnd (dy bg ([dw]:List bp)) λ(l_2:List bp)=>some (l_2,(0:Int))) λJ2=>bif !decide (dM=0)then J2 (aS .or .u64 dS (aS .andNot .u64 c.Frame.aI.Bits ai))else J2 dS) ([],(0:Int),(0:Int))
def jt(e:aK)(t:aa)(aY:Int)(p:aT)(down:List Int):Option (bQ×Int):=
 bnd (ij e aY p) λ(ai:bQ×Int)=>bif !decide (ai.2=0)then some ((bQ.mk (0:Int) (0:Int) []),ai.2)else jn (λ(v_1:Bool)=>bif v_1 then some ((bQ.mk (0:Int) (0:Int) []),(1:Int))else bJ ai.1.bu 0 (λ(j1:Int) (e1:bp) (Z1:(Int×(List bp))→Option _) (sg:Int×(List bp))=>match sg with|(m_1,m_2)=>jn (λ(sg:Int×(List bp))=>match sg with|(m_3,m_4)=>Z1 (m_3,m_4)) λJ2=>bnd (cE down e1.To) λ(bz:Bool)=>bif !bz then bnd (dy m_2 ([e1]:List bp)) λ(l_1:List bp)=>J2 (m_1,l_1)else bnd (l8 e t aY e1) λ(cq:(List bp)×Int)=>bnd (dy m_2 cq.1) λ(l_2:List bp)=>J2 (aS .or .u64 m_1 cq.2,l_2)) (λ(sg:Int×(List bp))=>match sg with|(m_1,m_2)=>some ((bQ.mk ai.1.Local m_1 m_2),(0:Int))) (ai.1.lQ,[])) λJ1=>bnd (mH e) λ(aL:Bool)=>(bif !aL then J1 true else bnd (gy t) λ(aV:Int)=>J1 (!decide (aV=0)))
end
end Go.Proofs.YtdjeacigeegklaaGreat
namespace Go.Proofs.YtdjeacigeegklaaGreat
open Go
set_option maxRecDepth 100000
set_option linter.all false
noncomputable section
def rM(e:aK):Option Bool:=
 bJ e.List 0 (λ(j1:Int) (e1:aj) (Z1:Unit→Option _) (sg:Unit)=>match sg with|()=>bif decide (e1.Kind=2)then some false else Z1 ()) (λ(sg:Unit)=>match sg with|()=>bnd (fF e) λ(ai:Int)=>some (decide (ai=0))) ()
def jS(p:aT)(bits:Int)(gR:List Int):Option bp:=
 bnd (elO gR (0:Int)) λ(e_1:Int)=>bnd (lq gR (1:Int) (gR.length:Int)) λ(l_1:List Int)=>some (bp.mk e_1 (gG.mk l_1 (aT.mk p.Mode p.cA p.Set p.Length p.TTL p.cZ p.de p.eE bits p.cS)))
def oy(e:aK)(t:aa)(aY:Int)(c:bp):Option ((List bp)×Int):=
 bnd (mK e c.To) λ(ai:Int)=>bnd (mT t (dO.mk [] ([c.To]:List Int))) λ(aL:aa)=>bJ e.List 0 (λ(j1:Int) (e1:aj) (Z1:((List bp)×Int×Int)→Option _) (sg:(List bp)×Int×Int)=>match sg with|(bg,dS,dM)=>jn (λ(sg:(List bp)×Int×Int)=>match sg with|(cK,ue,oQ)=>Z1 (cK,ue,oQ)) λJ1=>chk (decide (0≤IntKind.wrap .u64 e1.Bit))<|bif ((!decide (e1.bx=c.To))||((decide (aS .and .u64 c.Frame.aI.Bits (IntKind.wrap .u64 ((1:Int)*2 ^ min (IntKind.wrap .u64 e1.Bit).toNat 64))=(0:Int)))||(decide (e1.To=aY))))then J1 (bg,dS,dM)else bif decide (e1.Kind=3)then J1 (bg,aS .or .u64 dS (IntKind.wrap .u64 ((1:Int)*2 ^ min (IntKind.wrap .u64 e1.Bit).toNat 64)),dM)else bnd (oo aL aY e1.To) λ(aV:(List Int))=>bif decide ((aV.length:Int)=(0:Int))then J1 (bg,aS .or .u64 dS (IntKind.wrap .u64 ((1:Int)*2 ^ min (IntKind.wrap .u64 e1.Bit).toNat 64)),aS .or .u64 dM (IntKind.wrap .u64 ((1:Int)*2 ^ min (IntKind.wrap .u64 e1.Bit).toNat 64)))else bif !decide (aS .andNot .u64 c.Frame.aI.Bits ai=0)then bnd (jS c.Frame.aI (aS .andNot .u64 c.Frame.aI.Bits ai) aV) λ(bz:bp)=>bnd (dy bg ([bz]:List bp)) λ(l_1:List bp)=>J1 (l_1,dS,dM)else J1 (bg,dS,dM)) (λ(sg:(List bp)×Int×Int)=>match sg with|(bg,dS,dM)=>bif decide (dS=0)then some (bg,(0:Int))else bnd (mT t (dO.mk ([(cw.mk aY c.To)]:List cw) [])) λ(cq:aa)=>bnd (oo cq aY c.To) λ(cH:(List Int))=>bif decide ((cH.length:Int)=(0:Int))then some (bg,dS)else jn (λ(at7:Int)=>bnd (jS c.Frame.aI at7 cH) λ(bZ:bp)=>bnd (dy bg ([bZ]:List bp)) λ(l_2:List bp)=>some (l_2,(0:Int))) λJ2=>bif !decide (dM=0)then J2 (aS .or .u64 dS (aS .andNot .u64 c.Frame.aI.Bits ai))else J2 dS) ([],(0:Int),(0:Int))
def pW(e:aK)(t:aa)(aY:Int)(p:aT)(down:List Int):Option (bQ×Int):=
 bnd (jr e aY p) λ(ai:bQ×Int)=>bif !decide (ai.2=0)then some ((bQ.mk (0:Int) (0:Int) []),ai.2)else jn (λ(v_1:Bool)=>bif v_1 then some ((bQ.mk (0:Int) (0:Int) []),(1:Int))else bJ ai.1.bu 0 (λ(j1:Int) (e1:bp) (Z1:(Int×(List bp))→Option _) (sg:Int×(List bp))=>match sg with|(m_1,m_2)=>jn (λ(sg:Int×(List bp))=>match sg with|(m_3,m_4)=>Z1 (m_3,m_4)) λJ2=>bnd (eT down e1.To) λ(bz:Bool)=>bif !bz then bnd (dy m_2 ([e1]:List bp)) λ(l_1:List bp)=>J2 (m_1,l_1)else bnd (oy e t aY e1) λ(cq:(List bp)×Int)=>bnd (dy m_2 cq.1) λ(l_2:List bp)=>J2 (aS .or .u64 m_1 cq.2,l_2)) (λ(sg:Int×(List bp))=>match sg with|(m_1,m_2)=>some ((bQ.mk ai.1.Local m_1 m_2),(0:Int))) (ai.1.lQ,[])) λJ1=>bnd (rM e) λ(aL:Bool)=>(bif !aL then J1 true else bnd (gx t) λ(aV:Int)=>J1 (!decide (aV=0)))
end
end Go.Proofs.YtdjeacigeegklaaGreat
namespace Go.Proofs.YtdjeacigeegklaaGreat
open Go
set_option maxRecDepth 100000
set_option linter.all false
noncomputable section
def jT: Option aa:=
 lp ((5:Int)-(1:Int)).toNat (1:Int) (λ(j1:Int) (Z1:(List aM)→Option _) (m_1:(List aM))=>bnd (dy m_1 ([(aM.mk (j1:Int) true)]:List aM)) λ(l_1:List aM)=>Z1 l_1) (λ(j1:Int) (m_1:(List aM))=>bJ ([(bU.mk (1:Int) (2:Int)),(bU.mk (1:Int) (4:Int)),(bU.mk (2:Int) (3:Int)),(bU.mk (3:Int) (4:Int))]:List bU) 0 (λ(j2:Int) (e2:bU) (Z2:(List bA)→Option _) (m_2:(List bA))=>bnd (dy m_2 ([(bA.mk e2.E0 e2.E1 (1:Int) (1:Int) (0:Int))]:List bA)) λ(l_2:List bA)=>Z2 l_2) (λ(m_2:(List bA))=>some (aa.mk m_1 m_2)) []) []
def kK: Option Bool:=
 bnd (jT) λ(ai:aa)=>bnd (jZ ai (16:Int)) λ(aL:aK×Int)=>bnd (pR aL.1 (mm.mk (1:Int) ([(cw.mk (1:Int) (2:Int)),(cw.mk (2:Int) (3:Int))]:List cw)) ([(2:Int),(3:Int)]:List Int)) λ(aV:Int×Int)=>bnd (jT) λ(bz:aa)=>bnd (jt aL.1 bz (1:Int) (aT.mk (2:Int) (0:Int) (0:Int) (16:Int) (9:Int) (0:Int) (0:Int) (0:Int) aV.1 (⟨#[]⟩:ByteArray)) ([(2:Int)]:List Int)) λ(cq:bQ×Int)=>(bif decide (cq.2=0)then(bif decide ((cq.1.bu.length:Int)=(2:Int))then bnd (elO cq.1.bu (0:Int)) λ(e_1:bp)=>(bif decide (e_1.To=4)then bnd (gK e_1.Frame.eF ([(3:Int)]:List Int)) λ(cH:Bool)=>(bif cH then bnd (elO cq.1.bu (1:Int)) λ(e_2:bp)=>bnd (gK e_2.Frame.eF ([(3:Int),(2:Int)]:List Int)) λ(bZ:Bool)=>(bif bZ then some (decide (cq.1.lQ=0))else some false)else some false)else some false)else some false)else some false)
def mI(sa0:aZ)(p:aa):Option (aK×aZ):=
 bnd (nx sa0 p) λ(ai:aK×aZ)=>bJ ai.1.List 0 (λ(j1:Int) (e1:aj) (Z1:(List aj)→Option _) (m_1:(List aj))=>jn (λ(m_2:(List aj))=>Z1 m_2) λJ1=>bif !decide (e1.Kind=2)then bnd (dy m_1 ([e1]:List aj)) λ(l_1:List aj)=>J1 l_1 else J1 m_1) (λ(m_1:(List aj))=>some ((aK.mk ai.1.Length m_1),ai.2)) []
end
end Go.Proofs.YtdjeacigeegklaaGreat
