/- Several texts in one. No condition but those that stand in each. -/
import Derived.Test.YtmnbolcmepihlaaWD
namespace Go.Proofs.Ytmnbolcmepihlaa
open Go
set_option maxRecDepth 100000
set_option linter.all false
noncomputable section
def fH(xa0:Int):Option Bool:=
 some (!decide (xa0=xa0))
def b8(xa0:Int)(y:Int):Option Int:=
 bnd (fH xa0) λ(aq:Bool)=>bnd (fH y) λ(aL:Bool)=>bif aq then bif aL then some (0:Int)else some (-1:Int)else bif aL then some (1:Int)else bif decide (xa0<y)then some (-1:Int)else bif decide (y<xa0)then some (1:Int)else some (0:Int)
def eU(vals:List Int):Option Int:=
 cc vals 0 (λ(j1:Int) (e1:Int) (Z1:Unit→Option _) (sg:Unit)=>match sg with|()=>bif !decide (e1=0)then some e1 else Z1 ()) (λ(sg:Unit)=>match sg with|()=>some (0:Int)) ()
def bq(xa0:List aK)(target:Int)(cmp:aK→Int→Option Int):Option (Int×Bool):=
 whl (λ(Z1:(Int×Int)→Option _) (sg:Int×Int)=>match sg with|(i_1,j_1)=>bif decide (i_1<j_1)then bnd (elO xa0 (w64 (Int.fdiv (IntKind.wrap .u64 (w64 (i_1+j_1))) (2 ^ min (1:Int).toNat 64)))) λ(e_1:aK)=>bnd (cmp e_1 target) λ(aq:Int)=>bif decide (aq<0)then Z1 (w64 ((w64 (Int.fdiv (IntKind.wrap .u64 (w64 (i_1+j_1))) (2 ^ min (1:Int).toNat 64)))+(1:Int)),j_1)else Z1 (i_1,w64 (Int.fdiv (IntKind.wrap .u64 (w64 (i_1+j_1))) (2 ^ min (1:Int).toNat 64)))else(bif decide (i_1<(xa0.length:Int))then bnd (elO xa0 i_1) λ(e_2:aK)=>bnd (cmp e_2 target) λ(aL:Int)=>some (i_1,decide (aL=0))else some (i_1,false))) ((0:Int),(xa0.length:Int))
def cG(sa0:List aK)(f:aK→Option Bool):Option Int:=
 cc sa0 0 (λ(j1:Int) (e1:aK) (Z1:Unit→Option _) (sg:Unit)=>match sg with|()=>bnd (f e1) λ(aq:Bool)=>bif aq then some (j1:Int)else Z1 ()) (λ(sg:Unit)=>match sg with|()=>some (-1:Int)) ()
def cR(sa0:List bh)(f:bh→Option Bool):Option Int:=
 cc sa0 0 (λ(j1:Int) (e1:bh) (Z1:Unit→Option _) (sg:Unit)=>match sg with|()=>bnd (f e1) λ(aq:Bool)=>bif aq then some (j1:Int)else Z1 ()) (λ(sg:Unit)=>match sg with|()=>some (-1:Int)) ()
def gm(sa0:List Int)(v:Int):Option Int:=
 cc sa0 0 (λ(j1:Int) (e1:Int) (Z1:Unit→Option _) (sg:Unit)=>match sg with|()=>bif decide (v=e1)then some (j1:Int)else Z1 ()) (λ(sg:Unit)=>match sg with|()=>some (-1:Int)) ()
def fC(sa0:List Int)(f:Int→Option Bool):Option Int:=
 cc sa0 0 (λ(j1:Int) (e1:Int) (Z1:Unit→Option _) (sg:Unit)=>match sg with|()=>bnd (f e1) λ(aq:Bool)=>bif aq then some (j1:Int)else Z1 ()) (λ(sg:Unit)=>match sg with|()=>some (-1:Int)) ()
def bN(sa0:List aK)(f:aK→Option Bool):Option Bool:=
 bnd (cG sa0 f) λ(aq:Int)=>some (decide (0≤aq))
def bA(sa0:List bh)(f:bh→Option Bool):Option Bool:=
 bnd (cR sa0 f) λ(aq:Int)=>some (decide (0≤aq))
def cU(sa0:List Int)(v:Int):Option Bool:=
 bnd (gm sa0 v) λ(aq:Int)=>some (decide (0≤aq))
def eV(sa0:List Int)(f:Int→Option Bool):Option Bool:=
 bnd (fC sa0 f) λ(aq:Int)=>some (decide (0≤aq))
def eX(n:Int)(least:Int)(most:Int):Option Bool:=
 some ((decide (least≤n))&&(decide (n≤most)))
def fD(a:bh)(b:bh):Option Int:=
 bnd (b8 a.A b.A) λ(aq:Int)=>bnd (b8 a.B b.B) λ(aL:Int)=>bnd (eU ([aq,aL]:List Int)) λ(bM:Int)=>some bM
def fI(ra0:aK)(id:Int):Option Int:=
 bnd (b8 ra0.ID id) λ(aq:Int)=>some aq
def gv(ra0:aK):Option Bool:=
 bnd (eX ra0.ID (1:Int) (99:Int)) λ(aq:Bool)=>some (!aq)
def fE(l:bh):Option Bool:=
 bnd (eX l.fc (1:Int) (1000:Int)) λ(aq:Bool)=>(bif !aq then some true else bnd (eX l.fS (1:Int) (1000:Int)) λ(aL:Bool)=>(bif !aL then some true else bnd (eX l.mK (0:Int) (1000:Int)) λ(bM:Bool)=>some (!bM)))
def eM(id:Int)(c_0:az):Option Bool:=
 bnd (bq c_0.ay id fI) λ(aq:Int×Bool)=>some (!aq.2)
def gw(l:bh)(c_0:az):Option Bool:=
 bnd (eM l.A c_0) λ(aq:Bool)=>(bif aq then some true else bnd (eM l.B c_0) λ(aL:Bool)=>some aL)
def gx(l:bh):Option Bool:=
 some (decide (l.B≤l.A))
def fk(t:az):Option Int:=
 bif ((decide (24<(t.ay.length:Int)))||(decide (60<(t.Links.length:Int))))then some (3:Int)else bnd (bN t.ay gv) λ(aq:Bool)=>bif aq then some (2:Int)else cc t.ay 0 (λ(j1:Int) (e1:aK) (Z1:Unit→Option _) (sg:Unit)=>match sg with|()=>jn (λ(v_1:Bool)=>bif v_1 then some (25:Int)else Z1 ()) λJ1=>(bif decide (0<(j1:Int))then bnd (elO t.ay (w64 ((j1:Int)-(1:Int)))) λ(e_1:aK)=>J1 (decide (e1.ID≤e_1.ID))else J1 false)) (λ(sg:Unit)=>match sg with|()=>bnd (bA t.Links fE) λ(aL:Bool)=>bif aL then some (2:Int)else bnd (bA t.Links (λ(y0:bh)=>gw y0 t)) λ(bM:Bool)=>bif bM then some (4:Int)else bnd (bA t.Links gx) λ(bF:Bool)=>bif bF then some (8:Int)else cc t.Links 0 (λ(j2:Int) (e2:bh) (Z2:Unit→Option _) (sg:Unit)=>match sg with|()=>jn (λ(v_2:Bool)=>bif v_2 then some (25:Int)else Z2 ()) λJ2=>(bif decide (0<(j2:Int))then bnd (elO t.Links (w64 ((j2:Int)-(1:Int)))) λ(e_2:bh)=>bnd (fD e_2 e2) λ(bY:Int)=>J2 (decide (0≤bY))else J2 false)) (λ(sg:Unit)=>match sg with|()=>some (0:Int)) ()) ()
def gd(t:az):Option Bool:=
 bnd (fk t) λ(aq:Int)=>some (decide (aq=0))
def gy(t:az)(gf:Int):Option (aK×Bool):=
 bnd (bq t.ay gf fI) λ(aq:Int×Bool)=>bif !aq.2 then some ((aK.mk (0:Int) false),false)else bnd (elO t.ay aq.1) λ(e_1:aK)=>some (e_1,true)
def fZ(t:az)(gf:Int):Option Bool:=
 bnd (gy t gf) λ(aq:aK×Bool)=>bnd (gd t) λ(aL:Bool)=>(bif aL then some aq.2 else some false)
end
end Go.Proofs.Ytmnbolcmepihlaa
namespace Go.Proofs.Ytmnbolcmepihlaa
open Go
set_option maxRecDepth 100000
set_option linter.all false
noncomputable section
def fP(t:List Int):Option bg:=
 bnd (nA t (0:Int) (if(2000:Int)<(t.length:Int)then(2000:Int)else(t.length:Int))) λ(l_1:List Int)=>some (bg.mk l_1 (0:Int))
def eA(t:bg):Option (Int×bg):=
 bif decide ((t.L.length:Int)≤t.At)then some ((0:Int),t)else bnd (elO t.L (w64 ((w64 (t.At+1))-(1:Int)))) λ(e_1:Int)=>some (e_1,(bg.mk t.L (w64 (t.At+1))))
def fQ(xa0:Int)(n:Int):Option Int:=
 bif decide (n<1)then some (0:Int)else chk (decide (n≠0))<|jn (λ(aq:Int)=>some aq) λJ1=>bif decide (Int.tmod xa0 n<0)then J1 (w64 ((Int.tmod xa0 n)+n))else J1 (Int.tmod xa0 n)
def bx(t:bg)(n:Int):Option (Int×bg):=
 bnd (eA t) λ(aq:Int×bg)=>bnd (fQ aq.1 n) λ(aL:Int)=>some (aL,aq.2)
def cM(t:bg)(lo:Int)(hi:Int):Option (Int×bg):=
 bnd (bx t (w64 ((w64 (hi-lo))+(1:Int)))) λ(aq:Int×bg)=>some (w64 (lo+aq.1),aq.2)
def cD(t:bg)(l:List Int):Option (Int×bg):=
 bnd (bx t (l.length:Int)) λ(aq:Int×bg)=>bnd (elO l aq.1) λ(e_1:Int)=>some (e_1,aq.2)
def ec(l:List Int)(xa1:Int):Option Bool:=
 cc l 0 (λ(j1:Int) (e1:Int) (Z1:Unit→Option _) (sg:Unit)=>match sg with|()=>bif decide (e1=xa1)then some true else Z1 ()) (λ(sg:Unit)=>match sg with|()=>some false) ()
def dD(l:List Int)(xa1:Int):Option (List Int):=
 whl (λ(Z1:Int→Option _) (k_1:Int)=>jn (λ(v_1:Bool)=>bif v_1 then Z1 (w64 (k_1+1))else jn (λ(v_2:Bool)=>bif v_2 then some l else bnd (nA l k_1 (l.length:Int)) λ(l_1:List Int)=>bnd (iy ([xa1]:List Int) l_1) λ(l_2:List Int)=>bnd (nA l (0:Int) k_1) λ(l_3:List Int)=>bnd (iy l_3 l_2) λ(l_4:List Int)=>some l_4) λJ2=>(bif decide (k_1<(l.length:Int))then bnd (elO l k_1) λ(e_2:Int)=>J2 (decide (e_2=xa1))else J2 false)) λJ1=>(bif decide (k_1<(l.length:Int))then bnd (elO l k_1) λ(e_1:Int)=>J1 (decide (e_1<xa1))else J1 false)) (0:Int)
end
end Go.Proofs.Ytmnbolcmepihlaa
namespace Go.Proofs.Ytmnbolcmepihlaa
open Go
set_option maxRecDepth 100000
set_option linter.all false
noncomputable section
def ig(t:bg)(most:Int):Option (az×bg):=
 bnd (cM t (1:Int) most) λ(aq:Int×bg)=>chk (decide (aq.1≤9223372036854775807))<|gY (aq.1-0).toNat (0:Int) (λ(j1:Int) (Z1:(Int×(List aK)×(List Int)×Int)→Option _) (sg:Int×(List aK)×(List Int)×Int)=>match sg with|(nD,m_1,m_2,m_3)=>bnd (cD (bg.mk m_2 m_3) ([(1:Int),(1:Int),(1:Int),(2:Int),(5:Int)]:List Int)) λ(aL:Int×bg)=>bnd (iy m_1 ([(aK.mk (w64 (nD+aL.1)) true)]:List aK)) λ(l_1:List aK)=>Z1 (w64 (nD+aL.1),l_1,aL.2.L,aL.2.At)) (λ(j1:Int) (sg:Int×(List aK)×(List Int)×Int)=>match sg with|(nD,m_1,m_2,m_3)=>chk (decide (0<aq.1)&&decide (aq.1≤4294967296))<|chk (decide (((List.replicate aq.1.toNat []:List (List Bool)).length:Int)≤9223372036854775807))<|gY (((List.replicate aq.1.toNat []:List (List Bool)).length:Int)-(0:Int)).toNat (0:Int) (λ(j2:Int) (Z2:(List (List Bool))→Option _) (m_4:(List (List Bool)))=>chk (decide (0≤aq.1)&&decide (aq.1≤4294967296))<|bnd (elO m_4 (j2:Int)) λ(e_1:List Bool)=>Z2 (List.set m_4 (j2:Int).toNat (List.replicate (aq.1).toNat false))) (λ(j2:Int) (m_4:(List (List Bool)))=>chk (decide (aq.1≤9223372036854775807))<|gY (aq.1-1).toNat (1:Int) (λ(j3:Int) (Z3:((List Int)×Int×(List (List Bool)))→Option _) (sg:(List Int)×Int×(List (List Bool)))=>match sg with|(m_5,m_6,m_7)=>jn (λ(sg:(List (List Bool))×(List Int)×Int)=>match sg with|(m_8,m_9,tG)=>Z3 (m_9,tG,m_8)) λJ1=>bnd (bx (bg.mk m_5 m_6) (12:Int)) λ(bM:Int×bg)=>bif decide (bM.1<11)then bnd (bx bM.2 (j3:Int)) λ(bF:Int×bg)=>bnd (elO m_7 bF.1) λ(e_2:List Bool)=>bnd (elO e_2 (j3:Int)) λ(e_3:Bool)=>bnd (pL e_2 (j3:Int) true) λ(l_2:List Bool)=>J1 ((List.set m_7 bF.1.toNat l_2),bF.2.L,bF.2.At)else J1 (m_7,bM.2.L,bM.2.At)) (λ(j3:Int) (sg:(List Int)×Int×(List (List Bool)))=>match sg with|(m_5,m_6,m_7)=>bnd (bx (bg.mk m_5 m_6) (w64 (aq.1+2))) λ(bY:Int×bg)=>whl (λ(Z4:(Int×(List Int)×Int×(List (List Bool)))→Option _) (sg:Int×(List Int)×Int×(List (List Bool)))=>match sg with|(i_1,tH,tI,dy)=>bif decide (0<i_1)then jn (λ(sg:(List (List Bool))×(List Int)×Int)=>match sg with|(tJ,tK,tL)=>Z4 (w64 (i_1-1),tK,tL,tJ)) λJ2=>bnd (bx (bg.mk tH tI) aq.1) λ(fm:Int×bg)=>bnd (bx fm.2 aq.1) λ(dR:Int×bg)=>bif !decide (fm.1=dR.1)then bnd (elO dy (if dR.1<fm.1 then dR.1 else fm.1)) λ(e_4:List Bool)=>bnd (elO e_4 (if dR.1>fm.1 then dR.1 else fm.1)) λ(e_5:Bool)=>bnd (pL e_4 (if dR.1>fm.1 then dR.1 else fm.1) true) λ(l_3:List Bool)=>J2 ((List.set dy (if dR.1<fm.1 then dR.1 else fm.1).toNat l_3),dR.2.L,dR.2.At)else J2 (dy,dR.2.L,dR.2.At)else bnd (bx (bg.mk tH tI) (3:Int)) λ(ja:Int×bg)=>chk (decide ((dy.length:Int)≤9223372036854775807))<|gY ((dy.length:Int)-(0:Int)).toNat (0:Int) (λ(j5:Int) (Z5:((List bh)×(List Int)×Int)→Option _) (sg:(List bh)×(List Int)×Int)=>match sg with|(pY,pZ,p8)=>chk (decide ((dy.length:Int)≤9223372036854775807))<|gY ((dy.length:Int)-(0:Int)).toNat (0:Int) (λ(j6:Int) (Z6:((List bh)×(List Int)×Int)→Option _) (sg:(List bh)×(List Int)×Int)=>match sg with|(kX,mL,mM)=>jn (λ(sg:(List Int)×Int×(List bh))=>match sg with|(tM,tN,tO)=>Z6 (tO,tM,tN)) λJ3=>bnd (elO dy (j5:Int)) λ(e_6:List Bool)=>bnd (elO e_6 (j6:Int)) λ(e_7:Bool)=>bif !e_7 then J3 (mL,mM,kX)else bnd (elO m_1 (j5:Int)) λ(e_8:aK)=>bnd (elO m_1 (j6:Int)) λ(e_9:aK)=>bnd (cD (bg.mk mL mM) ([(0:Int),(1:Int),(2:Int),(3:Int),(5:Int),(10:Int),(1000:Int)]:List Int)) λ(jb:Int×bg)=>jn (λ(sg:(List Int)×Int×Int×Int)=>match sg with|(tP,tQ,vO,vP)=>bnd (iy kX ([(bh.mk e_8.ID e_9.ID vO vP jb.1)]:List bh)) λ(l_4:List bh)=>J3 (tP,tQ,l_4)) λJ4=>bif !(decide (ja.1=0))then bnd (cM jb.2 (1:Int) (20:Int)) λ(nq:Int×bg)=>bnd (cD nq.2 ([(1:Int),(2:Int),(3:Int),nq.1,(1000:Int)]:List Int)) λ(jk:Int×bg)=>bnd (cM jk.2 (1:Int) (20:Int)) λ(oM:Int×bg)=>bnd (cD oM.2 ([jk.1,jk.1,oM.1]:List Int)) λ(lY:Int×bg)=>J4 (lY.2.L,lY.2.At,jk.1,lY.1)else J4 (jb.2.L,jb.2.At,(1:Int),(1:Int))) (λ(j6:Int) (sg:(List bh)×(List Int)×Int)=>match sg with|(kX,mL,mM)=>Z5 (kX,mL,mM)) (pY,pZ,p8)) (λ(j5:Int) (sg:(List bh)×(List Int)×Int)=>match sg with|(pY,pZ,p8)=>some ((az.mk m_1 pY),(bg.mk pZ p8))) ([],ja.2.L,ja.2.At)) (bY.1,bY.2.L,bY.2.At,m_7)) (m_2,m_3,m_4)) (List.replicate aq.1.toNat []:List (List Bool))) ((0:Int),[],aq.2.L,aq.2.At)
def kJ(t:bg)(p:az)(n:Int):Option ((List Int)×bg):=
 bnd (bx t (w64 (n+1))) λ(aq:Int×bg)=>whl (λ(Z1:((List Int)×Int×(List Int)×Int)→Option _) (sg:(List Int)×Int×(List Int)×Int)=>match sg with|(gz,i_1,m_1,m_2)=>bif ((decide (0<i_1))&&(decide (0<(p.ay.length:Int))))then bnd (bx (bg.mk m_1 m_2) (p.ay.length:Int)) λ(aL:Int×bg)=>bnd (elO p.ay aL.1) λ(e_1:aK)=>bnd (dD gz e_1.ID) λ(bM:(List Int))=>Z1 (bM,w64 (i_1-1),aL.2.L,aL.2.At)else some (gz,(bg.mk m_1 m_2))) ([],aq.1,aq.2.L,aq.2.At)
end
end Go.Proofs.Ytmnbolcmepihlaa
namespace Go.Proofs.Ytmnbolcmepihlaa
open Go
set_option maxRecDepth 100000
set_option linter.all false
noncomputable section
def gA(a:aV)(b:aV):Option Int:=
 bnd (b8 a.bf b.bf) λ(aq:Int)=>bnd (b8 a.To b.To) λ(aL:Int)=>bnd (eU ([aq,aL]:List Int)) λ(bM:Int)=>some bM
def kK(a:af)(b:af):Option Int:=
 bnd (b8 a.Hop.bf b.Hop.bf) λ(aq:Int)=>bnd (b8 a.Hop.To b.Hop.To) λ(aL:Int)=>bnd (eU ([aq,aL]:List Int)) λ(bM:Int)=>some bM
end
end Go.Proofs.Ytmnbolcmepihlaa
namespace Go.Proofs.Ytmnbolcmepihlaa
open Go
set_option maxRecDepth 100000
set_option linter.all false
noncomputable section
def jl(t:az):Option (List af):=
 cc t.Links 0 (λ(j1:Int) (e1:bh) (Z1:(List af)→Option _) (gz:(List af))=>bnd (iy gz ([(af.mk (aV.mk e1.A e1.B) e1.fc),(af.mk (aV.mk e1.B e1.A) e1.fS)]:List af)) λ(l_1:List af)=>Z1 l_1) (λ(gz:(List af))=>bnd (jI (dQ [λx:af=>x.Hop.bf,λx:af=>x.Hop.To]) gz) λ(l_2:List af)=>some l_2) []
end
end Go.Proofs.Ytmnbolcmepihlaa
namespace Go.Proofs.Ytmnbolcmepihlaa
open Go
set_option maxRecDepth 100000
set_option linter.all false
noncomputable section
def er(l:List Int):Option Bool:=
 cc (List.drop 1 l) 1 (λ(j1:Int) (e1:Int) (Z1:Unit→Option _) (sg:Unit)=>match sg with|()=>bnd (elO l (w64 ((j1:Int)-(1:Int)))) λ(e_1:Int)=>bif decide (e1≤e_1)then some false else Z1 ()) (λ(sg:Unit)=>match sg with|()=>some true) ()
def fJ(t:az)(root:Int)(receivers:List Int):Option Int:=
 bnd (fk t) λ(aq:Int)=>bif !decide (aq=0)then some (1:Int)else bnd (er receivers) λ(aL:Bool)=>bif !aL then some (25:Int)else bnd (iy ([root]:List Int) receivers) λ(l_1:List Int)=>cc l_1 0 (λ(j1:Int) (e1:Int) (Z1:Unit→Option _) (sg:Unit)=>match sg with|()=>bnd (fZ t e1) λ(bM:Bool)=>bif !bM then some (4:Int)else Z1 ()) (λ(sg:Unit)=>match sg with|()=>some (0:Int)) ()
def iN(ra0:Int)(c_0:hU):Option Bool:=
 bnd (cU c_0.ay ra0) λ(aq:Bool)=>some aq
def jy(t:az)(root:Int)(receivers:List Int)(l:List hU):Option Bool:=
 bif decide (200<(l.length:Int))then some false else cc l 0 (λ(j1:Int) (e1:hU) (Z1:Unit→Option _) (sg:Unit)=>match sg with|()=>jn (λ(v_1:Bool)=>bif v_1 then some false else cc e1.ay 0 (λ(j2:Int) (e2:Int) (Z2:Unit→Option _) (sg:Unit)=>match sg with|()=>bnd (fZ t e2) λ(bM:Bool)=>bif !bM then some false else Z2 ()) (λ(sg:Unit)=>match sg with|()=>bnd (eV receivers (λ(y0:Int)=>iN y0 e1)) λ(bF:Bool)=>bif !bF then some false else Z1 ()) ()) λJ1=>(bif decide (e1.Value<1)then J1 true else(bif decide (24000<e1.Value)then J1 true else bnd (er e1.ay) λ(aq:Bool)=>(bif !aq then J1 true else bnd (cU e1.ay root) λ(aL:Bool)=>J1 aL)))) (λ(sg:Unit)=>match sg with|()=>bnd (jl t) λ(bY:(List af))=>cc bY 0 (λ(j3:Int) (e3:af) (Z3:Unit→Option _) (sg:Unit)=>match sg with|()=>cc l 0 (λ(j4:Int) (e4:hU) (Z4:Int→Option _) (ep:Int)=>jn (λ(qv:Int)=>Z4 qv) λJ2=>jn (λ(v_2:Bool)=>bif v_2 then J2 (w64 (ep+e4.Value))else J2 ep) λJ3=>bnd (cU e4.ay e3.Hop.To) λ(fm:Bool)=>(bif fm then bnd (cU e4.ay e3.Hop.bf) λ(dR:Bool)=>J3 (!dR)else J3 false)) (λ(ep:Int)=>bif decide (e3.bI<ep)then some false else Z3 ()) (0:Int)) (λ(sg:Unit)=>match sg with|()=>some true) ()) ()
def fT(t:az)(root:Int)(receivers:List Int)(l:List hU):Option (Int×Int):=
 bnd (fJ t root receivers) λ(aq:Int)=>bif !decide (aq=0)then some ((0:Int),aq)else bnd (jy t root receivers l) λ(aL:Bool)=>bif !aL then some ((0:Int),(1:Int))else cc l 0 (λ(j1:Int) (e1:hU) (Z1:Int→Option _) (ep:Int)=>Z1 (w64 (ep+e1.Value))) (λ(ep:Int)=>some (ep,(0:Int))) (0:Int)
end
end Go.Proofs.Ytmnbolcmepihlaa
namespace Go.Proofs.Ytmnbolcmepihlaa
open Go
set_option maxRecDepth 100000
set_option linter.all false
noncomputable section
def eN{β:Type}(t:az)(root:Int)(receivers:List Int)(K0:(ef×Int×Int)→Option β):Option β:=
 bnd (fJ t root receivers) λ(aq:Int)=>bif !decide (aq=0)then K0 ((ef.mk (0:Int) []),(0:Int),aq)else bif decide (6<(receivers.length:Int))then K0 ((ef.mk (0:Int) []),(0:Int),(3:Int))else bnd (jl t) λ(aL:(List af))=>iB aL root receivers λ(bM:(List aV)×Int×Bool)=>bif !bM.2.2 then K0 ((ef.mk (0:Int) []),(0:Int),(9:Int))else K0 ((ef.mk root bM.1),bM.2.1,(0:Int))
end
end Go.Proofs.Ytmnbolcmepihlaa
