/- Several texts in one. No condition but those that stand in each. -/
import Derived.Test.YtdjeacigeegklaaGreatT
namespace Go.Proofs.YtdjeacigeegklaaGreat
open Go
set_option maxRecDepth 100000
set_option linter.all false
noncomputable section
def rj(l:List Int)(n:Int):Option Bool:=
 bD l 0 (λ(j1:Int) (e1:Int) (Z1:Unit→Option _) (sg:Unit)=>match sg with|()=>bif decide (e1=n)then some true else Z1 ()) (λ(sg:Unit)=>match sg with|()=>some false) ()
end
end Go.Proofs.YtdjeacigeegklaaGreat
namespace Go.Proofs.YtdjeacigeegklaaGreat
open Go
set_option maxRecDepth 100000
set_option linter.all false
noncomputable section
def qb(n:Int):Option Bool:=
 some ((decide (1≤n))&&(decide (n≤1000)))
def nR(t:aa)(ra1:Int):Option Bool:=
 bD t.aj 0 (λ(j1:Int) (e1:aQ) (Z1:Unit→Option _) (sg:Unit)=>match sg with|()=>bif decide (e1.ID=ra1)then some true else Z1 ()) (λ(sg:Unit)=>match sg with|()=>some false) ()
def l5(t:aa)(cE:Int)(eR:Int):Option (Int×Bool):=
 bD t.Links 0 (λ(j1:Int) (e1:aW) (Z1:Unit→Option _) (sg:Unit)=>match sg with|()=>bif ((decide (e1.A=cE))&&(decide (e1.B=eR)))then some (e1.iK,true)else bif ((decide (e1.B=cE))&&(decide (e1.A=eR)))then some (e1.iL,true)else Z1 ()) (λ(sg:Unit)=>match sg with|()=>some ((0:Int),false)) ()
def gH(t:aa):Option Int:=
 bif ((decide (24<(t.aj.length:Int)))||(decide (60<(t.Links.length:Int))))then some (3:Int)else bD t.aj 0 (λ(j1:Int) (e1:aQ) (Z1:Unit→Option _) (sg:Unit)=>match sg with|()=>bif ((decide (e1.ID<1))||(decide (99<e1.ID)))then some (2:Int)else Z1 ()) (λ(sg:Unit)=>match sg with|()=>bD (List.drop 1 t.aj) 1 (λ(j2:Int) (e2:aQ) (Z2:Unit→Option _) (sg:Unit)=>match sg with|()=>bnd (elO t.aj (w64 ((j2:Int)-(1:Int)))) λ(e_1:aQ)=>bif decide (e2.ID≤e_1.ID)then some (25:Int)else Z2 ()) (λ(sg:Unit)=>match sg with|()=>bD t.Links 0 (λ(j3:Int) (e3:aW) (Z3:Unit→Option _) (sg:Unit)=>match sg with|()=>jn (λ(v_1:Bool)=>bif v_1 then some (2:Int)else Z3 ()) λJ1=>bnd (qb e3.iK) λ(ai:Bool)=>(bif !ai then J1 true else bnd (qb e3.iL) λ(aD:Bool)=>(bif !aD then J1 true else(bif decide (e3.oQ<0)then J1 true else J1 (decide (1000<e3.oQ)))))) (λ(sg:Unit)=>match sg with|()=>bD t.Links 0 (λ(j4:Int) (e4:aW) (Z4:Unit→Option _) (sg:Unit)=>match sg with|()=>jn (λ(v_2:Bool)=>bif v_2 then some (4:Int)else Z4 ()) λJ2=>bnd (nR t e4.A) λ(aX:Bool)=>(bif !aX then J2 true else bnd (nR t e4.B) λ(bu:Bool)=>J2 (!bu))) (λ(sg:Unit)=>match sg with|()=>bD t.Links 0 (λ(j5:Int) (e5:aW) (Z5:Unit→Option _) (sg:Unit)=>match sg with|()=>bif decide (e5.B≤e5.A)then some (8:Int)else Z5 ()) (λ(sg:Unit)=>match sg with|()=>bD (List.drop 1 t.Links) 1 (λ(j6:Int) (e6:aW) (Z6:Unit→Option _) (sg:Unit)=>match sg with|()=>bnd (elO t.Links (w64 ((j6:Int)-(1:Int)))) λ(e_2:aW)=>bif ((decide (e6.A<e_2.A))||((decide (e_2.A=e6.A))&&(decide (e6.B≤e_2.B))))then some (25:Int)else Z6 ()) (λ(sg:Unit)=>match sg with|()=>some (0:Int)) ()) ()) ()) ()) ()) ()
end
end Go.Proofs.YtdjeacigeegklaaGreat
namespace Go.Proofs.YtdjeacigeegklaaGreat
open Go
set_option maxRecDepth 100000
set_option linter.all false
noncomputable section
def kV(t:aa)(ra1:Int):Option Bool:=
 bnd (gH t) λ(ai:Int)=>(bif decide (ai=0)then bnd (nR t ra1) λ(aD:Bool)=>some aD else some false)
def qc(t:aa)(cE:Int)(eR:Int):Option (Int×Bool):=
 bnd (gH t) λ(ai:Int)=>bif !decide (ai=0)then some ((0:Int),false)else bnd (l5 t cE eR) λ(aD:Int×Bool)=>some (aD.1,aD.2)
def ot(t:aa)(ra1:Int):Option (List Int):=
 bD t.aj 0 (λ(j1:Int) (e1:aQ) (Z1:(List Int)→Option _) (aZ:(List Int))=>jn (λ(cQ:(List Int))=>Z1 cQ) λJ1=>bnd (l5 t ra1 e1.ID) λ(ai:Int×Bool)=>bif ai.2 then bnd (dB aZ ([e1.ID]:List Int)) λ(l_1:List Int)=>J1 l_1 else J1 aZ) (λ(aZ:(List Int))=>some aZ) []
def lC(t:aa)(ra1:Int):Option (List Int):=
 bnd (gH t) λ(ai:Int)=>bif !decide (ai=0)then some []else bnd (ot t ra1) λ(aD:(List Int))=>some aD
def uH(l:List aV)(a:Int)(b:Int):Option Bool:=
 bD l 0 (λ(j1:Int) (e1:aV) (Z1:Unit→Option _) (sg:Unit)=>match sg with|()=>bif (bif decide (e1.bx=a)then((decide (e1.To=b))||((decide (e1.bx=b))&&(decide (e1.To=a))))else((decide (e1.bx=b))&&(decide (e1.To=a))))then some true else Z1 ()) (λ(sg:Unit)=>match sg with|()=>some false) ()
def pO(t:aa)(f:bF):Option aa:=
 bnd (gH t) λ(ai:Int)=>bif !decide (ai=0)then some (aa.mk [] [])else bD t.aj 0 (λ(j1:Int) (e1:aQ) (Z1:(List aQ)→Option _) (m_1:(List aQ))=>jn (λ(m_2:(List aQ))=>Z1 m_2) λJ1=>bnd (rj f.aj e1.ID) λ(aD:Bool)=>bif !aD then bnd (dB m_1 ([e1]:List aQ)) λ(l_1:List aQ)=>J1 l_1 else J1 m_1) (λ(m_1:(List aQ))=>bD t.Links 0 (λ(j2:Int) (e2:aW) (Z2:(List aW)→Option _) (m_3:(List aW))=>jn (λ(m_4:(List aW))=>Z2 m_4) λJ2=>jn (λ(v_1:Bool)=>bif v_1 then bnd (dB m_3 ([e2]:List aW)) λ(l_2:List aW)=>J2 l_2 else J2 m_3) λJ3=>bnd (rj f.aj e2.A) λ(aX:Bool)=>(bif !aX then bnd (rj f.aj e2.B) λ(bu:Bool)=>(bif !bu then bnd (uH f.Links e2.A e2.B) λ(bz:Bool)=>J3 (!bz)else J3 false)else J3 false)) (λ(m_3:(List aW))=>some (aa.mk m_1 m_3)) []) []
end
end Go.Proofs.YtdjeacigeegklaaGreat
namespace Go.Proofs.YtdjeacigeegklaaGreat
open Go
set_option maxRecDepth 100000
set_option linter.all false
noncomputable section
def lQ(xa0:Int):Option Bool:=
 some (!decide (xa0=xa0))
def fO(xa0:Int)(y:Int):Option Int:=
 bnd (lQ xa0) λ(ai:Bool)=>bnd (lQ y) λ(aD:Bool)=>bif ai then bif aD then some (0:Int)else some (-1:Int)else bif aD then some (1:Int)else bif decide (xa0<y)then some (-1:Int)else bif decide (y<xa0)then some (1:Int)else some (0:Int)
def qd(vals:List Int):Option Int:=
 bD vals 0 (λ(j1:Int) (e1:Int) (Z1:Unit→Option _) (sg:Unit)=>match sg with|()=>bif !decide (e1=0)then some e1 else Z1 ()) (λ(sg:Unit)=>match sg with|()=>some (0:Int)) ()
def cW(xa0:List aQ)(target:Int)(cmp:aQ→Int→Option Int):Option (Int×Bool):=
 whl (λ(Z1:(Int×Int)→Option _) (sg:Int×Int)=>match sg with|(i_1,j_1)=>bif decide (i_1<j_1)then bnd (elO xa0 (w64 (Int.fdiv (IntKind.wrap .u64 (w64 (i_1+j_1))) (2 ^ min (1:Int).toNat 64)))) λ(e_1:aQ)=>bnd (cmp e_1 target) λ(ai:Int)=>bif decide (ai<0)then Z1 (w64 ((w64 (Int.fdiv (IntKind.wrap .u64 (w64 (i_1+j_1))) (2 ^ min (1:Int).toNat 64)))+(1:Int)),j_1)else Z1 (i_1,w64 (Int.fdiv (IntKind.wrap .u64 (w64 (i_1+j_1))) (2 ^ min (1:Int).toNat 64)))else(bif decide (i_1<(xa0.length:Int))then bnd (elO xa0 i_1) λ(e_2:aQ)=>bnd (cmp e_2 target) λ(aD:Int)=>some (i_1,decide (aD=0))else some (i_1,false))) ((0:Int),(xa0.length:Int))
def kr(sa0:List Int)(v:Int):Option Int:=
 bD sa0 0 (λ(j1:Int) (e1:Int) (Z1:Unit→Option _) (sg:Unit)=>match sg with|()=>bif decide (v=e1)then some (j1:Int)else Z1 ()) (λ(sg:Unit)=>match sg with|()=>some (-1:Int)) ()
def eM(sa0:List ay)(f:ay→Option Bool):Option Int:=
 bD sa0 0 (λ(j1:Int) (e1:ay) (Z1:Unit→Option _) (sg:Unit)=>match sg with|()=>bnd (f e1) λ(ai:Bool)=>bif ai then some (j1:Int)else Z1 ()) (λ(sg:Unit)=>match sg with|()=>some (-1:Int)) ()
def fC(sa0:List aQ)(f:aQ→Option Bool):Option Int:=
 bD sa0 0 (λ(j1:Int) (e1:aQ) (Z1:Unit→Option _) (sg:Unit)=>match sg with|()=>bnd (f e1) λ(ai:Bool)=>bif ai then some (j1:Int)else Z1 ()) (λ(sg:Unit)=>match sg with|()=>some (-1:Int)) ()
def fP(sa0:List aW)(f:aW→Option Bool):Option Int:=
 bD sa0 0 (λ(j1:Int) (e1:aW) (Z1:Unit→Option _) (sg:Unit)=>match sg with|()=>bnd (f e1) λ(ai:Bool)=>bif ai then some (j1:Int)else Z1 ()) (λ(sg:Unit)=>match sg with|()=>some (-1:Int)) ()
def dH(xa0:List aW)(target:aW)(cmp:aW→aW→Option Int):Option (Int×Bool):=
 whl (λ(Z1:(Int×Int)→Option _) (sg:Int×Int)=>match sg with|(i_1,j_1)=>bif decide (i_1<j_1)then bnd (elO xa0 (w64 (Int.fdiv (IntKind.wrap .u64 (w64 (i_1+j_1))) (2 ^ min (1:Int).toNat 64)))) λ(e_1:aW)=>bnd (cmp e_1 target) λ(ai:Int)=>bif decide (ai<0)then Z1 (w64 ((w64 (Int.fdiv (IntKind.wrap .u64 (w64 (i_1+j_1))) (2 ^ min (1:Int).toNat 64)))+(1:Int)),j_1)else Z1 (i_1,w64 (Int.fdiv (IntKind.wrap .u64 (w64 (i_1+j_1))) (2 ^ min (1:Int).toNat 64)))else(bif decide (i_1<(xa0.length:Int))then bnd (elO xa0 i_1) λ(e_2:aW)=>bnd (cmp e_2 target) λ(aD:Int)=>some (i_1,decide (aD=0))else some (i_1,false))) ((0:Int),(xa0.length:Int))
def gI(sa0:List aV)(v:aV):Option Int:=
 bD sa0 0 (λ(j1:Int) (e1:aV) (Z1:Unit→Option _) (sg:Unit)=>match sg with|()=>bif kH v e1 then some (j1:Int)else Z1 ()) (λ(sg:Unit)=>match sg with|()=>some (-1:Int)) ()
def cZ(sa0:List Int)(v:Int):Option Bool:=
 bnd (kr sa0 v) λ(ai:Int)=>some (decide (0≤ai))
def dM(sa0:List ay)(f:ay→Option Bool):Option Bool:=
 bnd (eM sa0 f) λ(ai:Int)=>some (decide (0≤ai))
def dZ(sa0:List aQ)(f:aQ→Option Bool):Option Bool:=
 bnd (fC sa0 f) λ(ai:Int)=>some (decide (0≤ai))
def dG(sa0:List aW)(f:aW→Option Bool):Option Bool:=
 bnd (fP sa0 f) λ(ai:Int)=>some (decide (0≤ai))
def dK(sa0:List aV)(v:aV):Option Bool:=
 bnd (gI sa0 v) λ(ai:Int)=>some (decide (0≤ai))
def jY(n:Int)(least:Int)(most:Int):Option Bool:=
 some ((decide (least≤n))&&(decide (n≤most)))
def jf(a:aW)(b:aW):Option Int:=
 bnd (fO a.A b.A) λ(ai:Int)=>bnd (fO a.B b.B) λ(aD:Int)=>bnd (qd ([ai,aD]:List Int)) λ(aX:Int)=>some aX
def lR(ra0:aQ)(id:Int):Option Int:=
 bnd (fO ra0.ID id) λ(ai:Int)=>some ai
def nx(ra0:aQ):Option Bool:=
 bnd (jY ra0.ID (1:Int) (99:Int)) λ(ai:Bool)=>some (!ai)
def lD(l:aW):Option Bool:=
 bnd (jY l.iK (1:Int) (1000:Int)) λ(ai:Bool)=>(bif !ai then some true else bnd (jY l.iL (1:Int) (1000:Int)) λ(aD:Bool)=>(bif !aD then some true else bnd (jY l.oQ (0:Int) (1000:Int)) λ(aX:Bool)=>some (!aX)))
def jg(id:Int)(c_0:aa):Option Bool:=
 bnd (cW c_0.aj id lR) λ(ai:Int×Bool)=>some (!ai.2)
def ny(l:aW)(c_0:aa):Option Bool:=
 bnd (jg l.A c_0) λ(ai:Bool)=>(bif ai then some true else bnd (jg l.B c_0) λ(aD:Bool)=>some aD)
def nA(l:aW):Option Bool:=
 some (decide (l.B≤l.A))
def hU(t:aa):Option Int:=
 bif ((decide (24<(t.aj.length:Int)))||(decide (60<(t.Links.length:Int))))then some (3:Int)else bnd (dZ t.aj nx) λ(ai:Bool)=>bif ai then some (2:Int)else bD t.aj 0 (λ(j1:Int) (e1:aQ) (Z1:Unit→Option _) (sg:Unit)=>match sg with|()=>jn (λ(v_1:Bool)=>bif v_1 then some (25:Int)else Z1 ()) λJ1=>(bif decide (0<(j1:Int))then bnd (elO t.aj (w64 ((j1:Int)-(1:Int)))) λ(e_1:aQ)=>J1 (decide (e1.ID≤e_1.ID))else J1 false)) (λ(sg:Unit)=>match sg with|()=>bnd (dG t.Links lD) λ(aD:Bool)=>bif aD then some (2:Int)else bnd (dG t.Links (λ(y0:aW)=>ny y0 t)) λ(aX:Bool)=>bif aX then some (4:Int)else bnd (dG t.Links nA) λ(bu:Bool)=>bif bu then some (8:Int)else bD t.Links 0 (λ(j2:Int) (e2:aW) (Z2:Unit→Option _) (sg:Unit)=>match sg with|()=>jn (λ(v_2:Bool)=>bif v_2 then some (25:Int)else Z2 ()) λJ2=>(bif decide (0<(j2:Int))then bnd (elO t.Links (w64 ((j2:Int)-(1:Int)))) λ(e_2:aW)=>bnd (jf e_2 e2) λ(bz:Int)=>J2 (decide (0≤bz))else J2 false)) (λ(sg:Unit)=>match sg with|()=>some (0:Int)) ()) ()
def ia(t:aa):Option Bool:=
 bnd (hU t) λ(ai:Int)=>some (decide (ai=0))
def nB(t:aa)(aN:Int):Option (aQ×Bool):=
 bnd (cW t.aj aN lR) λ(ai:Int×Bool)=>bif !ai.2 then some ((aQ.mk (0:Int) false),false)else bnd (elO t.aj ai.1) λ(e_1:aQ)=>some (e_1,true)
def kM(t:aa)(aN:Int):Option Bool:=
 bnd (nB t aN) λ(ai:aQ×Bool)=>bnd (ia t) λ(aD:Bool)=>(bif aD then some ai.2 else some false)
def nC(t:aa)(cE:Int)(eR:Int):Option (Int×Bool):=
 bnd (ia t) λ(ai:Bool)=>bif !ai then some ((0:Int),false)else bnd (dH t.Links (aW.mk (if eR<cE then eR else cE) (if eR>cE then eR else cE) (0:Int) (0:Int) (0:Int)) jf) λ(aD:Int×Bool)=>bif !aD.2 then some ((0:Int),false)else bif decide (cE<eR)then bnd (elO t.Links aD.1) λ(e_1:aW)=>some (e_1.iK,true)else bnd (elO t.Links aD.1) λ(e_2:aW)=>some (e_2.iL,true)
def ic(t:aa)(f:bF):Option aa:=
 bnd (ia t) λ(ai:Bool)=>bif !ai then some (aa.mk [] [])else bD t.aj 0 (λ(j1:Int) (e1:aQ) (Z1:(List aQ)→Option _) (m_1:(List aQ))=>jn (λ(m_2:(List aQ))=>Z1 m_2) λJ1=>bnd (cZ f.aj e1.ID) λ(aD:Bool)=>bif !aD then bnd (dB m_1 ([e1]:List aQ)) λ(l_1:List aQ)=>J1 l_1 else J1 m_1) (λ(m_1:(List aQ))=>bD t.Links 0 (λ(j2:Int) (e2:aW) (Z2:(List aW)→Option _) (m_3:(List aW))=>jn (λ(m_4:(List aW))=>Z2 m_4) λJ2=>jn (λ(x6:Bool)=>bif !x6 then bnd (dB m_3 ([e2]:List aW)) λ(l_2:List aW)=>J2 l_2 else J2 m_3) λJ3=>bnd (cZ f.aj e2.A) λ(aX:Bool)=>(bif aX then J3 true else bnd (cZ f.aj e2.B) λ(bu:Bool)=>(bif bu then J3 true else bnd (dK f.Links (aV.mk e2.A e2.B)) λ(bz:Bool)=>(bif bz then J3 true else bnd (dK f.Links (aV.mk e2.B e2.A)) λ(cw:Bool)=>J3 cw)))) (λ(m_3:(List aW))=>some (aa.mk m_1 m_3)) []) []
end
end Go.Proofs.YtdjeacigeegklaaGreat
namespace Go.Proofs.YtdjeacigeegklaaGreat
open Go
set_option maxRecDepth 100000
set_option linter.all false
noncomputable section
def qI(xa0:Int):Option Int:=
 jn (λ(sg:Int×Int)=>match sg with|(ai,n_1)=>jn (λ(sg:Int×Int)=>match sg with|(aD,n_2)=>jn (λ(sg:Int×Int)=>match sg with|(aX,n_3)=>bnd (ixS (⟨#[0,1,2,2,3,3,3,3,4,4,4,4,4,4,4,4,5,5,5,5,5,5,5,5,5,5,5,5,5,5,5,5,6,6,6,6,6,6,6,6,6,6,6,6,6,6,6,6,6,6,6,6,6,6,6,6,6,6,6,6,6,6,6,6,7,7,7,7,7,7,7,7,7,7,7,7,7,7,7,7,7,7,7,7,7,7,7,7,7,7,7,7,7,7,7,7,7,7,7,7,7,7,7,7,7,7,7,7,7,7,7,7,7,7,7,7,7,7,7,7,7,7,7,7,7,7,7,7,8,8,8,8,8,8,8,8,8,8,8,8,8,8,8,8,8,8,8,8,8,8,8,8,8,8,8,8,8,8,8,8,8,8,8,8,8,8,8,8,8,8,8,8,8,8,8,8,8,8,8,8,8,8,8,8,8,8,8,8,8,8,8,8,8,8,8,8,8,8,8,8,8,8,8,8,8,8,8,8,8,8,8,8,8,8,8,8,8,8,8,8,8,8,8,8,8,8,8,8,8,8,8,8,8,8,8,8,8,8,8,8,8,8,8,8,8,8,8,8,8,8,8,8,8,8,8,8]⟩:ByteArray) (IntKind.wrap .u8 aX)) λ(b_1:UInt8)=>some (w64 (n_3+(w64 (b_1.toNat:Int))))) λJ3=>bif decide (256≤aD)then J3 (Int.fdiv aD (2 ^ min (8:Int).toNat 64),w64 (n_2+8))else J3 (aD,n_2)) λJ2=>bif decide (65536≤ai)then J2 (Int.fdiv ai (2 ^ min (16:Int).toNat 64),w64 (n_1+16))else J2 (ai,n_1)) λJ1=>bif decide (4294967296≤xa0)then J1 (Int.fdiv xa0 (2 ^ min (32:Int).toNat 64),(32:Int))else J1 (xa0,(0:Int))
def ta(xa0:Int):Option Int:=
 bnd (qI xa0) λ(ai:Int)=>some ai
def gU: Option Unit:=
 whl (λ(Z1:Unit→Option _) (sg:Unit)=>match sg with|()=>some ()) ()
def jq(limit:Int):Option Unit:=
 whl (λ(Z1:Unit→Option _) (sg:Unit)=>match sg with|()=>bnd (gU) λ(ai:Unit)=>some ()) ()
def o9: Option Unit:=
 bnd (ta (0:Int)) λ(ai:Int)=>bnd (jq ai) λ(aD:Unit)=>some ()
end
end Go.Proofs.YtdjeacigeegklaaGreat
namespace Go.Proofs.YtdjeacigeegklaaGreat
open Go
set_option maxRecDepth 100000
set_option linter.all false
noncomputable section
def gY(t:aa)(aN:Int):Option (List Int):=
 bD t.Links 0 (λ(j1:Int) (e1:aW) (Z1:(List Int)→Option _) (aZ:(List Int))=>jn (λ(cQ:(List Int))=>Z1 cQ) λJ1=>bif decide (aN=e1.A)then bnd (dB aZ ([e1.B]:List Int)) λ(l_1:List Int)=>J1 l_1 else bif decide (aN=e1.B)then bnd (dB aZ ([e1.A]:List Int)) λ(l_2:List Int)=>J1 l_2 else J1 aZ) (λ(aZ:(List Int))=>chk (decide (aZ.length<4611686018427387904))<|some (jC aZ)) []
def iq:Nat→Int→(List Int)→(List Int)→(List aQ)→(List aW)→Option (List Int)
 |0,_,_,_,_,_=>none
 |n_+1,ra0,xD,vY,vZ,v7=>jn (λ(v_1:Bool)=>bif v_1 then some xD else bnd (dB xD ([ra0]:List Int)) λ(l_1:List Int)=>bnd (gY (aa.mk vZ v7) ra0) λ(aX:(List Int))=>bD aX 0 (λ(j1:Int) (e1:Int) (Z1:(List Int)→Option _) (m_1:(List Int))=>bnd (iq n_ e1 m_1 vY vZ v7) λ(bu:(List Int))=>Z1 bu) (λ(m_1:(List Int))=>some m_1) l_1) λJ1=>bnd (cZ xD ra0) λ(ai:Bool)=>(bif ai then J1 true else bnd (cZ vY ra0) λ(aD:Bool)=>J1 aD)
def lE(t:aa)(cE:Int)(closed:List Int):Option (List Int):=
 bnd (iq fuel cE [] closed t.aj t.Links) λ(ai:(List Int))=>chk (decide (ai.length<4611686018427387904))<|some (jC ai)
def jh(t:aa)(aN:Int):Option (List Int):=
 bnd (ia t) λ(ai:Bool)=>bif !ai then some []else bnd (gY t aN) λ(aD:(List Int))=>some aD
def jJ(t:aa)(a:Int)(b:Int):Option Bool:=
 bnd (kM t a) λ(ai:Bool)=>(bif ai then bnd (kM t b) λ(aD:Bool)=>(bif aD then bnd (lE t a []) λ(aX:(List Int))=>bnd (cZ aX b) λ(bu:Bool)=>some bu else some false)else some false)
end
end Go.Proofs.YtdjeacigeegklaaGreat
namespace Go.Proofs.YtdjeacigeegklaaGreat
open Go
set_option maxRecDepth 100000
set_option linter.all false
noncomputable section
def mb(t:List Int):Option bL:=
 bnd (nO t (0:Int) (if(2000:Int)<(t.length:Int)then(2000:Int)else(t.length:Int))) λ(l_1:List Int)=>some (bL.mk l_1 (0:Int))
def iU(t:bL):Option (Int×bL):=
 bif decide ((t.L.length:Int)≤t.At)then some ((0:Int),t)else bnd (elO t.L (w64 ((w64 (t.At+1))-(1:Int)))) λ(e_1:Int)=>some (e_1,(bL.mk t.L (w64 (t.At+1))))
def mc(xa0:Int)(n:Int):Option Int:=
 bif decide (n<1)then some (0:Int)else chk (decide (n≠0))<|jn (λ(ai:Int)=>some ai) λJ1=>bif decide (Int.tmod xa0 n<0)then J1 (w64 ((Int.tmod xa0 n)+n))else J1 (Int.tmod xa0 n)
def cv(t:bL)(n:Int):Option (Int×bL):=
 bnd (iU t) λ(ai:Int×bL)=>bnd (mc ai.1 n) λ(aD:Int)=>some (aD,ai.2)
def fJ(t:bL)(lo:Int)(hi:Int):Option (Int×bL):=
 bnd (cv t (w64 ((w64 (hi-lo))+(1:Int)))) λ(ai:Int×bL)=>some (w64 (lo+ai.1),ai.2)
def fA(t:bL)(l:List Int):Option (Int×bL):=
 bnd (cv t (l.length:Int)) λ(ai:Int×bL)=>bnd (elO l ai.1) λ(e_1:Int)=>some (e_1,ai.2)
def eF(l:List Int)(xa1:Int):Option Bool:=
 bD l 0 (λ(j1:Int) (e1:Int) (Z1:Unit→Option _) (sg:Unit)=>match sg with|()=>bif decide (e1=xa1)then some true else Z1 ()) (λ(sg:Unit)=>match sg with|()=>some false) ()
def me(l:List Int)(xa1:Int):Option (List Int):=
 whl (λ(Z1:Int→Option _) (k_1:Int)=>jn (λ(v_1:Bool)=>bif v_1 then Z1 (w64 (k_1+1))else jn (λ(v_2:Bool)=>bif v_2 then some l else bnd (nO l k_1 (l.length:Int)) λ(l_1:List Int)=>bnd (dB ([xa1]:List Int) l_1) λ(l_2:List Int)=>bnd (nO l (0:Int) k_1) λ(l_3:List Int)=>bnd (dB l_3 l_2) λ(l_4:List Int)=>some l_4) λJ2=>(bif decide (k_1<(l.length:Int))then bnd (elO l k_1) λ(e_2:Int)=>J2 (decide (e_2=xa1))else J2 false)) λJ1=>(bif decide (k_1<(l.length:Int))then bnd (elO l k_1) λ(e_1:Int)=>J1 (decide (e_1<xa1))else J1 false)) (0:Int)
def ji(a:List Int)(b:List Int):Option Bool:=
 bif !decide ((a.length:Int)=(b.length:Int))then some false else bD a 0 (λ(j1:Int) (e1:Int) (Z1:Unit→Option _) (sg:Unit)=>match sg with|()=>bnd (elO b (j1:Int)) λ(e_1:Int)=>bif !decide (e1=e_1)then some false else Z1 ()) (λ(sg:Unit)=>match sg with|()=>some true) ()
end
end Go.Proofs.YtdjeacigeegklaaGreat
namespace Go.Proofs.YtdjeacigeegklaaGreat
open Go
set_option maxRecDepth 100000
set_option linter.all false
noncomputable section
def mG(n:Int):Option Bool:=
 some ((decide (n=8))||((decide (n=16))||((decide (n=32))||(decide (n=64)))))
def ir(n:Int):Option Bool:=
 some ((decide (1≤n))&&(decide (n≤99)))
def fW(e:aC):Option Int:=
 bnd (mG e.Length) λ(ai:Bool)=>bD e.List 0 (λ(j1:Int) (e1:ay) (Z1:Bool→Option _) (oT:Bool)=>(bif oT then(bif decide (0≤e1.Bit)then(bif decide (e1.Bit<e.Length)then bnd (ir e1.aK) λ(aD:Bool)=>(bif aD then bnd (ir e1.To) λ(aX:Bool)=>Z1 aX else Z1 false)else Z1 false)else Z1 false)else Z1 false)) (λ(oT:Bool)=>bif !oT then some (2:Int)else bD e.List 0 (λ(j2:Int) (e2:ay) (Z2:Unit→Option _) (sg:Unit)=>match sg with|()=>bif ((decide (e2.Kind<1))||(decide (3<e2.Kind)))then some (1:Int)else Z2 ()) (λ(sg:Unit)=>match sg with|()=>bD e.List 0 (λ(j3:Int) (e3:ay) (Z3:Unit→Option _) (sg:Unit)=>match sg with|()=>bif !((decide (e3.To=e3.aK))==(decide (e3.Kind=3)))then some (8:Int)else Z3 ()) (λ(sg:Unit)=>match sg with|()=>bD (List.drop 1 e.List) 1 (λ(j4:Int) (e4:ay) (Z4:Unit→Option _) (sg:Unit)=>match sg with|()=>bnd (elO e.List (w64 ((j4:Int)-(1:Int)))) λ(e_1:ay)=>bif decide (e4.Bit≤e_1.Bit)then some (25:Int)else Z4 ()) (λ(sg:Unit)=>match sg with|()=>bD e.List 0 (λ(j5:Int) (e5:ay) (Z5:Unit→Option _) (sg:Unit)=>match sg with|()=>bnd (nO e.List (0:Int) (j5:Int)) λ(l_1:List ay)=>bD l_1 0 (λ(j6:Int) (e6:ay) (Z6:Unit→Option _) (sg:Unit)=>match sg with|()=>bif ((decide (e5.aK=e6.aK))&&((decide (e5.Kind=e6.Kind))&&(decide (e5.To=e6.To))))then some (5:Int)else Z6 ()) (λ(sg:Unit)=>match sg with|()=>Z5 ()) ()) (λ(sg:Unit)=>match sg with|()=>some (0:Int)) ()) ()) ()) ()) ai
def pE(e:aC)(ra1:Int):Option Int:=
 jn (λ(aZ:Int)=>some aZ) λJ1=>bnd (fW e) λ(ai:Int)=>bif decide (ai=0)then bD e.List 0 (λ(j1:Int) (e1:ay) (Z1:Int→Option _) (cQ:Int)=>jn (λ(aa6:Int)=>Z1 aa6) λJ2=>bif decide (e1.aK=ra1)then chk (decide (0≤IntKind.wrap .u64 e1.Bit))<|J2 (aS .or .u64 cQ (IntKind.wrap .u64 ((1:Int)*2 ^ min (IntKind.wrap .u64 e1.Bit).toNat 64)))else J2 cQ) (λ(cQ:Int)=>J1 cQ) (0:Int)else J1 (0:Int)
def mO(e:aC)(ra1:Int)(kind:Int)(tY:Int):Option (Int×Bool):=
 jn (λ(sg:Unit)=>match sg with|()=>some ((0:Int),false)) λJ1=>bnd (fW e) λ(ai:Int)=>bif decide (ai=0)then bD e.List 0 (λ(j1:Int) (e1:ay) (Z1:Unit→Option _) (sg:Unit)=>match sg with|()=>bif ((decide (e1.aK=ra1))&&((decide (e1.Kind=kind))&&(decide (e1.To=tY))))then some (e1.Bit,true)else Z1 ()) (λ(sg:Unit)=>match sg with|()=>J1 ()) ()else J1 ()
def mP(t:aa)(n:Int):Option (aC×Int):=
 bnd (gH t) λ(ai:Int)=>bif !decide (ai=0)then some ((aC.mk (0:Int) []),(1:Int))else bnd (mG n) λ(aD:Bool)=>bif !aD then some ((aC.mk (0:Int) []),(2:Int))else bD t.aj 0 (λ(j1:Int) (e1:aQ) (Z1:(List ay)→Option _) (m_1:(List ay))=>bnd (dB m_1 ([(ay.mk (m_1.length:Int) e1.ID (3:Int) e1.ID)]:List ay)) λ(l_1:List ay)=>bnd (lC t e1.ID) λ(aX:(List Int))=>bD aX 0 (λ(j2:Int) (e2:Int) (Z2:(List ay)→Option _) (m_2:(List ay))=>bnd (dB m_2 ([(ay.mk (m_2.length:Int) e1.ID (1:Int) e2)]:List ay)) λ(l_2:List ay)=>Z2 l_2) (λ(m_2:(List ay))=>Z1 m_2) l_1) (λ(m_1:(List ay))=>bif decide (n<(m_1.length:Int))then some ((aC.mk (0:Int) []),(3:Int))else some ((aC.mk n m_1),(0:Int))) []
def jT(t:dY):Option Int:=
 bnd (ir t.dS) λ(ai:Bool)=>bD t.Links 0 (λ(j1:Int) (e1:aV) (Z1:Bool→Option _) (yU:Bool)=>(bif yU then bnd (ir e1.bx) λ(aD:Bool)=>(bif aD then bnd (ir e1.To) λ(aX:Bool)=>Z1 aX else Z1 false)else Z1 false)) (λ(yU:Bool)=>bif !yU then some (2:Int)else bD (List.drop 1 t.Links) 1 (λ(j2:Int) (e2:aV) (Z2:Unit→Option _) (sg:Unit)=>match sg with|()=>bnd (elO t.Links (w64 ((j2:Int)-(1:Int)))) λ(e_1:aV)=>bif ((decide (e2.bx<e_1.bx))||((decide (e_1.bx=e2.bx))&&(decide (e2.To≤e_1.To))))then some (25:Int)else Z2 ()) (λ(sg:Unit)=>match sg with|()=>bD t.Links 0 (λ(j3:Int) (e3:aV) (Z3:Unit→Option _) (sg:Unit)=>match sg with|()=>bnd (nO t.Links (0:Int) (j3:Int)) λ(l_1:List aV)=>bD l_1 0 (λ(j4:Int) (e4:aV) (Z4:Unit→Option _) (sg:Unit)=>match sg with|()=>bif decide (e4.To=e3.To)then some (8:Int)else Z4 ()) (λ(sg:Unit)=>match sg with|()=>bif decide (e3.To=t.dS)then some (8:Int)else Z3 ()) ()) (λ(sg:Unit)=>match sg with|()=>whl (λ(Z5:((List Int)×Bool)→Option _) (sg:(List Int)×Bool)=>match sg with|(qf,si)=>bif si then bD t.Links 0 (λ(j6:Int) (e6:aV) (Z6:((List Int)×Bool)→Option _) (sg:(List Int)×Bool)=>match sg with|(iM,lG)=>jn (λ(sg:(List Int)×Bool)=>match sg with|(sj,sk)=>Z6 (sj,sk)) λJ1=>jn (λ(v_1:Bool)=>bif v_1 then bnd (dB iM ([e6.To]:List Int)) λ(l_2:List Int)=>J1 (l_2,true)else J1 (iM,lG)) λJ2=>bnd (eF iM e6.bx) λ(bu:Bool)=>(bif bu then bnd (eF iM e6.To) λ(bz:Bool)=>J2 (!bz)else J2 false)) (λ(sg:(List Int)×Bool)=>match sg with|(iM,lG)=>Z5 (iM,lG)) (qf,false)else bD t.Links 0 (λ(j7:Int) (e7:aV) (Z7:Unit→Option _) (sg:Unit)=>match sg with|()=>bnd (eF qf e7.bx) λ(cw:Bool)=>bif !cw then some (10:Int)else Z7 ()) (λ(sg:Unit)=>match sg with|()=>some (0:Int)) ()) (([t.dS]:List Int),true)) ()) ()) ai
def jK(t:dY):Option (List Int):=
 bnd (jT t) λ(ai:Int)=>bif !decide (ai=0)then some []else bD t.Links 0 (λ(j1:Int) (e1:aV) (Z1:(List Int)→Option _) (aZ:(List Int))=>bnd (me aZ e1.To) λ(aD:(List Int))=>Z1 aD) (λ(aZ:(List Int))=>some aZ) ([t.dS]:List Int)
def mg(l:List Int):Option Bool:=
 bD (List.drop 1 l) 1 (λ(j1:Int) (e1:Int) (Z1:Unit→Option _) (sg:Unit)=>match sg with|()=>bnd (elO l (w64 ((j1:Int)-(1:Int)))) λ(e_1:Int)=>bif decide (e1≤e_1)then some false else Z1 ()) (λ(sg:Unit)=>match sg with|()=>some true) ()
def mQ(e:aC)(t:dY)(receivers:List Int):Option (Int×Int):=
 bnd (fW e) λ(ai:Int)=>bif !decide (ai=0)then some ((0:Int),ai)else bnd (jT t) λ(aD:Int)=>bif !decide (aD=0)then some ((0:Int),aD)else bnd (mg receivers) λ(aX:Bool)=>bif !aX then some ((0:Int),(25:Int))else bnd (jK t) λ(bu:(List Int))=>bD receivers 0 (λ(j1:Int) (e1:Int) (Z1:Unit→Option _) (sg:Unit)=>match sg with|()=>bnd (eF bu e1) λ(bz:Bool)=>bif !bz then some ((0:Int),(8:Int))else Z1 ()) (λ(sg:Unit)=>match sg with|()=>bD t.Links 0 (λ(j2:Int) (e2:aV) (Z2:Int→Option _) (aZ:Int)=>bnd (mO e e2.bx (1:Int) e2.To) λ(cw:Int×Bool)=>bif !cw.2 then some ((0:Int),(4:Int))else chk (decide (0≤IntKind.wrap .u64 cw.1))<|Z2 (aS .or .u64 aZ (IntKind.wrap .u64 ((1:Int)*2 ^ min (IntKind.wrap .u64 cw.1).toNat 64)))) (λ(aZ:Int)=>bD receivers 0 (λ(j3:Int) (e3:Int) (Z3:Int→Option _) (cQ:Int)=>bnd (mO e e3 (3:Int) e3) λ(bN:Int×Bool)=>bif !bN.2 then some ((0:Int),(4:Int))else chk (decide (0≤IntKind.wrap .u64 bN.1))<|Z3 (aS .or .u64 cQ (IntKind.wrap .u64 ((1:Int)*2 ^ min (IntKind.wrap .u64 bN.1).toNat 64)))) (λ(cQ:Int)=>some (cQ,(0:Int))) aZ) (0:Int)) ()
end
end Go.Proofs.YtdjeacigeegklaaGreat
namespace Go.Proofs.YtdjeacigeegklaaGreat
open Go
set_option maxRecDepth 100000
set_option linter.all false
noncomputable section
def ow(t:bL)(most:Int):Option (aa×bL):=
 bnd (fJ t (1:Int) most) λ(ai:Int×bL)=>chk (decide (ai.1≤9223372036854775807))<|mM (ai.1-0).toNat (0:Int) (λ(j1:Int) (Z1:(Int×(List aQ)×(List Int)×Int)→Option _) (sg:Int×(List aQ)×(List Int)×Int)=>match sg with|(xE,m_1,m_2,m_3)=>bnd (fA (bL.mk m_2 m_3) ([(1:Int),(1:Int),(1:Int),(2:Int),(5:Int)]:List Int)) λ(aD:Int×bL)=>bnd (dB m_1 ([(aQ.mk (w64 (xE+aD.1)) true)]:List aQ)) λ(l_1:List aQ)=>Z1 (w64 (xE+aD.1),l_1,aD.2.L,aD.2.At)) (λ(j1:Int) (sg:Int×(List aQ)×(List Int)×Int)=>match sg with|(xE,m_1,m_2,m_3)=>chk (decide (0<ai.1)&&decide (ai.1≤4294967296))<|chk (decide (((List.replicate ai.1.toNat []:List (List Bool)).length:Int)≤9223372036854775807))<|mM (((List.replicate ai.1.toNat []:List (List Bool)).length:Int)-(0:Int)).toNat (0:Int) (λ(j2:Int) (Z2:(List (List Bool))→Option _) (m_4:(List (List Bool)))=>chk (decide (0≤ai.1)&&decide (ai.1≤4294967296))<|bnd (elO m_4 (j2:Int)) λ(e_1:List Bool)=>Z2 (List.set m_4 (j2:Int).toNat (List.replicate (ai.1).toNat false))) (λ(j2:Int) (m_4:(List (List Bool)))=>chk (decide (ai.1≤9223372036854775807))<|mM (ai.1-1).toNat (1:Int) (λ(j3:Int) (Z3:((List Int)×Int×(List (List Bool)))→Option _) (sg:(List Int)×Int×(List (List Bool)))=>match sg with|(m_5,m_6,m_7)=>jn (λ(sg:(List (List Bool))×(List Int)×Int)=>match sg with|(m_8,m_9,mY)=>Z3 (m_9,mY,m_8)) λJ1=>bnd (cv (bL.mk m_5 m_6) (12:Int)) λ(aX:Int×bL)=>bif decide (aX.1<11)then bnd (cv aX.2 (j3:Int)) λ(bu:Int×bL)=>bnd (elO m_7 bu.1) λ(e_2:List Bool)=>bnd (elO e_2 (j3:Int)) λ(e_3:Bool)=>bnd (sY e_2 (j3:Int) true) λ(l_2:List Bool)=>J1 ((List.set m_7 bu.1.toNat l_2),bu.2.L,bu.2.At)else J1 (m_7,aX.2.L,aX.2.At)) (λ(j3:Int) (sg:(List Int)×Int×(List (List Bool)))=>match sg with|(m_5,m_6,m_7)=>bnd (cv (bL.mk m_5 m_6) (w64 (ai.1+2))) λ(bz:Int×bL)=>whl (λ(Z4:(Int×(List Int)×Int×(List (List Bool)))→Option _) (sg:Int×(List Int)×Int×(List (List Bool)))=>match sg with|(i_1,mw,lH,fm)=>bif decide (0<i_1)then jn (λ(sg:(List (List Bool))×(List Int)×Int)=>match sg with|(rJ,rK,adM)=>Z4 (w64 (i_1-1),rK,adM,rJ)) λJ2=>bnd (cv (bL.mk mw lH) ai.1) λ(cw:Int×bL)=>bnd (cv cw.2 ai.1) λ(bN:Int×bL)=>bif !decide (cw.1=bN.1)then bnd (elO fm (if bN.1<cw.1 then bN.1 else cw.1)) λ(e_4:List Bool)=>bnd (elO e_4 (if bN.1>cw.1 then bN.1 else cw.1)) λ(e_5:Bool)=>bnd (sY e_4 (if bN.1>cw.1 then bN.1 else cw.1) true) λ(l_3:List Bool)=>J2 ((List.set fm (if bN.1<cw.1 then bN.1 else cw.1).toNat l_3),bN.2.L,bN.2.At)else J2 (fm,bN.2.L,bN.2.At)else bnd (cv (bL.mk mw lH) (3:Int)) λ(fq:Int×bL)=>chk (decide ((fm.length:Int)≤9223372036854775807))<|mM ((fm.length:Int)-(0:Int)).toNat (0:Int) (λ(j5:Int) (Z5:((List aW)×(List Int)×Int)→Option _) (sg:(List aW)×(List Int)×Int)=>match sg with|(aah,aai,aaj)=>chk (decide ((fm.length:Int)≤9223372036854775807))<|mM ((fm.length:Int)-(0:Int)).toNat (0:Int) (λ(j6:Int) (Z6:((List aW)×(List Int)×Int)→Option _) (sg:(List aW)×(List Int)×Int)=>match sg with|(tZ,we,wg)=>jn (λ(sg:(List Int)×Int×(List aW))=>match sg with|(adN,adO,adP)=>Z6 (adP,adN,adO)) λJ3=>bnd (elO fm (j5:Int)) λ(e_6:List Bool)=>bnd (elO e_6 (j6:Int)) λ(e_7:Bool)=>bif !e_7 then J3 (we,wg,tZ)else bnd (elO m_1 (j5:Int)) λ(e_8:aQ)=>bnd (elO m_1 (j6:Int)) λ(e_9:aQ)=>bnd (fA (bL.mk we wg) ([(0:Int),(1:Int),(2:Int),(3:Int),(5:Int),(10:Int),(1000:Int)]:List Int)) λ(lI:Int×bL)=>jn (λ(sg:(List Int)×Int×Int×Int)=>match sg with|(adQ,adR,afY,afZ)=>bnd (dB tZ ([(aW.mk e_8.ID e_9.ID afY afZ lI.1)]:List aW)) λ(l_4:List aW)=>J3 (adQ,adR,l_4)) λJ4=>bif !(decide (fq.1=0))then bnd (fJ lI.2 (1:Int) (20:Int)) λ(yW:Int×bL)=>bnd (fA yW.2 ([(1:Int),(2:Int),(3:Int),yW.1,(1000:Int)]:List Int)) λ(oU:Int×bL)=>bnd (fJ oU.2 (1:Int) (20:Int)) λ(aa7:Int×bL)=>bnd (fA aa7.2 ([oU.1,oU.1,aa7.1]:List Int)) λ(qt:Int×bL)=>J4 (qt.2.L,qt.2.At,oU.1,qt.1)else J4 (lI.2.L,lI.2.At,(1:Int),(1:Int))) (λ(j6:Int) (sg:(List aW)×(List Int)×Int)=>match sg with|(tZ,we,wg)=>Z5 (tZ,we,wg)) (aah,aai,aaj)) (λ(j5:Int) (sg:(List aW)×(List Int)×Int)=>match sg with|(aah,aai,aaj)=>some ((aa.mk m_1 aah),(bL.mk aai aaj))) ([],fq.2.L,fq.2.At)) (bz.1,bz.2.L,bz.2.At,m_7)) (m_2,m_3,m_4)) (List.replicate ai.1.toNat []:List (List Bool))) ((0:Int),[],ai.2.L,ai.2.At)
def uz(l:List aV)(ha1:aV):Option (List aV):=
 whl (λ(Z1:Int→Option _) (k_1:Int)=>jn (λ(v_1:Bool)=>bif v_1 then Z1 (w64 (k_1+1))else bnd (nO l k_1 (l.length:Int)) λ(l_1:List aV)=>bnd (dB ([ha1]:List aV) l_1) λ(l_2:List aV)=>bnd (nO l (0:Int) k_1) λ(l_3:List aV)=>bnd (dB l_3 l_2) λ(l_4:List aV)=>some l_4) λJ1=>(bif decide (k_1<(l.length:Int))then bnd (elO l k_1) λ(e_1:aV)=>(bif decide (e_1.bx<ha1.bx)then J1 true else(bif decide (e_1.bx=ha1.bx)then J1 (decide (e_1.To<ha1.To))else J1 false))else J1 false)) (0:Int)
def th(t:bL)(p:aa)(root:Int):Option (dY×bL):=
 bnd (cv t (w64 ((w64 ((2:Int)*(p.Links.length:Int)))+(1:Int)))) λ(ai:Int×bL)=>whl (λ(Z1:((List Int)×Int×(List aV)×(List Int)×Int)→Option _) (sg:(List Int)×Int×(List aV)×(List Int)×Int)=>match sg with|(rC,i_1,m_1,m_2,m_3)=>bif decide (0<i_1)then jn (λ(sg:(List Int)×(List Int)×Int×(List aV))=>match sg with|(aa8,m_4,m_5,m_6)=>Z1 (aa8,w64 (i_1-1),m_6,m_4,m_5)) λJ1=>bnd (cv (bL.mk m_2 m_3) (p.Links.length:Int)) λ(aD:Int×bL)=>bnd (elO p.Links aD.1) λ(e_1:aW)=>jn (λ(sg:Int×Int)=>match sg with|(m_7,m_8)=>jn (λ(v_1:Bool)=>bif v_1 then bnd (dB rC ([m_8]:List Int)) λ(l_1:List Int)=>bnd (uz m_1 (aV.mk m_7 m_8)) λ(cw:(List aV))=>J1 (l_1,aD.2.L,aD.2.At,cw)else J1 (rC,aD.2.L,aD.2.At,m_1)) λJ3=>bnd (eF rC m_7) λ(bu:Bool)=>(bif bu then bnd (eF rC m_8) λ(bz:Bool)=>J3 (!bz)else J3 false)) λJ2=>bnd (eF rC e_1.B) λ(aX:Bool)=>bif aX then J2 (e_1.B,e_1.A)else J2 (e_1.A,e_1.B)else some ((dY.mk root m_1),(bL.mk m_2 m_3))) (([root]:List Int),ai.1,[],ai.2.L,ai.2.At)
end
end Go.Proofs.YtdjeacigeegklaaGreat
namespace Go.Proofs.YtdjeacigeegklaaGreat
open Go
set_option maxRecDepth 100000
set_option linter.all false
noncomputable section
def iu(n:Int):Option Bool:=
 some ((decide (n=8))||((decide (n=16))||((decide (n=32))||(decide (n=64)))))
def rD(length:Int):Option Int:=
 bnd (iu length) λ(ai:Bool)=>bif !ai then some (0:Int)else chk (decide (0≤w64 ((64:Int)-length)))<|some (Int.fdiv (18446744073709551615:Int) (2 ^ min (w64 ((64:Int)-length)).toNat 64))
def oy(b:Int)(length:Int):Option Bool:=
 bnd (iu length) λ(ai:Bool)=>(bif ai then bnd (rD length) λ(aD:Int)=>some (decide (aS .andNot .u64 b aD=0))else some false)
def lJ(n:Int):Option Bool:=
 some ((decide (1≤n))&&(decide (n≤99)))
def oz(a:ay):Option bP:=
 some (bP.mk a.aK a.Kind a.To)
def gF(e:aC):Option Int:=
 bnd (iu e.Length) λ(ai:Bool)=>bif !ai then some (2:Int)else bD e.List 0 (λ(j1:Int) (e1:ay) (Z1:Unit→Option _) (sg:Unit)=>match sg with|()=>jn (λ(v_1:Bool)=>bif v_1 then some (2:Int)else Z1 ()) λJ1=>(bif decide (e1.Bit<0)then J1 true else(bif decide (e.Length≤e1.Bit)then J1 true else bnd (lJ e1.aK) λ(aD:Bool)=>(bif !aD then J1 true else bnd (lJ e1.To) λ(aX:Bool)=>J1 (!aX))))) (λ(sg:Unit)=>match sg with|()=>bD e.List 0 (λ(j2:Int) (e2:ay) (Z2:Unit→Option _) (sg:Unit)=>match sg with|()=>bif ((decide (e2.Kind<1))||(decide (3<e2.Kind)))then some (1:Int)else Z2 ()) (λ(sg:Unit)=>match sg with|()=>bD e.List 0 (λ(j3:Int) (e3:ay) (Z3:Unit→Option _) (sg:Unit)=>match sg with|()=>bif !((decide (e3.To=e3.aK))==(decide (e3.Kind=3)))then some (8:Int)else Z3 ()) (λ(sg:Unit)=>match sg with|()=>bD (List.drop 1 e.List) 1 (λ(j4:Int) (e4:ay) (Z4:Unit→Option _) (sg:Unit)=>match sg with|()=>bnd (elO e.List (w64 ((j4:Int)-(1:Int)))) λ(e_1:ay)=>bif decide (e4.Bit≤e_1.Bit)then some (25:Int)else Z4 ()) (λ(sg:Unit)=>match sg with|()=>bD e.List 0 (λ(j5:Int) (e5:ay) (Z5:(List (bP×Bool))→Option _) (m_1:(List (bP×Bool)))=>bnd (oz e5) λ(bu:bP)=>bif ((kL eD m_1 bu).getD false)then some (5:Int)else bnd (oz e5) λ(bz:bP)=>Z5 (qA eD m_1 bz true)) (λ(m_1:(List (bP×Bool)))=>some (0:Int)) []) ()) ()) ()) ()
def lS(e:aC)(aN:Int):Option Int:=
 jn (λ(b_1:Int)=>some b_1) λJ1=>bnd (gF e) λ(ai:Int)=>bif decide (ai=0)then bD e.List 0 (λ(j1:Int) (e1:ay) (Z1:Int→Option _) (b_2:Int)=>jn (λ(b_3:Int)=>Z1 b_3) λJ2=>bif decide (e1.aK=aN)then chk (decide (0≤e1.Bit))<|J2 (aS .or .u64 b_2 (IntKind.wrap .u64 ((1:Int)*2 ^ min e1.Bit.toNat 64)))else J2 b_2) (λ(b_2:Int)=>J1 b_2) (0:Int)else J1 (0:Int)
end
end Go.Proofs.YtdjeacigeegklaaGreat
namespace Go.Proofs.YtdjeacigeegklaaGreat
open Go
set_option maxRecDepth 100000
set_option linter.all false
noncomputable section
def nZ(a:aG)(b:aG):Option Int:=
 bnd (fO a.to_ b.to_) λ(ai:Int)=>some ai
end
end Go.Proofs.YtdjeacigeegklaaGreat
namespace Go.Proofs.YtdjeacigeegklaaGreat
open Go
set_option maxRecDepth 100000
set_option linter.all false
noncomputable section
def kO(t:aa):Option Bool:=
 bnd (hU t) λ(ai:Int)=>some (decide (ai=0))
def nD(t:aa):Option fT:=
 bD t.aj 0 (λ(j1:Int) (e1:aQ) (Z1:((List (Int×List aG))×(List (Int×List aG)))→Option _) (sg:(List (Int×List aG))×(List (Int×List aG)))=>match sg with|(m_1,m_2)=>Z1 (bT m_1 e1.ID [],bT m_2 e1.ID [])) (λ(sg:(List (Int×List aG))×(List (Int×List aG)))=>match sg with|(m_1,m_2)=>bD t.Links 0 (λ(j2:Int) (e2:aW) (Z2:((List (Int×List aG))×(List (Int×List aG)))→Option _) (sg:(List (Int×List aG))×(List (Int×List aG)))=>match sg with|(m_3,m_4)=>bnd (dB ((aJ m_3 e2.A).getD []) ([(aG.mk e2.B e2.iK)]:List aG)) λ(l_1:List aG)=>bnd (dB ((aJ (bT m_3 e2.A l_1) e2.B).getD []) ([(aG.mk e2.A e2.iL)]:List aG)) λ(l_2:List aG)=>bnd (dB ((aJ m_4 e2.B).getD []) ([(aG.mk e2.A e2.iK)]:List aG)) λ(l_3:List aG)=>bnd (dB ((aJ (bT m_4 e2.B l_3) e2.A).getD []) ([(aG.mk e2.B e2.iL)]:List aG)) λ(l_4:List aG)=>Z2 (bT (bT m_3 e2.A l_1) e2.B l_2,bT (bT m_4 e2.B l_3) e2.A l_4)) (λ(sg:(List (Int×List aG))×(List (Int×List aG)))=>match sg with|(m_3,m_4)=>bnd (uw m_3 (λ(n_1:Int) (v_1:List aG) (m_5:(List (Int×List aG)))=>chk (aJ m_5 n_1).isSome<|bnd (sZ (mN [λx:aG=>x.to_]) ((aJ m_5 n_1).getD [])) λ(l_5:List aG)=>some (bT m_5 n_1 l_5)) m_3) λ(R1:(List (Int×List aG)))=>some (fT.mk R1 m_4)) (m_1,m_2)) (([]:List (Int×List aG)),([]:List (Int×List aG)))
def fU(links:List (Int×List aG))(cE:Int):Option (List (Int×Int)):=
 bif !((aJ links cE).isSome)then some []else jn (λ(sg:(List (Int×Int))×(List (Int×Int)))=>match sg with|(m_1,m_2)=>some m_1) λJ1=>whl (λ(Z1:((List (Int×Int))×(List (Int×Int)))→Option _) (sg:(List (Int×Int))×(List (Int×Int)))=>match sg with|(m_3,m_4)=>bif decide (0<(m_4.length:Int))then bnd (uw m_4 (λ(n_1:Int) (v_1:Int) (ec:Int)=>bif ((decide (ec=0))||((decide (v_1<((aJ m_4 ec).getD (0:Int))))||((decide (v_1=((aJ m_4 ec).getD (0:Int))))&&(decide (n_1<ec)))))then some n_1 else some ec) (0:Int)) λ(R1:Int)=>bif decide (((bT m_3 R1 ((aJ m_4 R1).getD (0:Int))).length:Int)=(links.length:Int))then J1 (bT m_3 R1 ((aJ m_4 R1).getD (0:Int)),pL m_4 R1)else bD ((aJ links R1).getD []) 0 (λ(j2:Int) (e2:aG) (Z2:(List (Int×Int))→Option _) (m_5:(List (Int×Int)))=>jn (λ(m_6:(List (Int×Int)))=>Z2 m_6) λJ2=>bif (aJ (bT m_3 R1 ((aJ m_4 R1).getD (0:Int))) e2.to_).isSome then J2 m_5 else bif ((!((aJ m_5 e2.to_).isSome))||(decide (w64 (((aJ m_4 R1).getD (0:Int))+e2.gp)<((aJ m_5 e2.to_).getD (0:Int)))))then J2 (bT m_5 e2.to_ (w64 (((aJ m_4 R1).getD (0:Int))+e2.gp)))else J2 m_5) (λ(m_5:(List (Int×Int)))=>Z1 (bT m_3 R1 ((aJ m_4 R1).getD (0:Int)),m_5)) (pL m_4 R1)else J1 (m_3,m_4)) ([],bT [] cE (0:Int))
def jk(g:fT)(fQ:List (Int×Int))(eo:Int):Option (List Int):=
 bif !((aJ fQ eo).isSome)then some []else bD ((aJ g.nQ eo).getD []) 0 (λ(j1:Int) (e1:aG) (Z1:(List Int)→Option _) (aZ:(List Int))=>jn (λ(cQ:(List Int))=>Z1 cQ) λJ1=>bif (((aJ fQ e1.to_).isSome)&&(decide (w64 (e1.gp+((aJ fQ e1.to_).getD (0:Int)))=((aJ fQ eo).getD (0:Int)))))then bnd (dB aZ ([e1.to_]:List Int)) λ(l_1:List Int)=>J1 l_1 else J1 aZ) (λ(aZ:(List Int))=>some aZ) []
def kP(t:aa)(cE:Int)(eR:Int):Option (List Int):=
 jn (λ(v_1:Bool)=>bif v_1 then some []else bnd (nD t) λ(aD:fT)=>bnd (fU aD.in_ eR) λ(aX:(List (Int×Int)))=>whl (λ(Z1:((List Int)×Int)→Option _) (sg:(List Int)×Int)=>match sg with|(aZ,yY)=>bif !decide (yY=eR)then bnd (jk aD aX yY) λ(bu:(List Int))=>bif decide ((bu.length:Int)=(0:Int))then some []else bnd (elO bu (0:Int)) λ(e_1:Int)=>bnd (dB aZ ([e_1]:List Int)) λ(l_1:List Int)=>bnd (elO l_1 (w64 ((l_1.length:Int)-(1:Int)))) λ(e_2:Int)=>Z1 (l_1,e_2)else some aZ) ([],cE)) λJ1=>bnd (kO t) λ(ai:Bool)=>(bif !ai then J1 true else J1 (decide (cE=eR)))
end
end Go.Proofs.YtdjeacigeegklaaGreat
namespace Go.Proofs.YtdjeacigeegklaaGreat
open Go
set_option maxRecDepth 100000
set_option linter.all false
noncomputable section
def kW(n:Int)(most:Int):Option Bool:=
 some ((decide (0≤n))&&(decide (n≤most)))
def kQ(p:aH):Option Bool:=
 (bif decide (1≤p.Mode)then(bif decide (p.Mode≤3)then bnd (kW p.bU (7:Int)) λ(ai:Bool)=>(bif ai then bnd (kW p.Set (31:Int)) λ(aD:Bool)=>(bif aD then bnd (oy p.Bits p.Length) λ(aX:Bool)=>(bif aX then bnd (kW p.TTL (63:Int)) λ(bu:Bool)=>(bif bu then bnd (kW p.cR (1023:Int)) λ(bz:Bool)=>(bif bz then bnd (kW p.cS (256:Int)) λ(cw:Bool)=>(bif cw then bnd (kW p.dV (7:Int)) λ(bN:Bool)=>(bif bN then some (decide ((p.cu.size:Int)≤(64:Int)))else some false)else some false)else some false)else some false)else some false)else some false)else some false)else some false)else some false)
def nc(p:aH)(bit:Int):Option aH:=
 jn (λ(v_1:Bool)=>bif v_1 then some (aH.mk (0:Int) (0:Int) (0:Int) (0:Int) (0:Int) (0:Int) (0:Int) (0:Int) (0:Int) (⟨#[]⟩:ByteArray))else chk (decide (0≤bit))<|some (aH.mk p.Mode p.bU p.Set p.Length p.TTL p.cR p.cS p.dV (IntKind.wrap .u64 ((1:Int)*2 ^ min bit.toNat 64)) p.cu)) λJ1=>bnd (kQ p) λ(ai:Bool)=>(bif !ai then J1 true else(bif decide (bit<0)then J1 true else(bif decide (63<bit)then J1 true else chk (decide (0≤bit))<|J1 (decide (aS .and .u64 (Int.fdiv p.Bits (2 ^ min bit.toNat 64)) (1:Int)=(0:Int))))))
def lK(e:aC)(p:aH):Option Int:=
 bif !decide (p.Mode=2)then some (7:Int)else bif !decide (p.Length=e.Length)then some (8:Int)else some (0:Int)
def kK(e:aC)(aN:Int)(p:aH):Option (cG×(List cI)):=
 bnd (lS e aN) λ(ai:Int)=>bD e.List 0 (λ(j1:Int) (e1:ay) (Z1:((List cI)×Int×Int×(List bg))→Option _) (sg:(List cI)×Int×Int×(List bg))=>match sg with|(iN,m_1,m_2,m_3)=>jn (λ(sg:(List cI)×Int×Int×(List bg))=>match sg with|(vq,m_4,m_5,m_6)=>Z1 (vq,m_4,m_5,m_6)) λJ1=>chk (decide (0≤e1.Bit))<|bif ((!decide (e1.aK=aN))||(decide (aS .and .u64 p.Bits (IntKind.wrap .u64 ((1:Int)*2 ^ min e1.Bit.toNat 64))=(0:Int))))then J1 (iN,m_1,m_2,m_3)else bif decide (e1.Kind=3)then J1 (iN,aS .or .u64 m_1 (IntKind.wrap .u64 ((1:Int)*2 ^ min e1.Bit.toNat 64)),m_2,m_3)else bif decide (p.TTL=0)then J1 (iN,m_1,aS .or .u64 m_2 (IntKind.wrap .u64 ((1:Int)*2 ^ min e1.Bit.toNat 64)),m_3)else bif !decide (aS .andNot .u64 p.Bits ai=0)then jn (λ(m_7:(List Int))=>bnd (dB m_3 ([(bg.mk e1.To (eP.mk m_7 (aH.mk p.Mode p.bU p.Set p.Length (w64 (p.TTL-1)) p.cR p.cS p.dV (aS .andNot .u64 p.Bits ai) p.cu)))]:List bg)) λ(l_1:List bg)=>bnd (dB iN ([(cI.mk e1 (bg.mk e1.To (eP.mk m_7 (aH.mk p.Mode p.bU p.Set p.Length (w64 (p.TTL-1)) p.cR p.cS p.dV (aS .andNot .u64 p.Bits ai) p.cu))))]:List cI)) λ(l_2:List cI)=>J1 (l_2,m_1,m_2,l_1)) λJ2=>bif decide (e1.Kind=2)then J2 ([e1.To]:List Int)else J2 []else J1 (iN,m_1,m_2,m_3)) (λ(sg:(List cI)×Int×Int×(List bg))=>match sg with|(iN,m_1,m_2,m_3)=>some ((cG.mk m_1 m_2 m_3),iN)) ([],(0:Int),(0:Int),[])
def jL(e:aC)(aN:Int)(p:aH):Option (cG×Int):=
 jn (λ(v_1:Bool)=>bif v_1 then some ((cG.mk (0:Int) (0:Int) []),(1:Int))else bnd (lK e p) λ(aX:Int)=>bif !decide (aX=0)then some ((cG.mk (0:Int) (0:Int) []),aX)else bnd (kK e aN p) λ(bu:cG×(List cI))=>some (bu.1,(0:Int))) λJ1=>bnd (gF e) λ(ai:Int)=>(bif !decide (ai=0)then J1 true else bnd (kQ p) λ(aD:Bool)=>J1 (!aD))
end
end Go.Proofs.YtdjeacigeegklaaGreat
namespace Go.Proofs.YtdjeacigeegklaaGreat
open Go
set_option maxRecDepth 100000
set_option linter.all false
noncomputable section
def mW(n:Int):Option Bool:=
 some ((decide (n=8))||((decide (n=16))||((decide (n=32))||(decide (n=64)))))
def xG(k:Int):Option Int:=
 bif ((decide (k<0))||(decide (63<k)))then some (0:Int)else chk (decide (0≤IntKind.wrap .u64 k))<|some (IntKind.wrap .u64 ((1:Int)*2 ^ min (IntKind.wrap .u64 k).toNat 64))
def tj(length:Int):Option Int:=
 bnd (mW length) λ(ai:Bool)=>bif !ai then some (0:Int)else chk (decide (length≤9223372036854775807))<|mM (length-0).toNat (0:Int) (λ(j1:Int) (Z1:Int→Option _) (b_1:Int)=>bnd (xG (j1:Int)) λ(aD:Int)=>Z1 (aS .or .u64 b_1 aD)) (λ(j1:Int) (b_1:Int)=>some b_1) (0:Int)
def pe(b:Int)(length:Int):Option Bool:=
 bnd (mW length) λ(ai:Bool)=>(bif ai then bnd (tj length) λ(aD:Int)=>some (decide (aS .andNot .u64 b aD=0))else some false)
def iw(n:Int)(most:Int):Option Bool:=
 some ((decide (0≤n))&&(decide (n≤most)))
def l6(p:aH):Option Bool:=
 (bif decide (1≤p.Mode)then(bif decide (p.Mode≤3)then bnd (iw p.bU (7:Int)) λ(ai:Bool)=>(bif ai then bnd (iw p.Set (31:Int)) λ(aD:Bool)=>(bif aD then bnd (pe p.Bits p.Length) λ(aX:Bool)=>(bif aX then bnd (iw p.TTL (63:Int)) λ(bu:Bool)=>(bif bu then bnd (iw p.cR (1023:Int)) λ(bz:Bool)=>(bif bz then bnd (iw p.cS (256:Int)) λ(cw:Bool)=>(bif cw then bnd (iw p.dV (7:Int)) λ(bN:Bool)=>(bif bN then some (decide ((p.cu.size:Int)≤(64:Int)))else some false)else some false)else some false)else some false)else some false)else some false)else some false)else some false)else some false)
def pg(t:aa)(ra1:Int):Option Int:=
 bD t.aj 0 (λ(j1:Int) (e1:aQ) (Z1:Unit→Option _) (sg:Unit)=>match sg with|()=>bif decide (e1.ID=ra1)then some (j1:Int)else Z1 ()) (λ(sg:Unit)=>match sg with|()=>some (0:Int)) ()
def tq(t:aa)(aal:Int):Option (List Int):=
 chk (decide (0≤(t.aj.length:Int))&&decide ((t.aj.length:Int)≤4294967296))<|whl (λ(Z1:((List Int)×Int)→Option _) (sg:(List Int)×Int)=>match sg with|(d_1,i_1)=>bif decide (i_1<(d_1.length:Int))then jn (λ(d_2:(List Int))=>Z1 (d_2,w64 (i_1+1))) λJ1=>bnd (elO d_1 i_1) λ(e_1:Int)=>bnd (sY d_1 i_1 (1073741824:Int)) λ(l_1:List Int)=>bnd (elO t.aj i_1) λ(e_2:aQ)=>bif decide (e_2.ID=aal)then bnd (elO l_1 i_1) λ(e_3:Int)=>bnd (sY l_1 i_1 (0:Int)) λ(l_2:List Int)=>J1 l_2 else J1 l_1 else whl (λ(Z2:((List Int)×Int)→Option _) (sg:(List Int)×Int)=>match sg with|(d_3,ng)=>bif decide (ng<(d_3.length:Int))then bD t.Links 0 (λ(j3:Int) (e3:aW) (Z3:(List Int)→Option _) (d_4:(List Int))=>jn (λ(d_5:(List Int))=>Z3 d_5) λJ2=>bnd (pg t e3.A) λ(ai:Int)=>bnd (pg t e3.B) λ(aD:Int)=>jn (λ(d_6:(List Int))=>bnd (elO d_6 ai) λ(e_6:Int)=>bif decide (e_6<1073741824)then bnd (elO d_6 aD) λ(e_7:Int)=>bnd (sY d_6 aD (if(w64 (e3.iL+e_6))<e_7 then w64 (e3.iL+e_6)else e_7)) λ(l_4:List Int)=>J2 l_4 else J2 d_6) λJ3=>bnd (elO d_4 aD) λ(e_4:Int)=>bif decide (e_4<1073741824)then bnd (elO d_4 ai) λ(e_5:Int)=>bnd (sY d_4 ai (if(w64 (e3.iK+e_4))<e_5 then w64 (e3.iK+e_4)else e_5)) λ(l_3:List Int)=>J3 l_3 else J3 d_4) (λ(d_4:(List Int))=>Z2 (d_4,w64 (ng+1))) d_3 else some d_3) (d_1,(0:Int))) ((List.replicate ((t.aj.length:Int)).toNat (0:Int)),(0:Int))
def nE(t:aa)(d:List Int)(ra2:Int):Option Int:=
 bD t.aj 0 (λ(j1:Int) (e1:aQ) (Z1:Unit→Option _) (sg:Unit)=>match sg with|()=>bif decide (e1.ID=ra2)then bnd (elO d (j1:Int)) λ(e_1:Int)=>some e_1 else Z1 ()) (λ(sg:Unit)=>match sg with|()=>some (1073741824:Int)) ()
def pq(t:aa)(d:List Int)(eo:Int):Option (List Int):=
 bnd (nE t d eo) λ(ai:Int)=>bif ((decide (ai=1073741824))||(decide (ai=0)))then some []else bnd (ot t eo) λ(aD:(List Int))=>bD aD 0 (λ(j1:Int) (e1:Int) (Z1:(List Int)→Option _) (aZ:(List Int))=>jn (λ(cQ:(List Int))=>Z1 cQ) λJ1=>bnd (l5 t eo e1) λ(aX:Int×Bool)=>jn (λ(v_1:Bool)=>bif v_1 then bnd (dB aZ ([e1]:List Int)) λ(l_1:List Int)=>J1 l_1 else J1 aZ) λJ2=>bnd (nE t d e1) λ(bu:Int)=>(bif decide (bu<1073741824)then bnd (nE t d e1) λ(bz:Int)=>J2 (decide (w64 (aX.1+bz)=ai))else J2 false)) (λ(aZ:(List Int))=>some aZ) []
def l7(t:aa)(cE:Int)(eR:Int):Option (List Int):=
 jn (λ(v_1:Bool)=>bif v_1 then some []else bnd (tq t eR) λ(aX:(List Int))=>whl (λ(Z1:(Int×(List Int))→Option _) (sg:Int×(List Int))=>match sg with|(gn,aZ)=>bif !decide (gn=eR)then bnd (pq t aX gn) λ(bu:(List Int))=>bif decide ((bu.length:Int)=(0:Int))then some []else bnd (elO bu (0:Int)) λ(e_1:Int)=>bnd (dB aZ ([e_1]:List Int)) λ(l_1:List Int)=>Z1 (e_1,l_1)else some aZ) (cE,[])) λJ1=>bnd (kV t cE) λ(ai:Bool)=>(bif !ai then J1 true else bnd (kV t eR) λ(aD:Bool)=>J1 (!aD))
def kR(e:aC)(p:aH):Option Int:=
 bif !decide (p.Mode=2)then some (7:Int)else bif !decide (p.Length=e.Length)then some (8:Int)else some (0:Int)
def lT(e:aC)(aN:Int)(p:aH):Option (cG×Int):=
 jn (λ(v_1:Bool)=>bif v_1 then some ((cG.mk (0:Int) (0:Int) []),(1:Int))else bnd (kR e p) λ(aX:Int)=>bif !decide (aX=0)then some ((cG.mk (0:Int) (0:Int) []),aX)else bnd (pE e aN) λ(bu:Int)=>bD e.List 0 (λ(j1:Int) (e1:ay) (Z1:(Int×Int×(List bg))→Option _) (sg:Int×Int×(List bg))=>match sg with|(m_1,m_2,m_3)=>jn (λ(sg:Int×Int×(List bg))=>match sg with|(m_4,m_5,m_6)=>Z1 (m_4,m_5,m_6)) λJ2=>chk (decide (0≤IntKind.wrap .u64 e1.Bit))<|bif ((!decide (e1.aK=aN))||(decide (aS .and .u64 p.Bits (IntKind.wrap .u64 ((1:Int)*2 ^ min (IntKind.wrap .u64 e1.Bit).toNat 64))=(0:Int))))then J2 (m_1,m_2,m_3)else bif decide (e1.Kind=3)then J2 (aS .or .u64 m_1 (IntKind.wrap .u64 ((1:Int)*2 ^ min (IntKind.wrap .u64 e1.Bit).toNat 64)),m_2,m_3)else bif decide (p.TTL=0)then J2 (m_1,aS .or .u64 m_2 (IntKind.wrap .u64 ((1:Int)*2 ^ min (IntKind.wrap .u64 e1.Bit).toNat 64)),m_3)else bif !decide (aS .andNot .u64 p.Bits bu=0)then jn (λ(m_7:(List Int))=>bnd (dB m_3 ([(bg.mk e1.To (eP.mk m_7 (aH.mk p.Mode p.bU p.Set p.Length (w64 (p.TTL-1)) p.cR p.cS p.dV (aS .andNot .u64 p.Bits bu) p.cu)))]:List bg)) λ(l_1:List bg)=>J2 (m_1,m_2,l_1)) λJ3=>bif decide (e1.Kind=2)then J3 ([e1.To]:List Int)else J3 []else J2 (m_1,m_2,m_3)) (λ(sg:Int×Int×(List bg))=>match sg with|(m_1,m_2,m_3)=>some ((cG.mk m_1 m_2 m_3),(0:Int))) ((0:Int),(0:Int),[])) λJ1=>bnd (fW e) λ(ai:Int)=>(bif !decide (ai=0)then J1 true else bnd (l6 p) λ(aD:Bool)=>J1 (!aD))
def nT(e:aC)(aN:Int)(c:bg):Option Int:=
 jn (λ(aam:Int)=>bnd (mO e aN aam c.To) λ(ai:Int×Bool)=>chk (decide (0≤IntKind.wrap .u64 ai.1))<|some (IntKind.wrap .u64 ((1:Int)*2 ^ min (IntKind.wrap .u64 ai.1).toNat 64))) λJ1=>bif decide (0<(c.Frame.gZ.length:Int))then J1 (2:Int)else J1 (1:Int)
def nU(t:aa)(aN:Int)(c:bg):Option (List Int):=
 bif decide (0<(c.Frame.gZ.length:Int))then bnd (l7 t aN c.To) λ(ai:(List Int))=>some ai else bnd (qc t aN c.To) λ(aD:Int×Bool)=>bif aD.2 then some ([c.To]:List Int)else some []
def lM(aN:Int)(bits:Int)(p:aH):Option (List bO):=
 mM ((64:Int)-(0:Int)).toNat (0:Int) (λ(j1:Int) (Z1:(List bO)→Option _) (aZ:(List bO))=>jn (λ(cQ:(List bO))=>Z1 cQ) λJ1=>chk (decide (0≤IntKind.wrap .u64 (j1:Int)))<|bif decide (aS .and .u64 (Int.fdiv bits (2 ^ min (IntKind.wrap .u64 (j1:Int)).toNat 64)) (1:Int)=(1:Int))then chk (decide (0≤IntKind.wrap .u64 (j1:Int)))<|bnd (dB aZ ([(bO.mk aN (aH.mk p.Mode p.bU p.Set p.Length p.TTL p.cR p.cS p.dV (IntKind.wrap .u64 ((1:Int)*2 ^ min (IntKind.wrap .u64 (j1:Int)).toNat 64)) p.cu))]:List bO)) λ(l_1:List bO)=>J1 l_1 else J1 aZ) (λ(j1:Int) (aZ:(List bO))=>some aZ) []
def kX(e:aC)(t:aa)(p:aH)(aN:Int):Option (cC×Int):=
 jn (λ(v_1:Bool)=>bif v_1 then some ((cC.mk [] [] []),(1:Int))else bnd (kV t aN) λ(bu:Bool)=>bif !bu then some ((cC.mk [] [] []),(4:Int))else bnd (kR e p) λ(bz:Int)=>bif !decide (bz=0)then some ((cC.mk [] [] []),bz)else whl (λ(Z1:((List dD)×Int×(List bO)×(List aU)×(List cz))→Option _) (sg:(List dD)×Int×(List bO)×(List aU)×(List cz))=>match sg with|(pF,i_1,m_1,m_2,m_3)=>bif decide (i_1<(pF.length:Int))then bnd (elO pF i_1) λ(e_1:dD)=>bnd (lT e e_1.aK e_1.aq) λ(cw:cG×Int)=>bnd (lM e_1.aK cw.1.Local e_1.aq) λ(bN:(List bO))=>bnd (dB m_1 bN) λ(l_1:List bO)=>jn (λ(m_4:(List cz))=>bD cw.1.bY 0 (λ(j2:Int) (e2:bg) (Z2:((List dD)×(List aU)×(List cz))→Option _) (sg:(List dD)×(List aU)×(List cz))=>match sg with|(iO,m_5,m_6)=>jn (λ(sg:(List dD)×(List aU)×(List cz))=>match sg with|(su,m_7,m_8)=>Z2 (su,m_7,m_8)) λJ3=>bnd (nU t e_1.aK e2) λ(fq:(List Int))=>bif decide ((fq.length:Int)=(0:Int))then bnd (nT e e_1.aK e2) λ(lI:Int)=>bnd (dB m_6 ([(cz.mk e_1.aK lI)]:List cz)) λ(l_3:List cz)=>J3 (iO,m_5,l_3)else bD fq 0 (λ(j3:Int) (e3:Int) (Z3:(Int×(List aU))→Option _) (sg:Int×(List aU))=>match sg with|(gn,m_9)=>bnd (dB m_9 ([(aU.mk gn e3 e2.Frame.aq.Bits)]:List aU)) λ(l_4:List aU)=>Z3 (e3,l_4)) (λ(sg:Int×(List aU))=>match sg with|(gn,m_9)=>bif decide (2000<(m_9.length:Int))then some ((cC.mk [] [] []),(11:Int))else bnd (dB iO ([(dD.mk e2.To e2.Frame.aq)]:List dD)) λ(l_5:List dD)=>J3 (l_5,m_9,m_6)) (e_1.aK,m_5)) (λ(sg:(List dD)×(List aU)×(List cz))=>match sg with|(iO,m_5,m_6)=>Z1 (iO,w64 (i_1+1),l_1,m_5,m_6)) (pF,m_2,m_4)) λJ2=>bif !decide (cw.1.jF=0)then bnd (dB m_3 ([(cz.mk e_1.aK cw.1.jF)]:List cz)) λ(l_2:List cz)=>J2 l_2 else J2 m_3 else some ((cC.mk m_1 m_2 m_3),(0:Int))) (([(dD.mk aN p)]:List dD),(0:Int),[],[],[])) λJ1=>bnd (fW e) λ(ai:Int)=>(bif !decide (ai=0)then J1 true else bnd (gH t) λ(aD:Int)=>(bif !decide (aD=0)then J1 true else bnd (l6 p) λ(aX:Bool)=>J1 (!aX)))
def qu(e:aC)(t:dY)(receivers:List Int)(p:aH):Option (aH×Int):=
 bnd (mQ e t receivers) λ(ai:Int×Int)=>bif !decide (ai.2=0)then some ((aH.mk (0:Int) (0:Int) (0:Int) (0:Int) (0:Int) (0:Int) (0:Int) (0:Int) (0:Int) (⟨#[]⟩:ByteArray)),ai.2)else bnd (l6 (aH.mk (2:Int) p.bU p.Set e.Length p.TTL p.cR p.cS p.dV ai.1 p.cu)) λ(aD:Bool)=>bif !aD then some ((aH.mk (0:Int) (0:Int) (0:Int) (0:Int) (0:Int) (0:Int) (0:Int) (0:Int) (0:Int) (⟨#[]⟩:ByteArray)),(1:Int))else some ((aH.mk (2:Int) p.bU p.Set e.Length p.TTL p.cR p.cS p.dV ai.1 p.cu),(0:Int))
def jW(a:cC)(b:cC):Option Bool:=
 bif ((!decide ((a.cK.length:Int)=(b.cK.length:Int)))||((!decide ((a.cn.length:Int)=(b.cn.length:Int)))||(!decide ((a.dP.length:Int)=(b.dP.length:Int)))))then some false else bD a.cK 0 (λ(j1:Int) (e1:bO) (Z1:Unit→Option _) (sg:Unit)=>match sg with|()=>bnd (elO b.cK (j1:Int)) λ(e_1:bO)=>bif !(qY e1 e_1)then some false else Z1 ()) (λ(sg:Unit)=>match sg with|()=>bD a.cn 0 (λ(j2:Int) (e2:aU) (Z2:Unit→Option _) (sg:Unit)=>match sg with|()=>bnd (elO b.cn (j2:Int)) λ(e_2:aU)=>bif !(qZ e2 e_2)then some false else Z2 ()) (λ(sg:Unit)=>match sg with|()=>bD a.dP 0 (λ(j3:Int) (e3:cz) (Z3:Unit→Option _) (sg:Unit)=>match sg with|()=>bnd (elO b.dP (j3:Int)) λ(e_3:cz)=>bif !(xZ e3 e_3)then some false else Z3 ()) (λ(sg:Unit)=>match sg with|()=>some true) ()) ()) ()
end
end Go.Proofs.YtdjeacigeegklaaGreat
namespace Go.Proofs.YtdjeacigeegklaaGreat
open Go
set_option maxRecDepth 100000
set_option linter.all false
noncomputable section
def gT(sa0:List Int):Option (List Int):=
 bnd (dB ([]:List Int) sa0) λ(l_1:List Int)=>some l_1
def pQ: Option (List Int):=
 bnd (dB ([]:List Int) []) λ(l_1:List Int)=>some l_1
def kG(s:List Int):Option (List Int):=gT s
def pR(f:bF)(a:Int)(b:Int):Option Bool:=
 bnd (dK f.Links (aV.mk a b)) λ(ai:Bool)=>(bif ai then some true else bnd (dK f.Links (aV.mk b a)) λ(aD:Bool)=>some aD)
def oB(t:aa)(f:bF)(aN:Int):Option (List Int):=
 bnd (jh t aN) λ(ai:(List Int))=>bD ai 0 (λ(j1:Int) (e1:Int) (Z1:(List Int)→Option _) (aZ:(List Int))=>jn (λ(cQ:(List Int))=>Z1 cQ) λJ1=>jn (λ(v_1:Bool)=>bif v_1 then bnd (dB aZ ([e1]:List Int)) λ(l_1:List Int)=>J1 l_1 else J1 aZ) λJ2=>bnd (cZ f.aj e1) λ(aD:Bool)=>(bif aD then J2 true else bnd (pR f aN e1) λ(aX:Bool)=>J2 aX)) (λ(aZ:(List Int))=>some aZ) []
def pS(a:ay):Option Bool:=
 some (decide (a.Kind=2))
def nh(e:aC):Option Bool:=
 bnd (gF e) λ(ai:Int)=>(bif decide (ai=0)then bnd (dM e.List pS) λ(aD:Bool)=>some (!aD)else some false)
def jZ(c:bg)(iZ:List Int)(bits:Int):Option bg:=
 bnd (elO iZ (0:Int)) λ(e_1:Int)=>bnd (nO iZ (1:Int) (iZ.length:Int)) λ(l_1:List Int)=>bnd (kG l_1) λ(ai:(List Int))=>some (bg.mk e_1 (eP.mk ai (aH.mk c.Frame.aq.Mode c.Frame.aq.bU c.Frame.aq.Set c.Frame.aq.Length c.Frame.aq.TTL c.Frame.aq.cR c.Frame.aq.cS c.Frame.aq.dV bits c.Frame.aq.cu)))
def oC(e:aC)(t:aa)(aN:Int)(c:bg):Option ((List bg)×Int):=
 bnd (lS e c.To) λ(ai:Int)=>bnd (ic t (bF.mk [] ([c.To]:List Int))) λ(aD:aa)=>bD e.List 0 (λ(j1:Int) (e1:ay) (Z1:((List bg)×Int×Int)→Option _) (sg:(List bg)×Int×Int)=>match sg with|(aZ,fe,eV)=>jn (λ(sg:(List bg)×Int×Int)=>match sg with|(cQ,w8,sv)=>Z1 (cQ,w8,sv)) λJ1=>chk (decide (0≤e1.Bit))<|bif ((!decide (e1.aK=c.To))||(decide (aS .and .u64 c.Frame.aq.Bits (IntKind.wrap .u64 ((1:Int)*2 ^ min e1.Bit.toNat 64))=(0:Int))))then J1 (aZ,fe,eV)else bif decide (e1.Kind=3)then J1 (aZ,aS .or .u64 fe (IntKind.wrap .u64 ((1:Int)*2 ^ min e1.Bit.toNat 64)),eV)else bif decide (e1.To=aN)then J1 (aZ,fe,eV)else bnd (jJ aD aN e1.To) λ(aX:Bool)=>bif !aX then J1 (aZ,aS .or .u64 fe (IntKind.wrap .u64 ((1:Int)*2 ^ min e1.Bit.toNat 64)),aS .or .u64 eV (IntKind.wrap .u64 ((1:Int)*2 ^ min e1.Bit.toNat 64)))else bif !decide (aS .andNot .u64 c.Frame.aq.Bits ai=0)then bnd (kP aD aN e1.To) λ(bu:(List Int))=>bnd (jZ c bu (aS .andNot .u64 c.Frame.aq.Bits ai)) λ(bz:bg)=>bnd (dB aZ ([bz]:List bg)) λ(l_1:List bg)=>J1 (l_1,fe,eV)else J1 (aZ,fe,eV)) (λ(sg:(List bg)×Int×Int)=>match sg with|(aZ,fe,eV)=>bif decide (fe=0)then some (aZ,(0:Int))else bnd (ic t (bF.mk ([(aV.mk aN c.To)]:List aV) [])) λ(cw:aa)=>bnd (kP cw aN c.To) λ(bN:(List Int))=>bif decide ((bN.length:Int)=(0:Int))then some (aZ,fe)else jn (λ(ac3:Int)=>bnd (jZ c bN ac3) λ(fq:bg)=>bnd (dB aZ ([fq]:List bg)) λ(l_2:List bg)=>some (l_2,(0:Int))) λJ2=>bif !decide (eV=0)then J2 (aS .or .u64 fe (aS .andNot .u64 c.Frame.aq.Bits ai))else J2 fe) ([],(0:Int),(0:Int))
def lU(e:aC)(t:aa)(aN:Int)(p:aH)(down:List Int):Option (cG×Int):=
 bnd (jL e aN p) λ(ai:cG×Int)=>bif !decide (ai.2=0)then some ((cG.mk (0:Int) (0:Int) []),ai.2)else jn (λ(v_1:Bool)=>bif v_1 then some ((cG.mk (0:Int) (0:Int) []),(1:Int))else bD ai.1.bY 0 (λ(j1:Int) (e1:bg) (Z1:(Int×(List bg))→Option _) (sg:Int×(List bg))=>match sg with|(m_1,m_2)=>jn (λ(sg:Int×(List bg))=>match sg with|(m_3,m_4)=>Z1 (m_3,m_4)) λJ2=>bnd (cZ down e1.To) λ(bu:Bool)=>bif !bu then bnd (dB m_2 ([e1]:List bg)) λ(l_1:List bg)=>J2 (m_1,l_1)else bnd (oC e t aN e1) λ(bz:(List bg)×Int)=>bnd (dB m_2 bz.1) λ(l_2:List bg)=>J2 (aS .or .u64 m_1 bz.2,l_2)) (λ(sg:Int×(List bg))=>match sg with|(m_1,m_2)=>some ((cG.mk ai.1.Local m_1 m_2),(0:Int))) (ai.1.jF,[])) λJ1=>bnd (nh e) λ(aD:Bool)=>(bif !aD then J1 true else bnd (hU t) λ(aX:Int)=>J1 (!decide (aX=0)))
def gN(d:dy)(aN:Int)(c:bg):Option dy:=
 bnd (nC d.eA aN c.To) λ(ai:Int×Bool)=>bif !ai.2 then bnd (dB d.cV.dP ([(cz.mk aN c.Frame.aq.Bits)]:List cz)) λ(l_1:List cz)=>some (dy.mk d.cA d.dh d.eA d.cL (cC.mk d.cV.cK d.cV.cn l_1) d.je)else bnd (dB d.cV.cn ([(aU.mk aN c.To c.Frame.aq.Bits)]:List aU)) λ(l_2:List aU)=>bnd (dB d.je ([(bh.mk c.To c.Frame)]:List bh)) λ(l_3:List bh)=>some (dy.mk d.cA d.dh d.eA d.cL (cC.mk d.cV.cK l_2 d.cV.dP) l_3)
def jl(d:dy)(v:bh):Option dy:=
 bif decide (0<(v.dA.gZ.length:Int))then bnd (elO v.dA.gZ (0:Int)) λ(e_1:Int)=>bnd (nO v.dA.gZ (1:Int) (v.dA.gZ.length:Int)) λ(l_1:List Int)=>bnd (gN d v.cm (bg.mk e_1 (eP.mk l_1 v.dA.aq))) λ(ai:dy)=>some ai else bnd (oB d.dh d.cL v.cm) λ(aD:(List Int))=>bnd (lU d.cA d.dh v.cm v.dA.aq aD) λ(aX:cG×Int)=>bD d.cA.List 0 (λ(j1:Int) (e1:ay) (Z1:(List bO)→Option _) (m_1:(List bO))=>jn (λ(m_2:(List bO))=>Z1 m_2) λJ1=>chk (decide (0≤e1.Bit))<|bif decide (aS .and .u64 (Int.fdiv aX.1.Local (2 ^ min e1.Bit.toNat 64)) (1:Int)=(1:Int))then bnd (nc v.dA.aq e1.Bit) λ(bu:aH)=>bnd (dB m_1 ([(bO.mk v.cm bu)]:List bO)) λ(l_2:List bO)=>J1 l_2 else J1 m_1) (λ(m_1:(List bO))=>jn (λ(m_3:(List cz))=>bD aX.1.bY 0 (λ(j2:Int) (e2:bg) (Z2:(Int×(List ay)×(List aQ)×(List aW)×(List aQ)×(List aW)×(List aV)×(List Int)×(List bO)×(List aU)×(List cz)×(List bh))→Option _) (sg:Int×(List ay)×(List aQ)×(List aW)×(List aQ)×(List aW)×(List aV)×(List Int)×(List bO)×(List aU)×(List cz)×(List bh))=>match sg with|(m_4,m_5,m_6,m_7,m_8,m_9,mY,mw,lH,fm,rJ,rK)=>bnd (gN (dy.mk (aC.mk m_4 m_5) (aa.mk m_6 m_7) (aa.mk m_8 m_9) (bF.mk mY mw) (cC.mk lH fm rJ) rK) v.cm e2) λ(bz:dy)=>Z2 (bz.cA.Length,bz.cA.List,bz.dh.aj,bz.dh.Links,bz.eA.aj,bz.eA.Links,bz.cL.Links,bz.cL.aj,bz.cV.cK,bz.cV.cn,bz.cV.dP,bz.je)) (λ(sg:Int×(List ay)×(List aQ)×(List aW)×(List aQ)×(List aW)×(List aV)×(List Int)×(List bO)×(List aU)×(List cz)×(List bh))=>match sg with|(m_4,m_5,m_6,m_7,m_8,m_9,mY,mw,lH,fm,rJ,rK)=>some (dy.mk (aC.mk m_4 m_5) (aa.mk m_6 m_7) (aa.mk m_8 m_9) (bF.mk mY mw) (cC.mk lH fm rJ) rK)) (d.cA.Length,d.cA.List,d.dh.aj,d.dh.Links,d.eA.aj,d.eA.Links,d.cL.Links,d.cL.aj,m_1,d.cV.cn,m_3,d.je)) λJ2=>bif !decide (aX.1.jF=0)then bnd (dB d.cV.dP ([(cz.mk v.cm aX.1.jF)]:List cz)) λ(l_3:List cz)=>J2 l_3 else J2 d.cV.dP) d.cV.cK
def iV(e:aC)(t:aa)(f:bF)(p:aH)(aN:Int):Option (cC×Int):=
 jn (λ(v_1:Bool)=>bif v_1 then some ((cC.mk [] [] []),(1:Int))else bnd (kM t aN) λ(bu:Bool)=>bif !bu then some ((cC.mk [] [] []),(4:Int))else bif !decide (p.Mode=2)then some ((cC.mk [] [] []),(7:Int))else bif !decide (p.Length=e.Length)then some ((cC.mk [] [] []),(8:Int))else bnd (cZ f.aj aN) λ(bz:Bool)=>bif bz then some ((cC.mk [] [] ([(cz.mk aN p.Bits)]:List cz)),(0:Int))else bnd (ic t f) λ(cw:aa)=>whl (λ(Z1:(Int×(List ay)×(List aQ)×(List aW)×(List aQ)×(List aW)×(List aV)×(List Int)×(List bO)×(List aU)×(List cz)×(List bh))→Option _) (sg:Int×(List ay)×(List aQ)×(List aW)×(List aQ)×(List aW)×(List aV)×(List Int)×(List bO)×(List aU)×(List cz)×(List bh))=>match sg with|(m_1,m_2,m_3,m_4,m_5,m_6,m_7,m_8,m_9,mY,mw,lH)=>bif decide (0<(lH.length:Int))then bnd (elO lH (0:Int)) λ(e_1:bh)=>bnd (nO lH (1:Int) (lH.length:Int)) λ(l_1:List bh)=>bnd (jl (dy.mk (aC.mk m_1 m_2) (aa.mk m_3 m_4) (aa.mk m_5 m_6) (bF.mk m_7 m_8) (cC.mk m_9 mY mw) l_1) e_1) λ(bN:dy)=>bif decide (2000<(bN.cV.cn.length:Int))then some ((cC.mk [] [] []),(11:Int))else Z1 (bN.cA.Length,bN.cA.List,bN.dh.aj,bN.dh.Links,bN.eA.aj,bN.eA.Links,bN.cL.Links,bN.cL.aj,bN.cV.cK,bN.cV.cn,bN.cV.dP,bN.je)else some ((cC.mk m_9 mY mw),(0:Int))) (e.Length,e.List,t.aj,t.Links,cw.aj,cw.Links,f.Links,f.aj,[],[],[],([(bh.mk aN (eP.mk [] p))]:List bh))) λJ1=>bnd (nh e) λ(ai:Bool)=>(bif !ai then J1 true else bnd (hU t) λ(aD:Int)=>(bif !decide (aD=0)then J1 true else bnd (kQ p) λ(aX:Bool)=>J1 (!aX)))
end
end Go.Proofs.YtdjeacigeegklaaGreat
namespace Go.Proofs.YtdjeacigeegklaaGreat
open Go
set_option maxRecDepth 100000
set_option linter.all false
noncomputable section
def uK(e:aC):Option Bool:=
 bD e.List 0 (λ(j1:Int) (e1:ay) (Z1:Unit→Option _) (sg:Unit)=>match sg with|()=>bif decide (e1.Kind=2)then some false else Z1 ()) (λ(sg:Unit)=>match sg with|()=>bnd (fW e) λ(ai:Int)=>some (decide (ai=0))) ()
def mH(p:aH)(bits:Int)(iZ:List Int):Option bg:=
 bnd (elO iZ (0:Int)) λ(e_1:Int)=>bnd (nO iZ (1:Int) (iZ.length:Int)) λ(l_1:List Int)=>some (bg.mk e_1 (eP.mk l_1 (aH.mk p.Mode p.bU p.Set p.Length p.TTL p.cR p.cS p.dV bits p.cu)))
def rM(e:aC)(t:aa)(aN:Int)(c:bg):Option ((List bg)×Int):=
 bnd (pE e c.To) λ(ai:Int)=>bnd (pO t (bF.mk [] ([c.To]:List Int))) λ(aD:aa)=>bD e.List 0 (λ(j1:Int) (e1:ay) (Z1:((List bg)×Int×Int)→Option _) (sg:(List bg)×Int×Int)=>match sg with|(aZ,fe,eV)=>jn (λ(sg:(List bg)×Int×Int)=>match sg with|(cQ,w8,sv)=>Z1 (cQ,w8,sv)) λJ1=>chk (decide (0≤IntKind.wrap .u64 e1.Bit))<|bif ((!decide (e1.aK=c.To))||((decide (aS .and .u64 c.Frame.aq.Bits (IntKind.wrap .u64 ((1:Int)*2 ^ min (IntKind.wrap .u64 e1.Bit).toNat 64))=(0:Int)))||(decide (e1.To=aN))))then J1 (aZ,fe,eV)else bif decide (e1.Kind=3)then J1 (aZ,aS .or .u64 fe (IntKind.wrap .u64 ((1:Int)*2 ^ min (IntKind.wrap .u64 e1.Bit).toNat 64)),eV)else bnd (l7 aD aN e1.To) λ(aX:(List Int))=>bif decide ((aX.length:Int)=(0:Int))then J1 (aZ,aS .or .u64 fe (IntKind.wrap .u64 ((1:Int)*2 ^ min (IntKind.wrap .u64 e1.Bit).toNat 64)),aS .or .u64 eV (IntKind.wrap .u64 ((1:Int)*2 ^ min (IntKind.wrap .u64 e1.Bit).toNat 64)))else bif !decide (aS .andNot .u64 c.Frame.aq.Bits ai=0)then bnd (mH c.Frame.aq (aS .andNot .u64 c.Frame.aq.Bits ai) aX) λ(bu:bg)=>bnd (dB aZ ([bu]:List bg)) λ(l_1:List bg)=>J1 (l_1,fe,eV)else J1 (aZ,fe,eV)) (λ(sg:(List bg)×Int×Int)=>match sg with|(aZ,fe,eV)=>bif decide (fe=0)then some (aZ,(0:Int))else bnd (pO t (bF.mk ([(aV.mk aN c.To)]:List aV) [])) λ(bz:aa)=>bnd (l7 bz aN c.To) λ(cw:(List Int))=>bif decide ((cw.length:Int)=(0:Int))then some (aZ,fe)else jn (λ(auo:Int)=>bnd (mH c.Frame.aq auo cw) λ(bN:bg)=>bnd (dB aZ ([bN]:List bg)) λ(l_2:List bg)=>some (l_2,(0:Int))) λJ2=>bif !decide (eV=0)then J2 (aS .or .u64 fe (aS .andNot .u64 c.Frame.aq.Bits ai))else J2 fe) ([],(0:Int),(0:Int))
def tu(e:aC)(t:aa)(aN:Int)(p:aH)(down:List Int):Option (cG×Int):=
 bnd (lT e aN p) λ(ai:cG×Int)=>bif !decide (ai.2=0)then some ((cG.mk (0:Int) (0:Int) []),ai.2)else jn (λ(v_1:Bool)=>bif v_1 then some ((cG.mk (0:Int) (0:Int) []),(1:Int))else bD ai.1.bY 0 (λ(j1:Int) (e1:bg) (Z1:(Int×(List bg))→Option _) (sg:Int×(List bg))=>match sg with|(m_1,m_2)=>jn (λ(sg:Int×(List bg))=>match sg with|(m_3,m_4)=>Z1 (m_3,m_4)) λJ2=>bnd (eF down e1.To) λ(bu:Bool)=>bif !bu then bnd (dB m_2 ([e1]:List bg)) λ(l_1:List bg)=>J2 (m_1,l_1)else bnd (rM e t aN e1) λ(bz:(List bg)×Int)=>bnd (dB m_2 bz.1) λ(l_2:List bg)=>J2 (aS .or .u64 m_1 bz.2,l_2)) (λ(sg:Int×(List bg))=>match sg with|(m_1,m_2)=>some ((cG.mk ai.1.Local m_1 m_2),(0:Int))) (ai.1.jF,[])) λJ1=>bnd (uK e) λ(aD:Bool)=>(bif !aD then J1 true else bnd (gH t) λ(aX:Int)=>J1 (!decide (aX=0)))
end
end Go.Proofs.YtdjeacigeegklaaGreat
namespace Go.Proofs.YtdjeacigeegklaaGreat
open Go
set_option maxRecDepth 100000
set_option linter.all false
noncomputable section
def mI: Option aa:=
 mM ((5:Int)-(1:Int)).toNat (1:Int) (λ(j1:Int) (Z1:(List aQ)→Option _) (m_1:(List aQ))=>bnd (dB m_1 ([(aQ.mk (j1:Int) true)]:List aQ)) λ(l_1:List aQ)=>Z1 l_1) (λ(j1:Int) (m_1:(List aQ))=>bD ([(cq.mk (1:Int) (2:Int)),(cq.mk (1:Int) (4:Int)),(cq.mk (2:Int) (3:Int)),(cq.mk (3:Int) (4:Int))]:List cq) 0 (λ(j2:Int) (e2:cq) (Z2:(List aW)→Option _) (m_2:(List aW))=>bnd (dB m_2 ([(aW.mk e2.E0 e2.E1 (1:Int) (1:Int) (0:Int))]:List aW)) λ(l_2:List aW)=>Z2 l_2) (λ(m_2:(List aW))=>some (aa.mk m_1 m_2)) []) []
def j8: Option Bool:=
 bnd (mI) λ(ai:aa)=>bnd (mP ai (16:Int)) λ(aD:aC×Int)=>bnd (mQ aD.1 (dY.mk (1:Int) ([(aV.mk (1:Int) (2:Int)),(aV.mk (2:Int) (3:Int))]:List aV)) ([(2:Int),(3:Int)]:List Int)) λ(aX:Int×Int)=>bnd (mI) λ(bu:aa)=>bnd (lU aD.1 bu (1:Int) (aH.mk (2:Int) (0:Int) (0:Int) (16:Int) (9:Int) (0:Int) (0:Int) (0:Int) aX.1 (⟨#[]⟩:ByteArray)) ([(2:Int)]:List Int)) λ(bz:cG×Int)=>(bif decide (bz.2=0)then(bif decide ((bz.1.bY.length:Int)=(2:Int))then bnd (elO bz.1.bY (0:Int)) λ(e_1:bg)=>(bif decide (e_1.To=4)then bnd (ji e_1.Frame.gZ ([(3:Int)]:List Int)) λ(cw:Bool)=>(bif cw then bnd (elO bz.1.bY (1:Int)) λ(e_2:bg)=>bnd (ji e_2.Frame.gZ ([(3:Int),(2:Int)]:List Int)) λ(bN:Bool)=>(bif bN then some (decide (bz.1.jF=0))else some false)else some false)else some false)else some false)else some false)
def nF(sa0:bL)(p:aa):Option (bF×bL):=
 jn (λ(sg:Bool×(List Int)×Int)=>match sg with|(v_1,m_1,m_2)=>bif v_1 then bnd (cv (bL.mk m_1 m_2) (p.Links.length:Int)) λ(aD:Int×bL)=>bnd (elO p.Links aD.1) λ(e_1:aW)=>bnd (cv aD.2 (2:Int)) λ(aX:Int×bL)=>bif decide (aX.1=0)then some ((bF.mk ([(aV.mk e_1.A e_1.B)]:List aV) []),aX.2)else some ((bF.mk ([(aV.mk e_1.B e_1.A)]:List aV) []),aX.2)else bnd (cv (bL.mk m_1 m_2) (p.aj.length:Int)) λ(bu:Int×bL)=>bnd (elO p.aj bu.1) λ(e_2:aQ)=>some ((bF.mk [] ([e_2.ID]:List Int)),bu.2)) λJ1=>(bif decide (0<(p.Links.length:Int))then bnd (cv sa0 (2:Int)) λ(ai:Int×bL)=>J1 (decide (ai.1=0),ai.2.L,ai.2.At)else J1 (false,sa0.L,sa0.At))
def qh(sa0:bL):Option (aa×aC×dY×(List Int)×aH×Bool×bL):=
 bnd (ow sa0 (7:Int)) λ(ai:aa×bL)=>bnd (mP ai.1 (64:Int)) λ(aD:aC×Int)=>bnd (cv ai.2 (ai.1.aj.length:Int)) λ(aX:Int×bL)=>bnd (elO ai.1.aj aX.1) λ(e_1:aQ)=>bnd (th aX.2 ai.1 e_1.ID) λ(bu:dY×bL)=>bnd (jK bu.1) λ(bz:(List Int))=>bD bz 0 (λ(j1:Int) (e1:Int) (Z1:((List Int)×(List Int)×Int)→Option _) (sg:(List Int)×(List Int)×Int)=>match sg with|(fH,m_1,m_2)=>jn (λ(sg:(List Int)×(List Int)×Int)=>match sg with|(mC,m_3,m_4)=>Z1 (mC,m_3,m_4)) λJ1=>bD bu.1.Links 0 (λ(j2:Int) (e2:aV) (Z2:Bool→Option _) (pz:Bool)=>(bif pz then Z2 (!decide (e2.bx=e1))else Z2 false)) (λ(pz:Bool)=>jn (λ(sg:Bool×(List Int)×Int)=>match sg with|(v_1,m_5,m_6)=>bif v_1 then bnd (dB fH ([e1]:List Int)) λ(l_1:List Int)=>J1 (l_1,m_5,m_6)else J1 (fH,m_5,m_6)) λJ2=>(bif pz then J2 (true,m_1,m_2)else bnd (cv (bL.mk m_1 m_2) (2:Int)) λ(cw:Int×bL)=>J2 (decide (cw.1=0),cw.2.L,cw.2.At))) true) (λ(sg:(List Int)×(List Int)×Int)=>match sg with|(fH,m_1,m_2)=>bnd (qu aD.1 bu.1 fH (aH.mk (0:Int) (0:Int) (0:Int) (0:Int) (63:Int) (0:Int) (0:Int) (0:Int) (0:Int) (⟨#[]⟩:ByteArray))) λ(bN:aH×Int)=>some (ai.1,aD.1,bu.1,fH,bN.1,((decide (aD.2=0))&&(decide (bN.2=0))),(bL.mk m_1 m_2))) ([],bu.2.L,bu.2.At)
end
end Go.Proofs.YtdjeacigeegklaaGreat
