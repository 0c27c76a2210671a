/- Several texts in one. No condition but those that stand in each. -/
import Derived.Test.YtdjeacigeegklaaGreatT
namespace Go.Proofs.YtdjeacigeegklaaGreat
open Go
set_option maxRecDepth 100000
set_option linter.all false
noncomputable section
def mV(n:Int):Option Bool:=
 some ((decide (1≤n))&&(decide (n≤1000)))
def mC(t:af)(ra1:Int):Option Bool:=
 bH t.aF 0 (λ(j1:Int) (e1:aP) (Z1:Unit→Option _) (sg:Unit)=>match sg with|()=>bif decide (e1.ID=ra1)then some true else Z1 ()) (λ(sg:Unit)=>match sg with|()=>some false) ()
def mo(t:af)(cM:Int)(fK:Int):Option (Int×Bool):=
 bH t.Links 0 (λ(j1:Int) (e1:aZ) (Z1:Unit→Option _) (sg:Unit)=>match sg with|()=>bif ((decide (e1.A=cM))&&(decide (e1.B=fK)))then some (e1.kI,true)else bif ((decide (e1.B=cM))&&(decide (e1.A=fK)))then some (e1.kJ,true)else Z1 ()) (λ(sg:Unit)=>match sg with|()=>some ((0:Int),false)) ()
def kf(t:af):Option Int:=
 bif ((decide (24<(t.aF.length:Int)))||(decide (60<(t.Links.length:Int))))then some (3:Int)else bH t.aF 0 (λ(j1:Int) (e1:aP) (Z1:Unit→Option _) (sg:Unit)=>match sg with|()=>bif ((decide (e1.ID<1))||(decide (99<e1.ID)))then some (2:Int)else Z1 ()) (λ(sg:Unit)=>match sg with|()=>bH (List.drop 1 t.aF) 1 (λ(j2:Int) (e2:aP) (Z2:Unit→Option _) (sg:Unit)=>match sg with|()=>bnd (elO t.aF (w64 ((j2:Int)-(1:Int)))) λ(e_1:aP)=>bif decide (e2.ID≤e_1.ID)then some (25:Int)else Z2 ()) (λ(sg:Unit)=>match sg with|()=>bH t.Links 0 (λ(j3:Int) (e3:aZ) (Z3:Unit→Option _) (sg:Unit)=>match sg with|()=>jn (λ(v_1:Bool)=>bif v_1 then some (2:Int)else Z3 ()) λJ1=>bnd (mV e3.kI) λ(ak:Bool)=>(bif !ak then J1 true else bnd (mV e3.kJ) λ(aO:Bool)=>(bif !aO then J1 true else(bif decide (e3.l7<0)then J1 true else J1 (decide (1000<e3.l7)))))) (λ(sg:Unit)=>match sg with|()=>bH t.Links 0 (λ(j4:Int) (e4:aZ) (Z4:Unit→Option _) (sg:Unit)=>match sg with|()=>jn (λ(v_2:Bool)=>bif v_2 then some (4:Int)else Z4 ()) λJ2=>bnd (mC t e4.A) λ(bT:Bool)=>(bif !bT then J2 true else bnd (mC t e4.B) λ(cI:Bool)=>J2 (!cI))) (λ(sg:Unit)=>match sg with|()=>bH t.Links 0 (λ(j5:Int) (e5:aZ) (Z5:Unit→Option _) (sg:Unit)=>match sg with|()=>bif decide (e5.B≤e5.A)then some (8:Int)else Z5 ()) (λ(sg:Unit)=>match sg with|()=>bH (List.drop 1 t.Links) 1 (λ(j6:Int) (e6:aZ) (Z6:Unit→Option _) (sg:Unit)=>match sg with|()=>bnd (elO t.Links (w64 ((j6:Int)-(1:Int)))) λ(e_2:aZ)=>bif ((decide (e6.A<e_2.A))||((decide (e_2.A=e6.A))&&(decide (e6.B≤e_2.B))))then some (25:Int)else Z6 ()) (λ(sg:Unit)=>match sg with|()=>some (0:Int)) ()) ()) ()) ()) ()) ()
end
end Go.Proofs.YtdjeacigeegklaaGreat
namespace Go.Proofs.YtdjeacigeegklaaGreat
open Go
set_option maxRecDepth 100000
set_option linter.all false
noncomputable section
def mW(t:af)(ra1:Int):Option (List Int):=
 bH t.aF 0 (λ(j1:Int) (e1:aP) (Z1:(List Int)→Option _) (dw:(List Int))=>jn (λ(ny:(List Int))=>Z1 ny) λJ1=>bnd (mo t ra1 e1.ID) λ(ak:Int×Bool)=>bif ak.2 then bnd (dX dw ([e1.ID]:List Int)) λ(l_1:List Int)=>J1 l_1 else J1 dw) (λ(dw:(List Int))=>some dw) []
def iW(t:af)(ra1:Int):Option (List Int):=
 bnd (kf t) λ(ak:Int)=>bif !decide (ak=0)then some []else bnd (mW t ra1) λ(aO:(List Int))=>some aO
end
end Go.Proofs.YtdjeacigeegklaaGreat
namespace Go.Proofs.YtdjeacigeegklaaGreat
open Go
set_option maxRecDepth 100000
set_option linter.all false
noncomputable section
def fS(xa0:Int):Option Bool:=
 some (!decide (xa0=xa0))
def dL(xa0:Int)(y:Int):Option Int:=
 bnd (fS xa0) λ(ak:Bool)=>bnd (fS y) λ(aO:Bool)=>bif ak then bif aO then some (0:Int)else some (-1:Int)else bif aO then some (1:Int)else bif decide (xa0<y)then some (-1:Int)else bif decide (y<xa0)then some (1:Int)else some (0:Int)
def jO(vals:List Int):Option Int:=
 bH vals 0 (λ(j1:Int) (e1:Int) (Z1:Unit→Option _) (sg:Unit)=>match sg with|()=>bif !decide (e1=0)then some e1 else Z1 ()) (λ(sg:Unit)=>match sg with|()=>some (0:Int)) ()
def bZ(xa0:List aP)(target:Int)(cmp:aP→Int→Option Int):Option (Int×Bool):=
 whl (λ(Z1:(Int×Int)→Option _) (sg:Int×Int)=>match sg with|(i_1,j_1)=>bif decide (i_1<j_1)then bnd (elO xa0 (w64 (Int.fdiv (IntKind.wrap .u64 (w64 (i_1+j_1))) (2 ^ min (1:Int).toNat 64)))) λ(e_1:aP)=>bnd (cmp e_1 target) λ(ak:Int)=>bif decide (ak<0)then Z1 (w64 ((w64 (Int.fdiv (IntKind.wrap .u64 (w64 (i_1+j_1))) (2 ^ min (1:Int).toNat 64)))+(1:Int)),j_1)else Z1 (i_1,w64 (Int.fdiv (IntKind.wrap .u64 (w64 (i_1+j_1))) (2 ^ min (1:Int).toNat 64)))else(bif decide (i_1<(xa0.length:Int))then bnd (elO xa0 i_1) λ(e_2:aP)=>bnd (cmp e_2 target) λ(aO:Int)=>some (i_1,decide (aO=0))else some (i_1,false))) ((0:Int),(xa0.length:Int))
def dB(sa0:List az)(f:az→Option Bool):Option Int:=
 bH sa0 0 (λ(j1:Int) (e1:az) (Z1:Unit→Option _) (sg:Unit)=>match sg with|()=>bnd (f e1) λ(ak:Bool)=>bif ak then some (j1:Int)else Z1 ()) (λ(sg:Unit)=>match sg with|()=>some (-1:Int)) ()
def dV(sa0:List aP)(f:aP→Option Bool):Option Int:=
 bH sa0 0 (λ(j1:Int) (e1:aP) (Z1:Unit→Option _) (sg:Unit)=>match sg with|()=>bnd (f e1) λ(ak:Bool)=>bif ak then some (j1:Int)else Z1 ()) (λ(sg:Unit)=>match sg with|()=>some (-1:Int)) ()
def eA(sa0:List aZ)(f:aZ→Option Bool):Option Int:=
 bH sa0 0 (λ(j1:Int) (e1:aZ) (Z1:Unit→Option _) (sg:Unit)=>match sg with|()=>bnd (f e1) λ(ak:Bool)=>bif ak then some (j1:Int)else Z1 ()) (λ(sg:Unit)=>match sg with|()=>some (-1:Int)) ()
def cA(xa0:List aZ)(target:aZ)(cmp:aZ→aZ→Option Int):Option (Int×Bool):=
 whl (λ(Z1:(Int×Int)→Option _) (sg:Int×Int)=>match sg with|(i_1,j_1)=>bif decide (i_1<j_1)then bnd (elO xa0 (w64 (Int.fdiv (IntKind.wrap .u64 (w64 (i_1+j_1))) (2 ^ min (1:Int).toNat 64)))) λ(e_1:aZ)=>bnd (cmp e_1 target) λ(ak:Int)=>bif decide (ak<0)then Z1 (w64 ((w64 (Int.fdiv (IntKind.wrap .u64 (w64 (i_1+j_1))) (2 ^ min (1:Int).toNat 64)))+(1:Int)),j_1)else Z1 (i_1,w64 (Int.fdiv (IntKind.wrap .u64 (w64 (i_1+j_1))) (2 ^ min (1:Int).toNat 64)))else(bif decide (i_1<(xa0.length:Int))then bnd (elO xa0 i_1) λ(e_2:aZ)=>bnd (cmp e_2 target) λ(aO:Int)=>some (i_1,decide (aO=0))else some (i_1,false))) ((0:Int),(xa0.length:Int))
def cZ(sa0:List aP)(f:aP→Option Bool):Option Bool:=
 bnd (dV sa0 f) λ(ak:Int)=>some (decide (0≤ak))
def cz(sa0:List aZ)(f:aZ→Option Bool):Option Bool:=
 bnd (eA sa0 f) λ(ak:Int)=>some (decide (0≤ak))
def ic(n:Int)(least:Int)(most:Int):Option Bool:=
 some ((decide (least≤n))&&(decide (n≤most)))
def gH(a:aZ)(b:aZ):Option Int:=
 bnd (dL a.A b.A) λ(ak:Int)=>bnd (dL a.B b.B) λ(aO:Int)=>bnd (jO ([ak,aO]:List Int)) λ(bT:Int)=>some bT
def jg(ra0:aP)(id:Int):Option Int:=
 bnd (dL ra0.ID id) λ(ak:Int)=>some ak
def kL(ra0:aP):Option Bool:=
 bnd (ic ra0.ID (1:Int) (99:Int)) λ(ak:Bool)=>some (!ak)
def iX(l:aZ):Option Bool:=
 bnd (ic l.kI (1:Int) (1000:Int)) λ(ak:Bool)=>(bif !ak then some true else bnd (ic l.kJ (1:Int) (1000:Int)) λ(aO:Bool)=>(bif !aO then some true else bnd (ic l.l7 (0:Int) (1000:Int)) λ(bT:Bool)=>some (!bT)))
def gI(id:Int)(c_0:af):Option Bool:=
 bnd (bZ c_0.aF id jg) λ(ak:Int×Bool)=>some (!ak.2)
def kM(l:aZ)(c_0:af):Option Bool:=
 bnd (gI l.A c_0) λ(ak:Bool)=>(bif ak then some true else bnd (gI l.B c_0) λ(aO:Bool)=>some aO)
def kN(l:aZ):Option Bool:=
 some (decide (l.B≤l.A))
def gC(t:af):Option Int:=
 bif ((decide (24<(t.aF.length:Int)))||(decide (60<(t.Links.length:Int))))then some (3:Int)else bnd (cZ t.aF kL) λ(ak:Bool)=>bif ak then some (2:Int)else bH t.aF 0 (λ(j1:Int) (e1:aP) (Z1:Unit→Option _) (sg:Unit)=>match sg with|()=>jn (λ(v_1:Bool)=>bif v_1 then some (25:Int)else Z1 ()) λJ1=>(bif decide (0<(j1:Int))then bnd (elO t.aF (w64 ((j1:Int)-(1:Int)))) λ(e_1:aP)=>J1 (decide (e1.ID≤e_1.ID))else J1 false)) (λ(sg:Unit)=>match sg with|()=>bnd (cz t.Links iX) λ(aO:Bool)=>bif aO then some (2:Int)else bnd (cz t.Links (λ(y0:aZ)=>kM y0 t)) λ(bT:Bool)=>bif bT then some (4:Int)else bnd (cz t.Links kN) λ(cI:Bool)=>bif cI then some (8:Int)else bH t.Links 0 (λ(j2:Int) (e2:aZ) (Z2:Unit→Option _) (sg:Unit)=>match sg with|()=>jn (λ(v_2:Bool)=>bif v_2 then some (25:Int)else Z2 ()) λJ2=>(bif decide (0<(j2:Int))then bnd (elO t.Links (w64 ((j2:Int)-(1:Int)))) λ(e_2:aZ)=>bnd (gH e_2 e2) λ(dY:Int)=>J2 (decide (0≤dY))else J2 false)) (λ(sg:Unit)=>match sg with|()=>some (0:Int)) ()) ()
def iD(t:af):Option Bool:=
 bnd (gC t) λ(ak:Int)=>some (decide (ak=0))
def kO(t:af)(cg:Int):Option (aP×Bool):=
 bnd (bZ t.aF cg jg) λ(ak:Int×Bool)=>bif !ak.2 then some ((aP.mk (0:Int) false),false)else bnd (elO t.aF ak.1) λ(e_1:aP)=>some (e_1,true)
def lI(t:af)(cg:Int):Option Bool:=
 bnd (kO t cg) λ(ak:aP×Bool)=>bnd (iD t) λ(aO:Bool)=>(bif aO then some ak.2 else some false)
def kP(t:af)(cM:Int)(fK:Int):Option (Int×Bool):=
 bnd (iD t) λ(ak:Bool)=>bif !ak then some ((0:Int),false)else bnd (cA t.Links (aZ.mk (if fK<cM then fK else cM) (if fK>cM then fK else cM) (0:Int) (0:Int) (0:Int)) gH) λ(aO:Int×Bool)=>bif !aO.2 then some ((0:Int),false)else bif decide (cM<fK)then bnd (elO t.Links aO.1) λ(e_1:aZ)=>some (e_1.kI,true)else bnd (elO t.Links aO.1) λ(e_2:aZ)=>some (e_2.kJ,true)
end
end Go.Proofs.YtdjeacigeegklaaGreat
namespace Go.Proofs.YtdjeacigeegklaaGreat
open Go
set_option maxRecDepth 100000
set_option linter.all false
noncomputable section
def nH(xa0:Int):Option Int:=
 jn (λ(sg:Int×Int)=>match sg with|(ak,n_1)=>jn (λ(sg:Int×Int)=>match sg with|(aO,n_2)=>jn (λ(sg:Int×Int)=>match sg with|(bT,n_3)=>bnd (ixS (⟨#[0,1,2,2,3,3,3,3,4,4,4,4,4,4,4,4,5,5,5,5,5,5,5,5,5,5,5,5,5,5,5,5,6,6,6,6,6,6,6,6,6,6,6,6,6,6,6,6,6,6,6,6,6,6,6,6,6,6,6,6,6,6,6,6,7,7,7,7,7,7,7,7,7,7,7,7,7,7,7,7,7,7,7,7,7,7,7,7,7,7,7,7,7,7,7,7,7,7,7,7,7,7,7,7,7,7,7,7,7,7,7,7,7,7,7,7,7,7,7,7,7,7,7,7,7,7,7,7,8,8,8,8,8,8,8,8,8,8,8,8,8,8,8,8,8,8,8,8,8,8,8,8,8,8,8,8,8,8,8,8,8,8,8,8,8,8,8,8,8,8,8,8,8,8,8,8,8,8,8,8,8,8,8,8,8,8,8,8,8,8,8,8,8,8,8,8,8,8,8,8,8,8,8,8,8,8,8,8,8,8,8,8,8,8,8,8,8,8,8,8,8,8,8,8,8,8,8,8,8,8,8,8,8,8,8,8,8,8,8,8,8,8,8,8,8,8,8,8,8,8,8,8,8,8,8,8]⟩:ByteArray) (IntKind.wrap .u8 bT)) λ(b_1:UInt8)=>some (w64 (n_3+(w64 (b_1.toNat:Int))))) λJ3=>bif decide (256≤aO)then J3 (Int.fdiv aO (2 ^ min (8:Int).toNat 64),w64 (n_2+8))else J3 (aO,n_2)) λJ2=>bif decide (65536≤ak)then J2 (Int.fdiv ak (2 ^ min (16:Int).toNat 64),w64 (n_1+16))else J2 (ak,n_1)) λJ1=>bif decide (4294967296≤xa0)then J1 (Int.fdiv xa0 (2 ^ min (32:Int).toNat 64),(32:Int))else J1 (xa0,(0:Int))
def pF(xa0:Int):Option Int:=
 bnd (nH xa0) λ(ak:Int)=>some ak
def fT: Option Unit:=
 whl (λ(Z1:Unit→Option _) (sg:Unit)=>match sg with|()=>some ()) ()
def gL(limit:Int):Option Unit:=
 whl (λ(Z1:Unit→Option _) (sg:Unit)=>match sg with|()=>bnd (fT) λ(ak:Unit)=>some ()) ()
def mq: Option Unit:=
 bnd (pF (0:Int)) λ(ak:Int)=>bnd (gL ak) λ(aO:Unit)=>some ()
end
end Go.Proofs.YtdjeacigeegklaaGreat
namespace Go.Proofs.YtdjeacigeegklaaGreat
open Go
set_option maxRecDepth 100000
set_option linter.all false
noncomputable section
def jq(t:List Int):Option bJ:=
 bnd (oh t (0:Int) (if(2000:Int)<(t.length:Int)then(2000:Int)else(t.length:Int))) λ(l_1:List Int)=>some (bJ.mk l_1 (0:Int))
def gz(t:bJ):Option (Int×bJ):=
 bif decide ((t.L.length:Int)≤t.At)then some ((0:Int),t)else bnd (elO t.L (w64 ((w64 (t.At+1))-(1:Int)))) λ(e_1:Int)=>some (e_1,(bJ.mk t.L (w64 (t.At+1))))
def jr(xa0:Int)(n:Int):Option Int:=
 bif decide (n<1)then some (0:Int)else chk (decide (n≠0))<|jn (λ(ak:Int)=>some ak) λJ1=>bif decide (Int.tmod xa0 n<0)then J1 (w64 ((Int.tmod xa0 n)+n))else J1 (Int.tmod xa0 n)
def cc(t:bJ)(n:Int):Option (Int×bJ):=
 bnd (gz t) λ(ak:Int×bJ)=>bnd (jr ak.1 n) λ(aO:Int)=>some (aO,ak.2)
def eo(t:bJ)(lo:Int)(hi:Int):Option (Int×bJ):=
 bnd (cc t (w64 ((w64 (hi-lo))+(1:Int)))) λ(ak:Int×bJ)=>some (w64 (lo+ak.1),ak.2)
def dS(t:bJ)(l:List Int):Option (Int×bJ):=
 bnd (cc t (l.length:Int)) λ(ak:Int×bJ)=>bnd (elO l ak.1) λ(e_1:Int)=>some (e_1,ak.2)
def eR(l:List Int)(xa1:Int):Option Bool:=
 bH l 0 (λ(j1:Int) (e1:Int) (Z1:Unit→Option _) (sg:Unit)=>match sg with|()=>bif decide (e1=xa1)then some true else Z1 ()) (λ(sg:Unit)=>match sg with|()=>some false) ()
def gn(l:List Int)(xa1:Int):Option (List Int):=
 whl (λ(Z1:Int→Option _) (k_1:Int)=>jn (λ(v_1:Bool)=>bif v_1 then Z1 (w64 (k_1+1))else jn (λ(v_2:Bool)=>bif v_2 then some l else bnd (oh l k_1 (l.length:Int)) λ(l_1:List Int)=>bnd (dX ([xa1]:List Int) l_1) λ(l_2:List Int)=>bnd (oh l (0:Int) k_1) λ(l_3:List Int)=>bnd (dX l_3 l_2) λ(l_4:List Int)=>some l_4) λJ2=>(bif decide (k_1<(l.length:Int))then bnd (elO l k_1) λ(e_2:Int)=>J2 (decide (e_2=xa1))else J2 false)) λJ1=>(bif decide (k_1<(l.length:Int))then bnd (elO l k_1) λ(e_1:Int)=>J1 (decide (e_1<xa1))else J1 false)) (0:Int)
def iY(a:List Int)(b:List Int):Option Bool:=
 bif !decide ((a.length:Int)=(b.length:Int))then some false else bH a 0 (λ(j1:Int) (e1:Int) (Z1:Unit→Option _) (sg:Unit)=>match sg with|()=>bnd (elO b (j1:Int)) λ(e_1:Int)=>bif !decide (e1=e_1)then some false else Z1 ()) (λ(sg:Unit)=>match sg with|()=>some true) ()
end
end Go.Proofs.YtdjeacigeegklaaGreat
namespace Go.Proofs.YtdjeacigeegklaaGreat
open Go
set_option maxRecDepth 100000
set_option linter.all false
noncomputable section
def nA(n:Int):Option Bool:=
 some ((decide (n=8))||((decide (n=16))||((decide (n=32))||(decide (n=64)))))
def jH(n:Int):Option Bool:=
 some ((decide (1≤n))&&(decide (n≤99)))
def lM(t:af)(n:Int):Option (aI×Int):=
 bnd (kf t) λ(ak:Int)=>bif !decide (ak=0)then some ((aI.mk (0:Int) []),(1:Int))else bnd (nA n) λ(aO:Bool)=>bif !aO then some ((aI.mk (0:Int) []),(2:Int))else bH t.aF 0 (λ(j1:Int) (e1:aP) (Z1:(List az)→Option _) (m_1:(List az))=>bnd (dX m_1 ([(az.mk (m_1.length:Int) e1.ID (3:Int) e1.ID)]:List az)) λ(l_1:List az)=>bnd (iW t e1.ID) λ(bT:(List Int))=>bH bT 0 (λ(j2:Int) (e2:Int) (Z2:(List az)→Option _) (m_2:(List az))=>bnd (dX m_2 ([(az.mk (m_2.length:Int) e1.ID (1:Int) e2)]:List az)) λ(l_2:List az)=>Z2 l_2) (λ(m_2:(List az))=>Z1 m_2) l_1) (λ(m_1:(List az))=>bif decide (n<(m_1.length:Int))then some ((aI.mk (0:Int) []),(3:Int))else some ((aI.mk n m_1),(0:Int))) []
def jt(t:cE):Option Int:=
 bnd (jH t.b9) λ(ak:Bool)=>bH t.Links 0 (λ(j1:Int) (e1:aX) (Z1:Bool→Option _) (uH:Bool)=>(bif uH then bnd (jH e1.bh) λ(aO:Bool)=>(bif aO then bnd (jH e1.To) λ(bT:Bool)=>Z1 bT else Z1 false)else Z1 false)) (λ(uH:Bool)=>bif !uH then some (2:Int)else bH (List.drop 1 t.Links) 1 (λ(j2:Int) (e2:aX) (Z2:Unit→Option _) (sg:Unit)=>match sg with|()=>bnd (elO t.Links (w64 ((j2:Int)-(1:Int)))) λ(e_1:aX)=>bif ((decide (e2.bh<e_1.bh))||((decide (e_1.bh=e2.bh))&&(decide (e2.To≤e_1.To))))then some (25:Int)else Z2 ()) (λ(sg:Unit)=>match sg with|()=>bH t.Links 0 (λ(j3:Int) (e3:aX) (Z3:Unit→Option _) (sg:Unit)=>match sg with|()=>bnd (oh t.Links (0:Int) (j3:Int)) λ(l_1:List aX)=>bH l_1 0 (λ(j4:Int) (e4:aX) (Z4:Unit→Option _) (sg:Unit)=>match sg with|()=>bif decide (e4.To=e3.To)then some (8:Int)else Z4 ()) (λ(sg:Unit)=>match sg with|()=>bif decide (e3.To=t.b9)then some (8:Int)else Z3 ()) ()) (λ(sg:Unit)=>match sg with|()=>whl (λ(Z5:((List Int)×Bool)→Option _) (sg:(List Int)×Bool)=>match sg with|(mX,oF)=>bif oF then bH t.Links 0 (λ(j6:Int) (e6:aX) (Z6:((List Int)×Bool)→Option _) (sg:(List Int)×Bool)=>match sg with|(gr,ja)=>jn (λ(sg:(List Int)×Bool)=>match sg with|(oG,oH)=>Z6 (oG,oH)) λJ1=>jn (λ(v_1:Bool)=>bif v_1 then bnd (dX gr ([e6.To]:List Int)) λ(l_2:List Int)=>J1 (l_2,true)else J1 (gr,ja)) λJ2=>bnd (eR gr e6.bh) λ(cI:Bool)=>(bif cI then bnd (eR gr e6.To) λ(dY:Bool)=>J2 (!dY)else J2 false)) (λ(sg:(List Int)×Bool)=>match sg with|(gr,ja)=>Z5 (gr,ja)) (mX,false)else bH t.Links 0 (λ(j7:Int) (e7:aX) (Z7:Unit→Option _) (sg:Unit)=>match sg with|()=>bnd (eR mX e7.bh) λ(bD:Bool)=>bif !bD then some (10:Int)else Z7 ()) (λ(sg:Unit)=>match sg with|()=>some (0:Int)) ()) (([t.b9]:List Int),true)) ()) ()) ak
def kQ(t:cE):Option (List Int):=
 bnd (jt t) λ(ak:Int)=>bif !decide (ak=0)then some []else bH t.Links 0 (λ(j1:Int) (e1:aX) (Z1:(List Int)→Option _) (dw:(List Int))=>bnd (gn dw e1.To) λ(aO:(List Int))=>Z1 aO) (λ(dw:(List Int))=>some dw) ([t.b9]:List Int)
def jP(a:cE)(b:cE):Option Bool:=
 bif ((!decide (a.b9=b.b9))||(!decide ((a.Links.length:Int)=(b.Links.length:Int))))then some false else bH a.Links 0 (λ(j1:Int) (e1:aX) (Z1:Unit→Option _) (sg:Unit)=>match sg with|()=>bnd (elO b.Links (j1:Int)) λ(e_1:aX)=>bif !(vV e1 e_1)then some false else Z1 ()) (λ(sg:Unit)=>match sg with|()=>some true) ()
end
end Go.Proofs.YtdjeacigeegklaaGreat
namespace Go.Proofs.YtdjeacigeegklaaGreat
open Go
set_option maxRecDepth 100000
set_option linter.all false
noncomputable section
def lN(t:bJ)(most:Int):Option (af×bJ):=
 bnd (eo t (1:Int) most) λ(ak:Int×bJ)=>chk (decide (ak.1≤9223372036854775807))<|l6 (ak.1-0).toNat (0:Int) (λ(j1:Int) (Z1:(Int×(List aP)×(List Int)×Int)→Option _) (sg:Int×(List aP)×(List Int)×Int)=>match sg with|(tq,m_1,m_2,m_3)=>bnd (dS (bJ.mk m_2 m_3) ([(1:Int),(1:Int),(1:Int),(2:Int),(5:Int)]:List Int)) λ(aO:Int×bJ)=>bnd (dX m_1 ([(aP.mk (w64 (tq+aO.1)) true)]:List aP)) λ(l_1:List aP)=>Z1 (w64 (tq+aO.1),l_1,aO.2.L,aO.2.At)) (λ(j1:Int) (sg:Int×(List aP)×(List Int)×Int)=>match sg with|(tq,m_1,m_2,m_3)=>chk (decide (0<ak.1)&&decide (ak.1≤4294967296))<|chk (decide (((List.replicate ak.1.toNat []:List (List Bool)).length:Int)≤9223372036854775807))<|l6 (((List.replicate ak.1.toNat []:List (List Bool)).length:Int)-(0:Int)).toNat (0:Int) (λ(j2:Int) (Z2:(List (List Bool))→Option _) (m_4:(List (List Bool)))=>chk (decide (0≤ak.1)&&decide (ak.1≤4294967296))<|bnd (elO m_4 (j2:Int)) λ(e_1:List Bool)=>Z2 (List.set m_4 (j2:Int).toNat (List.replicate (ak.1).toNat false))) (λ(j2:Int) (m_4:(List (List Bool)))=>chk (decide (ak.1≤9223372036854775807))<|l6 (ak.1-1).toNat (1:Int) (λ(j3:Int) (Z3:((List Int)×Int×(List (List Bool)))→Option _) (sg:(List Int)×Int×(List (List Bool)))=>match sg with|(m_5,m_6,m_7)=>jn (λ(sg:(List (List Bool))×(List Int)×Int)=>match sg with|(m_8,m_9,mY)=>Z3 (m_9,mY,m_8)) λJ1=>bnd (cc (bJ.mk m_5 m_6) (12:Int)) λ(bT:Int×bJ)=>bif decide (bT.1<11)then bnd (cc bT.2 (j3:Int)) λ(cI:Int×bJ)=>bnd (elO m_7 cI.1) λ(e_2:List Bool)=>bnd (elO e_2 (j3:Int)) λ(e_3:Bool)=>bnd (vG e_2 (j3:Int) true) λ(l_2:List Bool)=>J1 ((List.set m_7 cI.1.toNat l_2),cI.2.L,cI.2.At)else J1 (m_7,bT.2.L,bT.2.At)) (λ(j3:Int) (sg:(List Int)×Int×(List (List Bool)))=>match sg with|(m_5,m_6,m_7)=>bnd (cc (bJ.mk m_5 m_6) (w64 (ak.1+2))) λ(dY:Int×bJ)=>whl (λ(Z4:(Int×(List Int)×Int×(List (List Bool)))→Option _) (sg:Int×(List Int)×Int×(List (List Bool)))=>match sg with|(i_1,gE,zy,eU)=>bif decide (0<i_1)then jn (λ(sg:(List (List Bool))×(List Int)×Int)=>match sg with|(zz,zA,zC)=>Z4 (w64 (i_1-1),zA,zC,zz)) λJ2=>bnd (cc (bJ.mk gE zy) ak.1) λ(bD:Int×bJ)=>bnd (cc bD.2 ak.1) λ(dA:Int×bJ)=>bif !decide (bD.1=dA.1)then bnd (elO eU (if dA.1<bD.1 then dA.1 else bD.1)) λ(e_4:List Bool)=>bnd (elO e_4 (if dA.1>bD.1 then dA.1 else bD.1)) λ(e_5:Bool)=>bnd (vG e_4 (if dA.1>bD.1 then dA.1 else bD.1) true) λ(l_3:List Bool)=>J2 ((List.set eU (if dA.1<bD.1 then dA.1 else bD.1).toNat l_3),dA.2.L,dA.2.At)else J2 (eU,dA.2.L,dA.2.At)else bnd (cc (bJ.mk gE zy) (3:Int)) λ(eS:Int×bJ)=>chk (decide ((eU.length:Int)≤9223372036854775807))<|l6 ((eU.length:Int)-(0:Int)).toNat (0:Int) (λ(j5:Int) (Z5:((List aZ)×(List Int)×Int)→Option _) (sg:(List aZ)×(List Int)×Int)=>match sg with|(v8,we,wg)=>chk (decide ((eU.length:Int)≤9223372036854775807))<|l6 ((eU.length:Int)-(0:Int)).toNat (0:Int) (λ(j6:Int) (Z6:((List aZ)×(List Int)×Int)→Option _) (sg:(List aZ)×(List Int)×Int)=>match sg with|(qa,sk,sr)=>jn (λ(sg:(List Int)×Int×(List aZ))=>match sg with|(zD,zF,zG)=>Z6 (zG,zD,zF)) λJ3=>bnd (elO eU (j5:Int)) λ(e_6:List Bool)=>bnd (elO e_6 (j6:Int)) λ(e_7:Bool)=>bif !e_7 then J3 (sk,sr,qa)else bnd (elO m_1 (j5:Int)) λ(e_8:aP)=>bnd (elO m_1 (j6:Int)) λ(e_9:aP)=>bnd (dS (bJ.mk sk sr) ([(0:Int),(1:Int),(2:Int),(3:Int),(5:Int),(10:Int),(1000:Int)]:List Int)) λ(lP:Int×bJ)=>jn (λ(sg:(List Int)×Int×Int×Int)=>match sg with|(zH,zJ,abD,abE)=>bnd (dX qa ([(aZ.mk e_8.ID e_9.ID abD abE lP.1)]:List aZ)) λ(l_4:List aZ)=>J3 (zH,zJ,l_4)) λJ4=>bif !(decide (eS.1=0))then bnd (eo lP.2 (1:Int) (20:Int)) λ(bM:Int×bJ)=>bnd (dS bM.2 ([(1:Int),(2:Int),(3:Int),bM.1,(1000:Int)]:List Int)) λ(lz:Int×bJ)=>bnd (eo lz.2 (1:Int) (20:Int)) λ(qj:Int×bJ)=>bnd (dS qj.2 ([lz.1,lz.1,qj.1]:List Int)) λ(nY:Int×bJ)=>J4 (nY.2.L,nY.2.At,lz.1,nY.1)else J4 (lP.2.L,lP.2.At,(1:Int),(1:Int))) (λ(j6:Int) (sg:(List aZ)×(List Int)×Int)=>match sg with|(qa,sk,sr)=>Z5 (qa,sk,sr)) (v8,we,wg)) (λ(j5:Int) (sg:(List aZ)×(List Int)×Int)=>match sg with|(v8,we,wg)=>some ((af.mk m_1 v8),(bJ.mk we wg))) ([],eS.2.L,eS.2.At)) (dY.1,dY.2.L,dY.2.At,m_7)) (m_2,m_3,m_4)) (List.replicate ak.1.toNat []:List (List Bool))) ((0:Int),[],ak.2.L,ak.2.At)
def mZ(l:List aX)(ha1:aX):Option (List aX):=
 whl (λ(Z1:Int→Option _) (k_1:Int)=>jn (λ(v_1:Bool)=>bif v_1 then Z1 (w64 (k_1+1))else bnd (oh l k_1 (l.length:Int)) λ(l_1:List aX)=>bnd (dX ([ha1]:List aX) l_1) λ(l_2:List aX)=>bnd (oh l (0:Int) k_1) λ(l_3:List aX)=>bnd (dX l_3 l_2) λ(l_4:List aX)=>some l_4) λJ1=>(bif decide (k_1<(l.length:Int))then bnd (elO l k_1) λ(e_1:aX)=>(bif decide (e_1.bh<ha1.bh)then J1 true else(bif decide (e_1.bh=ha1.bh)then J1 (decide (e_1.To<ha1.To))else J1 false))else J1 false)) (0:Int)
def pH(t:bJ)(p:af)(root:Int):Option (cE×bJ):=
 bnd (cc t (w64 ((w64 ((2:Int)*(p.Links.length:Int)))+(1:Int)))) λ(ak:Int×bJ)=>whl (λ(Z1:((List Int)×Int×(List aX)×(List Int)×Int)→Option _) (sg:(List Int)×Int×(List aX)×(List Int)×Int)=>match sg with|(nZ,i_1,m_1,m_2,m_3)=>bif decide (0<i_1)then jn (λ(sg:(List Int)×(List Int)×Int×(List aX))=>match sg with|(wX,m_4,m_5,m_6)=>Z1 (wX,w64 (i_1-1),m_6,m_4,m_5)) λJ1=>bnd (cc (bJ.mk m_2 m_3) (p.Links.length:Int)) λ(aO:Int×bJ)=>bnd (elO p.Links aO.1) λ(e_1:aZ)=>jn (λ(sg:Int×Int)=>match sg with|(m_7,m_8)=>jn (λ(v_1:Bool)=>bif v_1 then bnd (dX nZ ([m_8]:List Int)) λ(l_1:List Int)=>bnd (mZ m_1 (aX.mk m_7 m_8)) λ(bD:(List aX))=>J1 (l_1,aO.2.L,aO.2.At,bD)else J1 (nZ,aO.2.L,aO.2.At,m_1)) λJ3=>bnd (eR nZ m_7) λ(cI:Bool)=>(bif cI then bnd (eR nZ m_8) λ(dY:Bool)=>J3 (!dY)else J3 false)) λJ2=>bnd (eR nZ e_1.B) λ(bT:Bool)=>bif bT then J2 (e_1.B,e_1.A)else J2 (e_1.A,e_1.B)else some ((cE.mk root m_1),(bJ.mk m_2 m_3))) (([root]:List Int),ak.1,[],ak.2.L,ak.2.At)
end
end Go.Proofs.YtdjeacigeegklaaGreat
namespace Go.Proofs.YtdjeacigeegklaaGreat
open Go
set_option maxRecDepth 100000
set_option linter.all false
noncomputable section
def jb(xa0:Int):Option Bool:=
 some (!decide (xa0=xa0))
def lQ(xa0:Int)(y:Int):Option Bool:=
 bnd (fS xa0) λ(ak:Bool)=>(bif ak then bnd (fS y) λ(aO:Bool)=>(bif !aO then some true else some (decide (xa0<y)))else some (decide (xa0<y)))
def jc(vals:List Int):Option Int:=
 bH vals 0 (λ(j1:Int) (e1:Int) (Z1:Unit→Option _) (sg:Unit)=>match sg with|()=>bif !decide (e1=0)then some e1 else Z1 ()) (λ(sg:Unit)=>match sg with|()=>some (0:Int)) ()
def eG(xa0:List Int)(target:Int):Option (Int×Bool):=
 whl (λ(Z1:(Int×Int)→Option _) (sg:Int×Int)=>match sg with|(i_1,j_1)=>bif decide (i_1<j_1)then bnd (elO xa0 (w64 (Int.fdiv (IntKind.wrap .u64 (w64 (i_1+j_1))) (2 ^ min (1:Int).toNat 64)))) λ(e_1:Int)=>bnd (lQ e_1 target) λ(ak:Bool)=>bif ak then Z1 (w64 ((w64 (Int.fdiv (IntKind.wrap .u64 (w64 (i_1+j_1))) (2 ^ min (1:Int).toNat 64)))+(1:Int)),j_1)else Z1 (i_1,w64 (Int.fdiv (IntKind.wrap .u64 (w64 (i_1+j_1))) (2 ^ min (1:Int).toNat 64)))else(bif decide (i_1<(xa0.length:Int))then bnd (elO xa0 i_1) λ(e_2:Int)=>(bif decide (e_2=target)then some (i_1,true)else bnd (jb e_2) λ(aO:Bool)=>(bif aO then bnd (jb target) λ(bT:Bool)=>some (i_1,bT)else some (i_1,false)))else some (i_1,false))) ((0:Int),(xa0.length:Int))
def gd(n:Int):Option Bool:=
 some ((decide (n=8))||((decide (n=16))||((decide (n=32))||(decide (n=64)))))
def n9(length:Int):Option Int:=
 bnd (gd length) λ(ak:Bool)=>bif !ak then some (0:Int)else chk (decide (0≤w64 ((64:Int)-length)))<|some (Int.fdiv (18446744073709551615:Int) (2 ^ min (w64 ((64:Int)-length)).toNat 64))
def lR(b:Int)(length:Int):Option Bool:=
 bnd (gd length) λ(ak:Bool)=>(bif ak then bnd (n9 length) λ(aO:Int)=>some (decide (bX .andNot .u64 b aO=0))else some false)
def eM(n:Int):Option Bool:=
 some ((decide (1≤n))&&(decide (n≤99)))
def iF(a:az):Option aD:=
 some (aD.mk a.aR a.Kind a.To)
def fL(e:aI):Option Int:=
 bnd (gd e.Length) λ(ak:Bool)=>bif !ak then some (2:Int)else bH e.List 0 (λ(j1:Int) (e1:az) (Z1:Unit→Option _) (sg:Unit)=>match sg with|()=>jn (λ(v_1:Bool)=>bif v_1 then some (2:Int)else Z1 ()) λJ1=>(bif decide (e1.Bit<0)then J1 true else(bif decide (e.Length≤e1.Bit)then J1 true else bnd (eM e1.aR) λ(aO:Bool)=>(bif !aO then J1 true else bnd (eM e1.To) λ(bT:Bool)=>J1 (!bT))))) (λ(sg:Unit)=>match sg with|()=>bH e.List 0 (λ(j2:Int) (e2:az) (Z2:Unit→Option _) (sg:Unit)=>match sg with|()=>bif ((decide (e2.Kind<1))||(decide (3<e2.Kind)))then some (1:Int)else Z2 ()) (λ(sg:Unit)=>match sg with|()=>bH e.List 0 (λ(j3:Int) (e3:az) (Z3:Unit→Option _) (sg:Unit)=>match sg with|()=>bif !((decide (e3.To=e3.aR))==(decide (e3.Kind=3)))then some (8:Int)else Z3 ()) (λ(sg:Unit)=>match sg with|()=>bH (List.drop 1 e.List) 1 (λ(j4:Int) (e4:az) (Z4:Unit→Option _) (sg:Unit)=>match sg with|()=>bnd (elO e.List (w64 ((j4:Int)-(1:Int)))) λ(e_1:az)=>bif decide (e4.Bit≤e_1.Bit)then some (25:Int)else Z4 ()) (λ(sg:Unit)=>match sg with|()=>bH e.List 0 (λ(j5:Int) (e5:az) (Z5:(List (aD×Bool))→Option _) (m_1:(List (aD×Bool)))=>bnd (iF e5) λ(cI:aD)=>bif ((iC cn m_1 cI).getD false)then some (5:Int)else bnd (iF e5) λ(dY:aD)=>Z5 (nG cn m_1 dY true)) (λ(m_1:(List (aD×Bool)))=>some (0:Int)) []) ()) ()) ()) ()
def kR(e:aI)(cg:Int):Option Int:=
 jn (λ(b_1:Int)=>some b_1) λJ1=>bnd (fL e) λ(ak:Int)=>bif decide (ak=0)then bH e.List 0 (λ(j1:Int) (e1:az) (Z1:Int→Option _) (b_2:Int)=>jn (λ(b_3:Int)=>Z1 b_3) λJ2=>bif decide (e1.aR=cg)then chk (decide (0≤e1.Bit))<|J2 (bX .or .u64 b_2 (IntKind.wrap .u64 ((1:Int)*2 ^ min e1.Bit.toNat 64)))else J2 b_2) (λ(b_2:Int)=>J1 b_2) (0:Int)else J1 (0:Int)
def kS(a:az)(c_0:aD):Option Bool:=
 bnd (iF a) λ(ak:aD)=>some (cn ak c_0)
def jQ(e:aI)(xa1:aD):Option (Int×Bool):=
 bnd (dB e.List (λ(y0:az)=>kS y0 xa1)) λ(ak:Int)=>bif decide (ak<0)then some ((0:Int),false)else bnd (elO e.List ak) λ(e_1:az)=>some (e_1.Bit,true)
def iy(t:cE):Option (List (Int×Bool)):=
 whl (λ(Z1:(Bool×(List (Int×Bool)))→Option _) (sg:Bool×(List (Int×Bool)))=>match sg with|(ry,m_1)=>bif ry then bH t.Links 0 (λ(j2:Int) (e2:aX) (Z2:(Bool×(List (Int×Bool)))→Option _) (sg:Bool×(List (Int×Bool)))=>match sg with|(lS,m_2)=>jn (λ(sg:Bool×(List (Int×Bool)))=>match sg with|(rz,m_3)=>Z2 (rz,m_3)) λJ1=>bif (((aA m_2 e2.bh).getD false)&&(!((aA m_2 e2.To).getD false)))then J1 (true,bq m_2 e2.To true)else J1 (lS,m_2)) (λ(sg:Bool×(List (Int×Bool)))=>match sg with|(lS,m_2)=>Z1 (lS,m_2)) (false,m_1)else some m_1) (true,bq [] t.b9 true)
def fV(t:cE):Option Int:=
 bnd (eM t.b9) λ(ak:Bool)=>bif !ak then some (2:Int)else bH t.Links 0 (λ(j1:Int) (e1:aX) (Z1:Unit→Option _) (sg:Unit)=>match sg with|()=>jn (λ(v_1:Bool)=>bif v_1 then some (2:Int)else Z1 ()) λJ1=>bnd (eM e1.bh) λ(aO:Bool)=>(bif !aO then J1 true else bnd (eM e1.To) λ(bT:Bool)=>J1 (!bT))) (λ(sg:Unit)=>match sg with|()=>bH (List.drop 1 t.Links) 1 (λ(j2:Int) (e2:aX) (Z2:Unit→Option _) (sg:Unit)=>match sg with|()=>bnd (elO t.Links (w64 ((j2:Int)-(1:Int)))) λ(e_1:aX)=>bnd (dL e_1.bh e2.bh) λ(cI:Int)=>bnd (dL e_1.To e2.To) λ(dY:Int)=>bnd (jO ([cI,dY]:List Int)) λ(bD:Int)=>bif decide (0≤bD)then some (25:Int)else Z2 ()) (λ(sg:Unit)=>match sg with|()=>bH t.Links 0 (λ(j3:Int) (e3:aX) (Z3:(List (Int×Bool))→Option _) (m_1:(List (Int×Bool)))=>bif ((aA m_1 e3.To).getD false)then some (8:Int)else Z3 (bq m_1 e3.To true)) (λ(m_1:(List (Int×Bool)))=>bnd (iy t) λ(dA:(List (Int×Bool)))=>bH t.Links 0 (λ(j4:Int) (e4:aX) (Z4:Unit→Option _) (sg:Unit)=>match sg with|()=>bif !((aA dA e4.bh).getD false)then some (10:Int)else Z4 ()) (λ(sg:Unit)=>match sg with|()=>some (0:Int)) ()) (bq [] t.b9 true)) ()) ()
def iz(t:cE):Option (List Int):=
 bnd (fV t) λ(ak:Int)=>bif !decide (ak=0)then some []else bH t.Links 0 (λ(j1:Int) (e1:aX) (Z1:(List Int)→Option _) (dw:(List Int))=>bnd (dX dw ([e1.To]:List Int)) λ(l_1:List Int)=>Z1 l_1) (λ(dw:(List Int))=>chk (decide (dw.length<4611686018427387904))<|some (iL dw)) ([t.b9]:List Int)
def jR(e:aI)(t:cE)(receivers:List Int):Option (Int×Int):=
 bnd (fL e) λ(ak:Int)=>bnd (fV t) λ(aO:Int)=>bnd (jc ([ak,aO]:List Int)) λ(bT:Int)=>bif !decide (bT=0)then some ((0:Int),bT)else bH (List.drop 1 receivers) 1 (λ(j1:Int) (e1:Int) (Z1:Unit→Option _) (sg:Unit)=>match sg with|()=>bnd (elO receivers (w64 ((j1:Int)-(1:Int)))) λ(e_1:Int)=>bif decide (e1≤e_1)then some ((0:Int),(25:Int))else Z1 ()) (λ(sg:Unit)=>match sg with|()=>bnd (iz t) λ(cI:(List Int))=>bH receivers 0 (λ(j2:Int) (e2:Int) (Z2:(List aD)→Option _) (nc:(List aD))=>bnd (eG cI e2) λ(dY:Int×Bool)=>bif !dY.2 then some ((0:Int),(8:Int))else bnd (dX nc ([(aD.mk e2 (3:Int) e2)]:List aD)) λ(l_1:List aD)=>Z2 l_1) (λ(nc:(List aD))=>bH t.Links 0 (λ(j3:Int) (e3:aX) (Z3:(List aD)→Option _) (gF:(List aD))=>bnd (dX gF ([(aD.mk e3.bh (1:Int) e3.To)]:List aD)) λ(l_2:List aD)=>Z3 l_2) (λ(gF:(List aD))=>bH gF 0 (λ(j4:Int) (e4:aD) (Z4:Int→Option _) (b_1:Int)=>bnd (jQ e e4) λ(bD:Int×Bool)=>bif !bD.2 then some ((0:Int),(4:Int))else chk (decide (0≤bD.1))<|Z4 (bX .or .u64 b_1 (IntKind.wrap .u64 ((1:Int)*2 ^ min bD.1.toNat 64)))) (λ(b_1:Int)=>some (b_1,(0:Int))) (0:Int)) nc) []) ()
end
end Go.Proofs.YtdjeacigeegklaaGreat
namespace Go.Proofs.YtdjeacigeegklaaGreat
open Go
set_option maxRecDepth 100000
set_option linter.all false
noncomputable section
def lB(a:ay)(b:ay):Option Int:=
 bnd (dL a.to_ b.to_) λ(ak:Int)=>some ak
end
end Go.Proofs.YtdjeacigeegklaaGreat
namespace Go.Proofs.YtdjeacigeegklaaGreat
open Go
set_option maxRecDepth 100000
set_option linter.all false
noncomputable section
def iG(t:af):Option Bool:=
 bnd (gC t) λ(ak:Int)=>some (decide (ak=0))
def kT(t:af):Option eE:=
 bH t.aF 0 (λ(j1:Int) (e1:aP) (Z1:((List (Int×List ay))×(List (Int×List ay)))→Option _) (sg:(List (Int×List ay))×(List (Int×List ay)))=>match sg with|(m_1,m_2)=>Z1 (bq m_1 e1.ID [],bq m_2 e1.ID [])) (λ(sg:(List (Int×List ay))×(List (Int×List ay)))=>match sg with|(m_1,m_2)=>bH t.Links 0 (λ(j2:Int) (e2:aZ) (Z2:((List (Int×List ay))×(List (Int×List ay)))→Option _) (sg:(List (Int×List ay))×(List (Int×List ay)))=>match sg with|(m_3,m_4)=>bnd (dX ((aA m_3 e2.A).getD []) ([(ay.mk e2.B e2.kI)]:List ay)) λ(l_1:List ay)=>bnd (dX ((aA (bq m_3 e2.A l_1) e2.B).getD []) ([(ay.mk e2.A e2.kJ)]:List ay)) λ(l_2:List ay)=>bnd (dX ((aA m_4 e2.B).getD []) ([(ay.mk e2.A e2.kI)]:List ay)) λ(l_3:List ay)=>bnd (dX ((aA (bq m_4 e2.B l_3) e2.A).getD []) ([(ay.mk e2.B e2.kJ)]:List ay)) λ(l_4:List ay)=>Z2 (bq (bq m_3 e2.A l_1) e2.B l_2,bq (bq m_4 e2.B l_3) e2.A l_4)) (λ(sg:(List (Int×List ay))×(List (Int×List ay)))=>match sg with|(m_3,m_4)=>bnd (qo m_3 (λ(n_1:Int) (v_1:List ay) (m_5:(List (Int×List ay)))=>chk (aA m_5 n_1).isSome<|bnd (pg (jM [λx:ay=>x.to_]) ((aA m_5 n_1).getD [])) λ(l_5:List ay)=>some (bq m_5 n_1 l_5)) m_3) λ(R1:(List (Int×List ay)))=>some (eE.mk R1 m_4)) (m_1,m_2)) (([]:List (Int×List ay)),([]:List (Int×List ay)))
def eN(links:List (Int×List ay))(cM:Int):Option (List (Int×Int)):=
 bif !((aA links cM).isSome)then some []else jn (λ(sg:(List (Int×Int))×(List (Int×Int)))=>match sg with|(m_1,m_2)=>some m_1) λJ1=>whl (λ(Z1:((List (Int×Int))×(List (Int×Int)))→Option _) (sg:(List (Int×Int))×(List (Int×Int)))=>match sg with|(m_3,m_4)=>bif decide (0<(m_4.length:Int))then bnd (qo m_4 (λ(n_1:Int) (v_1:Int) (dg:Int)=>bif ((decide (dg=0))||((decide (v_1<((aA m_4 dg).getD (0:Int))))||((decide (v_1=((aA m_4 dg).getD (0:Int))))&&(decide (n_1<dg)))))then some n_1 else some dg) (0:Int)) λ(R1:Int)=>bif decide (((bq m_3 R1 ((aA m_4 R1).getD (0:Int))).length:Int)=(links.length:Int))then J1 (bq m_3 R1 ((aA m_4 R1).getD (0:Int)),mH m_4 R1)else bH ((aA links R1).getD []) 0 (λ(j2:Int) (e2:ay) (Z2:(List (Int×Int))→Option _) (m_5:(List (Int×Int)))=>jn (λ(m_6:(List (Int×Int)))=>Z2 m_6) λJ2=>bif (aA (bq m_3 R1 ((aA m_4 R1).getD (0:Int))) e2.to_).isSome then J2 m_5 else bif ((!((aA m_5 e2.to_).isSome))||(decide (w64 (((aA m_4 R1).getD (0:Int))+e2.fh)<((aA m_5 e2.to_).getD (0:Int)))))then J2 (bq m_5 e2.to_ (w64 (((aA m_4 R1).getD (0:Int))+e2.fh)))else J2 m_5) (λ(m_5:(List (Int×Int)))=>Z1 (bq m_3 R1 ((aA m_4 R1).getD (0:Int)),m_5)) (mH m_4 R1)else J1 (m_3,m_4)) ([],bq [] cM (0:Int))
def gJ(g:eE)(eO:List (Int×Int))(ez:Int):Option (List Int):=
 bif !((aA eO ez).isSome)then some []else bH ((aA g.kZ ez).getD []) 0 (λ(j1:Int) (e1:ay) (Z1:(List Int)→Option _) (dw:(List Int))=>jn (λ(ny:(List Int))=>Z1 ny) λJ1=>bif (((aA eO e1.to_).isSome)&&(decide (w64 (e1.fh+((aA eO e1.to_).getD (0:Int)))=((aA eO ez).getD (0:Int)))))then bnd (dX dw ([e1.to_]:List Int)) λ(l_1:List Int)=>J1 l_1 else J1 dw) (λ(dw:(List Int))=>some dw) []
def jS(t:af)(cM:Int)(fK:Int):Option (List Int):=
 jn (λ(v_1:Bool)=>bif v_1 then some []else bnd (kT t) λ(aO:eE)=>bnd (eN aO.in_ fK) λ(bT:(List (Int×Int)))=>whl (λ(Z1:((List Int)×Int)→Option _) (sg:(List Int)×Int)=>match sg with|(dw,uK)=>bif !decide (uK=fK)then bnd (gJ aO bT uK) λ(cI:(List Int))=>bif decide ((cI.length:Int)=(0:Int))then some []else bnd (elO cI (0:Int)) λ(e_1:Int)=>bnd (dX dw ([e_1]:List Int)) λ(l_1:List Int)=>bnd (elO l_1 (w64 ((l_1.length:Int)-(1:Int)))) λ(e_2:Int)=>Z1 (l_1,e_2)else some dw) ([],cM)) λJ1=>bnd (iG t) λ(ak:Bool)=>(bif !ak then J1 true else J1 (decide (cM=fK)))
end
end Go.Proofs.YtdjeacigeegklaaGreat
namespace Go.Proofs.YtdjeacigeegklaaGreat
open Go
set_option maxRecDepth 100000
set_option linter.all false
noncomputable section
def iN(n:Int)(most:Int):Option Bool:=
 some ((decide (0≤n))&&(decide (n≤most)))
def iH(p:aK):Option Bool:=
 (bif decide (1≤p.Mode)then(bif decide (p.Mode≤3)then bnd (iN p.cL (7:Int)) λ(ak:Bool)=>(bif ak then bnd (iN p.Set (31:Int)) λ(aO:Bool)=>(bif aO then bnd (lR p.Bits p.Length) λ(bT:Bool)=>(bif bT then bnd (iN p.TTL (63:Int)) λ(cI:Bool)=>(bif cI then bnd (iN p.dG (1023:Int)) λ(dY:Bool)=>(bif dY then bnd (iN p.dH (256:Int)) λ(bD:Bool)=>(bif bD then bnd (iN p.fk (7:Int)) λ(dA:Bool)=>(bif dA then some (decide ((p.cv.size:Int)≤(64:Int)))else some false)else some false)else some false)else some false)else some false)else some false)else some false)else some false)else some false)
def kg(p:aK)(bit:Int):Option aK:=
 jn (λ(v_1:Bool)=>bif v_1 then some (aK.mk (0:Int) (0:Int) (0:Int) (0:Int) (0:Int) (0:Int) (0:Int) (0:Int) (0:Int) (⟨#[]⟩:ByteArray))else chk (decide (0≤bit))<|some (aK.mk p.Mode p.cL p.Set p.Length p.TTL p.dG p.dH p.fk (IntKind.wrap .u64 ((1:Int)*2 ^ min bit.toNat 64)) p.cv)) λJ1=>bnd (iH p) λ(ak:Bool)=>(bif !ak then J1 true else(bif decide (bit<0)then J1 true else(bif decide (63<bit)then J1 true else chk (decide (0≤bit))<|J1 (decide (bX .and .u64 (Int.fdiv p.Bits (2 ^ min bit.toNat 64)) (1:Int)=(0:Int))))))
def jd(e:aI)(p:aK):Option Int:=
 bif !decide (p.Mode=2)then some (7:Int)else bif !decide (p.Length=e.Length)then some (8:Int)else some (0:Int)
def iA(e:aI)(cg:Int)(p:aK):Option (jk×(List aW)):=
 bnd (kR e cg) λ(ak:Int)=>bH e.List 0 (λ(j1:Int) (e1:az) (Z1:((List aW)×Int×Int×(List iM))→Option _) (sg:(List aW)×Int×Int×(List iM))=>match sg with|(gu,m_1,m_2,m_3)=>jn (λ(sg:(List aW)×Int×Int×(List iM))=>match sg with|(rB,m_4,m_5,m_6)=>Z1 (rB,m_4,m_5,m_6)) λJ1=>chk (decide (0≤e1.Bit))<|bif ((!decide (e1.aR=cg))||(decide (bX .and .u64 p.Bits (IntKind.wrap .u64 ((1:Int)*2 ^ min e1.Bit.toNat 64))=(0:Int))))then J1 (gu,m_1,m_2,m_3)else bif decide (e1.Kind=3)then J1 (gu,bX .or .u64 m_1 (IntKind.wrap .u64 ((1:Int)*2 ^ min e1.Bit.toNat 64)),m_2,m_3)else bif decide (p.TTL=0)then J1 (gu,m_1,bX .or .u64 m_2 (IntKind.wrap .u64 ((1:Int)*2 ^ min e1.Bit.toNat 64)),m_3)else bif !decide (bX .andNot .u64 p.Bits ak=0)then jn (λ(m_7:(List Int))=>bnd (dX m_3 ([(iM.mk e1.To (kK.mk m_7 (aK.mk p.Mode p.cL p.Set p.Length (w64 (p.TTL-1)) p.dG p.dH p.fk (bX .andNot .u64 p.Bits ak) p.cv)))]:List iM)) λ(l_1:List iM)=>bnd (dX gu ([(aW.mk e1 (iM.mk e1.To (kK.mk m_7 (aK.mk p.Mode p.cL p.Set p.Length (w64 (p.TTL-1)) p.dG p.dH p.fk (bX .andNot .u64 p.Bits ak) p.cv))))]:List aW)) λ(l_2:List aW)=>J1 (l_2,m_1,m_2,l_1)) λJ2=>bif decide (e1.Kind=2)then J2 ([e1.To]:List Int)else J2 []else J1 (gu,m_1,m_2,m_3)) (λ(sg:(List aW)×Int×Int×(List iM))=>match sg with|(gu,m_1,m_2,m_3)=>some ((jk.mk m_1 m_2 m_3),gu)) ([],(0:Int),(0:Int),[])
def gG(t:af)(cg:Int)(a:az):Option ((List Int)×Bool):=
 bif decide (a.Kind=2)then bnd (jS t cg a.To) λ(ak:(List Int))=>some (ak,decide (0<(ak.length:Int)))else bnd (kP t cg a.To) λ(aO:Int×Bool)=>some (([a.To]:List Int),aO.2)
def iI(e:aI)(t:af)(p:aK)(cg:Int):Option (fe×Int):=
 jn (λ(v_1:Bool)=>bif v_1 then some ((fe.mk [] [] []),(1:Int))else bnd (lI t cg) λ(cI:Bool)=>bif !cI then some ((fe.mk [] [] []),(4:Int))else bnd (jd e p) λ(dY:Int)=>bif !decide (dY=0)then some ((fe.mk [] [] []),dY)else whl (λ(Z1:((List aC)×(List cu)×(List aV)×(List dz))→Option _) (sg:(List aC)×(List cu)×(List aV)×(List dz))=>match sg with|(ki,m_1,m_2,m_3)=>bif decide (0<(ki.length:Int))then bnd (elO ki (0:Int)) λ(e_1:aC)=>bnd (iA e e_1.aT e_1.bI) λ(bD:jk×(List aW))=>bH e.List 0 (λ(j2:Int) (e2:az) (Z2:(List cu)→Option _) (m_4:(List cu))=>jn (λ(m_5:(List cu))=>Z2 m_5) λJ2=>chk (decide (0≤e2.Bit))<|bif decide (bX .and .u64 (Int.fdiv bD.1.Local (2 ^ min e2.Bit.toNat 64)) (1:Int)=(1:Int))then bnd (kg e_1.bI e2.Bit) λ(dA:aK)=>bnd (dX m_4 ([(cu.mk e_1.aT dA)]:List cu)) λ(l_1:List cu)=>J2 l_1 else J2 m_4) (λ(m_4:(List cu))=>jn (λ(m_6:(List dz))=>bH bD.2 0 (λ(j3:Int) (e3:aW) (Z3:((List aC)×(List aV)×(List dz))→Option _) (sg:(List aC)×(List aV)×(List dz))=>match sg with|(gv,m_7,m_8)=>jn (λ(sg:(List aC)×(List aV)×(List dz))=>match sg with|(mD,m_9,mY)=>Z3 (mD,m_9,mY)) λJ4=>bnd (gG t e_1.aT e3.eF) λ(eS:(List Int)×Bool)=>bif !eS.2 then chk (decide (0≤e3.eF.Bit))<|bnd (dX m_8 ([(dz.mk e_1.aT (IntKind.wrap .u64 ((1:Int)*2 ^ min e3.eF.Bit.toNat 64)))]:List dz)) λ(l_3:List dz)=>J4 (gv,m_7,l_3)else bH eS.1 0 (λ(j4:Int) (e4:Int) (Z4:(Int×(List aV))→Option _) (sg:Int×(List aV))=>match sg with|(gw,gE)=>bnd (dX gE ([(aV.mk gw e4 e3.copy_.Frame.bU.Bits)]:List aV)) λ(l_4:List aV)=>Z4 (e4,l_4)) (λ(sg:Int×(List aV))=>match sg with|(gw,gE)=>bif decide (2000<(gE.length:Int))then some ((fe.mk [] [] []),(11:Int))else bnd (dX gv ([(aC.mk gw e3.copy_.Frame.bU)]:List aC)) λ(l_5:List aC)=>J4 (l_5,gE,m_8)) (e_1.aT,m_7)) (λ(sg:(List aC)×(List aV)×(List dz))=>match sg with|(gv,m_7,m_8)=>bnd (oh gv (1:Int) (gv.length:Int)) λ(l_6:List aC)=>Z1 (l_6,m_4,m_7,m_8)) (ki,m_2,m_6)) λJ3=>bif !decide (bD.1.tj=0)then bnd (dX m_3 ([(dz.mk e_1.aT bD.1.tj)]:List dz)) λ(l_2:List dz)=>J3 l_2 else J3 m_3) m_1 else some ((fe.mk m_1 m_2 m_3),(0:Int))) (([(aC.mk cg p)]:List aC),[],[],[])) λJ1=>bnd (fL e) λ(ak:Int)=>(bif !decide (ak=0)then J1 true else bnd (gC t) λ(aO:Int)=>(bif !decide (aO=0)then J1 true else bnd (iH p) λ(bT:Bool)=>J1 (!bT)))
def iB(e:aI)(t:cE)(receivers:List Int)(p:aK):Option (aK×Int):=
 bnd (jR e t receivers) λ(ak:Int×Int)=>bif !decide (ak.2=0)then some ((aK.mk (0:Int) (0:Int) (0:Int) (0:Int) (0:Int) (0:Int) (0:Int) (0:Int) (0:Int) (⟨#[]⟩:ByteArray)),ak.2)else bnd (iH (aK.mk (2:Int) p.cL p.Set e.Length p.TTL p.dG p.dH p.fk ak.1 p.cv)) λ(aO:Bool)=>bif !aO then some ((aK.mk (0:Int) (0:Int) (0:Int) (0:Int) (0:Int) (0:Int) (0:Int) (0:Int) (0:Int) (⟨#[]⟩:ByteArray)),(1:Int))else some ((aK.mk (2:Int) p.cL p.Set e.Length p.TTL p.dG p.dH p.fk ak.1 p.cv),(0:Int))
end
end Go.Proofs.YtdjeacigeegklaaGreat
