/- Several texts in one. No condition but those that stand in each. -/
import Derived.Test.YtdjeacigeegklaaGreatT
namespace Go.Proofs.YtdjeacigeegklaaGreat
open Go
set_option maxRecDepth 100000
set_option linter.all false
noncomputable section
def nR(l:List Int)(n:Int):Option Bool:=
 bJ l 0 (λ(j1:Int) (e1:Int) (Z1:Unit→Option _) (sg:Unit)=>match sg with|()=>bif decide (e1=n)then some true else Z1 ()) (λ(sg:Unit)=>match sg with|()=>some false) ()
end
end Go.Proofs.YtdjeacigeegklaaGreat
namespace Go.Proofs.YtdjeacigeegklaaGreat
open Go
set_option maxRecDepth 100000
set_option linter.all false
noncomputable section
def qe(n:Int):Option Bool:=
 some ((decide (1≤n))&&(decide (n≤1000)))
def nS(t:aa)(ra1:Int):Option Bool:=
 bJ t.ah 0 (λ(j1:Int) (e1:aQ) (Z1:Unit→Option _) (sg:Unit)=>match sg with|()=>bif decide (e1.ID=ra1)then some true else Z1 ()) (λ(sg:Unit)=>match sg with|()=>some false) ()
def lS(t:aa)(cB:Int)(eO:Int):Option (Int×Bool):=
 bJ t.Links 0 (λ(j1:Int) (e1:bn) (Z1:Unit→Option _) (sg:Unit)=>match sg with|()=>bif ((decide (e1.A=cB))&&(decide (e1.B=eO)))then some (e1.iE,true)else bif ((decide (e1.B=cB))&&(decide (e1.A=eO)))then some (e1.iF,true)else Z1 ()) (λ(sg:Unit)=>match sg with|()=>some ((0:Int),false)) ()
def gB(t:aa):Option Int:=
 bif ((decide (24<(t.ah.length:Int)))||(decide (60<(t.Links.length:Int))))then some (3:Int)else bJ t.ah 0 (λ(j1:Int) (e1:aQ) (Z1:Unit→Option _) (sg:Unit)=>match sg with|()=>bif ((decide (e1.ID<1))||(decide (99<e1.ID)))then some (2:Int)else Z1 ()) (λ(sg:Unit)=>match sg with|()=>bJ (List.drop 1 t.ah) 1 (λ(j2:Int) (e2:aQ) (Z2:Unit→Option _) (sg:Unit)=>match sg with|()=>bnd (elO t.ah (w64 ((j2:Int)-(1:Int)))) λ(e_1:aQ)=>bif decide (e2.ID≤e_1.ID)then some (25:Int)else Z2 ()) (λ(sg:Unit)=>match sg with|()=>bJ t.Links 0 (λ(j3:Int) (e3:bn) (Z3:Unit→Option _) (sg:Unit)=>match sg with|()=>jn (λ(v_1:Bool)=>bif v_1 then some (2:Int)else Z3 ()) λJ1=>bnd (qe e3.iE) λ(ai:Bool)=>(bif !ai then J1 true else bnd (qe e3.iF) λ(aK:Bool)=>(bif !aK then J1 true else(bif decide (e3.oW<0)then J1 true else J1 (decide (1000<e3.oW)))))) (λ(sg:Unit)=>match sg with|()=>bJ t.Links 0 (λ(j4:Int) (e4:bn) (Z4:Unit→Option _) (sg:Unit)=>match sg with|()=>jn (λ(v_2:Bool)=>bif v_2 then some (4:Int)else Z4 ()) λJ2=>bnd (nS t e4.A) λ(aV:Bool)=>(bif !aV then J2 true else bnd (nS t e4.B) λ(bq:Bool)=>J2 (!bq))) (λ(sg:Unit)=>match sg with|()=>bJ t.Links 0 (λ(j5:Int) (e5:bn) (Z5:Unit→Option _) (sg:Unit)=>match sg with|()=>bif decide (e5.B≤e5.A)then some (8:Int)else Z5 ()) (λ(sg:Unit)=>match sg with|()=>bJ (List.drop 1 t.Links) 1 (λ(j6:Int) (e6:bn) (Z6:Unit→Option _) (sg:Unit)=>match sg with|()=>bnd (elO t.Links (w64 ((j6:Int)-(1:Int)))) λ(e_2:bn)=>bif ((decide (e6.A<e_2.A))||((decide (e_2.A=e6.A))&&(decide (e6.B≤e_2.B))))then some (25:Int)else Z6 ()) (λ(sg:Unit)=>match sg with|()=>some (0:Int)) ()) ()) ()) ()) ()) ()
end
end Go.Proofs.YtdjeacigeegklaaGreat
namespace Go.Proofs.YtdjeacigeegklaaGreat
open Go
set_option maxRecDepth 100000
set_option linter.all false
noncomputable section
def kR(t:aa)(ra1:Int):Option Bool:=
 bnd (gB t) λ(ai:Int)=>(bif decide (ai=0)then bnd (nS t ra1) λ(aK:Bool)=>some aK else some false)
def mL(t:aa)(cB:Int)(eO:Int):Option (Int×Bool):=
 bnd (gB t) λ(ai:Int)=>bif !decide (ai=0)then some ((0:Int),false)else bnd (lS t cB eO) λ(aK:Int×Bool)=>some (aK.1,aK.2)
def oy(t:aa)(ra1:Int):Option (List Int):=
 bJ t.ah 0 (λ(j1:Int) (e1:aQ) (Z1:(List Int)→Option _) (aR:(List Int))=>jn (λ(cv:(List Int))=>Z1 cv) λJ1=>bnd (lS t ra1 e1.ID) λ(ai:Int×Bool)=>bif ai.2 then bnd (dx aR ([e1.ID]:List Int)) λ(l_1:List Int)=>J1 l_1 else J1 aR) (λ(aR:(List Int))=>some aR) []
def gV(t:aa)(ra1:Int):Option (List Int):=
 bnd (gB t) λ(ai:Int)=>bif !decide (ai=0)then some []else bnd (oy t ra1) λ(aK:(List Int))=>some aK
def o9(l:List bU)(a:Int)(b:Int):Option Bool:=
 bJ l 0 (λ(j1:Int) (e1:bU) (Z1:Unit→Option _) (sg:Unit)=>match sg with|()=>bif (bif decide (e1.dF=a)then((decide (e1.To=b))||((decide (e1.dF=b))&&(decide (e1.To=a))))else((decide (e1.dF=b))&&(decide (e1.To=a))))then some true else Z1 ()) (λ(sg:Unit)=>match sg with|()=>some false) ()
def jD(t:aa)(f:aO):Option aa:=
 bnd (gB t) λ(ai:Int)=>bif !decide (ai=0)then some (aa.mk [] [])else bJ t.ah 0 (λ(j1:Int) (e1:aQ) (Z1:(List aQ)→Option _) (m_1:(List aQ))=>jn (λ(m_2:(List aQ))=>Z1 m_2) λJ1=>bnd (nR f.ah e1.ID) λ(aK:Bool)=>bif !aK then bnd (dx m_1 ([e1]:List aQ)) λ(l_1:List aQ)=>J1 l_1 else J1 m_1) (λ(m_1:(List aQ))=>bJ t.Links 0 (λ(j2:Int) (e2:bn) (Z2:(List bn)→Option _) (m_3:(List bn))=>jn (λ(m_4:(List bn))=>Z2 m_4) λJ2=>jn (λ(v_1:Bool)=>bif v_1 then bnd (dx m_3 ([e2]:List bn)) λ(l_2:List bn)=>J2 l_2 else J2 m_3) λJ3=>bnd (nR f.ah e2.A) λ(aV:Bool)=>(bif !aV then bnd (nR f.ah e2.B) λ(bq:Bool)=>(bif !bq then bnd (o9 f.Links e2.A e2.B) λ(aT:Bool)=>J3 (!aT)else J3 false)else J3 false)) (λ(m_3:(List bn))=>some (aa.mk m_1 m_3)) []) []
end
end Go.Proofs.YtdjeacigeegklaaGreat
namespace Go.Proofs.YtdjeacigeegklaaGreat
open Go
set_option maxRecDepth 100000
set_option linter.all false
noncomputable section
def lH(xa0:Int):Option Bool:=
 some (!decide (xa0=xa0))
def fL(xa0:Int)(y:Int):Option Int:=
 bnd (lH xa0) λ(ai:Bool)=>bnd (lH y) λ(aK:Bool)=>bif ai then bif aK then some (0:Int)else some (-1:Int)else bif aK then some (1:Int)else bif decide (xa0<y)then some (-1:Int)else bif decide (y<xa0)then some (1:Int)else some (0:Int)
def qg(vals:List Int):Option Int:=
 bJ vals 0 (λ(j1:Int) (e1:Int) (Z1:Unit→Option _) (sg:Unit)=>match sg with|()=>bif !decide (e1=0)then some e1 else Z1 ()) (λ(sg:Unit)=>match sg with|()=>some (0:Int)) ()
def cU(xa0:List aQ)(target:Int)(cmp:aQ→Int→Option Int):Option (Int×Bool):=
 whl (λ(Z1:(Int×Int)→Option _) (sg:Int×Int)=>match sg with|(i_1,j_1)=>bif decide (i_1<j_1)then bnd (elO xa0 (w64 (Int.fdiv (IntKind.wrap .u64 (w64 (i_1+j_1))) (2 ^ min (1:Int).toNat 64)))) λ(e_1:aQ)=>bnd (cmp e_1 target) λ(ai:Int)=>bif decide (ai<0)then Z1 (w64 ((w64 (Int.fdiv (IntKind.wrap .u64 (w64 (i_1+j_1))) (2 ^ min (1:Int).toNat 64)))+(1:Int)),j_1)else Z1 (i_1,w64 (Int.fdiv (IntKind.wrap .u64 (w64 (i_1+j_1))) (2 ^ min (1:Int).toNat 64)))else(bif decide (i_1<(xa0.length:Int))then bnd (elO xa0 i_1) λ(e_2:aQ)=>bnd (cmp e_2 target) λ(aK:Int)=>some (i_1,decide (aK=0))else some (i_1,false))) ((0:Int),(xa0.length:Int))
def jZ(sa0:List Int)(v:Int):Option Int:=
 bJ sa0 0 (λ(j1:Int) (e1:Int) (Z1:Unit→Option _) (sg:Unit)=>match sg with|()=>bif decide (v=e1)then some (j1:Int)else Z1 ()) (λ(sg:Unit)=>match sg with|()=>some (-1:Int)) ()
def eF(sa0:List az)(f:az→Option Bool):Option Int:=
 bJ sa0 0 (λ(j1:Int) (e1:az) (Z1:Unit→Option _) (sg:Unit)=>match sg with|()=>bnd (f e1) λ(ai:Bool)=>bif ai then some (j1:Int)else Z1 ()) (λ(sg:Unit)=>match sg with|()=>some (-1:Int)) ()
def fk(sa0:List aQ)(f:aQ→Option Bool):Option Int:=
 bJ sa0 0 (λ(j1:Int) (e1:aQ) (Z1:Unit→Option _) (sg:Unit)=>match sg with|()=>bnd (f e1) λ(ai:Bool)=>bif ai then some (j1:Int)else Z1 ()) (λ(sg:Unit)=>match sg with|()=>some (-1:Int)) ()
def fM(sa0:List bn)(f:bn→Option Bool):Option Int:=
 bJ sa0 0 (λ(j1:Int) (e1:bn) (Z1:Unit→Option _) (sg:Unit)=>match sg with|()=>bnd (f e1) λ(ai:Bool)=>bif ai then some (j1:Int)else Z1 ()) (λ(sg:Unit)=>match sg with|()=>some (-1:Int)) ()
def dD(xa0:List bn)(target:bn)(cmp:bn→bn→Option Int):Option (Int×Bool):=
 whl (λ(Z1:(Int×Int)→Option _) (sg:Int×Int)=>match sg with|(i_1,j_1)=>bif decide (i_1<j_1)then bnd (elO xa0 (w64 (Int.fdiv (IntKind.wrap .u64 (w64 (i_1+j_1))) (2 ^ min (1:Int).toNat 64)))) λ(e_1:bn)=>bnd (cmp e_1 target) λ(ai:Int)=>bif decide (ai<0)then Z1 (w64 ((w64 (Int.fdiv (IntKind.wrap .u64 (w64 (i_1+j_1))) (2 ^ min (1:Int).toNat 64)))+(1:Int)),j_1)else Z1 (i_1,w64 (Int.fdiv (IntKind.wrap .u64 (w64 (i_1+j_1))) (2 ^ min (1:Int).toNat 64)))else(bif decide (i_1<(xa0.length:Int))then bnd (elO xa0 i_1) λ(e_2:bn)=>bnd (cmp e_2 target) λ(aK:Int)=>some (i_1,decide (aK=0))else some (i_1,false))) ((0:Int),(xa0.length:Int))
def gF(sa0:List bU)(v:bU):Option Int:=
 bJ sa0 0 (λ(j1:Int) (e1:bU) (Z1:Unit→Option _) (sg:Unit)=>match sg with|()=>bif gM v e1 then some (j1:Int)else Z1 ()) (λ(sg:Unit)=>match sg with|()=>some (-1:Int)) ()
def cV(sa0:List Int)(v:Int):Option Bool:=
 bnd (jZ sa0 v) λ(ai:Int)=>some (decide (0≤ai))
def dM(sa0:List az)(f:az→Option Bool):Option Bool:=
 bnd (eF sa0 f) λ(ai:Int)=>some (decide (0≤ai))
def ec(sa0:List aQ)(f:aQ→Option Bool):Option Bool:=
 bnd (fk sa0 f) λ(ai:Int)=>some (decide (0≤ai))
def dB(sa0:List bn)(f:bn→Option Bool):Option Bool:=
 bnd (fM sa0 f) λ(ai:Int)=>some (decide (0≤ai))
def dJ(sa0:List bU)(v:bU):Option Bool:=
 bnd (gF sa0 v) λ(ai:Int)=>some (decide (0≤ai))
def jU(n:Int)(least:Int)(most:Int):Option Bool:=
 some ((decide (least≤n))&&(decide (n≤most)))
def ja(a:bn)(b:bn):Option Int:=
 bnd (fL a.A b.A) λ(ai:Int)=>bnd (fL a.B b.B) λ(aK:Int)=>bnd (qg ([ai,aK]:List Int)) λ(aV:Int)=>some aV
def lI(ra0:aQ)(id:Int):Option Int:=
 bnd (fL ra0.ID id) λ(ai:Int)=>some ai
def nC(ra0:aQ):Option Bool:=
 bnd (jU ra0.ID (1:Int) (99:Int)) λ(ai:Bool)=>some (!ai)
def lu(l:bn):Option Bool:=
 bnd (jU l.iE (1:Int) (1000:Int)) λ(ai:Bool)=>(bif !ai then some true else bnd (jU l.iF (1:Int) (1000:Int)) λ(aK:Bool)=>(bif !aK then some true else bnd (jU l.oW (0:Int) (1000:Int)) λ(aV:Bool)=>some (!aV)))
def jb(id:Int)(c_0:aa):Option Bool:=
 bnd (cU c_0.ah id lI) λ(ai:Int×Bool)=>some (!ai.2)
def nD(l:bn)(c_0:aa):Option Bool:=
 bnd (jb l.A c_0) λ(ai:Bool)=>(bif ai then some true else bnd (jb l.B c_0) λ(aK:Bool)=>some aK)
def nE(l:bn):Option Bool:=
 some (decide (l.B≤l.A))
def gW(t:aa):Option Int:=
 bif ((decide (24<(t.ah.length:Int)))||(decide (60<(t.Links.length:Int))))then some (3:Int)else bnd (ec t.ah nC) λ(ai:Bool)=>bif ai then some (2:Int)else bJ t.ah 0 (λ(j1:Int) (e1:aQ) (Z1:Unit→Option _) (sg:Unit)=>match sg with|()=>jn (λ(v_1:Bool)=>bif v_1 then some (25:Int)else Z1 ()) λJ1=>(bif decide (0<(j1:Int))then bnd (elO t.ah (w64 ((j1:Int)-(1:Int)))) λ(e_1:aQ)=>J1 (decide (e1.ID≤e_1.ID))else J1 false)) (λ(sg:Unit)=>match sg with|()=>bnd (dB t.Links lu) λ(aK:Bool)=>bif aK then some (2:Int)else bnd (dB t.Links (λ(y0:bn)=>nD y0 t)) λ(aV:Bool)=>bif aV then some (4:Int)else bnd (dB t.Links nE) λ(bq:Bool)=>bif bq then some (8:Int)else bJ t.Links 0 (λ(j2:Int) (e2:bn) (Z2:Unit→Option _) (sg:Unit)=>match sg with|()=>jn (λ(v_2:Bool)=>bif v_2 then some (25:Int)else Z2 ()) λJ2=>(bif decide (0<(j2:Int))then bnd (elO t.Links (w64 ((j2:Int)-(1:Int)))) λ(e_2:bn)=>bnd (ja e_2 e2) λ(aT:Int)=>J2 (decide (0≤aT))else J2 false)) (λ(sg:Unit)=>match sg with|()=>some (0:Int)) ()) ()
def gX(t:aa):Option Bool:=
 bnd (gW t) λ(ai:Int)=>some (decide (ai=0))
def nF(t:aa)(aD:Int):Option (aQ×Bool):=
 bnd (cU t.ah aD lI) λ(ai:Int×Bool)=>bif !ai.2 then some ((aQ.mk (0:Int) false),false)else bnd (elO t.ah ai.1) λ(e_1:aQ)=>some (e_1,true)
def kG(t:aa)(aD:Int):Option Bool:=
 bnd (nF t aD) λ(ai:aQ×Bool)=>bnd (gX t) λ(aK:Bool)=>(bif aK then some ai.2 else some false)
def nG(t:aa)(cB:Int)(eO:Int):Option (Int×Bool):=
 bnd (gX t) λ(ai:Bool)=>bif !ai then some ((0:Int),false)else bnd (dD t.Links (bn.mk (if eO<cB then eO else cB) (if eO>cB then eO else cB) (0:Int) (0:Int) (0:Int)) ja) λ(aK:Int×Bool)=>bif !aK.2 then some ((0:Int),false)else bif decide (cB<eO)then bnd (elO t.Links aK.1) λ(e_1:bn)=>some (e_1.iE,true)else bnd (elO t.Links aK.1) λ(e_2:bn)=>some (e_2.iF,true)
def gY(t:aa)(f:aO):Option aa:=
 bnd (gX t) λ(ai:Bool)=>bif !ai then some (aa.mk [] [])else bJ t.ah 0 (λ(j1:Int) (e1:aQ) (Z1:(List aQ)→Option _) (m_1:(List aQ))=>jn (λ(m_2:(List aQ))=>Z1 m_2) λJ1=>bnd (cV f.ah e1.ID) λ(aK:Bool)=>bif !aK then bnd (dx m_1 ([e1]:List aQ)) λ(l_1:List aQ)=>J1 l_1 else J1 m_1) (λ(m_1:(List aQ))=>bJ t.Links 0 (λ(j2:Int) (e2:bn) (Z2:(List bn)→Option _) (m_3:(List bn))=>jn (λ(m_4:(List bn))=>Z2 m_4) λJ2=>jn (λ(x7:Bool)=>bif !x7 then bnd (dx m_3 ([e2]:List bn)) λ(l_2:List bn)=>J2 l_2 else J2 m_3) λJ3=>bnd (cV f.ah e2.A) λ(aV:Bool)=>(bif aV then J3 true else bnd (cV f.ah e2.B) λ(bq:Bool)=>(bif bq then J3 true else bnd (dJ f.Links (bU.mk e2.A e2.B)) λ(aT:Bool)=>(bif aT then J3 true else bnd (dJ f.Links (bU.mk e2.B e2.A)) λ(cu:Bool)=>J3 cu)))) (λ(m_3:(List bn))=>some (aa.mk m_1 m_3)) []) []
end
end Go.Proofs.YtdjeacigeegklaaGreat
namespace Go.Proofs.YtdjeacigeegklaaGreat
open Go
set_option maxRecDepth 100000
set_option linter.all false
noncomputable section
def qM(xa0:Int):Option Int:=
 jn (λ(sg:Int×Int)=>match sg with|(ai,n_1)=>jn (λ(sg:Int×Int)=>match sg with|(aK,n_2)=>jn (λ(sg:Int×Int)=>match sg with|(aV,n_3)=>bnd (ixS (⟨#[0,1,2,2,3,3,3,3,4,4,4,4,4,4,4,4,5,5,5,5,5,5,5,5,5,5,5,5,5,5,5,5,6,6,6,6,6,6,6,6,6,6,6,6,6,6,6,6,6,6,6,6,6,6,6,6,6,6,6,6,6,6,6,6,7,7,7,7,7,7,7,7,7,7,7,7,7,7,7,7,7,7,7,7,7,7,7,7,7,7,7,7,7,7,7,7,7,7,7,7,7,7,7,7,7,7,7,7,7,7,7,7,7,7,7,7,7,7,7,7,7,7,7,7,7,7,7,7,8,8,8,8,8,8,8,8,8,8,8,8,8,8,8,8,8,8,8,8,8,8,8,8,8,8,8,8,8,8,8,8,8,8,8,8,8,8,8,8,8,8,8,8,8,8,8,8,8,8,8,8,8,8,8,8,8,8,8,8,8,8,8,8,8,8,8,8,8,8,8,8,8,8,8,8,8,8,8,8,8,8,8,8,8,8,8,8,8,8,8,8,8,8,8,8,8,8,8,8,8,8,8,8,8,8,8,8,8,8,8,8,8,8,8,8,8,8,8,8,8,8,8,8,8,8,8,8]⟩:ByteArray) (IntKind.wrap .u8 aV)) λ(b_1:UInt8)=>some (w64 (n_3+(w64 (b_1.toNat:Int))))) λJ3=>bif decide (256≤aK)then J3 (Int.fdiv aK (2 ^ min (8:Int).toNat 64),w64 (n_2+8))else J3 (aK,n_2)) λJ2=>bif decide (65536≤ai)then J2 (Int.fdiv ai (2 ^ min (16:Int).toNat 64),w64 (n_1+16))else J2 (ai,n_1)) λJ1=>bif decide (4294967296≤xa0)then J1 (Int.fdiv xa0 (2 ^ min (32:Int).toNat 64),(32:Int))else J1 (xa0,(0:Int))
def sY(xa0:Int):Option Int:=
 bnd (qM xa0) λ(ai:Int)=>some ai
def gP: Option Unit:=
 whl (λ(Z1:Unit→Option _) (sg:Unit)=>match sg with|()=>some ()) ()
def jm(limit:Int):Option Unit:=
 whl (λ(Z1:Unit→Option _) (sg:Unit)=>match sg with|()=>bnd (gP) λ(ai:Unit)=>some ()) ()
def pe: Option Unit:=
 bnd (sY (0:Int)) λ(ai:Int)=>bnd (jm ai) λ(aK:Unit)=>some ()
end
end Go.Proofs.YtdjeacigeegklaaGreat
namespace Go.Proofs.YtdjeacigeegklaaGreat
open Go
set_option maxRecDepth 100000
set_option linter.all false
noncomputable section
def gR(t:aa)(aD:Int):Option (List Int):=
 bJ t.Links 0 (λ(j1:Int) (e1:bn) (Z1:(List Int)→Option _) (aR:(List Int))=>jn (λ(cv:(List Int))=>Z1 cv) λJ1=>bif decide (aD=e1.A)then bnd (dx aR ([e1.B]:List Int)) λ(l_1:List Int)=>J1 l_1 else bif decide (aD=e1.B)then bnd (dx aR ([e1.A]:List Int)) λ(l_2:List Int)=>J1 l_2 else J1 aR) (λ(aR:(List Int))=>chk (decide (aR.length<4611686018427387904))<|some (jY aR)) []
def ic:Nat→Int→(List Int)→(List Int)→(List aQ)→(List bn)→Option (List Int)
 |0,_,_,_,_,_=>none
 |n_+1,ra0,xJ,wm,wq,wu=>jn (λ(v_1:Bool)=>bif v_1 then some xJ else bnd (dx xJ ([ra0]:List Int)) λ(l_1:List Int)=>bnd (gR (aa.mk wq wu) ra0) λ(aV:(List Int))=>bJ aV 0 (λ(j1:Int) (e1:Int) (Z1:(List Int)→Option _) (m_1:(List Int))=>bnd (ic n_ e1 m_1 wm wq wu) λ(bq:(List Int))=>Z1 bq) (λ(m_1:(List Int))=>some m_1) l_1) λJ1=>bnd (cV xJ ra0) λ(ai:Bool)=>(bif ai then J1 true else bnd (cV wm ra0) λ(aK:Bool)=>J1 aK)
def lz(t:aa)(cB:Int)(closed:List Int):Option (List Int):=
 bnd (ic fuel cB [] closed t.ah t.Links) λ(ai:(List Int))=>chk (decide (ai.length<4611686018427387904))<|some (jY ai)
def jc(t:aa)(aD:Int):Option (List Int):=
 bnd (gX t) λ(ai:Bool)=>bif !ai then some []else bnd (gR t aD) λ(aK:(List Int))=>some aK
def jE(t:aa)(a:Int)(b:Int):Option Bool:=
 bnd (kG t a) λ(ai:Bool)=>(bif ai then bnd (kG t b) λ(aK:Bool)=>(bif aK then bnd (lz t a []) λ(aV:(List Int))=>bnd (cV aV b) λ(bq:Bool)=>some bq else some false)else some false)
end
end Go.Proofs.YtdjeacigeegklaaGreat
namespace Go.Proofs.YtdjeacigeegklaaGreat
open Go
set_option maxRecDepth 100000
set_option linter.all false
noncomputable section
def l5(t:List Int):Option aX:=
 bnd (nP t (0:Int) (if(2000:Int)<(t.length:Int)then(2000:Int)else(t.length:Int))) λ(l_1:List Int)=>some (aX.mk l_1 (0:Int))
def iN(t:aX):Option (Int×aX):=
 bif decide ((t.L.length:Int)≤t.At)then some ((0:Int),t)else bnd (elO t.L (w64 ((w64 (t.At+1))-(1:Int)))) λ(e_1:Int)=>some (e_1,(aX.mk t.L (w64 (t.At+1))))
def l6(xa0:Int)(n:Int):Option Int:=
 bif decide (n<1)then some (0:Int)else chk (decide (n≠0))<|jn (λ(ai:Int)=>some ai) λJ1=>bif decide (Int.tmod xa0 n<0)then J1 (w64 ((Int.tmod xa0 n)+n))else J1 (Int.tmod xa0 n)
def bB(t:aX)(n:Int):Option (Int×aX):=
 bnd (iN t) λ(ai:Int×aX)=>bnd (l6 ai.1 n) λ(aK:Int)=>some (aK,ai.2)
def fG(t:aX)(lo:Int)(hi:Int):Option (Int×aX):=
 bnd (bB t (w64 ((w64 (hi-lo))+(1:Int)))) λ(ai:Int×aX)=>some (w64 (lo+ai.1),ai.2)
def dW(t:aX)(l:List Int):Option (Int×aX):=
 bnd (bB t (l.length:Int)) λ(ai:Int×aX)=>bnd (elO l ai.1) λ(e_1:Int)=>some (e_1,ai.2)
def fH(l:List Int)(xa1:Int):Option Bool:=
 bJ l 0 (λ(j1:Int) (e1:Int) (Z1:Unit→Option _) (sg:Unit)=>match sg with|()=>bif decide (e1=xa1)then some true else Z1 ()) (λ(sg:Unit)=>match sg with|()=>some false) ()
def jP(l:List Int)(xa1:Int):Option (List Int):=
 whl (λ(Z1:Int→Option _) (k_1:Int)=>jn (λ(v_1:Bool)=>bif v_1 then Z1 (w64 (k_1+1))else jn (λ(v_2:Bool)=>bif v_2 then some l else bnd (nP l k_1 (l.length:Int)) λ(l_1:List Int)=>bnd (dx ([xa1]:List Int) l_1) λ(l_2:List Int)=>bnd (nP l (0:Int) k_1) λ(l_3:List Int)=>bnd (dx l_3 l_2) λ(l_4:List Int)=>some l_4) λJ2=>(bif decide (k_1<(l.length:Int))then bnd (elO l k_1) λ(e_2:Int)=>J2 (decide (e_2=xa1))else J2 false)) λJ1=>(bif decide (k_1<(l.length:Int))then bnd (elO l k_1) λ(e_1:Int)=>J1 (decide (e_1<xa1))else J1 false)) (0:Int)
def jd(a:List Int)(b:List Int):Option Bool:=
 bif !decide ((a.length:Int)=(b.length:Int))then some false else bJ a 0 (λ(j1:Int) (e1:Int) (Z1:Unit→Option _) (sg:Unit)=>match sg with|()=>bnd (elO b (j1:Int)) λ(e_1:Int)=>bif !decide (e1=e_1)then some false else Z1 ()) (λ(sg:Unit)=>match sg with|()=>some true) ()
end
end Go.Proofs.YtdjeacigeegklaaGreat
namespace Go.Proofs.YtdjeacigeegklaaGreat
open Go
set_option maxRecDepth 100000
set_option linter.all false
noncomputable section
def mC(n:Int):Option Bool:=
 some ((decide (n=8))||((decide (n=16))||((decide (n=32))||(decide (n=64)))))
def jf(n:Int):Option Bool:=
 some ((decide (1≤n))&&(decide (n≤99)))
def gy(e:aF):Option Int:=
 bnd (mC e.Length) λ(ai:Bool)=>bJ e.List 0 (λ(j1:Int) (e1:az) (Z1:Bool→Option _) (o5:Bool)=>(bif o5 then(bif decide (0≤e1.Bit)then(bif decide (e1.Bit<e.Length)then bnd (jf e1.br) λ(aK:Bool)=>(bif aK then bnd (jf e1.To) λ(aV:Bool)=>Z1 aV else Z1 false)else Z1 false)else Z1 false)else Z1 false)) (λ(o5:Bool)=>bif !o5 then some (2:Int)else bJ e.List 0 (λ(j2:Int) (e2:az) (Z2:Unit→Option _) (sg:Unit)=>match sg with|()=>bif ((decide (e2.Kind<1))||(decide (3<e2.Kind)))then some (1:Int)else Z2 ()) (λ(sg:Unit)=>match sg with|()=>bJ e.List 0 (λ(j3:Int) (e3:az) (Z3:Unit→Option _) (sg:Unit)=>match sg with|()=>bif !((decide (e3.To=e3.br))==(decide (e3.Kind=3)))then some (8:Int)else Z3 ()) (λ(sg:Unit)=>match sg with|()=>bJ (List.drop 1 e.List) 1 (λ(j4:Int) (e4:az) (Z4:Unit→Option _) (sg:Unit)=>match sg with|()=>bnd (elO e.List (w64 ((j4:Int)-(1:Int)))) λ(e_1:az)=>bif decide (e4.Bit≤e_1.Bit)then some (25:Int)else Z4 ()) (λ(sg:Unit)=>match sg with|()=>bJ e.List 0 (λ(j5:Int) (e5:az) (Z5:Unit→Option _) (sg:Unit)=>match sg with|()=>bnd (nP e.List (0:Int) (j5:Int)) λ(l_1:List az)=>bJ l_1 0 (λ(j6:Int) (e6:az) (Z6:Unit→Option _) (sg:Unit)=>match sg with|()=>bif ((decide (e5.br=e6.br))&&((decide (e5.Kind=e6.Kind))&&(decide (e5.To=e6.To))))then some (5:Int)else Z6 ()) (λ(sg:Unit)=>match sg with|()=>Z5 ()) ()) (λ(sg:Unit)=>match sg with|()=>some (0:Int)) ()) ()) ()) ()) ai
def pF(e:aF)(ra1:Int):Option Int:=
 jn (λ(aR:Int)=>some aR) λJ1=>bnd (gy e) λ(ai:Int)=>bif decide (ai=0)then bJ e.List 0 (λ(j1:Int) (e1:az) (Z1:Int→Option _) (cv:Int)=>jn (λ(aaQ:Int)=>Z1 aaQ) λJ2=>bif decide (e1.br=ra1)then chk (decide (0≤IntKind.wrap .u64 e1.Bit))<|J2 (aU .or .u64 cv (IntKind.wrap .u64 ((1:Int)*2 ^ min (IntKind.wrap .u64 e1.Bit).toNat 64)))else J2 cv) (λ(cv:Int)=>J1 cv) (0:Int)else J1 (0:Int)
def s4(e:aF)(ra1:Int)(kind:Int)(tT:Int):Option (Int×Bool):=
 jn (λ(sg:Unit)=>match sg with|()=>some ((0:Int),false)) λJ1=>bnd (gy e) λ(ai:Int)=>bif decide (ai=0)then bJ e.List 0 (λ(j1:Int) (e1:az) (Z1:Unit→Option _) (sg:Unit)=>match sg with|()=>bif ((decide (e1.br=ra1))&&((decide (e1.Kind=kind))&&(decide (e1.To=tT))))then some (e1.Bit,true)else Z1 ()) (λ(sg:Unit)=>match sg with|()=>J1 ()) ()else J1 ()
def mM(t:aa)(n:Int):Option (aF×Int):=
 bnd (gB t) λ(ai:Int)=>bif !decide (ai=0)then some ((aF.mk (0:Int) []),(1:Int))else bnd (mC n) λ(aK:Bool)=>bif !aK then some ((aF.mk (0:Int) []),(2:Int))else bJ t.ah 0 (λ(j1:Int) (e1:aQ) (Z1:(List az)→Option _) (m_1:(List az))=>bnd (dx m_1 ([(az.mk (m_1.length:Int) e1.ID (3:Int) e1.ID)]:List az)) λ(l_1:List az)=>bnd (gV t e1.ID) λ(aV:(List Int))=>bJ aV 0 (λ(j2:Int) (e2:Int) (Z2:(List az)→Option _) (m_2:(List az))=>bnd (dx m_2 ([(az.mk (m_2.length:Int) e1.ID (1:Int) e2)]:List az)) λ(l_2:List az)=>Z2 l_2) (λ(m_2:(List az))=>Z1 m_2) l_1) (λ(m_1:(List az))=>bif decide (n<(m_1.length:Int))then some ((aF.mk (0:Int) []),(3:Int))else some ((aF.mk n m_1),(0:Int))) []
def n9(t:oZ):Option Int:=
 bnd (jf t.qd) λ(ai:Bool)=>bJ t.Links 0 (λ(j1:Int) (e1:bU) (Z1:Bool→Option _) (yS:Bool)=>(bif yS then bnd (jf e1.dF) λ(aK:Bool)=>(bif aK then bnd (jf e1.To) λ(aV:Bool)=>Z1 aV else Z1 false)else Z1 false)) (λ(yS:Bool)=>bif !yS then some (2:Int)else bJ (List.drop 1 t.Links) 1 (λ(j2:Int) (e2:bU) (Z2:Unit→Option _) (sg:Unit)=>match sg with|()=>bnd (elO t.Links (w64 ((j2:Int)-(1:Int)))) λ(e_1:bU)=>bif ((decide (e2.dF<e_1.dF))||((decide (e_1.dF=e2.dF))&&(decide (e2.To≤e_1.To))))then some (25:Int)else Z2 ()) (λ(sg:Unit)=>match sg with|()=>bJ t.Links 0 (λ(j3:Int) (e3:bU) (Z3:Unit→Option _) (sg:Unit)=>match sg with|()=>bnd (nP t.Links (0:Int) (j3:Int)) λ(l_1:List bU)=>bJ l_1 0 (λ(j4:Int) (e4:bU) (Z4:Unit→Option _) (sg:Unit)=>match sg with|()=>bif decide (e4.To=e3.To)then some (8:Int)else Z4 ()) (λ(sg:Unit)=>match sg with|()=>bif decide (e3.To=t.qd)then some (8:Int)else Z3 ()) ()) (λ(sg:Unit)=>match sg with|()=>whl (λ(Z5:((List Int)×Bool)→Option _) (sg:(List Int)×Bool)=>match sg with|(qi,r9)=>bif r9 then bJ t.Links 0 (λ(j6:Int) (e6:bU) (Z6:((List Int)×Bool)→Option _) (sg:(List Int)×Bool)=>match sg with|(iG,lC)=>jn (λ(sg:(List Int)×Bool)=>match sg with|(si,sj)=>Z6 (si,sj)) λJ1=>jn (λ(v_1:Bool)=>bif v_1 then bnd (dx iG ([e6.To]:List Int)) λ(l_2:List Int)=>J1 (l_2,true)else J1 (iG,lC)) λJ2=>bnd (fH iG e6.dF) λ(bq:Bool)=>(bif bq then bnd (fH iG e6.To) λ(aT:Bool)=>J2 (!aT)else J2 false)) (λ(sg:(List Int)×Bool)=>match sg with|(iG,lC)=>Z5 (iG,lC)) (qi,false)else bJ t.Links 0 (λ(j7:Int) (e7:bU) (Z7:Unit→Option _) (sg:Unit)=>match sg with|()=>bnd (fH qi e7.dF) λ(cu:Bool)=>bif !cu then some (10:Int)else Z7 ()) (λ(sg:Unit)=>match sg with|()=>some (0:Int)) ()) (([t.qd]:List Int),true)) ()) ()) ai
def s7(t:oZ):Option (List Int):=
 bnd (n9 t) λ(ai:Int)=>bif !decide (ai=0)then some []else bJ t.Links 0 (λ(j1:Int) (e1:bU) (Z1:(List Int)→Option _) (aR:(List Int))=>bnd (jP aR e1.To) λ(aK:(List Int))=>Z1 aK) (λ(aR:(List Int))=>some aR) ([t.qd]:List Int)
def qO(l:List Int):Option Bool:=
 bJ (List.drop 1 l) 1 (λ(j1:Int) (e1:Int) (Z1:Unit→Option _) (sg:Unit)=>match sg with|()=>bnd (elO l (w64 ((j1:Int)-(1:Int)))) λ(e_1:Int)=>bif decide (e1≤e_1)then some false else Z1 ()) (λ(sg:Unit)=>match sg with|()=>some true) ()
def s8(e:aF)(t:oZ)(receivers:List Int):Option (Int×Int):=
 bnd (gy e) λ(ai:Int)=>bif !decide (ai=0)then some ((0:Int),ai)else bnd (n9 t) λ(aK:Int)=>bif !decide (aK=0)then some ((0:Int),aK)else bnd (qO receivers) λ(aV:Bool)=>bif !aV then some ((0:Int),(25:Int))else bnd (s7 t) λ(bq:(List Int))=>bJ receivers 0 (λ(j1:Int) (e1:Int) (Z1:Unit→Option _) (sg:Unit)=>match sg with|()=>bnd (fH bq e1) λ(aT:Bool)=>bif !aT then some ((0:Int),(8:Int))else Z1 ()) (λ(sg:Unit)=>match sg with|()=>bJ t.Links 0 (λ(j2:Int) (e2:bU) (Z2:Int→Option _) (aR:Int)=>bnd (s4 e e2.dF (1:Int) e2.To) λ(cu:Int×Bool)=>bif !cu.2 then some ((0:Int),(4:Int))else chk (decide (0≤IntKind.wrap .u64 cu.1))<|Z2 (aU .or .u64 aR (IntKind.wrap .u64 ((1:Int)*2 ^ min (IntKind.wrap .u64 cu.1).toNat 64)))) (λ(aR:Int)=>bJ receivers 0 (λ(j3:Int) (e3:Int) (Z3:Int→Option _) (cv:Int)=>bnd (s4 e e3 (3:Int) e3) λ(bA:Int×Bool)=>bif !bA.2 then some ((0:Int),(4:Int))else chk (decide (0≤IntKind.wrap .u64 bA.1))<|Z3 (aU .or .u64 cv (IntKind.wrap .u64 ((1:Int)*2 ^ min (IntKind.wrap .u64 bA.1).toNat 64)))) (λ(cv:Int)=>some (cv,(0:Int))) aR) (0:Int)) ()
end
end Go.Proofs.YtdjeacigeegklaaGreat
namespace Go.Proofs.YtdjeacigeegklaaGreat
open Go
set_option maxRecDepth 100000
set_option linter.all false
noncomputable section
def oC(t:aX)(most:Int):Option (aa×aX):=
 bnd (fG t (1:Int) most) λ(ai:Int×aX)=>chk (decide (ai.1≤9223372036854775807))<|mI (ai.1-0).toNat (0:Int) (λ(j1:Int) (Z1:(Int×(List aQ)×(List Int)×Int)→Option _) (sg:Int×(List aQ)×(List Int)×Int)=>match sg with|(xK,m_1,m_2,m_3)=>bnd (dW (aX.mk m_2 m_3) ([(1:Int),(1:Int),(1:Int),(2:Int),(5:Int)]:List Int)) λ(aK:Int×aX)=>bnd (dx m_1 ([(aQ.mk (w64 (xK+aK.1)) true)]:List aQ)) λ(l_1:List aQ)=>Z1 (w64 (xK+aK.1),l_1,aK.2.L,aK.2.At)) (λ(j1:Int) (sg:Int×(List aQ)×(List Int)×Int)=>match sg with|(xK,m_1,m_2,m_3)=>chk (decide (0<ai.1)&&decide (ai.1≤4294967296))<|chk (decide (((List.replicate ai.1.toNat []:List (List Bool)).length:Int)≤9223372036854775807))<|mI (((List.replicate ai.1.toNat []:List (List Bool)).length:Int)-(0:Int)).toNat (0:Int) (λ(j2:Int) (Z2:(List (List Bool))→Option _) (m_4:(List (List Bool)))=>chk (decide (0≤ai.1)&&decide (ai.1≤4294967296))<|bnd (elO m_4 (j2:Int)) λ(e_1:List Bool)=>Z2 (List.set m_4 (j2:Int).toNat (List.replicate (ai.1).toNat false))) (λ(j2:Int) (m_4:(List (List Bool)))=>chk (decide (ai.1≤9223372036854775807))<|mI (ai.1-1).toNat (1:Int) (λ(j3:Int) (Z3:((List Int)×Int×(List (List Bool)))→Option _) (sg:(List Int)×Int×(List (List Bool)))=>match sg with|(m_5,m_6,m_7)=>jn (λ(sg:(List (List Bool))×(List Int)×Int)=>match sg with|(m_8,m_9,fI)=>Z3 (m_9,fI,m_8)) λJ1=>bnd (bB (aX.mk m_5 m_6) (12:Int)) λ(aV:Int×aX)=>bif decide (aV.1<11)then bnd (bB aV.2 (j3:Int)) λ(bq:Int×aX)=>bnd (elO m_7 bq.1) λ(e_2:List Bool)=>bnd (elO e_2 (j3:Int)) λ(e_3:Bool)=>bnd (rI e_2 (j3:Int) true) λ(l_2:List Bool)=>J1 ((List.set m_7 bq.1.toNat l_2),bq.2.L,bq.2.At)else J1 (m_7,aV.2.L,aV.2.At)) (λ(j3:Int) (sg:(List Int)×Int×(List (List Bool)))=>match sg with|(m_5,m_6,m_7)=>bnd (bB (aX.mk m_5 m_6) (w64 (ai.1+2))) λ(aT:Int×aX)=>whl (λ(Z4:(Int×(List Int)×Int×(List (List Bool)))→Option _) (sg:Int×(List Int)×Int×(List (List Bool)))=>match sg with|(i_1,gC,eM,dN)=>bif decide (0<i_1)then jn (λ(sg:(List (List Bool))×(List Int)×Int)=>match sg with|(gD,iO,mN)=>Z4 (w64 (i_1-1),iO,mN,gD)) λJ2=>bnd (bB (aX.mk gC eM) ai.1) λ(cu:Int×aX)=>bnd (bB cu.2 ai.1) λ(bA:Int×aX)=>bif !decide (cu.1=bA.1)then bnd (elO dN (if bA.1<cu.1 then bA.1 else cu.1)) λ(e_4:List Bool)=>bnd (elO e_4 (if bA.1>cu.1 then bA.1 else cu.1)) λ(e_5:Bool)=>bnd (rI e_4 (if bA.1>cu.1 then bA.1 else cu.1) true) λ(l_3:List Bool)=>J2 ((List.set dN (if bA.1<cu.1 then bA.1 else cu.1).toNat l_3),bA.2.L,bA.2.At)else J2 (dN,bA.2.L,bA.2.At)else bnd (bB (aX.mk gC eM) (3:Int)) λ(fE:Int×aX)=>chk (decide ((dN.length:Int)≤9223372036854775807))<|mI ((dN.length:Int)-(0:Int)).toNat (0:Int) (λ(j5:Int) (Z5:((List bn)×(List Int)×Int)→Option _) (sg:(List bn)×(List Int)×Int)=>match sg with|(rN,oD,oE)=>chk (decide ((dN.length:Int)≤9223372036854775807))<|mI ((dN.length:Int)-(0:Int)).toNat (0:Int) (λ(j6:Int) (Z6:((List bn)×(List Int)×Int)→Option _) (sg:(List bn)×(List Int)×Int)=>match sg with|(ng,oF,qj)=>jn (λ(sg:(List Int)×Int×(List bn))=>match sg with|(uL,uM,qP)=>Z6 (qP,uL,uM)) λJ3=>bnd (elO dN (j5:Int)) λ(e_6:List Bool)=>bnd (elO e_6 (j6:Int)) λ(e_7:Bool)=>bif !e_7 then J3 (oF,qj,ng)else bnd (elO m_1 (j5:Int)) λ(e_8:aQ)=>bnd (elO m_1 (j6:Int)) λ(e_9:aQ)=>bnd (dW (aX.mk oF qj) ([(0:Int),(1:Int),(2:Int),(3:Int),(5:Int),(10:Int),(1000:Int)]:List Int)) λ(eT:Int×aX)=>jn (λ(sg:(List Int)×Int×Int×Int)=>match sg with|(qQ,oG,afi,afj)=>bnd (dx ng ([(bn.mk e_8.ID e_9.ID afi afj eT.1)]:List bn)) λ(l_4:List bn)=>J3 (qQ,oG,l_4)) λJ4=>bif !(decide (fE.1=0))then bnd (fG eT.2 (1:Int) (20:Int)) λ(pP:Int×aX)=>bnd (dW pP.2 ([(1:Int),(2:Int),(3:Int),pP.1,(1000:Int)]:List Int)) λ(iH:Int×aX)=>bnd (fG iH.2 (1:Int) (20:Int)) λ(yU:Int×aX)=>bnd (dW yU.2 ([iH.1,iH.1,yU.1]:List Int)) λ(qy:Int×aX)=>J4 (qy.2.L,qy.2.At,iH.1,qy.1)else J4 (eT.2.L,eT.2.At,(1:Int),(1:Int))) (λ(j6:Int) (sg:(List bn)×(List Int)×Int)=>match sg with|(ng,oF,qj)=>Z5 (ng,oF,qj)) (rN,oD,oE)) (λ(j5:Int) (sg:(List bn)×(List Int)×Int)=>match sg with|(rN,oD,oE)=>some ((aa.mk m_1 rN),(aX.mk oD oE))) ([],fE.2.L,fE.2.At)) (aT.1,aT.2.L,aT.2.At,m_7)) (m_2,m_3,m_4)) (List.replicate ai.1.toNat []:List (List Bool))) ((0:Int),[],ai.2.L,ai.2.At)
def qk(t:aX)(p:aa):Option (Int×aX):=
 jn (λ(sg:Bool×(List Int)×Int)=>match sg with|(v_1,m_1,m_2)=>bif v_1 then bnd (dW (aX.mk m_1 m_2) ([(0:Int),(98:Int),(100:Int)]:List Int)) λ(aK:Int×aX)=>some (aK.1,aK.2)else bnd (bB (aX.mk m_1 m_2) (p.ah.length:Int)) λ(aV:Int×aX)=>bnd (elO p.ah aV.1) λ(e_1:aQ)=>some (e_1.ID,aV.2)) λJ1=>(bif decide ((p.ah.length:Int)=(0:Int))then J1 (true,t.L,t.At)else bnd (bB t (40:Int)) λ(ai:Int×aX)=>J1 (decide (ai.1=39),ai.2.L,ai.2.At))
def ta(t:aX)(p:aa)(n:Int):Option ((List Int)×aX):=
 bnd (bB t (w64 (n+1))) λ(ai:Int×aX)=>whl (λ(Z1:((List Int)×Int×(List Int)×Int)→Option _) (sg:(List Int)×Int×(List Int)×Int)=>match sg with|(aR,i_1,m_1,m_2)=>bif ((decide (0<i_1))&&(decide (0<(p.ah.length:Int))))then bnd (bB (aX.mk m_1 m_2) (p.ah.length:Int)) λ(aK:Int×aX)=>bnd (elO p.ah aK.1) λ(e_1:aQ)=>bnd (jP aR e_1.ID) λ(aV:(List Int))=>Z1 (aV,w64 (i_1-1),aK.2.L,aK.2.At)else some (aR,(aX.mk m_1 m_2))) ([],ai.1,ai.2.L,ai.2.At)
def oH(t:aX)(p:aa):Option (aF×aX):=
 bnd (dW t ([(64:Int),(64:Int),(32:Int),(16:Int)]:List Int)) λ(ai:Int×aX)=>bnd (mM p (64:Int)) λ(aK:aF×Int)=>jn (λ(sg:Bool×(List Int)×Int)=>match sg with|(v_1,m_1,m_2)=>bif v_1 then some (aK.1,(aX.mk m_1 m_2))else bJ p.ah 0 (λ(j1:Int) (e1:aQ) (Z1:((List az)×(List Int)×Int)→Option _) (sg:(List az)×(List Int)×Int)=>match sg with|(m_3,m_4,m_5)=>jn (λ(sg:(List Int)×Int×(List az))=>match sg with|(m_6,m_7,m_8)=>Z1 (m_8,m_6,m_7)) λJ2=>jn (λ(sg:(List Int)×Int×(List az))=>match sg with|(m_9,fI,gC)=>bJ p.Links 0 (λ(j2:Int) (e2:bn) (Z2:((List az)×(List Int)×Int)→Option _) (sg:(List az)×(List Int)×Int)=>match sg with|(eM,dN,gD)=>jn (λ(sg:(List Int)×Int×(List az))=>match sg with|(iO,mN,rN)=>Z2 (rN,iO,mN)) λJ4=>jn (λ(aaR:Int)=>jn (λ(yV:Int)=>jn (λ(sg:Bool×(List Int)×Int)=>match sg with|(v_2,oD,oE)=>bif v_2 then bnd (dx eM ([(az.mk (eM.length:Int) e1.ID (1:Int) yV)]:List az)) λ(l_2:List az)=>J4 (oD,oE,l_2)else J4 (oD,oE,eM)) λJ7=>(bif !decide (yV=0)then bnd (bB (aX.mk dN gD) (5:Int)) λ(aT:Int×aX)=>J7 (decide (0<aT.1),aT.2.L,aT.2.At)else J7 (false,dN,gD))) λJ6=>bif decide (e2.B=e1.ID)then J6 e2.A else J6 aaR) λJ5=>bif decide (e2.A=e1.ID)then J5 e2.B else J5 (0:Int)) (λ(sg:(List az)×(List Int)×Int)=>match sg with|(eM,dN,gD)=>bnd (bB (aX.mk dN gD) (p.ah.length:Int)) λ(cu:Int×aX)=>bnd (elO p.ah cu.1) λ(e_1:aQ)=>jn (λ(sg:Bool×(List Int)×Int)=>match sg with|(v_3,ng,oF)=>bif v_3 then bnd (dx eM ([(az.mk (eM.length:Int) e1.ID (2:Int) e_1.ID)]:List az)) λ(l_3:List az)=>J2 (ng,oF,l_3)else J2 (ng,oF,eM)) λJ8=>(bif !decide (e_1.ID=e1.ID)then bnd (bB cu.2 (3:Int)) λ(bA:Int×aX)=>J8 (decide (bA.1=0),bA.2.L,bA.2.At)else J8 (false,cu.2.L,cu.2.At))) (gC,m_9,fI)) λJ3=>bnd (bB (aX.mk m_4 m_5) (5:Int)) λ(bq:Int×aX)=>bif decide (0<bq.1)then bnd (dx m_3 ([(az.mk (m_3.length:Int) e1.ID (3:Int) e1.ID)]:List az)) λ(l_1:List az)=>J3 (bq.2.L,bq.2.At,l_1)else J3 (bq.2.L,bq.2.At,m_3)) (λ(sg:(List az)×(List Int)×Int)=>match sg with|(m_3,m_4,m_5)=>bnd (nP m_3 (0:Int) (if ai.1<(m_3.length:Int)then ai.1 else(m_3.length:Int))) λ(l_4:List az)=>jn (λ(sg:(List Int)×Int×(List az))=>match sg with|(qj,uL,uM)=>some ((aF.mk ai.1 uM),(aX.mk qj uL))) λJ9=>jn (λ(sg:Bool×(List Int)×Int)=>match sg with|(v_4,qP,qQ)=>bif v_4 then bJ l_4 0 (λ(j3:Int) (e3:az) (Z3:(List az)→Option _) (oG:(List az))=>bnd (elO oG (j3:Int)) λ(e_2:az)=>bnd (rI oG (j3:Int) (az.mk (w64 (e_2.Bit+(w64 (ai.1-(oG.length:Int))))) e_2.br e_2.Kind e_2.To)) λ(l_5:List az)=>Z3 l_5) (λ(oG:(List az))=>J9 (qP,qQ,oG)) l_4 else J9 (qP,qQ,l_4)) λJ10=>bnd (bB (aX.mk m_4 m_5) (3:Int)) λ(fE:Int×aX)=>(bif decide (fE.1=0)then J10 (decide ((l_4.length:Int)<ai.1),fE.2.L,fE.2.At)else J10 (false,fE.2.L,fE.2.At))) ([],m_1,m_2)) λJ1=>(bif decide (aK.2=0)then bnd (bB ai.2 (2:Int)) λ(aV:Int×aX)=>J1 (decide (aV.1=0),aV.2.L,aV.2.At)else J1 (false,ai.2.L,ai.2.At))
def mW(p:aa):Option Bool:=
 some ((decide ((p.ah.length:Int)≤(30:Int)))&&(decide ((p.Links.length:Int)≤(70:Int))))
end
end Go.Proofs.YtdjeacigeegklaaGreat
namespace Go.Proofs.YtdjeacigeegklaaGreat
open Go
set_option maxRecDepth 100000
set_option linter.all false
noncomputable section
def ig(n:Int):Option Bool:=
 some ((decide (n=8))||((decide (n=16))||((decide (n=32))||(decide (n=64)))))
def rE(length:Int):Option Int:=
 bnd (ig length) λ(ai:Bool)=>bif !ai then some (0:Int)else chk (decide (0≤w64 ((64:Int)-length)))<|some (Int.fdiv (18446744073709551615:Int) (2 ^ min (w64 ((64:Int)-length)).toNat 64))
def oI(b:Int)(length:Int):Option Bool:=
 bnd (ig length) λ(ai:Bool)=>(bif ai then bnd (rE length) λ(aK:Int)=>some (decide (aU .andNot .u64 b aK=0))else some false)
def lD(n:Int):Option Bool:=
 some ((decide (1≤n))&&(decide (n≤99)))
def oJ(a:az):Option cO:=
 some (cO.mk a.br a.Kind a.To)
def gz(e:aF):Option Int:=
 bnd (ig e.Length) λ(ai:Bool)=>bif !ai then some (2:Int)else bJ e.List 0 (λ(j1:Int) (e1:az) (Z1:Unit→Option _) (sg:Unit)=>match sg with|()=>jn (λ(v_1:Bool)=>bif v_1 then some (2:Int)else Z1 ()) λJ1=>(bif decide (e1.Bit<0)then J1 true else(bif decide (e.Length≤e1.Bit)then J1 true else bnd (lD e1.br) λ(aK:Bool)=>(bif !aK then J1 true else bnd (lD e1.To) λ(aV:Bool)=>J1 (!aV))))) (λ(sg:Unit)=>match sg with|()=>bJ e.List 0 (λ(j2:Int) (e2:az) (Z2:Unit→Option _) (sg:Unit)=>match sg with|()=>bif ((decide (e2.Kind<1))||(decide (3<e2.Kind)))then some (1:Int)else Z2 ()) (λ(sg:Unit)=>match sg with|()=>bJ e.List 0 (λ(j3:Int) (e3:az) (Z3:Unit→Option _) (sg:Unit)=>match sg with|()=>bif !((decide (e3.To=e3.br))==(decide (e3.Kind=3)))then some (8:Int)else Z3 ()) (λ(sg:Unit)=>match sg with|()=>bJ (List.drop 1 e.List) 1 (λ(j4:Int) (e4:az) (Z4:Unit→Option _) (sg:Unit)=>match sg with|()=>bnd (elO e.List (w64 ((j4:Int)-(1:Int)))) λ(e_1:az)=>bif decide (e4.Bit≤e_1.Bit)then some (25:Int)else Z4 ()) (λ(sg:Unit)=>match sg with|()=>bJ e.List 0 (λ(j5:Int) (e5:az) (Z5:(List (cO×Bool))→Option _) (m_1:(List (cO×Bool)))=>bnd (oJ e5) λ(bq:cO)=>bif ((kr eC m_1 bq).getD false)then some (5:Int)else bnd (oJ e5) λ(aT:cO)=>Z5 (qJ eC m_1 aT true)) (λ(m_1:(List (cO×Bool)))=>some (0:Int)) []) ()) ()) ()) ()
def lJ(e:aF)(aD:Int):Option Int:=
 jn (λ(b_1:Int)=>some b_1) λJ1=>bnd (gz e) λ(ai:Int)=>bif decide (ai=0)then bJ e.List 0 (λ(j1:Int) (e1:az) (Z1:Int→Option _) (b_2:Int)=>jn (λ(b_3:Int)=>Z1 b_3) λJ2=>bif decide (e1.br=aD)then chk (decide (0≤e1.Bit))<|J2 (aU .or .u64 b_2 (IntKind.wrap .u64 ((1:Int)*2 ^ min e1.Bit.toNat 64)))else J2 b_2) (λ(b_2:Int)=>J1 b_2) (0:Int)else J1 (0:Int)
end
end Go.Proofs.YtdjeacigeegklaaGreat
namespace Go.Proofs.YtdjeacigeegklaaGreat
open Go
set_option maxRecDepth 100000
set_option linter.all false
noncomputable section
def oe(a:aI)(b:aI):Option Int:=
 bnd (fL a.to_ b.to_) λ(ai:Int)=>some ai
end
end Go.Proofs.YtdjeacigeegklaaGreat
namespace Go.Proofs.YtdjeacigeegklaaGreat
open Go
set_option maxRecDepth 100000
set_option linter.all false
noncomputable section
def kI(t:aa):Option Bool:=
 bnd (gW t) λ(ai:Int)=>some (decide (ai=0))
def nH(t:aa):Option fQ:=
 bJ t.ah 0 (λ(j1:Int) (e1:aQ) (Z1:((List (Int×List aI))×(List (Int×List aI)))→Option _) (sg:(List (Int×List aI))×(List (Int×List aI)))=>match sg with|(m_1,m_2)=>Z1 (bZ m_1 e1.ID [],bZ m_2 e1.ID [])) (λ(sg:(List (Int×List aI))×(List (Int×List aI)))=>match sg with|(m_1,m_2)=>bJ t.Links 0 (λ(j2:Int) (e2:bn) (Z2:((List (Int×List aI))×(List (Int×List aI)))→Option _) (sg:(List (Int×List aI))×(List (Int×List aI)))=>match sg with|(m_3,m_4)=>bnd (dx ((aJ m_3 e2.A).getD []) ([(aI.mk e2.B e2.iE)]:List aI)) λ(l_1:List aI)=>bnd (dx ((aJ (bZ m_3 e2.A l_1) e2.B).getD []) ([(aI.mk e2.A e2.iF)]:List aI)) λ(l_2:List aI)=>bnd (dx ((aJ m_4 e2.B).getD []) ([(aI.mk e2.A e2.iE)]:List aI)) λ(l_3:List aI)=>bnd (dx ((aJ (bZ m_4 e2.B l_3) e2.A).getD []) ([(aI.mk e2.B e2.iF)]:List aI)) λ(l_4:List aI)=>Z2 (bZ (bZ m_3 e2.A l_1) e2.B l_2,bZ (bZ m_4 e2.B l_3) e2.A l_4)) (λ(sg:(List (Int×List aI))×(List (Int×List aI)))=>match sg with|(m_3,m_4)=>bnd (ux m_3 (λ(n_1:Int) (v_1:List aI) (m_5:(List (Int×List aI)))=>chk (aJ m_5 n_1).isSome<|bnd (sU (mJ [λx:aI=>x.to_]) ((aJ m_5 n_1).getD [])) λ(l_5:List aI)=>some (bZ m_5 n_1 l_5)) m_3) λ(R1:(List (Int×List aI)))=>some (fQ.mk R1 m_4)) (m_1,m_2)) (([]:List (Int×List aI)),([]:List (Int×List aI)))
def fR(links:List (Int×List aI))(cB:Int):Option (List (Int×Int)):=
 bif !((aJ links cB).isSome)then some []else jn (λ(sg:(List (Int×Int))×(List (Int×Int)))=>match sg with|(m_1,m_2)=>some m_1) λJ1=>whl (λ(Z1:((List (Int×Int))×(List (Int×Int)))→Option _) (sg:(List (Int×Int))×(List (Int×Int)))=>match sg with|(m_3,m_4)=>bif decide (0<(m_4.length:Int))then bnd (ux m_4 (λ(n_1:Int) (v_1:Int) (ee:Int)=>bif ((decide (ee=0))||((decide (v_1<((aJ m_4 ee).getD (0:Int))))||((decide (v_1=((aJ m_4 ee).getD (0:Int))))&&(decide (n_1<ee)))))then some n_1 else some ee) (0:Int)) λ(R1:Int)=>bif decide (((bZ m_3 R1 ((aJ m_4 R1).getD (0:Int))).length:Int)=(links.length:Int))then J1 (bZ m_3 R1 ((aJ m_4 R1).getD (0:Int)),pL m_4 R1)else bJ ((aJ links R1).getD []) 0 (λ(j2:Int) (e2:aI) (Z2:(List (Int×Int))→Option _) (m_5:(List (Int×Int)))=>jn (λ(m_6:(List (Int×Int)))=>Z2 m_6) λJ2=>bif (aJ (bZ m_3 R1 ((aJ m_4 R1).getD (0:Int))) e2.to_).isSome then J2 m_5 else bif ((!((aJ m_5 e2.to_).isSome))||(decide (w64 (((aJ m_4 R1).getD (0:Int))+e2.gh)<((aJ m_5 e2.to_).getD (0:Int)))))then J2 (bZ m_5 e2.to_ (w64 (((aJ m_4 R1).getD (0:Int))+e2.gh)))else J2 m_5) (λ(m_5:(List (Int×Int)))=>Z1 (bZ m_3 R1 ((aJ m_4 R1).getD (0:Int)),m_5)) (pL m_4 R1)else J1 (m_3,m_4)) ([],bZ [] cB (0:Int))
def jg(g:fQ)(fN:List (Int×Int))(ep:Int):Option (List Int):=
 bif !((aJ fN ep).isSome)then some []else bJ ((aJ g.nQ ep).getD []) 0 (λ(j1:Int) (e1:aI) (Z1:(List Int)→Option _) (aR:(List Int))=>jn (λ(cv:(List Int))=>Z1 cv) λJ1=>bif (((aJ fN e1.to_).isSome)&&(decide (w64 (e1.gh+((aJ fN e1.to_).getD (0:Int)))=((aJ fN ep).getD (0:Int)))))then bnd (dx aR ([e1.to_]:List Int)) λ(l_1:List Int)=>J1 l_1 else J1 aR) (λ(aR:(List Int))=>some aR) []
def kJ(t:aa)(cB:Int)(eO:Int):Option (List Int):=
 jn (λ(v_1:Bool)=>bif v_1 then some []else bnd (nH t) λ(aK:fQ)=>bnd (fR aK.in_ eO) λ(aV:(List (Int×Int)))=>whl (λ(Z1:((List Int)×Int)→Option _) (sg:(List Int)×Int)=>match sg with|(aR,yX)=>bif !decide (yX=eO)then bnd (jg aK aV yX) λ(bq:(List Int))=>bif decide ((bq.length:Int)=(0:Int))then some []else bnd (elO bq (0:Int)) λ(e_1:Int)=>bnd (dx aR ([e_1]:List Int)) λ(l_1:List Int)=>bnd (elO l_1 (w64 ((l_1.length:Int)-(1:Int)))) λ(e_2:Int)=>Z1 (l_1,e_2)else some aR) ([],cB)) λJ1=>bnd (kI t) λ(ai:Bool)=>(bif !ai then J1 true else J1 (decide (cB=eO)))
end
end Go.Proofs.YtdjeacigeegklaaGreat
namespace Go.Proofs.YtdjeacigeegklaaGreat
open Go
set_option maxRecDepth 100000
set_option linter.all false
noncomputable section
def kT(n:Int)(most:Int):Option Bool:=
 some ((decide (0≤n))&&(decide (n≤most)))
def kK(p:aH):Option Bool:=
 (bif decide (1≤p.Mode)then(bif decide (p.Mode≤3)then bnd (kT p.bQ (7:Int)) λ(ai:Bool)=>(bif ai then bnd (kT p.Set (31:Int)) λ(aK:Bool)=>(bif aK then bnd (oI p.Bits p.Length) λ(aV:Bool)=>(bif aV then bnd (kT p.TTL (63:Int)) λ(bq:Bool)=>(bif bq then bnd (kT p.cI (1023:Int)) λ(aT:Bool)=>(bif aT then bnd (kT p.cK (256:Int)) λ(cu:Bool)=>(bif cu then bnd (kT p.dU (7:Int)) λ(bA:Bool)=>(bif bA then some (decide ((p.cD.size:Int)≤(64:Int)))else some false)else some false)else some false)else some false)else some false)else some false)else some false)else some false)else some false)
def nq(p:aH)(bit:Int):Option aH:=
 jn (λ(v_1:Bool)=>bif v_1 then some (aH.mk (0:Int) (0:Int) (0:Int) (0:Int) (0:Int) (0:Int) (0:Int) (0:Int) (0:Int) (⟨#[]⟩:ByteArray))else chk (decide (0≤bit))<|some (aH.mk p.Mode p.bQ p.Set p.Length p.TTL p.cI p.cK p.dU (IntKind.wrap .u64 ((1:Int)*2 ^ min bit.toNat 64)) p.cD)) λJ1=>bnd (kK p) λ(ai:Bool)=>(bif !ai then J1 true else(bif decide (bit<0)then J1 true else(bif decide (63<bit)then J1 true else chk (decide (0≤bit))<|J1 (decide (aU .and .u64 (Int.fdiv p.Bits (2 ^ min bit.toNat 64)) (1:Int)=(0:Int))))))
def lE(e:aF)(p:aH):Option Int:=
 bif !decide (p.Mode=2)then some (7:Int)else bif !decide (p.Length=e.Length)then some (8:Int)else some (0:Int)
def ki(e:aF)(aD:Int)(p:aH):Option (cg×(List cE)):=
 bnd (lJ e aD) λ(ai:Int)=>bJ e.List 0 (λ(j1:Int) (e1:az) (Z1:((List cE)×Int×Int×(List bh))→Option _) (sg:(List cE)×Int×Int×(List bh))=>match sg with|(iJ,m_1,m_2,m_3)=>jn (λ(sg:(List cE)×Int×Int×(List bh))=>match sg with|(vC,m_4,m_5,m_6)=>Z1 (vC,m_4,m_5,m_6)) λJ1=>chk (decide (0≤e1.Bit))<|bif ((!decide (e1.br=aD))||(decide (aU .and .u64 p.Bits (IntKind.wrap .u64 ((1:Int)*2 ^ min e1.Bit.toNat 64))=(0:Int))))then J1 (iJ,m_1,m_2,m_3)else bif decide (e1.Kind=3)then J1 (iJ,aU .or .u64 m_1 (IntKind.wrap .u64 ((1:Int)*2 ^ min e1.Bit.toNat 64)),m_2,m_3)else bif decide (p.TTL=0)then J1 (iJ,m_1,aU .or .u64 m_2 (IntKind.wrap .u64 ((1:Int)*2 ^ min e1.Bit.toNat 64)),m_3)else bif !decide (aU .andNot .u64 p.Bits ai=0)then jn (λ(m_7:(List Int))=>bnd (dx m_3 ([(bh.mk e1.To (dP.mk m_7 (aH.mk p.Mode p.bQ p.Set p.Length (w64 (p.TTL-1)) p.cI p.cK p.dU (aU .andNot .u64 p.Bits ai) p.cD)))]:List bh)) λ(l_1:List bh)=>bnd (dx iJ ([(cE.mk e1 (bh.mk e1.To (dP.mk m_7 (aH.mk p.Mode p.bQ p.Set p.Length (w64 (p.TTL-1)) p.cI p.cK p.dU (aU .andNot .u64 p.Bits ai) p.cD))))]:List cE)) λ(l_2:List cE)=>J1 (l_2,m_1,m_2,l_1)) λJ2=>bif decide (e1.Kind=2)then J2 ([e1.To]:List Int)else J2 []else J1 (iJ,m_1,m_2,m_3)) (λ(sg:(List cE)×Int×Int×(List bh))=>match sg with|(iJ,m_1,m_2,m_3)=>some ((cg.mk m_1 m_2 m_3),iJ)) ([],(0:Int),(0:Int),[])
def jF(e:aF)(aD:Int)(p:aH):Option (cg×Int):=
 jn (λ(v_1:Bool)=>bif v_1 then some ((cg.mk (0:Int) (0:Int) []),(1:Int))else bnd (lE e p) λ(aV:Int)=>bif !decide (aV=0)then some ((cg.mk (0:Int) (0:Int) []),aV)else bnd (ki e aD p) λ(bq:cg×(List cE))=>some (bq.1,(0:Int))) λJ1=>bnd (gz e) λ(ai:Int)=>(bif !decide (ai=0)then J1 true else bnd (kK p) λ(aK:Bool)=>J1 (!aK))
end
end Go.Proofs.YtdjeacigeegklaaGreat
namespace Go.Proofs.YtdjeacigeegklaaGreat
open Go
set_option maxRecDepth 100000
set_option linter.all false
noncomputable section
def mX(n:Int):Option Bool:=
 some ((decide (n=8))||((decide (n=16))||((decide (n=32))||(decide (n=64)))))
def xM(k:Int):Option Int:=
 bif ((decide (k<0))||(decide (63<k)))then some (0:Int)else chk (decide (0≤IntKind.wrap .u64 k))<|some (IntKind.wrap .u64 ((1:Int)*2 ^ min (IntKind.wrap .u64 k).toNat 64))
def tc(length:Int):Option Int:=
 bnd (mX length) λ(ai:Bool)=>bif !ai then some (0:Int)else chk (decide (length≤9223372036854775807))<|mI (length-0).toNat (0:Int) (λ(j1:Int) (Z1:Int→Option _) (b_1:Int)=>bnd (xM (j1:Int)) λ(aK:Int)=>Z1 (aU .or .u64 b_1 aK)) (λ(j1:Int) (b_1:Int)=>some b_1) (0:Int)
def pg(b:Int)(length:Int):Option Bool:=
 bnd (mX length) λ(ai:Bool)=>(bif ai then bnd (tc length) λ(aK:Int)=>some (decide (aU .andNot .u64 b aK=0))else some false)
def ij(n:Int)(most:Int):Option Bool:=
 some ((decide (0≤n))&&(decide (n≤most)))
def nt(p:aH):Option Bool:=
 (bif decide (1≤p.Mode)then(bif decide (p.Mode≤3)then bnd (ij p.bQ (7:Int)) λ(ai:Bool)=>(bif ai then bnd (ij p.Set (31:Int)) λ(aK:Bool)=>(bif aK then bnd (pg p.Bits p.Length) λ(aV:Bool)=>(bif aV then bnd (ij p.TTL (63:Int)) λ(bq:Bool)=>(bif bq then bnd (ij p.cI (1023:Int)) λ(aT:Bool)=>(bif aT then bnd (ij p.cK (256:Int)) λ(cu:Bool)=>(bif cu then bnd (ij p.dU (7:Int)) λ(bA:Bool)=>(bif bA then some (decide ((p.cD.size:Int)≤(64:Int)))else some false)else some false)else some false)else some false)else some false)else some false)else some false)else some false)else some false)
def pq(t:aa)(ra1:Int):Option Int:=
 bJ t.ah 0 (λ(j1:Int) (e1:aQ) (Z1:Unit→Option _) (sg:Unit)=>match sg with|()=>bif decide (e1.ID=ra1)then some (j1:Int)else Z1 ()) (λ(sg:Unit)=>match sg with|()=>some (0:Int)) ()
def td(t:aa)(aab:Int):Option (List Int):=
 chk (decide (0≤(t.ah.length:Int))&&decide ((t.ah.length:Int)≤4294967296))<|whl (λ(Z1:((List Int)×Int)→Option _) (sg:(List Int)×Int)=>match sg with|(d_1,i_1)=>bif decide (i_1<(d_1.length:Int))then jn (λ(d_2:(List Int))=>Z1 (d_2,w64 (i_1+1))) λJ1=>bnd (elO d_1 i_1) λ(e_1:Int)=>bnd (rI d_1 i_1 (1073741824:Int)) λ(l_1:List Int)=>bnd (elO t.ah i_1) λ(e_2:aQ)=>bif decide (e_2.ID=aab)then bnd (elO l_1 i_1) λ(e_3:Int)=>bnd (rI l_1 i_1 (0:Int)) λ(l_2:List Int)=>J1 l_2 else J1 l_1 else whl (λ(Z2:((List Int)×Int)→Option _) (sg:(List Int)×Int)=>match sg with|(d_3,nu)=>bif decide (nu<(d_3.length:Int))then bJ t.Links 0 (λ(j3:Int) (e3:bn) (Z3:(List Int)→Option _) (d_4:(List Int))=>jn (λ(d_5:(List Int))=>Z3 d_5) λJ2=>bnd (pq t e3.A) λ(ai:Int)=>bnd (pq t e3.B) λ(aK:Int)=>jn (λ(d_6:(List Int))=>bnd (elO d_6 ai) λ(e_6:Int)=>bif decide (e_6<1073741824)then bnd (elO d_6 aK) λ(e_7:Int)=>bnd (rI d_6 aK (if(w64 (e3.iF+e_6))<e_7 then w64 (e3.iF+e_6)else e_7)) λ(l_4:List Int)=>J2 l_4 else J2 d_6) λJ3=>bnd (elO d_4 aK) λ(e_4:Int)=>bif decide (e_4<1073741824)then bnd (elO d_4 ai) λ(e_5:Int)=>bnd (rI d_4 ai (if(w64 (e3.iE+e_4))<e_5 then w64 (e3.iE+e_4)else e_5)) λ(l_3:List Int)=>J3 l_3 else J3 d_4) (λ(d_4:(List Int))=>Z2 (d_4,w64 (nu+1))) d_3 else some d_3) (d_1,(0:Int))) ((List.replicate ((t.ah.length:Int)).toNat (0:Int)),(0:Int))
def nI(t:aa)(d:List Int)(ra2:Int):Option Int:=
 bJ t.ah 0 (λ(j1:Int) (e1:aQ) (Z1:Unit→Option _) (sg:Unit)=>match sg with|()=>bif decide (e1.ID=ra2)then bnd (elO d (j1:Int)) λ(e_1:Int)=>some e_1 else Z1 ()) (λ(sg:Unit)=>match sg with|()=>some (1073741824:Int)) ()
def pz(t:aa)(d:List Int)(ep:Int):Option (List Int):=
 bnd (nI t d ep) λ(ai:Int)=>bif ((decide (ai=1073741824))||(decide (ai=0)))then some []else bnd (oy t ep) λ(aK:(List Int))=>bJ aK 0 (λ(j1:Int) (e1:Int) (Z1:(List Int)→Option _) (aR:(List Int))=>jn (λ(cv:(List Int))=>Z1 cv) λJ1=>bnd (lS t ep e1) λ(aV:Int×Bool)=>jn (λ(v_1:Bool)=>bif v_1 then bnd (dx aR ([e1]:List Int)) λ(l_1:List Int)=>J1 l_1 else J1 aR) λJ2=>bnd (nI t d e1) λ(bq:Int)=>(bif decide (bq<1073741824)then bnd (nI t d e1) λ(aT:Int)=>J2 (decide (w64 (aV.1+aT)=ai))else J2 false)) (λ(aR:(List Int))=>some aR) []
def nv(t:aa)(cB:Int)(eO:Int):Option (List Int):=
 jn (λ(v_1:Bool)=>bif v_1 then some []else bnd (td t eO) λ(aV:(List Int))=>whl (λ(Z1:(Int×(List Int))→Option _) (sg:Int×(List Int))=>match sg with|(tU,aR)=>bif !decide (tU=eO)then bnd (pz t aV tU) λ(bq:(List Int))=>bif decide ((bq.length:Int)=(0:Int))then some []else bnd (elO bq (0:Int)) λ(e_1:Int)=>bnd (dx aR ([e_1]:List Int)) λ(l_1:List Int)=>Z1 (e_1,l_1)else some aR) (cB,[])) λJ1=>bnd (kR t cB) λ(ai:Bool)=>(bif !ai then J1 true else bnd (kR t eO) λ(aK:Bool)=>J1 (!aK))
def mO(e:aF)(p:aH):Option Int:=
 bif !decide (p.Mode=2)then some (7:Int)else bif !decide (p.Length=e.Length)then some (8:Int)else some (0:Int)
def lK(e:aF)(aD:Int)(p:aH):Option (cg×Int):=
 jn (λ(v_1:Bool)=>bif v_1 then some ((cg.mk (0:Int) (0:Int) []),(1:Int))else bnd (mO e p) λ(aV:Int)=>bif !decide (aV=0)then some ((cg.mk (0:Int) (0:Int) []),aV)else bnd (pF e aD) λ(bq:Int)=>bJ e.List 0 (λ(j1:Int) (e1:az) (Z1:(Int×Int×(List bh))→Option _) (sg:Int×Int×(List bh))=>match sg with|(m_1,m_2,m_3)=>jn (λ(sg:Int×Int×(List bh))=>match sg with|(m_4,m_5,m_6)=>Z1 (m_4,m_5,m_6)) λJ2=>chk (decide (0≤IntKind.wrap .u64 e1.Bit))<|bif ((!decide (e1.br=aD))||(decide (aU .and .u64 p.Bits (IntKind.wrap .u64 ((1:Int)*2 ^ min (IntKind.wrap .u64 e1.Bit).toNat 64))=(0:Int))))then J2 (m_1,m_2,m_3)else bif decide (e1.Kind=3)then J2 (aU .or .u64 m_1 (IntKind.wrap .u64 ((1:Int)*2 ^ min (IntKind.wrap .u64 e1.Bit).toNat 64)),m_2,m_3)else bif decide (p.TTL=0)then J2 (m_1,aU .or .u64 m_2 (IntKind.wrap .u64 ((1:Int)*2 ^ min (IntKind.wrap .u64 e1.Bit).toNat 64)),m_3)else bif !decide (aU .andNot .u64 p.Bits bq=0)then jn (λ(m_7:(List Int))=>bnd (dx m_3 ([(bh.mk e1.To (dP.mk m_7 (aH.mk p.Mode p.bQ p.Set p.Length (w64 (p.TTL-1)) p.cI p.cK p.dU (aU .andNot .u64 p.Bits bq) p.cD)))]:List bh)) λ(l_1:List bh)=>J2 (m_1,m_2,l_1)) λJ3=>bif decide (e1.Kind=2)then J3 ([e1.To]:List Int)else J3 []else J2 (m_1,m_2,m_3)) (λ(sg:Int×Int×(List bh))=>match sg with|(m_1,m_2,m_3)=>some ((cg.mk m_1 m_2 m_3),(0:Int))) ((0:Int),(0:Int),[])) λJ1=>bnd (gy e) λ(ai:Int)=>(bif !decide (ai=0)then J1 true else bnd (nt p) λ(aK:Bool)=>J1 (!aK))
def jh(aD:Int)(bits:Int)(p:aH):Option (List bW):=
 mI ((64:Int)-(0:Int)).toNat (0:Int) (λ(j1:Int) (Z1:(List bW)→Option _) (aR:(List bW))=>jn (λ(cv:(List bW))=>Z1 cv) λJ1=>chk (decide (0≤IntKind.wrap .u64 (j1:Int)))<|bif decide (aU .and .u64 (Int.fdiv bits (2 ^ min (IntKind.wrap .u64 (j1:Int)).toNat 64)) (1:Int)=(1:Int))then chk (decide (0≤IntKind.wrap .u64 (j1:Int)))<|bnd (dx aR ([(bW.mk aD (aH.mk p.Mode p.bQ p.Set p.Length p.TTL p.cI p.cK p.dU (IntKind.wrap .u64 ((1:Int)*2 ^ min (IntKind.wrap .u64 (j1:Int)).toNat 64)) p.cD))]:List bW)) λ(l_1:List bW)=>J1 l_1 else J1 aR) (λ(j1:Int) (aR:(List bW))=>some aR) []
def kj(a:cg)(b:cg):Option Bool:=
 bif ((!decide (a.Local=b.Local))||((!decide (a.gw=b.gw))||(!decide ((a.bz.length:Int)=(b.bz.length:Int)))))then some false else bJ a.bz 0 (λ(j1:Int) (e1:bh) (Z1:Unit→Option _) (sg:Unit)=>match sg with|()=>bnd (elO b.bz (j1:Int)) λ(e_1:bh)=>bif ((!decide (e1.To=e_1.To))||((!(mA e1.Frame.ay e_1.Frame.ay))||(!decide ((e1.Frame.dZ.length:Int)=(e_1.Frame.dZ.length:Int)))))then some false else bJ e1.Frame.dZ 0 (λ(j2:Int) (e2:Int) (Z2:Unit→Option _) (sg:Unit)=>match sg with|()=>bnd (elO e_1.Frame.dZ (j2:Int)) λ(e_2:Int)=>bif !decide (e2=e_2)then some false else Z2 ()) (λ(sg:Unit)=>match sg with|()=>Z1 ()) ()) (λ(sg:Unit)=>match sg with|()=>some true) ()
def l7(a:dy)(b:dy):Option Bool:=
 bif ((!decide ((a.cG.length:Int)=(b.cG.length:Int)))||((!decide ((a.cr.length:Int)=(b.cr.length:Int)))||(!decide ((a.dR.length:Int)=(b.dR.length:Int)))))then some false else bJ a.cG 0 (λ(j1:Int) (e1:bW) (Z1:Unit→Option _) (sg:Unit)=>match sg with|()=>bnd (elO b.cG (j1:Int)) λ(e_1:bW)=>bif !(ru e1 e_1)then some false else Z1 ()) (λ(sg:Unit)=>match sg with|()=>bJ a.cr 0 (λ(j2:Int) (e2:ck) (Z2:Unit→Option _) (sg:Unit)=>match sg with|()=>bnd (elO b.cr (j2:Int)) λ(e_2:ck)=>bif !(ry e2 e_2)then some false else Z2 ()) (λ(sg:Unit)=>match sg with|()=>bJ a.dR 0 (λ(j3:Int) (e3:cC) (Z3:Unit→Option _) (sg:Unit)=>match sg with|()=>bnd (elO b.dR (j3:Int)) λ(e_3:cC)=>bif !(x6 e3 e_3)then some false else Z3 ()) (λ(sg:Unit)=>match sg with|()=>some true) ()) ()) ()
end
end Go.Proofs.YtdjeacigeegklaaGreat
namespace Go.Proofs.YtdjeacigeegklaaGreat
open Go
set_option maxRecDepth 100000
set_option linter.all false
noncomputable section
def gO(sa0:List Int):Option (List Int):=
 bnd (dx ([]:List Int) sa0) λ(l_1:List Int)=>some l_1
def pQ: Option (List Int):=
 bnd (dx ([]:List Int) []) λ(l_1:List Int)=>some l_1
def j9(s:List Int):Option (List Int):=gO s
def pR(f:aO)(a:Int)(b:Int):Option Bool:=
 bnd (dJ f.Links (bU.mk a b)) λ(ai:Bool)=>(bif ai then some true else bnd (dJ f.Links (bU.mk b a)) λ(aK:Bool)=>some aK)
def oL(t:aa)(f:aO)(aD:Int):Option (List Int):=
 bnd (jc t aD) λ(ai:(List Int))=>bJ ai 0 (λ(j1:Int) (e1:Int) (Z1:(List Int)→Option _) (aR:(List Int))=>jn (λ(cv:(List Int))=>Z1 cv) λJ1=>jn (λ(v_1:Bool)=>bif v_1 then bnd (dx aR ([e1]:List Int)) λ(l_1:List Int)=>J1 l_1 else J1 aR) λJ2=>bnd (cV f.ah e1) λ(aK:Bool)=>(bif aK then J2 true else bnd (pR f aD e1) λ(aV:Bool)=>J2 aV)) (λ(aR:(List Int))=>some aR) []
def pS(a:az):Option Bool:=
 some (decide (a.Kind=2))
def lT(e:aF):Option Bool:=
 bnd (gz e) λ(ai:Int)=>(bif decide (ai=0)then bnd (dM e.List pS) λ(aK:Bool)=>some (!aK)else some false)
def jV(c:bh)(gT:List Int)(bits:Int):Option bh:=
 bnd (elO gT (0:Int)) λ(e_1:Int)=>bnd (nP gT (1:Int) (gT.length:Int)) λ(l_1:List Int)=>bnd (j9 l_1) λ(ai:(List Int))=>some (bh.mk e_1 (dP.mk ai (aH.mk c.Frame.ay.Mode c.Frame.ay.bQ c.Frame.ay.Set c.Frame.ay.Length c.Frame.ay.TTL c.Frame.ay.cI c.Frame.ay.cK c.Frame.ay.dU bits c.Frame.ay.cD)))
def oM(e:aF)(t:aa)(aD:Int)(c:bh):Option ((List bh)×Int):=
 bnd (lJ e c.To) λ(ai:Int)=>bnd (gY t (aO.mk [] ([c.To]:List Int))) λ(aK:aa)=>bJ e.List 0 (λ(j1:Int) (e1:az) (Z1:((List bh)×Int×Int)→Option _) (sg:(List bh)×Int×Int)=>match sg with|(aR,dK,dI)=>jn (λ(sg:(List bh)×Int×Int)=>match sg with|(cv,qz,mD)=>Z1 (cv,qz,mD)) λJ1=>chk (decide (0≤e1.Bit))<|bif ((!decide (e1.br=c.To))||(decide (aU .and .u64 c.Frame.ay.Bits (IntKind.wrap .u64 ((1:Int)*2 ^ min e1.Bit.toNat 64))=(0:Int))))then J1 (aR,dK,dI)else bif decide (e1.Kind=3)then J1 (aR,aU .or .u64 dK (IntKind.wrap .u64 ((1:Int)*2 ^ min e1.Bit.toNat 64)),dI)else bif decide (e1.To=aD)then J1 (aR,dK,dI)else bnd (jE aK aD e1.To) λ(aV:Bool)=>bif !aV then J1 (aR,aU .or .u64 dK (IntKind.wrap .u64 ((1:Int)*2 ^ min e1.Bit.toNat 64)),aU .or .u64 dI (IntKind.wrap .u64 ((1:Int)*2 ^ min e1.Bit.toNat 64)))else bif !decide (aU .andNot .u64 c.Frame.ay.Bits ai=0)then bnd (kJ aK aD e1.To) λ(bq:(List Int))=>bnd (jV c bq (aU .andNot .u64 c.Frame.ay.Bits ai)) λ(aT:bh)=>bnd (dx aR ([aT]:List bh)) λ(l_1:List bh)=>J1 (l_1,dK,dI)else J1 (aR,dK,dI)) (λ(sg:(List bh)×Int×Int)=>match sg with|(aR,dK,dI)=>bif decide (dK=0)then some (aR,(0:Int))else bnd (gY t (aO.mk ([(bU.mk aD c.To)]:List bU) [])) λ(cu:aa)=>bnd (kJ cu aD c.To) λ(bA:(List Int))=>bif decide ((bA.length:Int)=(0:Int))then some (aR,dK)else jn (λ(acy:Int)=>bnd (jV c bA acy) λ(fE:bh)=>bnd (dx aR ([fE]:List bh)) λ(l_2:List bh)=>some (l_2,(0:Int))) λJ2=>bif !decide (dI=0)then J2 (aU .or .u64 dK (aU .andNot .u64 c.Frame.ay.Bits ai))else J2 dK) ([],(0:Int),(0:Int))
def jG(e:aF)(t:aa)(aD:Int)(p:aH)(down:List Int):Option (cg×Int):=
 bnd (jF e aD p) λ(ai:cg×Int)=>bif !decide (ai.2=0)then some ((cg.mk (0:Int) (0:Int) []),ai.2)else jn (λ(v_1:Bool)=>bif v_1 then some ((cg.mk (0:Int) (0:Int) []),(1:Int))else bJ ai.1.bz 0 (λ(j1:Int) (e1:bh) (Z1:(Int×(List bh))→Option _) (sg:Int×(List bh))=>match sg with|(m_1,m_2)=>jn (λ(sg:Int×(List bh))=>match sg with|(m_3,m_4)=>Z1 (m_3,m_4)) λJ2=>bnd (cV down e1.To) λ(bq:Bool)=>bif !bq then bnd (dx m_2 ([e1]:List bh)) λ(l_1:List bh)=>J2 (m_1,l_1)else bnd (oM e t aD e1) λ(aT:(List bh)×Int)=>bnd (dx m_2 aT.1) λ(l_2:List bh)=>J2 (aU .or .u64 m_1 aT.2,l_2)) (λ(sg:Int×(List bh))=>match sg with|(m_1,m_2)=>some ((cg.mk ai.1.Local m_1 m_2),(0:Int))) (ai.1.gw,[])) λJ1=>bnd (lT e) λ(aK:Bool)=>(bif !aK then J1 true else bnd (gW t) λ(aV:Int)=>J1 (!decide (aV=0)))
def gJ(d:dh)(aD:Int)(c:bh):Option dh:=
 bnd (nG d.ez aD c.To) λ(ai:Int×Bool)=>bif !ai.2 then bnd (dx d.cR.dR ([(cC.mk aD c.Frame.ay.Bits)]:List cC)) λ(l_1:List cC)=>some (dh.mk d.cz d.dg d.ez d.cH (dy.mk d.cR.cG d.cR.cr l_1) d.iZ)else bnd (dx d.cR.cr ([(ck.mk aD c.To c.Frame.ay.Bits)]:List ck)) λ(l_2:List ck)=>bnd (dx d.iZ ([(bg.mk c.To c.Frame)]:List bg)) λ(l_3:List bg)=>some (dh.mk d.cz d.dg d.ez d.cH (dy.mk d.cR.cG l_2 d.cR.dR) l_3)
def ji(d:dh)(v:bg):Option dh:=
 bif decide (0<(v.dn.dZ.length:Int))then bnd (elO v.dn.dZ (0:Int)) λ(e_1:Int)=>bnd (nP v.dn.dZ (1:Int) (v.dn.dZ.length:Int)) λ(l_1:List Int)=>bnd (gJ d v.fu (bh.mk e_1 (dP.mk l_1 v.dn.ay))) λ(ai:dh)=>some ai else bnd (oL d.dg d.cH v.fu) λ(aK:(List Int))=>bnd (jG d.cz d.dg v.fu v.dn.ay aK) λ(aV:cg×Int)=>bJ d.cz.List 0 (λ(j1:Int) (e1:az) (Z1:(List bW)→Option _) (m_1:(List bW))=>jn (λ(m_2:(List bW))=>Z1 m_2) λJ1=>chk (decide (0≤e1.Bit))<|bif decide (aU .and .u64 (Int.fdiv aV.1.Local (2 ^ min e1.Bit.toNat 64)) (1:Int)=(1:Int))then bnd (nq v.dn.ay e1.Bit) λ(bq:aH)=>bnd (dx m_1 ([(bW.mk v.fu bq)]:List bW)) λ(l_2:List bW)=>J1 l_2 else J1 m_1) (λ(m_1:(List bW))=>jn (λ(m_3:(List cC))=>bJ aV.1.bz 0 (λ(j2:Int) (e2:bh) (Z2:(Int×(List az)×(List aQ)×(List bn)×(List aQ)×(List bn)×(List bU)×(List Int)×(List bW)×(List ck)×(List cC)×(List bg))→Option _) (sg:Int×(List az)×(List aQ)×(List bn)×(List aQ)×(List bn)×(List bU)×(List Int)×(List bW)×(List ck)×(List cC)×(List bg))=>match sg with|(m_4,m_5,m_6,m_7,m_8,m_9,fI,gC,eM,dN,gD,iO)=>bnd (gJ (dh.mk (aF.mk m_4 m_5) (aa.mk m_6 m_7) (aa.mk m_8 m_9) (aO.mk fI gC) (dy.mk eM dN gD) iO) v.fu e2) λ(aT:dh)=>Z2 (aT.cz.Length,aT.cz.List,aT.dg.ah,aT.dg.Links,aT.ez.ah,aT.ez.Links,aT.cH.Links,aT.cH.ah,aT.cR.cG,aT.cR.cr,aT.cR.dR,aT.iZ)) (λ(sg:Int×(List az)×(List aQ)×(List bn)×(List aQ)×(List bn)×(List bU)×(List Int)×(List bW)×(List ck)×(List cC)×(List bg))=>match sg with|(m_4,m_5,m_6,m_7,m_8,m_9,fI,gC,eM,dN,gD,iO)=>some (dh.mk (aF.mk m_4 m_5) (aa.mk m_6 m_7) (aa.mk m_8 m_9) (aO.mk fI gC) (dy.mk eM dN gD) iO)) (d.cz.Length,d.cz.List,d.dg.ah,d.dg.Links,d.ez.ah,d.ez.Links,d.cH.Links,d.cH.ah,m_1,d.cR.cr,m_3,d.iZ)) λJ2=>bif !decide (aV.1.gw=0)then bnd (dx d.cR.dR ([(cC.mk v.fu aV.1.gw)]:List cC)) λ(l_3:List cC)=>J2 l_3 else J2 d.cR.dR) d.cR.cG
def jo(e:aF)(t:aa)(f:aO)(p:aH)(aD:Int):Option (dy×Int):=
 jn (λ(v_1:Bool)=>bif v_1 then some ((dy.mk [] [] []),(1:Int))else bnd (kG t aD) λ(bq:Bool)=>bif !bq then some ((dy.mk [] [] []),(4:Int))else bif !decide (p.Mode=2)then some ((dy.mk [] [] []),(7:Int))else bif !decide (p.Length=e.Length)then some ((dy.mk [] [] []),(8:Int))else bnd (cV f.ah aD) λ(aT:Bool)=>bif aT then some ((dy.mk [] [] ([(cC.mk aD p.Bits)]:List cC)),(0:Int))else bnd (gY t f) λ(cu:aa)=>whl (λ(Z1:(Int×(List az)×(List aQ)×(List bn)×(List aQ)×(List bn)×(List bU)×(List Int)×(List bW)×(List ck)×(List cC)×(List bg))→Option _) (sg:Int×(List az)×(List aQ)×(List bn)×(List aQ)×(List bn)×(List bU)×(List Int)×(List bW)×(List ck)×(List cC)×(List bg))=>match sg with|(m_1,m_2,m_3,m_4,m_5,m_6,m_7,m_8,m_9,fI,gC,eM)=>bif decide (0<(eM.length:Int))then bnd (elO eM (0:Int)) λ(e_1:bg)=>bnd (nP eM (1:Int) (eM.length:Int)) λ(l_1:List bg)=>bnd (ji (dh.mk (aF.mk m_1 m_2) (aa.mk m_3 m_4) (aa.mk m_5 m_6) (aO.mk m_7 m_8) (dy.mk m_9 fI gC) l_1) e_1) λ(bA:dh)=>bif decide (2000<(bA.cR.cr.length:Int))then some ((dy.mk [] [] []),(11:Int))else Z1 (bA.cz.Length,bA.cz.List,bA.dg.ah,bA.dg.Links,bA.ez.ah,bA.ez.Links,bA.cH.Links,bA.cH.ah,bA.cR.cG,bA.cR.cr,bA.cR.dR,bA.iZ)else some ((dy.mk m_9 fI gC),(0:Int))) (e.Length,e.List,t.ah,t.Links,cu.ah,cu.Links,f.Links,f.ah,[],[],[],([(bg.mk aD (dP.mk [] p))]:List bg))) λJ1=>bnd (lT e) λ(ai:Bool)=>(bif !ai then J1 true else bnd (gW t) λ(aK:Int)=>(bif !decide (aK=0)then J1 true else bnd (kK p) λ(aV:Bool)=>J1 (!aV)))
end
end Go.Proofs.YtdjeacigeegklaaGreat
namespace Go.Proofs.YtdjeacigeegklaaGreat
open Go
set_option maxRecDepth 100000
set_option linter.all false
noncomputable section
def lU(e:aF):Option Bool:=
 bJ e.List 0 (λ(j1:Int) (e1:az) (Z1:Unit→Option _) (sg:Unit)=>match sg with|()=>bif decide (e1.Kind=2)then some false else Z1 ()) (λ(sg:Unit)=>match sg with|()=>bnd (gy e) λ(ai:Int)=>some (decide (ai=0))) ()
def jj(p:aH)(bits:Int)(gT:List Int):Option bh:=
 bnd (elO gT (0:Int)) λ(e_1:Int)=>bnd (nP gT (1:Int) (gT.length:Int)) λ(l_1:List Int)=>some (bh.mk e_1 (dP.mk l_1 (aH.mk p.Mode p.bQ p.Set p.Length p.TTL p.cI p.cK p.dU bits p.cD)))
def mP(e:aF)(t:aa)(aD:Int)(c:bh):Option ((List bh)×Int):=
 bnd (pF e c.To) λ(ai:Int)=>bnd (jD t (aO.mk [] ([c.To]:List Int))) λ(aK:aa)=>bJ e.List 0 (λ(j1:Int) (e1:az) (Z1:((List bh)×Int×Int)→Option _) (sg:(List bh)×Int×Int)=>match sg with|(aR,dK,dI)=>jn (λ(sg:(List bh)×Int×Int)=>match sg with|(cv,qz,mD)=>Z1 (cv,qz,mD)) λJ1=>chk (decide (0≤IntKind.wrap .u64 e1.Bit))<|bif ((!decide (e1.br=c.To))||((decide (aU .and .u64 c.Frame.ay.Bits (IntKind.wrap .u64 ((1:Int)*2 ^ min (IntKind.wrap .u64 e1.Bit).toNat 64))=(0:Int)))||(decide (e1.To=aD))))then J1 (aR,dK,dI)else bif decide (e1.Kind=3)then J1 (aR,aU .or .u64 dK (IntKind.wrap .u64 ((1:Int)*2 ^ min (IntKind.wrap .u64 e1.Bit).toNat 64)),dI)else bnd (nv aK aD e1.To) λ(aV:(List Int))=>bif decide ((aV.length:Int)=(0:Int))then J1 (aR,aU .or .u64 dK (IntKind.wrap .u64 ((1:Int)*2 ^ min (IntKind.wrap .u64 e1.Bit).toNat 64)),aU .or .u64 dI (IntKind.wrap .u64 ((1:Int)*2 ^ min (IntKind.wrap .u64 e1.Bit).toNat 64)))else bif !decide (aU .andNot .u64 c.Frame.ay.Bits ai=0)then bnd (jj c.Frame.ay (aU .andNot .u64 c.Frame.ay.Bits ai) aV) λ(bq:bh)=>bnd (dx aR ([bq]:List bh)) λ(l_1:List bh)=>J1 (l_1,dK,dI)else J1 (aR,dK,dI)) (λ(sg:(List bh)×Int×Int)=>match sg with|(aR,dK,dI)=>bif decide (dK=0)then some (aR,(0:Int))else bnd (jD t (aO.mk ([(bU.mk aD c.To)]:List bU) [])) λ(aT:aa)=>bnd (nv aT aD c.To) λ(cu:(List Int))=>bif decide ((cu.length:Int)=(0:Int))then some (aR,dK)else jn (λ(aae:Int)=>bnd (jj c.Frame.ay aae cu) λ(bA:bh)=>bnd (dx aR ([bA]:List bh)) λ(l_2:List bh)=>some (l_2,(0:Int))) λJ2=>bif !decide (dI=0)then J2 (aU .or .u64 dK (aU .andNot .u64 c.Frame.ay.Bits ai))else J2 dK) ([],(0:Int),(0:Int))
def jH(e:aF)(t:aa)(aD:Int)(p:aH)(down:List Int):Option (cg×Int):=
 bnd (lK e aD p) λ(ai:cg×Int)=>bif !decide (ai.2=0)then some ((cg.mk (0:Int) (0:Int) []),ai.2)else jn (λ(v_1:Bool)=>bif v_1 then some ((cg.mk (0:Int) (0:Int) []),(1:Int))else bJ ai.1.bz 0 (λ(j1:Int) (e1:bh) (Z1:(Int×(List bh))→Option _) (sg:Int×(List bh))=>match sg with|(m_1,m_2)=>jn (λ(sg:Int×(List bh))=>match sg with|(m_3,m_4)=>Z1 (m_3,m_4)) λJ2=>bnd (fH down e1.To) λ(bq:Bool)=>bif !bq then bnd (dx m_2 ([e1]:List bh)) λ(l_1:List bh)=>J2 (m_1,l_1)else bnd (mP e t aD e1) λ(aT:(List bh)×Int)=>bnd (dx m_2 aT.1) λ(l_2:List bh)=>J2 (aU .or .u64 m_1 aT.2,l_2)) (λ(sg:Int×(List bh))=>match sg with|(m_1,m_2)=>some ((cg.mk ai.1.Local m_1 m_2),(0:Int))) (ai.1.gw,[])) λJ1=>bnd (lU e) λ(aK:Bool)=>(bif !aK then J1 true else bnd (gB t) λ(aV:Int)=>J1 (!decide (aV=0)))
def qm(t:aa)(f:aO)(aD:Int):Option (List Int):=
 bnd (gV t aD) λ(ai:(List Int))=>bJ ai 0 (λ(j1:Int) (e1:Int) (Z1:(List Int)→Option _) (aR:(List Int))=>jn (λ(cv:(List Int))=>Z1 cv) λJ1=>bnd (fH f.ah e1) λ(aK:Bool)=>bJ f.Links 0 (λ(j2:Int) (e2:bU) (Z2:Bool→Option _) (tg:Bool)=>(bif tg then Z2 true else(bif decide (e2.dF=e1)then(bif decide (e2.To=aD)then Z2 true else(bif decide (e2.dF=aD)then Z2 (decide (e2.To=e1))else Z2 false))else(bif decide (e2.dF=aD)then Z2 (decide (e2.To=e1))else Z2 false)))) (λ(tg:Bool)=>bif tg then bnd (dx aR ([e1]:List Int)) λ(l_1:List Int)=>J1 l_1 else J1 aR) aK) (λ(aR:(List Int))=>some aR) []
def jq(e:aF)(t:aa)(f:aO)(p:aH)(aD:Int):Option (dy×Int):=
 jn (λ(v_1:Bool)=>bif v_1 then some ((dy.mk [] [] []),(1:Int))else bnd (kR t aD) λ(bq:Bool)=>bif !bq then some ((dy.mk [] [] []),(4:Int))else bnd (lK e aD p) λ(aT:cg×Int)=>bif !decide (aT.2=0)then some ((dy.mk [] [] []),aT.2)else bnd (fH f.ah aD) λ(cu:Bool)=>bif cu then some ((dy.mk [] [] ([(cC.mk aD p.Bits)]:List cC)),(0:Int))else bnd (jD t f) λ(bA:aa)=>whl (λ(Z1:((List cq)×Int×(List bW)×(List ck)×(List cC))→Option _) (sg:(List cq)×Int×(List bW)×(List ck)×(List cC))=>match sg with|(oN,i_1,m_1,m_2,m_3)=>bif decide (i_1<(oN.length:Int))then bnd (elO oN i_1) λ(e_1:cq)=>jn (λ(sg:(List bh)×(List bW)×(List cC))=>match sg with|(gZ,m_4,m_5)=>bJ gZ 0 (λ(j2:Int) (e2:bh) (Z2:((List cq)×(List ck)×(List cC))→Option _) (sg:(List cq)×(List ck)×(List cC))=>match sg with|(iq,m_7,m_8)=>jn (λ(sg:(List cq)×(List ck)×(List cC))=>match sg with|(pG,m_9,fI)=>Z2 (pG,m_9,fI)) λJ4=>bnd (mL bA e_1.br e2.To) λ(iH:Int×Bool)=>bif !iH.2 then bnd (dx m_8 ([(cC.mk e_1.br e2.Frame.ay.Bits)]:List cC)) λ(l_4:List cC)=>J4 (iq,m_7,l_4)else bnd (dx m_7 ([(ck.mk e_1.br e2.To e2.Frame.ay.Bits)]:List ck)) λ(l_5:List ck)=>bnd (dx iq ([(cq.mk e2.To e2.Frame)]:List cq)) λ(l_6:List cq)=>J4 (l_6,l_5,m_8)) (λ(sg:(List cq)×(List ck)×(List cC))=>match sg with|(iq,m_7,m_8)=>bif decide (2000<(m_7.length:Int))then some ((dy.mk [] [] []),(11:Int))else Z1 (iq,w64 (i_1+1),m_4,m_7,m_8)) (oN,m_2,m_5)) λJ2=>bif decide (0<(e_1.Frame.dZ.length:Int))then bnd (elO e_1.Frame.dZ (0:Int)) λ(e_2:Int)=>bnd (nP e_1.Frame.dZ (1:Int) (e_1.Frame.dZ.length:Int)) λ(l_1:List Int)=>J2 (([(bh.mk e_2 (dP.mk l_1 e_1.Frame.ay))]:List bh),m_1,m_3)else bnd (qm t f e_1.br) λ(fE:(List Int))=>bnd (jH e t e_1.br e_1.Frame.ay fE) λ(eT:cg×Int)=>bnd (jh e_1.br eT.1.Local e_1.Frame.ay) λ(pP:(List bW))=>bnd (dx m_1 pP) λ(l_2:List bW)=>jn (λ(m_6:(List cC))=>J2 (eT.1.bz,l_2,m_6)) λJ3=>bif !decide (eT.1.gw=0)then bnd (dx m_3 ([(cC.mk e_1.br eT.1.gw)]:List cC)) λ(l_3:List cC)=>J3 l_3 else J3 m_3 else some ((dy.mk m_1 m_2 m_3),(0:Int))) (([(cq.mk aD (dP.mk [] p))]:List cq),(0:Int),[],[],[])) λJ1=>bnd (lU e) λ(ai:Bool)=>(bif !ai then J1 true else bnd (gB t) λ(aK:Int)=>(bif !decide (aK=0)then J1 true else bnd (nt p) λ(aV:Bool)=>J1 (!aV)))
end
end Go.Proofs.YtdjeacigeegklaaGreat
namespace Go.Proofs.YtdjeacigeegklaaGreat
open Go
set_option maxRecDepth 100000
set_option linter.all false
noncomputable section
def mE: Option aa:=
 mI ((5:Int)-(1:Int)).toNat (1:Int) (λ(j1:Int) (Z1:(List aQ)→Option _) (m_1:(List aQ))=>bnd (dx m_1 ([(aQ.mk (j1:Int) true)]:List aQ)) λ(l_1:List aQ)=>Z1 l_1) (λ(j1:Int) (m_1:(List aQ))=>bJ ([(ct.mk (1:Int) (2:Int)),(ct.mk (1:Int) (4:Int)),(ct.mk (2:Int) (3:Int)),(ct.mk (3:Int) (4:Int))]:List ct) 0 (λ(j2:Int) (e2:ct) (Z2:(List bn)→Option _) (m_2:(List bn))=>bnd (dx m_2 ([(bn.mk e2.E0 e2.E1 (1:Int) (1:Int) (0:Int))]:List bn)) λ(l_2:List bn)=>Z2 l_2) (λ(m_2:(List bn))=>some (aa.mk m_1 m_2)) []) []
def lV: Option Bool:=
 bnd (mE) λ(ai:aa)=>bnd (mM ai (16:Int)) λ(aK:aF×Int)=>bnd (s8 aK.1 (oZ.mk (1:Int) ([(bU.mk (1:Int) (2:Int)),(bU.mk (2:Int) (3:Int))]:List bU)) ([(2:Int),(3:Int)]:List Int)) λ(aV:Int×Int)=>bnd (mE) λ(bq:aa)=>bnd (jG aK.1 bq (1:Int) (aH.mk (2:Int) (0:Int) (0:Int) (16:Int) (9:Int) (0:Int) (0:Int) (0:Int) aV.1 (⟨#[]⟩:ByteArray)) ([(2:Int)]:List Int)) λ(aT:cg×Int)=>(bif decide (aT.2=0)then(bif decide ((aT.1.bz.length:Int)=(2:Int))then bnd (elO aT.1.bz (0:Int)) λ(e_1:bh)=>(bif decide (e_1.To=4)then bnd (jd e_1.Frame.dZ ([(3:Int)]:List Int)) λ(cu:Bool)=>(bif cu then bnd (elO aT.1.bz (1:Int)) λ(e_2:bh)=>bnd (jd e_2.Frame.dZ ([(3:Int),(2:Int)]:List Int)) λ(bA:Bool)=>(bif bA then some (decide (aT.1.gw=0))else some false)else some false)else some false)else some false)else some false)
def jI(sa0:aX)(p:aa):Option (aO×aX):=
 jn (λ(sg:Bool×(List Int)×Int)=>match sg with|(v_1,m_1,m_2)=>bif v_1 then bnd (bB (aX.mk m_1 m_2) (p.Links.length:Int)) λ(aK:Int×aX)=>bnd (elO p.Links aK.1) λ(e_1:bn)=>bnd (bB aK.2 (2:Int)) λ(aV:Int×aX)=>bif decide (aV.1=0)then some ((aO.mk ([(bU.mk e_1.A e_1.B)]:List bU) []),aV.2)else some ((aO.mk ([(bU.mk e_1.B e_1.A)]:List bU) []),aV.2)else bnd (bB (aX.mk m_1 m_2) (p.ah.length:Int)) λ(bq:Int×aX)=>bnd (elO p.ah bq.1) λ(e_2:aQ)=>some ((aO.mk [] ([e_2.ID]:List Int)),bq.2)) λJ1=>(bif decide (0<(p.Links.length:Int))then bnd (bB sa0 (2:Int)) λ(ai:Int×aX)=>J1 (decide (ai.1=0),ai.2.L,ai.2.At)else J1 (false,sa0.L,sa0.At))
def pE(sa0:aX)(p:aa):Option (aF×aX):=
 bnd (oH sa0 p) λ(ai:aF×aX)=>bJ ai.1.List 0 (λ(j1:Int) (e1:az) (Z1:(List az)→Option _) (m_1:(List az))=>jn (λ(m_2:(List az))=>Z1 m_2) λJ1=>bif !decide (e1.Kind=2)then bnd (dx m_1 ([e1]:List az)) λ(l_1:List az)=>J1 l_1 else J1 m_1) (λ(m_1:(List az))=>some ((aF.mk ai.1.Length m_1),ai.2)) []
end
end Go.Proofs.YtdjeacigeegklaaGreat
