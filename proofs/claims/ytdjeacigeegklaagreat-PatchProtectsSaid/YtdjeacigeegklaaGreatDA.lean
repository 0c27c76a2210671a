/- Several texts in one. No condition but those that stand in each. -/
import Derived.Test.YtdjeacigeegklaaGreatT
namespace Go.Proofs.YtdjeacigeegklaaGreat
open Go
set_option maxRecDepth 100000
set_option linter.all false
noncomputable section
def kU(l:List Int)(n:Int):Option Bool:=
 bO l 0 (λ(j1:Int) (e1:Int) (Z1:Unit→Option _) (sg:Unit)=>match sg with|()=>bif decide (e1=n)then some true else Z1 ()) (λ(sg:Unit)=>match sg with|()=>some false) ()
def oh(l:List Int)(n:Int):Option (List Int):=
 whl (λ(Z1:Int→Option _) (jE:Int)=>jn (λ(v_1:Bool)=>bif v_1 then Z1 (w64 (jE+1))else jn (λ(v_2:Bool)=>bif v_2 then some l else bnd (mJ l (0:Int) jE) λ(l_1:List Int)=>bnd (dL [] l_1) λ(l_2:List Int)=>bnd (dL l_2 ([n]:List Int)) λ(l_3:List Int)=>bnd (mJ l jE (l.length:Int)) λ(l_4:List Int)=>bnd (dL l_3 l_4) λ(l_5:List Int)=>some l_5) λJ2=>(bif decide (jE<(l.length:Int))then bnd (elO l jE) λ(e_2:Int)=>J2 (decide (e_2=n))else J2 false)) λJ1=>(bif decide (jE<(l.length:Int))then bnd (elO l jE) λ(e_1:Int)=>J1 (decide (e_1<n))else J1 false)) (0:Int)
end
end Go.Proofs.YtdjeacigeegklaaGreat
namespace Go.Proofs.YtdjeacigeegklaaGreat
open Go
set_option maxRecDepth 100000
set_option linter.all false
noncomputable section
def pT(n:Int):Option Bool:=
 some ((decide (1≤n))&&(decide (n≤1000)))
def nQ(t:aa)(ra1:Int):Option Bool:=
 bO t.ah 0 (λ(j1:Int) (e1:aR) (Z1:Unit→Option _) (sg:Unit)=>match sg with|()=>bif decide (e1.ID=ra1)then some true else Z1 ()) (λ(sg:Unit)=>match sg with|()=>some false) ()
def lX(t:aa)(cI:Int)(fF:Int):Option (Int×Bool):=
 bO t.Links 0 (λ(j1:Int) (e1:aW) (Z1:Unit→Option _) (sg:Unit)=>match sg with|()=>bif ((decide (e1.A=cI))&&(decide (e1.B=fF)))then some (e1.jh,true)else bif ((decide (e1.B=cI))&&(decide (e1.A=fF)))then some (e1.ji,true)else Z1 ()) (λ(sg:Unit)=>match sg with|()=>some ((0:Int),false)) ()
def ic(t:aa):Option Int:=
 bif ((decide (24<(t.ah.length:Int)))||(decide (60<(t.Links.length:Int))))then some (3:Int)else bO t.ah 0 (λ(j1:Int) (e1:aR) (Z1:Unit→Option _) (sg:Unit)=>match sg with|()=>bif ((decide (e1.ID<1))||(decide (99<e1.ID)))then some (2:Int)else Z1 ()) (λ(sg:Unit)=>match sg with|()=>bO (List.drop 1 t.ah) 1 (λ(j2:Int) (e2:aR) (Z2:Unit→Option _) (sg:Unit)=>match sg with|()=>bnd (elO t.ah (w64 ((j2:Int)-(1:Int)))) λ(e_1:aR)=>bif decide (e2.ID≤e_1.ID)then some (25:Int)else Z2 ()) (λ(sg:Unit)=>match sg with|()=>bO t.Links 0 (λ(j3:Int) (e3:aW) (Z3:Unit→Option _) (sg:Unit)=>match sg with|()=>jn (λ(v_1:Bool)=>bif v_1 then some (2:Int)else Z3 ()) λJ1=>bnd (pT e3.jh) λ(ai:Bool)=>(bif !ai then J1 true else bnd (pT e3.ji) λ(aI:Bool)=>(bif !aI then J1 true else(bif decide (e3.oL<0)then J1 true else J1 (decide (1000<e3.oL)))))) (λ(sg:Unit)=>match sg with|()=>bO t.Links 0 (λ(j4:Int) (e4:aW) (Z4:Unit→Option _) (sg:Unit)=>match sg with|()=>jn (λ(v_2:Bool)=>bif v_2 then some (4:Int)else Z4 ()) λJ2=>bnd (nQ t e4.A) λ(bf:Bool)=>(bif !bf then J2 true else bnd (nQ t e4.B) λ(bB:Bool)=>J2 (!bB))) (λ(sg:Unit)=>match sg with|()=>bO t.Links 0 (λ(j5:Int) (e5:aW) (Z5:Unit→Option _) (sg:Unit)=>match sg with|()=>bif decide (e5.B≤e5.A)then some (8:Int)else Z5 ()) (λ(sg:Unit)=>match sg with|()=>bO (List.drop 1 t.Links) 1 (λ(j6:Int) (e6:aW) (Z6:Unit→Option _) (sg:Unit)=>match sg with|()=>bnd (elO t.Links (w64 ((j6:Int)-(1:Int)))) λ(e_2:aW)=>bif ((decide (e6.A<e_2.A))||((decide (e_2.A=e6.A))&&(decide (e6.B≤e_2.B))))then some (25:Int)else Z6 ()) (λ(sg:Unit)=>match sg with|()=>some (0:Int)) ()) ()) ()) ()) ()) ()
end
end Go.Proofs.YtdjeacigeegklaaGreat
namespace Go.Proofs.YtdjeacigeegklaaGreat
open Go
set_option maxRecDepth 100000
set_option linter.all false
noncomputable section
def jo(t:aa)(ra1:Int):Option Bool:=
 bnd (ic t) λ(ai:Int)=>(bif decide (ai=0)then bnd (nQ t ra1) λ(aI:Bool)=>some aI else some false)
def pU(t:aa)(cI:Int)(fF:Int):Option (Int×Bool):=
 bnd (ic t) λ(ai:Int)=>bif !decide (ai=0)then some ((0:Int),false)else bnd (lX t cI fF) λ(aI:Int×Bool)=>some (aI.1,aI.2)
def mM(t:aa)(ra1:Int):Option (List Int):=
 bO t.ah 0 (λ(j1:Int) (e1:aR) (Z1:(List Int)→Option _) (bp:(List Int))=>jn (λ(cZ:(List Int))=>Z1 cZ) λJ1=>bnd (lX t ra1 e1.ID) λ(ai:Int×Bool)=>bif ai.2 then bnd (dL bp ([e1.ID]:List Int)) λ(l_1:List Int)=>J1 l_1 else J1 bp) (λ(bp:(List Int))=>some bp) []
def lz(t:aa)(ra1:Int):Option (List Int):=
 bnd (ic t) λ(ai:Int)=>bif !decide (ai=0)then some []else bnd (mM t ra1) λ(aI:(List Int))=>some aI
def oZ(l:List aN)(a:Int)(b:Int):Option Bool:=
 bO l 0 (λ(j1:Int) (e1:aN) (Z1:Unit→Option _) (sg:Unit)=>match sg with|()=>bif (bif decide (e1.bn=a)then((decide (e1.To=b))||((decide (e1.bn=b))&&(decide (e1.To=a))))else((decide (e1.bn=b))&&(decide (e1.To=a))))then some true else Z1 ()) (λ(sg:Unit)=>match sg with|()=>some false) ()
def jG(t:aa)(f:bg):Option aa:=
 bnd (ic t) λ(ai:Int)=>bif !decide (ai=0)then some (aa.mk [] [])else bO t.ah 0 (λ(j1:Int) (e1:aR) (Z1:(List aR)→Option _) (m_1:(List aR))=>jn (λ(m_2:(List aR))=>Z1 m_2) λJ1=>bnd (kU f.ah e1.ID) λ(aI:Bool)=>bif !aI then bnd (dL m_1 ([e1]:List aR)) λ(l_1:List aR)=>J1 l_1 else J1 m_1) (λ(m_1:(List aR))=>bO t.Links 0 (λ(j2:Int) (e2:aW) (Z2:(List aW)→Option _) (m_3:(List aW))=>jn (λ(m_4:(List aW))=>Z2 m_4) λJ2=>jn (λ(v_1:Bool)=>bif v_1 then bnd (dL m_3 ([e2]:List aW)) λ(l_2:List aW)=>J2 l_2 else J2 m_3) λJ3=>bnd (kU f.ah e2.A) λ(bf:Bool)=>(bif !bf then bnd (kU f.ah e2.B) λ(bB:Bool)=>(bif !bB then bnd (oZ f.Links e2.A e2.B) λ(bD:Bool)=>J3 (!bD)else J3 false)else J3 false)) (λ(m_3:(List aW))=>some (aa.mk m_1 m_3)) []) []
def oo(t:aa)(ra1:Int):Option (List Int):=
 whl (λ(Z1:((List Int)×Int)→Option _) (sg:(List Int)×Int)=>match sg with|(bp,i_1)=>bif decide (i_1<(bp.length:Int))then bnd (elO bp i_1) λ(e_1:Int)=>bnd (mM t e_1) λ(ai:(List Int))=>bO ai 0 (λ(j2:Int) (e2:Int) (Z2:(List Int)→Option _) (cZ:(List Int))=>jn (λ(wW:(List Int))=>Z2 wW) λJ1=>bnd (kU cZ e2) λ(aI:Bool)=>bif !aI then bnd (dL cZ ([e2]:List Int)) λ(l_1:List Int)=>J1 l_1 else J1 cZ) (λ(cZ:(List Int))=>Z1 (cZ,w64 (i_1+1))) bp else bO bp 0 (λ(j3:Int) (e3:Int) (Z3:(List Int)→Option _) (l_2:(List Int))=>bnd (oh l_2 e3) λ(bf:(List Int))=>Z3 bf) (λ(l_2:(List Int))=>some l_2) []) (([ra1]:List Int),(0:Int))
def l6(t:aa)(a:Int)(b:Int):Option Bool:=
 bnd (jo t a) λ(ai:Bool)=>(bif ai then bnd (jo t b) λ(aI:Bool)=>(bif aI then bnd (oo t a) λ(bf:(List Int))=>bnd (kU bf b) λ(bB:Bool)=>some bB else some false)else some false)
end
end Go.Proofs.YtdjeacigeegklaaGreat
namespace Go.Proofs.YtdjeacigeegklaaGreat
open Go
set_option maxRecDepth 100000
set_option linter.all false
noncomputable section
def lK(xa0:Int):Option Bool:=
 some (!decide (xa0=xa0))
def fN(xa0:Int)(y:Int):Option Int:=
 bnd (lK xa0) λ(ai:Bool)=>bnd (lK y) λ(aI:Bool)=>bif ai then bif aI then some (0:Int)else some (-1:Int)else bif aI then some (1:Int)else bif decide (xa0<y)then some (-1:Int)else bif decide (y<xa0)then some (1:Int)else some (0:Int)
def pW(vals:List Int):Option Int:=
 bO vals 0 (λ(j1:Int) (e1:Int) (Z1:Unit→Option _) (sg:Unit)=>match sg with|()=>bif !decide (e1=0)then some e1 else Z1 ()) (λ(sg:Unit)=>match sg with|()=>some (0:Int)) ()
def cN(xa0:List aR)(target:Int)(cmp:aR→Int→Option Int):Option (Int×Bool):=
 whl (λ(Z1:(Int×Int)→Option _) (sg:Int×Int)=>match sg with|(i_1,j_1)=>bif decide (i_1<j_1)then bnd (elO xa0 (w64 (Int.fdiv (IntKind.wrap .u64 (w64 (i_1+j_1))) (2 ^ min (1:Int).toNat 64)))) λ(e_1:aR)=>bnd (cmp e_1 target) λ(ai:Int)=>bif decide (ai<0)then Z1 (w64 ((w64 (Int.fdiv (IntKind.wrap .u64 (w64 (i_1+j_1))) (2 ^ min (1:Int).toNat 64)))+(1:Int)),j_1)else Z1 (i_1,w64 (Int.fdiv (IntKind.wrap .u64 (w64 (i_1+j_1))) (2 ^ min (1:Int).toNat 64)))else(bif decide (i_1<(xa0.length:Int))then bnd (elO xa0 i_1) λ(e_2:aR)=>bnd (cmp e_2 target) λ(aI:Int)=>some (i_1,decide (aI=0))else some (i_1,false))) ((0:Int),(xa0.length:Int))
def kf(sa0:List Int)(v:Int):Option Int:=
 bO sa0 0 (λ(j1:Int) (e1:Int) (Z1:Unit→Option _) (sg:Unit)=>match sg with|()=>bif decide (v=e1)then some (j1:Int)else Z1 ()) (λ(sg:Unit)=>match sg with|()=>some (-1:Int)) ()
def ez(sa0:List aq)(f:aq→Option Bool):Option Int:=
 bO sa0 0 (λ(j1:Int) (e1:aq) (Z1:Unit→Option _) (sg:Unit)=>match sg with|()=>bnd (f e1) λ(ai:Bool)=>bif ai then some (j1:Int)else Z1 ()) (λ(sg:Unit)=>match sg with|()=>some (-1:Int)) ()
def fA(sa0:List aR)(f:aR→Option Bool):Option Int:=
 bO sa0 0 (λ(j1:Int) (e1:aR) (Z1:Unit→Option _) (sg:Unit)=>match sg with|()=>bnd (f e1) λ(ai:Bool)=>bif ai then some (j1:Int)else Z1 ()) (λ(sg:Unit)=>match sg with|()=>some (-1:Int)) ()
def fO(sa0:List aW)(f:aW→Option Bool):Option Int:=
 bO sa0 0 (λ(j1:Int) (e1:aW) (Z1:Unit→Option _) (sg:Unit)=>match sg with|()=>bnd (f e1) λ(ai:Bool)=>bif ai then some (j1:Int)else Z1 ()) (λ(sg:Unit)=>match sg with|()=>some (-1:Int)) ()
def dy(xa0:List aW)(target:aW)(cmp:aW→aW→Option Int):Option (Int×Bool):=
 whl (λ(Z1:(Int×Int)→Option _) (sg:Int×Int)=>match sg with|(i_1,j_1)=>bif decide (i_1<j_1)then bnd (elO xa0 (w64 (Int.fdiv (IntKind.wrap .u64 (w64 (i_1+j_1))) (2 ^ min (1:Int).toNat 64)))) λ(e_1:aW)=>bnd (cmp e_1 target) λ(ai:Int)=>bif decide (ai<0)then Z1 (w64 ((w64 (Int.fdiv (IntKind.wrap .u64 (w64 (i_1+j_1))) (2 ^ min (1:Int).toNat 64)))+(1:Int)),j_1)else Z1 (i_1,w64 (Int.fdiv (IntKind.wrap .u64 (w64 (i_1+j_1))) (2 ^ min (1:Int).toNat 64)))else(bif decide (i_1<(xa0.length:Int))then bnd (elO xa0 i_1) λ(e_2:aW)=>bnd (cmp e_2 target) λ(aI:Int)=>some (i_1,decide (aI=0))else some (i_1,false))) ((0:Int),(xa0.length:Int))
def gF(sa0:List aN)(v:aN):Option Int:=
 bO sa0 0 (λ(j1:Int) (e1:aN) (Z1:Unit→Option _) (sg:Unit)=>match sg with|()=>bif kj v e1 then some (j1:Int)else Z1 ()) (λ(sg:Unit)=>match sg with|()=>some (-1:Int)) ()
def cO(sa0:List Int)(v:Int):Option Bool:=
 bnd (kf sa0 v) λ(ai:Int)=>some (decide (0≤ai))
def dK(sa0:List aq)(f:aq→Option Bool):Option Bool:=
 bnd (ez sa0 f) λ(ai:Int)=>some (decide (0≤ai))
def dV(sa0:List aR)(f:aR→Option Bool):Option Bool:=
 bnd (fA sa0 f) λ(ai:Int)=>some (decide (0≤ai))
def dx(sa0:List aW)(f:aW→Option Bool):Option Bool:=
 bnd (fO sa0 f) λ(ai:Int)=>some (decide (0≤ai))
def dJ(sa0:List aN)(v:aN):Option Bool:=
 bnd (gF sa0 v) λ(ai:Int)=>some (decide (0≤ai))
def jS(n:Int)(least:Int)(most:Int):Option Bool:=
 some ((decide (least≤n))&&(decide (n≤most)))
def ja(a:aW)(b:aW):Option Int:=
 bnd (fN a.A b.A) λ(ai:Int)=>bnd (fN a.B b.B) λ(aI:Int)=>bnd (pW ([ai,aI]:List Int)) λ(bf:Int)=>some bf
def lM(ra0:aR)(id:Int):Option Int:=
 bnd (fN ra0.ID id) λ(ai:Int)=>some ai
def nB(ra0:aR):Option Bool:=
 bnd (jS ra0.ID (1:Int) (99:Int)) λ(ai:Bool)=>some (!ai)
def lB(l:aW):Option Bool:=
 bnd (jS l.jh (1:Int) (1000:Int)) λ(ai:Bool)=>(bif !ai then some true else bnd (jS l.ji (1:Int) (1000:Int)) λ(aI:Bool)=>(bif !aI then some true else bnd (jS l.oL (0:Int) (1000:Int)) λ(bf:Bool)=>some (!bf)))
def jb(id:Int)(c_0:aa):Option Bool:=
 bnd (cN c_0.ah id lM) λ(ai:Int×Bool)=>some (!ai.2)
def nC(l:aW)(c_0:aa):Option Bool:=
 bnd (jb l.A c_0) λ(ai:Bool)=>(bif ai then some true else bnd (jb l.B c_0) λ(aI:Bool)=>some aI)
def nD(l:aW):Option Bool:=
 some (decide (l.B≤l.A))
def gY(t:aa):Option Int:=
 bif ((decide (24<(t.ah.length:Int)))||(decide (60<(t.Links.length:Int))))then some (3:Int)else bnd (dV t.ah nB) λ(ai:Bool)=>bif ai then some (2:Int)else bO t.ah 0 (λ(j1:Int) (e1:aR) (Z1:Unit→Option _) (sg:Unit)=>match sg with|()=>jn (λ(v_1:Bool)=>bif v_1 then some (25:Int)else Z1 ()) λJ1=>(bif decide (0<(j1:Int))then bnd (elO t.ah (w64 ((j1:Int)-(1:Int)))) λ(e_1:aR)=>J1 (decide (e1.ID≤e_1.ID))else J1 false)) (λ(sg:Unit)=>match sg with|()=>bnd (dx t.Links lB) λ(aI:Bool)=>bif aI then some (2:Int)else bnd (dx t.Links (λ(y0:aW)=>nC y0 t)) λ(bf:Bool)=>bif bf then some (4:Int)else bnd (dx t.Links nD) λ(bB:Bool)=>bif bB then some (8:Int)else bO t.Links 0 (λ(j2:Int) (e2:aW) (Z2:Unit→Option _) (sg:Unit)=>match sg with|()=>jn (λ(v_2:Bool)=>bif v_2 then some (25:Int)else Z2 ()) λJ2=>(bif decide (0<(j2:Int))then bnd (elO t.Links (w64 ((j2:Int)-(1:Int)))) λ(e_2:aW)=>bnd (ja e_2 e2) λ(bD:Int)=>J2 (decide (0≤bD))else J2 false)) (λ(sg:Unit)=>match sg with|()=>some (0:Int)) ()) ()
def gZ(t:aa):Option Bool:=
 bnd (gY t) λ(ai:Int)=>some (decide (ai=0))
def nE(t:aa)(aS:Int):Option (aR×Bool):=
 bnd (cN t.ah aS lM) λ(ai:Int×Bool)=>bif !ai.2 then some ((aR.mk (0:Int) false),false)else bnd (elO t.ah ai.1) λ(e_1:aR)=>some (e_1,true)
def kL(t:aa)(aS:Int):Option Bool:=
 bnd (nE t aS) λ(ai:aR×Bool)=>bnd (gZ t) λ(aI:Bool)=>(bif aI then some ai.2 else some false)
def nF(t:aa)(cI:Int)(fF:Int):Option (Int×Bool):=
 bnd (gZ t) λ(ai:Bool)=>bif !ai then some ((0:Int),false)else bnd (dy t.Links (aW.mk (if fF<cI then fF else cI) (if fF>cI then fF else cI) (0:Int) (0:Int) (0:Int)) ja) λ(aI:Int×Bool)=>bif !aI.2 then some ((0:Int),false)else bif decide (cI<fF)then bnd (elO t.Links aI.1) λ(e_1:aW)=>some (e_1.jh,true)else bnd (elO t.Links aI.1) λ(e_2:aW)=>some (e_2.ji,true)
def hU(t:aa)(f:bg):Option aa:=
 bnd (gZ t) λ(ai:Bool)=>bif !ai then some (aa.mk [] [])else bO t.ah 0 (λ(j1:Int) (e1:aR) (Z1:(List aR)→Option _) (m_1:(List aR))=>jn (λ(m_2:(List aR))=>Z1 m_2) λJ1=>bnd (cO f.ah e1.ID) λ(aI:Bool)=>bif !aI then bnd (dL m_1 ([e1]:List aR)) λ(l_1:List aR)=>J1 l_1 else J1 m_1) (λ(m_1:(List aR))=>bO t.Links 0 (λ(j2:Int) (e2:aW) (Z2:(List aW)→Option _) (m_3:(List aW))=>jn (λ(m_4:(List aW))=>Z2 m_4) λJ2=>jn (λ(xY:Bool)=>bif !xY then bnd (dL m_3 ([e2]:List aW)) λ(l_2:List aW)=>J2 l_2 else J2 m_3) λJ3=>bnd (cO f.ah e2.A) λ(bf:Bool)=>(bif bf then J3 true else bnd (cO f.ah e2.B) λ(bB:Bool)=>(bif bB then J3 true else bnd (dJ f.Links (aN.mk e2.A e2.B)) λ(bD:Bool)=>(bif bD then J3 true else bnd (dJ f.Links (aN.mk e2.B e2.A)) λ(cW:Bool)=>J3 cW)))) (λ(m_3:(List aW))=>some (aa.mk m_1 m_3)) []) []
end
end Go.Proofs.YtdjeacigeegklaaGreat
namespace Go.Proofs.YtdjeacigeegklaaGreat
open Go
set_option maxRecDepth 100000
set_option linter.all false
noncomputable section
def qB(xa0:Int):Option Int:=
 jn (λ(sg:Int×Int)=>match sg with|(ai,n_1)=>jn (λ(sg:Int×Int)=>match sg with|(aI,n_2)=>jn (λ(sg:Int×Int)=>match sg with|(bf,n_3)=>bnd (ixS (⟨#[0,1,2,2,3,3,3,3,4,4,4,4,4,4,4,4,5,5,5,5,5,5,5,5,5,5,5,5,5,5,5,5,6,6,6,6,6,6,6,6,6,6,6,6,6,6,6,6,6,6,6,6,6,6,6,6,6,6,6,6,6,6,6,6,7,7,7,7,7,7,7,7,7,7,7,7,7,7,7,7,7,7,7,7,7,7,7,7,7,7,7,7,7,7,7,7,7,7,7,7,7,7,7,7,7,7,7,7,7,7,7,7,7,7,7,7,7,7,7,7,7,7,7,7,7,7,7,7,8,8,8,8,8,8,8,8,8,8,8,8,8,8,8,8,8,8,8,8,8,8,8,8,8,8,8,8,8,8,8,8,8,8,8,8,8,8,8,8,8,8,8,8,8,8,8,8,8,8,8,8,8,8,8,8,8,8,8,8,8,8,8,8,8,8,8,8,8,8,8,8,8,8,8,8,8,8,8,8,8,8,8,8,8,8,8,8,8,8,8,8,8,8,8,8,8,8,8,8,8,8,8,8,8,8,8,8,8,8,8,8,8,8,8,8,8,8,8,8,8,8,8,8,8,8,8,8]⟩:ByteArray) (IntKind.wrap .u8 bf)) λ(b_1:UInt8)=>some (w64 (n_3+(w64 (b_1.toNat:Int))))) λJ3=>bif decide (256≤aI)then J3 (Int.fdiv aI (2 ^ min (8:Int).toNat 64),w64 (n_2+8))else J3 (aI,n_2)) λJ2=>bif decide (65536≤ai)then J2 (Int.fdiv ai (2 ^ min (16:Int).toNat 64),w64 (n_1+16))else J2 (ai,n_1)) λJ1=>bif decide (4294967296≤xa0)then J1 (Int.fdiv xa0 (2 ^ min (32:Int).toNat 64),(32:Int))else J1 (xa0,(0:Int))
def sV(xa0:Int):Option Int:=
 bnd (qB xa0) λ(ai:Int)=>some ai
def gT: Option Unit:=
 whl (λ(Z1:Unit→Option _) (sg:Unit)=>match sg with|()=>some ()) ()
def jj(limit:Int):Option Unit:=
 whl (λ(Z1:Unit→Option _) (sg:Unit)=>match sg with|()=>bnd (gT) λ(ai:Unit)=>some ()) ()
def o3: Option Unit:=
 bnd (sV (0:Int)) λ(ai:Int)=>bnd (jj ai) λ(aI:Unit)=>some ()
end
end Go.Proofs.YtdjeacigeegklaaGreat
namespace Go.Proofs.YtdjeacigeegklaaGreat
open Go
set_option maxRecDepth 100000
set_option linter.all false
noncomputable section
def gX(t:aa)(aS:Int):Option (List Int):=
 bO t.Links 0 (λ(j1:Int) (e1:aW) (Z1:(List Int)→Option _) (bp:(List Int))=>jn (λ(cZ:(List Int))=>Z1 cZ) λJ1=>bif decide (aS=e1.A)then bnd (dL bp ([e1.B]:List Int)) λ(l_1:List Int)=>J1 l_1 else bif decide (aS=e1.B)then bnd (dL bp ([e1.A]:List Int)) λ(l_2:List Int)=>J1 l_2 else J1 bp) (λ(bp:(List Int))=>chk (decide (bp.length<4611686018427387904))<|some (jy bp)) []
def iq:Nat→Int→(List Int)→(List Int)→(List aR)→(List aW)→Option (List Int)
 |0,_,_,_,_,_=>none
 |n_+1,ra0,xD,vT,vU,vV=>jn (λ(v_1:Bool)=>bif v_1 then some xD else bnd (dL xD ([ra0]:List Int)) λ(l_1:List Int)=>bnd (gX (aa.mk vU vV) ra0) λ(bf:(List Int))=>bO bf 0 (λ(j1:Int) (e1:Int) (Z1:(List Int)→Option _) (m_1:(List Int))=>bnd (iq n_ e1 m_1 vT vU vV) λ(bB:(List Int))=>Z1 bB) (λ(m_1:(List Int))=>some m_1) l_1) λJ1=>bnd (cO xD ra0) λ(ai:Bool)=>(bif ai then J1 true else bnd (cO vT ra0) λ(aI:Bool)=>J1 aI)
def lC(t:aa)(cI:Int)(closed:List Int):Option (List Int):=
 bnd (iq fuel cI [] closed t.ah t.Links) λ(ai:(List Int))=>chk (decide (ai.length<4611686018427387904))<|some (jy ai)
def jc(t:aa)(aS:Int):Option (List Int):=
 bnd (gZ t) λ(ai:Bool)=>bif !ai then some []else bnd (gX t aS) λ(aI:(List Int))=>some aI
def jH(t:aa)(a:Int)(b:Int):Option Bool:=
 bnd (kL t a) λ(ai:Bool)=>(bif ai then bnd (kL t b) λ(aI:Bool)=>(bif aI then bnd (lC t a []) λ(bf:(List Int))=>bnd (cO bf b) λ(bB:Bool)=>some bB else some false)else some false)
end
end Go.Proofs.YtdjeacigeegklaaGreat
namespace Go.Proofs.YtdjeacigeegklaaGreat
open Go
set_option maxRecDepth 100000
set_option linter.all false
noncomputable section
def l7(t:List Int):Option bM:=
 bnd (mJ t (0:Int) (if(2000:Int)<(t.length:Int)then(2000:Int)else(t.length:Int))) λ(l_1:List Int)=>some (bM.mk l_1 (0:Int))
def iP(t:bM):Option (Int×bM):=
 bif decide ((t.L.length:Int)≤t.At)then some ((0:Int),t)else bnd (elO t.L (w64 ((w64 (t.At+1))-(1:Int)))) λ(e_1:Int)=>some (e_1,(bM.mk t.L (w64 (t.At+1))))
def l8(xa0:Int)(n:Int):Option Int:=
 bif decide (n<1)then some (0:Int)else chk (decide (n≠0))<|jn (λ(ai:Int)=>some ai) λJ1=>bif decide (Int.tmod xa0 n<0)then J1 (w64 ((Int.tmod xa0 n)+n))else J1 (Int.tmod xa0 n)
def cn(t:bM)(n:Int):Option (Int×bM):=
 bnd (iP t) λ(ai:Int×bM)=>bnd (l8 ai.1 n) λ(aI:Int)=>some (aI,ai.2)
def fJ(t:bM)(lo:Int)(hi:Int):Option (Int×bM):=
 bnd (cn t (w64 ((w64 (hi-lo))+(1:Int)))) λ(ai:Int×bM)=>some (w64 (lo+ai.1),ai.2)
def fq(t:bM)(l:List Int):Option (Int×bM):=
 bnd (cn t (l.length:Int)) λ(ai:Int×bM)=>bnd (elO l ai.1) λ(e_1:Int)=>some (e_1,ai.2)
def eG(l:List Int)(xa1:Int):Option Bool:=
 bO l 0 (λ(j1:Int) (e1:Int) (Z1:Unit→Option _) (sg:Unit)=>match sg with|()=>bif decide (e1=xa1)then some true else Z1 ()) (λ(sg:Unit)=>match sg with|()=>some false) ()
def iF(l:List Int)(xa1:Int):Option (List Int):=
 whl (λ(Z1:Int→Option _) (k_1:Int)=>jn (λ(v_1:Bool)=>bif v_1 then Z1 (w64 (k_1+1))else jn (λ(v_2:Bool)=>bif v_2 then some l else bnd (mJ l k_1 (l.length:Int)) λ(l_1:List Int)=>bnd (dL ([xa1]:List Int) l_1) λ(l_2:List Int)=>bnd (mJ l (0:Int) k_1) λ(l_3:List Int)=>bnd (dL l_3 l_2) λ(l_4:List Int)=>some l_4) λJ2=>(bif decide (k_1<(l.length:Int))then bnd (elO l k_1) λ(e_2:Int)=>J2 (decide (e_2=xa1))else J2 false)) λJ1=>(bif decide (k_1<(l.length:Int))then bnd (elO l k_1) λ(e_1:Int)=>J1 (decide (e_1<xa1))else J1 false)) (0:Int)
def fV(a:List Int)(b:List Int):Option Bool:=
 bif !decide ((a.length:Int)=(b.length:Int))then some false else bO a 0 (λ(j1:Int) (e1:Int) (Z1:Unit→Option _) (sg:Unit)=>match sg with|()=>bnd (elO b (j1:Int)) λ(e_1:Int)=>bif !decide (e1=e_1)then some false else Z1 ()) (λ(sg:Unit)=>match sg with|()=>some true) ()
end
end Go.Proofs.YtdjeacigeegklaaGreat
namespace Go.Proofs.YtdjeacigeegklaaGreat
open Go
set_option maxRecDepth 100000
set_option linter.all false
noncomputable section
def mB(n:Int):Option Bool:=
 some ((decide (n=8))||((decide (n=16))||((decide (n=32))||(decide (n=64)))))
def ir(n:Int):Option Bool:=
 some ((decide (1≤n))&&(decide (n≤99)))
def gD(e:aC):Option Int:=
 bnd (mB e.Length) λ(ai:Bool)=>bO e.List 0 (λ(j1:Int) (e1:aq) (Z1:Bool→Option _) (oO:Bool)=>(bif oO then(bif decide (0≤e1.Bit)then(bif decide (e1.Bit<e.Length)then bnd (ir e1.aO) λ(aI:Bool)=>(bif aI then bnd (ir e1.To) λ(bf:Bool)=>Z1 bf else Z1 false)else Z1 false)else Z1 false)else Z1 false)) (λ(oO:Bool)=>bif !oO then some (2:Int)else bO e.List 0 (λ(j2:Int) (e2:aq) (Z2:Unit→Option _) (sg:Unit)=>match sg with|()=>bif ((decide (e2.Kind<1))||(decide (3<e2.Kind)))then some (1:Int)else Z2 ()) (λ(sg:Unit)=>match sg with|()=>bO e.List 0 (λ(j3:Int) (e3:aq) (Z3:Unit→Option _) (sg:Unit)=>match sg with|()=>bif !((decide (e3.To=e3.aO))==(decide (e3.Kind=3)))then some (8:Int)else Z3 ()) (λ(sg:Unit)=>match sg with|()=>bO (List.drop 1 e.List) 1 (λ(j4:Int) (e4:aq) (Z4:Unit→Option _) (sg:Unit)=>match sg with|()=>bnd (elO e.List (w64 ((j4:Int)-(1:Int)))) λ(e_1:aq)=>bif decide (e4.Bit≤e_1.Bit)then some (25:Int)else Z4 ()) (λ(sg:Unit)=>match sg with|()=>bO e.List 0 (λ(j5:Int) (e5:aq) (Z5:Unit→Option _) (sg:Unit)=>match sg with|()=>bnd (mJ e.List (0:Int) (j5:Int)) λ(l_1:List aq)=>bO l_1 0 (λ(j6:Int) (e6:aq) (Z6:Unit→Option _) (sg:Unit)=>match sg with|()=>bif ((decide (e5.aO=e6.aO))&&((decide (e5.Kind=e6.Kind))&&(decide (e5.To=e6.To))))then some (5:Int)else Z6 ()) (λ(sg:Unit)=>match sg with|()=>Z5 ()) ()) (λ(sg:Unit)=>match sg with|()=>some (0:Int)) ()) ()) ()) ()) ai
def ue(e:aC)(ra1:Int):Option Int:=
 jn (λ(bp:Int)=>some bp) λJ1=>bnd (gD e) λ(ai:Int)=>bif decide (ai=0)then bO e.List 0 (λ(j1:Int) (e1:aq) (Z1:Int→Option _) (cZ:Int)=>jn (λ(wW:Int)=>Z1 wW) λJ2=>bif decide (e1.aO=ra1)then chk (decide (0≤IntKind.wrap .u64 e1.Bit))<|J2 (br .or .u64 cZ (IntKind.wrap .u64 ((1:Int)*2 ^ min (IntKind.wrap .u64 e1.Bit).toNat 64)))else J2 cZ) (λ(cZ:Int)=>J1 cZ) (0:Int)else J1 (0:Int)
def ov(e:aC)(ra1:Int)(kind:Int)(tN:Int):Option (Int×Bool):=
 jn (λ(sg:Unit)=>match sg with|()=>some ((0:Int),false)) λJ1=>bnd (gD e) λ(ai:Int)=>bif decide (ai=0)then bO e.List 0 (λ(j1:Int) (e1:aq) (Z1:Unit→Option _) (sg:Unit)=>match sg with|()=>bif ((decide (e1.aO=ra1))&&((decide (e1.Kind=kind))&&(decide (e1.To=tN))))then some (e1.Bit,true)else Z1 ()) (λ(sg:Unit)=>match sg with|()=>J1 ()) ()else J1 ()
def mN(t:aa)(n:Int):Option (aC×Int):=
 bnd (ic t) λ(ai:Int)=>bif !decide (ai=0)then some ((aC.mk (0:Int) []),(1:Int))else bnd (mB n) λ(aI:Bool)=>bif !aI then some ((aC.mk (0:Int) []),(2:Int))else bO t.ah 0 (λ(j1:Int) (e1:aR) (Z1:(List aq)→Option _) (m_1:(List aq))=>bnd (dL m_1 ([(aq.mk (m_1.length:Int) e1.ID (3:Int) e1.ID)]:List aq)) λ(l_1:List aq)=>bnd (lz t e1.ID) λ(bf:(List Int))=>bO bf 0 (λ(j2:Int) (e2:Int) (Z2:(List aq)→Option _) (m_2:(List aq))=>bnd (dL m_2 ([(aq.mk (m_2.length:Int) e1.ID (1:Int) e2)]:List aq)) λ(l_2:List aq)=>Z2 l_2) (λ(m_2:(List aq))=>Z1 m_2) l_1) (λ(m_1:(List aq))=>bif decide (n<(m_1.length:Int))then some ((aC.mk (0:Int) []),(3:Int))else some ((aC.mk n m_1),(0:Int))) []
def jO(t:dz):Option Int:=
 bnd (ir t.cz) λ(ai:Bool)=>bO t.Links 0 (λ(j1:Int) (e1:aN) (Z1:Bool→Option _) (yP:Bool)=>(bif yP then bnd (ir e1.bn) λ(aI:Bool)=>(bif aI then bnd (ir e1.To) λ(bf:Bool)=>Z1 bf else Z1 false)else Z1 false)) (λ(yP:Bool)=>bif !yP then some (2:Int)else bO (List.drop 1 t.Links) 1 (λ(j2:Int) (e2:aN) (Z2:Unit→Option _) (sg:Unit)=>match sg with|()=>bnd (elO t.Links (w64 ((j2:Int)-(1:Int)))) λ(e_1:aN)=>bif ((decide (e2.bn<e_1.bn))||((decide (e_1.bn=e2.bn))&&(decide (e2.To≤e_1.To))))then some (25:Int)else Z2 ()) (λ(sg:Unit)=>match sg with|()=>bO t.Links 0 (λ(j3:Int) (e3:aN) (Z3:Unit→Option _) (sg:Unit)=>match sg with|()=>bnd (mJ t.Links (0:Int) (j3:Int)) λ(l_1:List aN)=>bO l_1 0 (λ(j4:Int) (e4:aN) (Z4:Unit→Option _) (sg:Unit)=>match sg with|()=>bif decide (e4.To=e3.To)then some (8:Int)else Z4 ()) (λ(sg:Unit)=>match sg with|()=>bif decide (e3.To=t.cz)then some (8:Int)else Z3 ()) ()) (λ(sg:Unit)=>match sg with|()=>whl (λ(Z5:((List Int)×Bool)→Option _) (sg:(List Int)×Bool)=>match sg with|(pY,rT)=>bif rT then bO t.Links 0 (λ(j6:Int) (e6:aN) (Z6:((List Int)×Bool)→Option _) (sg:(List Int)×Bool)=>match sg with|(iK,lE)=>jn (λ(sg:(List Int)×Bool)=>match sg with|(rU,rV)=>Z6 (rU,rV)) λJ1=>jn (λ(v_1:Bool)=>bif v_1 then bnd (dL iK ([e6.To]:List Int)) λ(l_2:List Int)=>J1 (l_2,true)else J1 (iK,lE)) λJ2=>bnd (eG iK e6.bn) λ(bB:Bool)=>(bif bB then bnd (eG iK e6.To) λ(bD:Bool)=>J2 (!bD)else J2 false)) (λ(sg:(List Int)×Bool)=>match sg with|(iK,lE)=>Z5 (iK,lE)) (pY,false)else bO t.Links 0 (λ(j7:Int) (e7:aN) (Z7:Unit→Option _) (sg:Unit)=>match sg with|()=>bnd (eG pY e7.bn) λ(cW:Bool)=>bif !cW then some (10:Int)else Z7 ()) (λ(sg:Unit)=>match sg with|()=>some (0:Int)) ()) (([t.cz]:List Int),true)) ()) ()) ai
def lN(t:dz):Option (List Int):=
 bnd (jO t) λ(ai:Int)=>bif !decide (ai=0)then some []else bO t.Links 0 (λ(j1:Int) (e1:aN) (Z1:(List Int)→Option _) (bp:(List Int))=>bnd (iF bp e1.To) λ(aI:(List Int))=>Z1 aI) (λ(bp:(List Int))=>some bp) ([t.cz]:List Int)
def l9(l:List Int):Option Bool:=
 bO (List.drop 1 l) 1 (λ(j1:Int) (e1:Int) (Z1:Unit→Option _) (sg:Unit)=>match sg with|()=>bnd (elO l (w64 ((j1:Int)-(1:Int)))) λ(e_1:Int)=>bif decide (e1≤e_1)then some false else Z1 ()) (λ(sg:Unit)=>match sg with|()=>some true) ()
def mO(e:aC)(t:dz)(receivers:List Int):Option (Int×Int):=
 bnd (gD e) λ(ai:Int)=>bif !decide (ai=0)then some ((0:Int),ai)else bnd (jO t) λ(aI:Int)=>bif !decide (aI=0)then some ((0:Int),aI)else bnd (l9 receivers) λ(bf:Bool)=>bif !bf then some ((0:Int),(25:Int))else bnd (lN t) λ(bB:(List Int))=>bO receivers 0 (λ(j1:Int) (e1:Int) (Z1:Unit→Option _) (sg:Unit)=>match sg with|()=>bnd (eG bB e1) λ(bD:Bool)=>bif !bD then some ((0:Int),(8:Int))else Z1 ()) (λ(sg:Unit)=>match sg with|()=>bO t.Links 0 (λ(j2:Int) (e2:aN) (Z2:Int→Option _) (bp:Int)=>bnd (ov e e2.bn (1:Int) e2.To) λ(cW:Int×Bool)=>bif !cW.2 then some ((0:Int),(4:Int))else chk (decide (0≤IntKind.wrap .u64 cW.1))<|Z2 (br .or .u64 bp (IntKind.wrap .u64 ((1:Int)*2 ^ min (IntKind.wrap .u64 cW.1).toNat 64)))) (λ(bp:Int)=>bO receivers 0 (λ(j3:Int) (e3:Int) (Z3:Int→Option _) (cZ:Int)=>bnd (ov e e3 (3:Int) e3) λ(bH:Int×Bool)=>bif !bH.2 then some ((0:Int),(4:Int))else chk (decide (0≤IntKind.wrap .u64 bH.1))<|Z3 (br .or .u64 cZ (IntKind.wrap .u64 ((1:Int)*2 ^ min (IntKind.wrap .u64 bH.1).toNat 64)))) (λ(cZ:Int)=>some (cZ,(0:Int))) bp) (0:Int)) ()
end
end Go.Proofs.YtdjeacigeegklaaGreat
namespace Go.Proofs.YtdjeacigeegklaaGreat
open Go
set_option maxRecDepth 100000
set_option linter.all false
noncomputable section
def ow(t:bM)(most:Int):Option (aa×bM):=
 bnd (fJ t (1:Int) most) λ(ai:Int×bM)=>chk (decide (ai.1≤9223372036854775807))<|nM (ai.1-0).toNat (0:Int) (λ(j1:Int) (Z1:(Int×(List aR)×(List Int)×Int)→Option _) (sg:Int×(List aR)×(List Int)×Int)=>match sg with|(xE,m_1,m_2,m_3)=>bnd (fq (bM.mk m_2 m_3) ([(1:Int),(1:Int),(1:Int),(2:Int),(5:Int)]:List Int)) λ(aI:Int×bM)=>bnd (dL m_1 ([(aR.mk (w64 (xE+aI.1)) true)]:List aR)) λ(l_1:List aR)=>Z1 (w64 (xE+aI.1),l_1,aI.2.L,aI.2.At)) (λ(j1:Int) (sg:Int×(List aR)×(List Int)×Int)=>match sg with|(xE,m_1,m_2,m_3)=>chk (decide (0<ai.1)&&decide (ai.1≤4294967296))<|chk (decide (((List.replicate ai.1.toNat []:List (List Bool)).length:Int)≤9223372036854775807))<|nM (((List.replicate ai.1.toNat []:List (List Bool)).length:Int)-(0:Int)).toNat (0:Int) (λ(j2:Int) (Z2:(List (List Bool))→Option _) (m_4:(List (List Bool)))=>chk (decide (0≤ai.1)&&decide (ai.1≤4294967296))<|bnd (elO m_4 (j2:Int)) λ(e_1:List Bool)=>Z2 (List.set m_4 (j2:Int).toNat (List.replicate (ai.1).toNat false))) (λ(j2:Int) (m_4:(List (List Bool)))=>chk (decide (ai.1≤9223372036854775807))<|nM (ai.1-1).toNat (1:Int) (λ(j3:Int) (Z3:((List Int)×Int×(List (List Bool)))→Option _) (sg:(List Int)×Int×(List (List Bool)))=>match sg with|(m_5,m_6,m_7)=>jn (λ(sg:(List (List Bool))×(List Int)×Int)=>match sg with|(m_8,m_9,nc)=>Z3 (m_9,nc,m_8)) λJ1=>bnd (cn (bM.mk m_5 m_6) (12:Int)) λ(bf:Int×bM)=>bif decide (bf.1<11)then bnd (cn bf.2 (j3:Int)) λ(bB:Int×bM)=>bnd (elO m_7 bB.1) λ(e_2:List Bool)=>bnd (elO e_2 (j3:Int)) λ(e_3:Bool)=>bnd (sO e_2 (j3:Int) true) λ(l_2:List Bool)=>J1 ((List.set m_7 bB.1.toNat l_2),bB.2.L,bB.2.At)else J1 (m_7,bf.2.L,bf.2.At)) (λ(j3:Int) (sg:(List Int)×Int×(List (List Bool)))=>match sg with|(m_5,m_6,m_7)=>bnd (cn (bM.mk m_5 m_6) (w64 (ai.1+2))) λ(bD:Int×bM)=>whl (λ(Z4:(Int×(List Int)×Int×(List (List Bool)))→Option _) (sg:Int×(List Int)×Int×(List (List Bool)))=>match sg with|(i_1,ng,lF,ff)=>bif decide (0<i_1)then jn (λ(sg:(List (List Bool))×(List Int)×Int)=>match sg with|(rE,rF,adT)=>Z4 (w64 (i_1-1),rF,adT,rE)) λJ2=>bnd (cn (bM.mk ng lF) ai.1) λ(cW:Int×bM)=>bnd (cn cW.2 ai.1) λ(bH:Int×bM)=>bif !decide (cW.1=bH.1)then bnd (elO ff (if bH.1<cW.1 then bH.1 else cW.1)) λ(e_4:List Bool)=>bnd (elO e_4 (if bH.1>cW.1 then bH.1 else cW.1)) λ(e_5:Bool)=>bnd (sO e_4 (if bH.1>cW.1 then bH.1 else cW.1) true) λ(l_3:List Bool)=>J2 ((List.set ff (if bH.1<cW.1 then bH.1 else cW.1).toNat l_3),bH.2.L,bH.2.At)else J2 (ff,bH.2.L,bH.2.At)else bnd (cn (bM.mk ng lF) (3:Int)) λ(jY:Int×bM)=>chk (decide ((ff.length:Int)≤9223372036854775807))<|nM ((ff.length:Int)-(0:Int)).toNat (0:Int) (λ(j5:Int) (Z5:((List aW)×(List Int)×Int)→Option _) (sg:(List aW)×(List Int)×Int)=>match sg with|(aaj,aak,aal)=>chk (decide ((ff.length:Int)≤9223372036854775807))<|nM ((ff.length:Int)-(0:Int)).toNat (0:Int) (λ(j6:Int) (Z6:((List aW)×(List Int)×Int)→Option _) (sg:(List aW)×(List Int)×Int)=>match sg with|(tO,vX,vY)=>jn (λ(sg:(List Int)×Int×(List aW))=>match sg with|(adU,adV,adW)=>Z6 (adW,adU,adV)) λJ3=>bnd (elO ff (j5:Int)) λ(e_6:List Bool)=>bnd (elO e_6 (j6:Int)) λ(e_7:Bool)=>bif !e_7 then J3 (vX,vY,tO)else bnd (elO m_1 (j5:Int)) λ(e_8:aR)=>bnd (elO m_1 (j6:Int)) λ(e_9:aR)=>bnd (fq (bM.mk vX vY) ([(0:Int),(1:Int),(2:Int),(3:Int),(5:Int),(10:Int),(1000:Int)]:List Int)) λ(qH:Int×bM)=>jn (λ(sg:(List Int)×Int×Int×Int)=>match sg with|(adX,adY,agb,agc)=>bnd (dL tO ([(aW.mk e_8.ID e_9.ID agb agc qH.1)]:List aW)) λ(l_4:List aW)=>J3 (adX,adY,l_4)) λJ4=>bif !(decide (jY.1=0))then bnd (fJ qH.2 (1:Int) (20:Int)) λ(uf:Int×bM)=>bnd (fq uf.2 ([(1:Int),(2:Int),(3:Int),uf.1,(1000:Int)]:List Int)) λ(pH:Int×bM)=>bnd (fJ pH.2 (1:Int) (20:Int)) λ(aa5:Int×bM)=>bnd (fq aa5.2 ([pH.1,pH.1,aa5.1]:List Int)) λ(qn:Int×bM)=>J4 (qn.2.L,qn.2.At,pH.1,qn.1)else J4 (qH.2.L,qH.2.At,(1:Int),(1:Int))) (λ(j6:Int) (sg:(List aW)×(List Int)×Int)=>match sg with|(tO,vX,vY)=>Z5 (tO,vX,vY)) (aaj,aak,aal)) (λ(j5:Int) (sg:(List aW)×(List Int)×Int)=>match sg with|(aaj,aak,aal)=>some ((aa.mk m_1 aaj),(bM.mk aak aal))) ([],jY.2.L,jY.2.At)) (bD.1,bD.2.L,bD.2.At,m_7)) (m_2,m_3,m_4)) (List.replicate ai.1.toNat []:List (List Bool))) ((0:Int),[],ai.2.L,ai.2.At)
def uu(l:List aN)(ha1:aN):Option (List aN):=
 whl (λ(Z1:Int→Option _) (k_1:Int)=>jn (λ(v_1:Bool)=>bif v_1 then Z1 (w64 (k_1+1))else bnd (mJ l k_1 (l.length:Int)) λ(l_1:List aN)=>bnd (dL ([ha1]:List aN) l_1) λ(l_2:List aN)=>bnd (mJ l (0:Int) k_1) λ(l_3:List aN)=>bnd (dL l_3 l_2) λ(l_4:List aN)=>some l_4) λJ1=>(bif decide (k_1<(l.length:Int))then bnd (elO l k_1) λ(e_1:aN)=>(bif decide (e_1.bn<ha1.bn)then J1 true else(bif decide (e_1.bn=ha1.bn)then J1 (decide (e_1.To<ha1.To))else J1 false))else J1 false)) (0:Int)
def sY(t:bM)(p:aa)(root:Int):Option (dz×bM):=
 bnd (cn t (w64 ((w64 ((2:Int)*(p.Links.length:Int)))+(1:Int)))) λ(ai:Int×bM)=>whl (λ(Z1:((List Int)×Int×(List aN)×(List Int)×Int)→Option _) (sg:(List Int)×Int×(List aN)×(List Int)×Int)=>match sg with|(ry,i_1,m_1,m_2,m_3)=>bif decide (0<i_1)then jn (λ(sg:(List Int)×(List Int)×Int×(List aN))=>match sg with|(aa6,m_4,m_5,m_6)=>Z1 (aa6,w64 (i_1-1),m_6,m_4,m_5)) λJ1=>bnd (cn (bM.mk m_2 m_3) (p.Links.length:Int)) λ(aI:Int×bM)=>bnd (elO p.Links aI.1) λ(e_1:aW)=>jn (λ(sg:Int×Int)=>match sg with|(m_7,m_8)=>jn (λ(v_1:Bool)=>bif v_1 then bnd (dL ry ([m_8]:List Int)) λ(l_1:List Int)=>bnd (uu m_1 (aN.mk m_7 m_8)) λ(cW:(List aN))=>J1 (l_1,aI.2.L,aI.2.At,cW)else J1 (ry,aI.2.L,aI.2.At,m_1)) λJ3=>bnd (eG ry m_7) λ(bB:Bool)=>(bif bB then bnd (eG ry m_8) λ(bD:Bool)=>J3 (!bD)else J3 false)) λJ2=>bnd (eG ry e_1.B) λ(bf:Bool)=>bif bf then J2 (e_1.B,e_1.A)else J2 (e_1.A,e_1.B)else some ((dz.mk root m_1),(bM.mk m_2 m_3))) (([root]:List Int),ai.1,[],ai.2.L,ai.2.At)
end
end Go.Proofs.YtdjeacigeegklaaGreat
namespace Go.Proofs.YtdjeacigeegklaaGreat
open Go
set_option maxRecDepth 100000
set_option linter.all false
noncomputable section
def iu(n:Int):Option Bool:=
 some ((decide (n=8))||((decide (n=16))||((decide (n=32))||(decide (n=64)))))
def rz(length:Int):Option Int:=
 bnd (iu length) λ(ai:Bool)=>bif !ai then some (0:Int)else chk (decide (0≤w64 ((64:Int)-length)))<|some (Int.fdiv (18446744073709551615:Int) (2 ^ min (w64 ((64:Int)-length)).toNat 64))
def oy(b:Int)(length:Int):Option Bool:=
 bnd (iu length) λ(ai:Bool)=>(bif ai then bnd (rz length) λ(aI:Int)=>some (decide (br .andNot .u64 b aI=0))else some false)
def lG(n:Int):Option Bool:=
 some ((decide (1≤n))&&(decide (n≤99)))
def oz(a:aq):Option bN:=
 some (bN.mk a.aO a.Kind a.To)
def gE(e:aC):Option Int:=
 bnd (iu e.Length) λ(ai:Bool)=>bif !ai then some (2:Int)else bO e.List 0 (λ(j1:Int) (e1:aq) (Z1:Unit→Option _) (sg:Unit)=>match sg with|()=>jn (λ(v_1:Bool)=>bif v_1 then some (2:Int)else Z1 ()) λJ1=>(bif decide (e1.Bit<0)then J1 true else(bif decide (e.Length≤e1.Bit)then J1 true else bnd (lG e1.aO) λ(aI:Bool)=>(bif !aI then J1 true else bnd (lG e1.To) λ(bf:Bool)=>J1 (!bf))))) (λ(sg:Unit)=>match sg with|()=>bO e.List 0 (λ(j2:Int) (e2:aq) (Z2:Unit→Option _) (sg:Unit)=>match sg with|()=>bif ((decide (e2.Kind<1))||(decide (3<e2.Kind)))then some (1:Int)else Z2 ()) (λ(sg:Unit)=>match sg with|()=>bO e.List 0 (λ(j3:Int) (e3:aq) (Z3:Unit→Option _) (sg:Unit)=>match sg with|()=>bif !((decide (e3.To=e3.aO))==(decide (e3.Kind=3)))then some (8:Int)else Z3 ()) (λ(sg:Unit)=>match sg with|()=>bO (List.drop 1 e.List) 1 (λ(j4:Int) (e4:aq) (Z4:Unit→Option _) (sg:Unit)=>match sg with|()=>bnd (elO e.List (w64 ((j4:Int)-(1:Int)))) λ(e_1:aq)=>bif decide (e4.Bit≤e_1.Bit)then some (25:Int)else Z4 ()) (λ(sg:Unit)=>match sg with|()=>bO e.List 0 (λ(j5:Int) (e5:aq) (Z5:(List (bN×Bool))→Option _) (m_1:(List (bN×Bool)))=>bnd (oz e5) λ(bB:bN)=>bif ((kJ eo m_1 bB).getD false)then some (5:Int)else bnd (oz e5) λ(bD:bN)=>Z5 (qx eo m_1 bD true)) (λ(m_1:(List (bN×Bool)))=>some (0:Int)) []) ()) ()) ()) ()
def lP(e:aC)(aS:Int):Option Int:=
 jn (λ(b_1:Int)=>some b_1) λJ1=>bnd (gE e) λ(ai:Int)=>bif decide (ai=0)then bO e.List 0 (λ(j1:Int) (e1:aq) (Z1:Int→Option _) (b_2:Int)=>jn (λ(b_3:Int)=>Z1 b_3) λJ2=>bif decide (e1.aO=aS)then chk (decide (0≤e1.Bit))<|J2 (br .or .u64 b_2 (IntKind.wrap .u64 ((1:Int)*2 ^ min e1.Bit.toNat 64)))else J2 b_2) (λ(b_2:Int)=>J1 b_2) (0:Int)else J1 (0:Int)
end
end Go.Proofs.YtdjeacigeegklaaGreat
namespace Go.Proofs.YtdjeacigeegklaaGreat
open Go
set_option maxRecDepth 100000
set_option linter.all false
noncomputable section
def nV(a:aG)(b:aG):Option Int:=
 bnd (fN a.to_ b.to_) λ(ai:Int)=>some ai
end
end Go.Proofs.YtdjeacigeegklaaGreat
namespace Go.Proofs.YtdjeacigeegklaaGreat
open Go
set_option maxRecDepth 100000
set_option linter.all false
noncomputable section
def kN(t:aa):Option Bool:=
 bnd (gY t) λ(ai:Int)=>some (decide (ai=0))
def nG(t:aa):Option fT:=
 bO t.ah 0 (λ(j1:Int) (e1:aR) (Z1:((List (Int×List aG))×(List (Int×List aG)))→Option _) (sg:(List (Int×List aG))×(List (Int×List aG)))=>match sg with|(m_1,m_2)=>Z1 (bU m_1 e1.ID [],bU m_2 e1.ID [])) (λ(sg:(List (Int×List aG))×(List (Int×List aG)))=>match sg with|(m_1,m_2)=>bO t.Links 0 (λ(j2:Int) (e2:aW) (Z2:((List (Int×List aG))×(List (Int×List aG)))→Option _) (sg:(List (Int×List aG))×(List (Int×List aG)))=>match sg with|(m_3,m_4)=>bnd (dL ((aK m_3 e2.A).getD []) ([(aG.mk e2.B e2.jh)]:List aG)) λ(l_1:List aG)=>bnd (dL ((aK (bU m_3 e2.A l_1) e2.B).getD []) ([(aG.mk e2.A e2.ji)]:List aG)) λ(l_2:List aG)=>bnd (dL ((aK m_4 e2.B).getD []) ([(aG.mk e2.A e2.jh)]:List aG)) λ(l_3:List aG)=>bnd (dL ((aK (bU m_4 e2.B l_3) e2.A).getD []) ([(aG.mk e2.B e2.ji)]:List aG)) λ(l_4:List aG)=>Z2 (bU (bU m_3 e2.A l_1) e2.B l_2,bU (bU m_4 e2.B l_3) e2.A l_4)) (λ(sg:(List (Int×List aG))×(List (Int×List aG)))=>match sg with|(m_3,m_4)=>bnd (um m_3 (λ(n_1:Int) (v_1:List aG) (m_5:(List (Int×List aG)))=>chk (aK m_5 n_1).isSome<|bnd (sP (mK [λx:aG=>x.to_]) ((aK m_5 n_1).getD [])) λ(l_5:List aG)=>some (bU m_5 n_1 l_5)) m_3) λ(R1:(List (Int×List aG)))=>some (fT.mk R1 m_4)) (m_1,m_2)) (([]:List (Int×List aG)),([]:List (Int×List aG)))
def fW(links:List (Int×List aG))(cI:Int):Option (List (Int×Int)):=
 bif !((aK links cI).isSome)then some []else jn (λ(sg:(List (Int×Int))×(List (Int×Int)))=>match sg with|(m_1,m_2)=>some m_1) λJ1=>whl (λ(Z1:((List (Int×Int))×(List (Int×Int)))→Option _) (sg:(List (Int×Int))×(List (Int×Int)))=>match sg with|(m_3,m_4)=>bif decide (0<(m_4.length:Int))then bnd (um m_4 (λ(n_1:Int) (v_1:Int) (dW:Int)=>bif ((decide (dW=0))||((decide (v_1<((aK m_4 dW).getD (0:Int))))||((decide (v_1=((aK m_4 dW).getD (0:Int))))&&(decide (n_1<dW)))))then some n_1 else some dW) (0:Int)) λ(R1:Int)=>bif decide (((bU m_3 R1 ((aK m_4 R1).getD (0:Int))).length:Int)=(links.length:Int))then J1 (bU m_3 R1 ((aK m_4 R1).getD (0:Int)),pg m_4 R1)else bO ((aK links R1).getD []) 0 (λ(j2:Int) (e2:aG) (Z2:(List (Int×Int))→Option _) (m_5:(List (Int×Int)))=>jn (λ(m_6:(List (Int×Int)))=>Z2 m_6) λJ2=>bif (aK (bU m_3 R1 ((aK m_4 R1).getD (0:Int))) e2.to_).isSome then J2 m_5 else bif ((!((aK m_5 e2.to_).isSome))||(decide (w64 (((aK m_4 R1).getD (0:Int))+e2.gn)<((aK m_5 e2.to_).getD (0:Int)))))then J2 (bU m_5 e2.to_ (w64 (((aK m_4 R1).getD (0:Int))+e2.gn)))else J2 m_5) (λ(m_5:(List (Int×Int)))=>Z1 (bU m_3 R1 ((aK m_4 R1).getD (0:Int)),m_5)) (pg m_4 R1)else J1 (m_3,m_4)) ([],bU [] cI (0:Int))
def jd(g:fT)(fP:List (Int×Int))(eX:Int):Option (List Int):=
 bif !((aK fP eX).isSome)then some []else bO ((aK g.nP eX).getD []) 0 (λ(j1:Int) (e1:aG) (Z1:(List Int)→Option _) (bp:(List Int))=>jn (λ(cZ:(List Int))=>Z1 cZ) λJ1=>bif (((aK fP e1.to_).isSome)&&(decide (w64 (e1.gn+((aK fP e1.to_).getD (0:Int)))=((aK fP eX).getD (0:Int)))))then bnd (dL bp ([e1.to_]:List Int)) λ(l_1:List Int)=>J1 l_1 else J1 bp) (λ(bp:(List Int))=>some bp) []
def kO(t:aa)(cI:Int)(fF:Int):Option (List Int):=
 jn (λ(v_1:Bool)=>bif v_1 then some []else bnd (nG t) λ(aI:fT)=>bnd (fW aI.in_ fF) λ(bf:(List (Int×Int)))=>whl (λ(Z1:((List Int)×Int)→Option _) (sg:(List Int)×Int)=>match sg with|(bp,jE)=>bif !decide (jE=fF)then bnd (jd aI bf jE) λ(bB:(List Int))=>bif decide ((bB.length:Int)=(0:Int))then some []else bnd (elO bB (0:Int)) λ(e_1:Int)=>bnd (dL bp ([e_1]:List Int)) λ(l_1:List Int)=>bnd (elO l_1 (w64 ((l_1.length:Int)-(1:Int)))) λ(e_2:Int)=>Z1 (l_1,e_2)else some bp) ([],cI)) λJ1=>bnd (kN t) λ(ai:Bool)=>(bif !ai then J1 true else J1 (decide (cI=fF)))
end
end Go.Proofs.YtdjeacigeegklaaGreat
namespace Go.Proofs.YtdjeacigeegklaaGreat
open Go
set_option maxRecDepth 100000
set_option linter.all false
noncomputable section
def kV(n:Int)(most:Int):Option Bool:=
 some ((decide (0≤n))&&(decide (n≤most)))
def kP(p:aH):Option Bool:=
 (bif decide (1≤p.Mode)then(bif decide (p.Mode≤3)then bnd (kV p.cC (7:Int)) λ(ai:Bool)=>(bif ai then bnd (kV p.Set (31:Int)) λ(aI:Bool)=>(bif aI then bnd (oy p.Bits p.Length) λ(bf:Bool)=>(bif bf then bnd (kV p.TTL (63:Int)) λ(bB:Bool)=>(bif bB then bnd (kV p.dG (1023:Int)) λ(bD:Bool)=>(bif bD then bnd (kV p.dH (256:Int)) λ(cW:Bool)=>(bif cW then bnd (kV p.eO (7:Int)) λ(bH:Bool)=>(bif bH then some (decide ((p.cM.size:Int)≤(64:Int)))else some false)else some false)else some false)else some false)else some false)else some false)else some false)else some false)else some false)
def nj(p:aH)(bit:Int):Option aH:=
 jn (λ(v_1:Bool)=>bif v_1 then some (aH.mk (0:Int) (0:Int) (0:Int) (0:Int) (0:Int) (0:Int) (0:Int) (0:Int) (0:Int) (⟨#[]⟩:ByteArray))else chk (decide (0≤bit))<|some (aH.mk p.Mode p.cC p.Set p.Length p.TTL p.dG p.dH p.eO (IntKind.wrap .u64 ((1:Int)*2 ^ min bit.toNat 64)) p.cM)) λJ1=>bnd (kP p) λ(ai:Bool)=>(bif !ai then J1 true else(bif decide (bit<0)then J1 true else(bif decide (63<bit)then J1 true else chk (decide (0≤bit))<|J1 (decide (br .and .u64 (Int.fdiv p.Bits (2 ^ min bit.toNat 64)) (1:Int)=(0:Int))))))
def lH(e:aC)(p:aH):Option Int:=
 bif !decide (p.Mode=2)then some (7:Int)else bif !decide (p.Length=e.Length)then some (8:Int)else some (0:Int)
def kG(e:aC)(aS:Int)(p:aH):Option (cE×(List cA)):=
 bnd (lP e aS) λ(ai:Int)=>bO e.List 0 (λ(j1:Int) (e1:aq) (Z1:((List cA)×Int×Int×(List aZ))→Option _) (sg:(List cA)×Int×Int×(List aZ))=>match sg with|(iM,m_1,m_2,m_3)=>jn (λ(sg:(List cA)×Int×Int×(List aZ))=>match sg with|(vj,m_4,m_5,m_6)=>Z1 (vj,m_4,m_5,m_6)) λJ1=>chk (decide (0≤e1.Bit))<|bif ((!decide (e1.aO=aS))||(decide (br .and .u64 p.Bits (IntKind.wrap .u64 ((1:Int)*2 ^ min e1.Bit.toNat 64))=(0:Int))))then J1 (iM,m_1,m_2,m_3)else bif decide (e1.Kind=3)then J1 (iM,br .or .u64 m_1 (IntKind.wrap .u64 ((1:Int)*2 ^ min e1.Bit.toNat 64)),m_2,m_3)else bif decide (p.TTL=0)then J1 (iM,m_1,br .or .u64 m_2 (IntKind.wrap .u64 ((1:Int)*2 ^ min e1.Bit.toNat 64)),m_3)else bif !decide (br .andNot .u64 p.Bits ai=0)then jn (λ(m_7:(List Int))=>bnd (dL m_3 ([(aZ.mk e1.To (bL.mk m_7 (aH.mk p.Mode p.cC p.Set p.Length (w64 (p.TTL-1)) p.dG p.dH p.eO (br .andNot .u64 p.Bits ai) p.cM)))]:List aZ)) λ(l_1:List aZ)=>bnd (dL iM ([(cA.mk e1 (aZ.mk e1.To (bL.mk m_7 (aH.mk p.Mode p.cC p.Set p.Length (w64 (p.TTL-1)) p.dG p.dH p.eO (br .andNot .u64 p.Bits ai) p.cM))))]:List cA)) λ(l_2:List cA)=>J1 (l_2,m_1,m_2,l_1)) λJ2=>bif decide (e1.Kind=2)then J2 ([e1.To]:List Int)else J2 []else J1 (iM,m_1,m_2,m_3)) (λ(sg:(List cA)×Int×Int×(List aZ))=>match sg with|(iM,m_1,m_2,m_3)=>some ((cE.mk m_1 m_2 m_3),iM)) ([],(0:Int),(0:Int),[])
def jI(e:aC)(aS:Int)(p:aH):Option (cE×Int):=
 jn (λ(v_1:Bool)=>bif v_1 then some ((cE.mk (0:Int) (0:Int) []),(1:Int))else bnd (lH e p) λ(bf:Int)=>bif !decide (bf=0)then some ((cE.mk (0:Int) (0:Int) []),bf)else bnd (kG e aS p) λ(bB:cE×(List cA))=>some (bB.1,(0:Int))) λJ1=>bnd (gE e) λ(ai:Int)=>(bif !decide (ai=0)then J1 true else bnd (kP p) λ(aI:Bool)=>J1 (!aI))
end
end Go.Proofs.YtdjeacigeegklaaGreat
namespace Go.Proofs.YtdjeacigeegklaaGreat
open Go
set_option maxRecDepth 100000
set_option linter.all false
noncomputable section
def mY(n:Int):Option Bool:=
 some ((decide (n=8))||((decide (n=16))||((decide (n=32))||(decide (n=64)))))
def xG(k:Int):Option Int:=
 bif ((decide (k<0))||(decide (63<k)))then some (0:Int)else chk (decide (0≤IntKind.wrap .u64 k))<|some (IntKind.wrap .u64 ((1:Int)*2 ^ min (IntKind.wrap .u64 k).toNat 64))
def sZ(length:Int):Option Int:=
 bnd (mY length) λ(ai:Bool)=>bif !ai then some (0:Int)else chk (decide (length≤9223372036854775807))<|nM (length-0).toNat (0:Int) (λ(j1:Int) (Z1:Int→Option _) (b_1:Int)=>bnd (xG (j1:Int)) λ(aI:Int)=>Z1 (br .or .u64 b_1 aI)) (λ(j1:Int) (b_1:Int)=>some b_1) (0:Int)
def o4(b:Int)(length:Int):Option Bool:=
 bnd (mY length) λ(ai:Bool)=>(bif ai then bnd (sZ length) λ(aI:Int)=>some (decide (br .andNot .u64 b aI=0))else some false)
def iw(n:Int)(most:Int):Option Bool:=
 some ((decide (0≤n))&&(decide (n≤most)))
def nk(p:aH):Option Bool:=
 (bif decide (1≤p.Mode)then(bif decide (p.Mode≤3)then bnd (iw p.cC (7:Int)) λ(ai:Bool)=>(bif ai then bnd (iw p.Set (31:Int)) λ(aI:Bool)=>(bif aI then bnd (o4 p.Bits p.Length) λ(bf:Bool)=>(bif bf then bnd (iw p.TTL (63:Int)) λ(bB:Bool)=>(bif bB then bnd (iw p.dG (1023:Int)) λ(bD:Bool)=>(bif bD then bnd (iw p.dH (256:Int)) λ(cW:Bool)=>(bif cW then bnd (iw p.eO (7:Int)) λ(bH:Bool)=>(bif bH then some (decide ((p.cM.size:Int)≤(64:Int)))else some false)else some false)else some false)else some false)else some false)else some false)else some false)else some false)else some false)
def uD(t:aa)(ra1:Int):Option Int:=
 bO t.ah 0 (λ(j1:Int) (e1:aR) (Z1:Unit→Option _) (sg:Unit)=>match sg with|()=>bif decide (e1.ID=ra1)then some (j1:Int)else Z1 ()) (λ(sg:Unit)=>match sg with|()=>some (0:Int)) ()
def yS(t:aa)(toa1:Int):Option (List Int):=
 chk (decide (0≤(t.ah.length:Int))&&decide ((t.ah.length:Int)≤4294967296))<|whl (λ(Z1:((List Int)×Int)→Option _) (sg:(List Int)×Int)=>match sg with|(d_1,i_1)=>bif decide (i_1<(d_1.length:Int))then jn (λ(d_2:(List Int))=>Z1 (d_2,w64 (i_1+1))) λJ1=>bnd (elO d_1 i_1) λ(e_1:Int)=>bnd (sO d_1 i_1 (1073741824:Int)) λ(l_1:List Int)=>bnd (elO t.ah i_1) λ(e_2:aR)=>bif decide (e_2.ID=toa1)then bnd (elO l_1 i_1) λ(e_3:Int)=>bnd (sO l_1 i_1 (0:Int)) λ(l_2:List Int)=>J1 l_2 else J1 l_1 else whl (λ(Z2:((List Int)×Int)→Option _) (sg:(List Int)×Int)=>match sg with|(d_3,ahs)=>bif decide (ahs<(d_3.length:Int))then bO t.Links 0 (λ(j3:Int) (e3:aW) (Z3:(List Int)→Option _) (d_4:(List Int))=>jn (λ(d_5:(List Int))=>Z3 d_5) λJ2=>bnd (uD t e3.A) λ(ai:Int)=>bnd (uD t e3.B) λ(aI:Int)=>jn (λ(d_6:(List Int))=>bnd (elO d_6 ai) λ(e_6:Int)=>bif decide (e_6<1073741824)then bnd (elO d_6 aI) λ(e_7:Int)=>bnd (sO d_6 aI (if(w64 (e3.ji+e_6))<e_7 then w64 (e3.ji+e_6)else e_7)) λ(l_4:List Int)=>J2 l_4 else J2 d_6) λJ3=>bnd (elO d_4 aI) λ(e_4:Int)=>bif decide (e_4<1073741824)then bnd (elO d_4 ai) λ(e_5:Int)=>bnd (sO d_4 ai (if(w64 (e3.jh+e_4))<e_5 then w64 (e3.jh+e_4)else e_5)) λ(l_3:List Int)=>J3 l_3 else J3 d_4) (λ(d_4:(List Int))=>Z2 (d_4,w64 (ahs+1))) d_3 else some d_3) (d_1,(0:Int))) ((List.replicate ((t.ah.length:Int)).toNat (0:Int)),(0:Int))
def qo(t:aa)(d:List Int)(ra2:Int):Option Int:=
 bO t.ah 0 (λ(j1:Int) (e1:aR) (Z1:Unit→Option _) (sg:Unit)=>match sg with|()=>bif decide (e1.ID=ra2)then bnd (elO d (j1:Int)) λ(e_1:Int)=>some e_1 else Z1 ()) (λ(sg:Unit)=>match sg with|()=>some (1073741824:Int)) ()
def uE(t:aa)(d:List Int)(eX:Int):Option (List Int):=
 bnd (qo t d eX) λ(ai:Int)=>bif ((decide (ai=1073741824))||(decide (ai=0)))then some []else bnd (mM t eX) λ(aI:(List Int))=>bO aI 0 (λ(j1:Int) (e1:Int) (Z1:(List Int)→Option _) (bp:(List Int))=>jn (λ(cZ:(List Int))=>Z1 cZ) λJ1=>bnd (lX t eX e1) λ(bf:Int×Bool)=>jn (λ(v_1:Bool)=>bif v_1 then bnd (dL bp ([e1]:List Int)) λ(l_1:List Int)=>J1 l_1 else J1 bp) λJ2=>bnd (qo t d e1) λ(bB:Int)=>(bif decide (bB<1073741824)then bnd (qo t d e1) λ(bD:Int)=>J2 (decide (w64 (bf.1+bD)=ai))else J2 false)) (λ(bp:(List Int))=>some bp) []
def rA(t:aa)(cI:Int)(fF:Int):Option (List Int):=
 jn (λ(v_1:Bool)=>bif v_1 then some []else bnd (yS t fF) λ(bf:(List Int))=>whl (λ(Z1:(Int×(List Int))→Option _) (sg:Int×(List Int))=>match sg with|(aht,bp)=>bif !decide (aht=fF)then bnd (uE t bf aht) λ(bB:(List Int))=>bif decide ((bB.length:Int)=(0:Int))then some []else bnd (elO bB (0:Int)) λ(e_1:Int)=>bnd (dL bp ([e_1]:List Int)) λ(l_1:List Int)=>Z1 (e_1,l_1)else some bp) (cI,[])) λJ1=>bnd (jo t cI) λ(ai:Bool)=>(bif !ai then J1 true else bnd (jo t fF) λ(aI:Bool)=>J1 (!aI))
def rG(e:aC)(p:aH):Option Int:=
 bif !decide (p.Mode=2)then some (7:Int)else bif !decide (p.Length=e.Length)then some (8:Int)else some (0:Int)
def s7(e:aC)(aS:Int)(p:aH):Option (cE×Int):=
 jn (λ(v_1:Bool)=>bif v_1 then some ((cE.mk (0:Int) (0:Int) []),(1:Int))else bnd (rG e p) λ(bf:Int)=>bif !decide (bf=0)then some ((cE.mk (0:Int) (0:Int) []),bf)else bnd (ue e aS) λ(bB:Int)=>bO e.List 0 (λ(j1:Int) (e1:aq) (Z1:(Int×Int×(List aZ))→Option _) (sg:Int×Int×(List aZ))=>match sg with|(m_1,m_2,m_3)=>jn (λ(sg:Int×Int×(List aZ))=>match sg with|(m_4,m_5,m_6)=>Z1 (m_4,m_5,m_6)) λJ2=>chk (decide (0≤IntKind.wrap .u64 e1.Bit))<|bif ((!decide (e1.aO=aS))||(decide (br .and .u64 p.Bits (IntKind.wrap .u64 ((1:Int)*2 ^ min (IntKind.wrap .u64 e1.Bit).toNat 64))=(0:Int))))then J2 (m_1,m_2,m_3)else bif decide (e1.Kind=3)then J2 (br .or .u64 m_1 (IntKind.wrap .u64 ((1:Int)*2 ^ min (IntKind.wrap .u64 e1.Bit).toNat 64)),m_2,m_3)else bif decide (p.TTL=0)then J2 (m_1,br .or .u64 m_2 (IntKind.wrap .u64 ((1:Int)*2 ^ min (IntKind.wrap .u64 e1.Bit).toNat 64)),m_3)else bif !decide (br .andNot .u64 p.Bits bB=0)then jn (λ(m_7:(List Int))=>bnd (dL m_3 ([(aZ.mk e1.To (bL.mk m_7 (aH.mk p.Mode p.cC p.Set p.Length (w64 (p.TTL-1)) p.dG p.dH p.eO (br .andNot .u64 p.Bits bB) p.cM)))]:List aZ)) λ(l_1:List aZ)=>J2 (m_1,m_2,l_1)) λJ3=>bif decide (e1.Kind=2)then J3 ([e1.To]:List Int)else J3 []else J2 (m_1,m_2,m_3)) (λ(sg:Int×Int×(List aZ))=>match sg with|(m_1,m_2,m_3)=>some ((cE.mk m_1 m_2 m_3),(0:Int))) ((0:Int),(0:Int),[])) λJ1=>bnd (gD e) λ(ai:Int)=>(bif !decide (ai=0)then J1 true else bnd (nk p) λ(aI:Bool)=>J1 (!aI))
def qp(e:aC)(t:dz)(receivers:List Int)(p:aH):Option (aH×Int):=
 bnd (mO e t receivers) λ(ai:Int×Int)=>bif !decide (ai.2=0)then some ((aH.mk (0:Int) (0:Int) (0:Int) (0:Int) (0:Int) (0:Int) (0:Int) (0:Int) (0:Int) (⟨#[]⟩:ByteArray)),ai.2)else bnd (nk (aH.mk (2:Int) p.cC p.Set e.Length p.TTL p.dG p.dH p.eO ai.1 p.cM)) λ(aI:Bool)=>bif !aI then some ((aH.mk (0:Int) (0:Int) (0:Int) (0:Int) (0:Int) (0:Int) (0:Int) (0:Int) (0:Int) (⟨#[]⟩:ByteArray)),(1:Int))else some ((aH.mk (2:Int) p.cC p.Set e.Length p.TTL p.dG p.dH p.eO ai.1 p.cM),(0:Int))
end
end Go.Proofs.YtdjeacigeegklaaGreat
namespace Go.Proofs.YtdjeacigeegklaaGreat
open Go
set_option maxRecDepth 100000
set_option linter.all false
noncomputable section
def gQ(sa0:List Int):Option (List Int):=
 bnd (dL ([]:List Int) sa0) λ(l_1:List Int)=>some l_1
def pI: Option (List Int):=
 bnd (dL ([]:List Int) []) λ(l_1:List Int)=>some l_1
def ki(s:List Int):Option (List Int):=gQ s
def pJ(f:bg)(a:Int)(b:Int):Option Bool:=
 bnd (dJ f.Links (aN.mk a b)) λ(ai:Bool)=>(bif ai then some true else bnd (dJ f.Links (aN.mk b a)) λ(aI:Bool)=>some aI)
def oB(t:aa)(f:bg)(aS:Int):Option (List Int):=
 bnd (jc t aS) λ(ai:(List Int))=>bO ai 0 (λ(j1:Int) (e1:Int) (Z1:(List Int)→Option _) (bp:(List Int))=>jn (λ(cZ:(List Int))=>Z1 cZ) λJ1=>jn (λ(v_1:Bool)=>bif v_1 then bnd (dL bp ([e1]:List Int)) λ(l_1:List Int)=>J1 l_1 else J1 bp) λJ2=>bnd (cO f.ah e1) λ(aI:Bool)=>(bif aI then J2 true else bnd (pJ f aS e1) λ(bf:Bool)=>J2 bf)) (λ(bp:(List Int))=>some bp) []
def pK(a:aq):Option Bool:=
 some (decide (a.Kind=2))
def nt(e:aC):Option Bool:=
 bnd (gE e) λ(ai:Int)=>(bif decide (ai=0)then bnd (dK e.List pK) λ(aI:Bool)=>some (!aI)else some false)
def jT(c:aZ)(iL:List Int)(bits:Int):Option aZ:=
 bnd (elO iL (0:Int)) λ(e_1:Int)=>bnd (mJ iL (1:Int) (iL.length:Int)) λ(l_1:List Int)=>bnd (ki l_1) λ(ai:(List Int))=>some (aZ.mk e_1 (bL.mk ai (aH.mk c.Frame.aB.Mode c.Frame.aB.cC c.Frame.aB.Set c.Frame.aB.Length c.Frame.aB.TTL c.Frame.aB.dG c.Frame.aB.dH c.Frame.aB.eO bits c.Frame.aB.cM)))
def oC(e:aC)(t:aa)(aS:Int)(c:aZ):Option ((List aZ)×Int):=
 bnd (lP e c.To) λ(ai:Int)=>bnd (hU t (bg.mk [] ([c.To]:List Int))) λ(aI:aa)=>bO e.List 0 (λ(j1:Int) (e1:aq) (Z1:((List aZ)×Int×Int)→Option _) (sg:(List aZ)×Int×Int)=>match sg with|(bp,eY,eP)=>jn (λ(sg:(List aZ)×Int×Int)=>match sg with|(cZ,w9,rW)=>Z1 (cZ,w9,rW)) λJ1=>chk (decide (0≤e1.Bit))<|bif ((!decide (e1.aO=c.To))||(decide (br .and .u64 c.Frame.aB.Bits (IntKind.wrap .u64 ((1:Int)*2 ^ min e1.Bit.toNat 64))=(0:Int))))then J1 (bp,eY,eP)else bif decide (e1.Kind=3)then J1 (bp,br .or .u64 eY (IntKind.wrap .u64 ((1:Int)*2 ^ min e1.Bit.toNat 64)),eP)else bif decide (e1.To=aS)then J1 (bp,eY,eP)else bnd (jH aI aS e1.To) λ(bf:Bool)=>bif !bf then J1 (bp,br .or .u64 eY (IntKind.wrap .u64 ((1:Int)*2 ^ min e1.Bit.toNat 64)),br .or .u64 eP (IntKind.wrap .u64 ((1:Int)*2 ^ min e1.Bit.toNat 64)))else bif !decide (br .andNot .u64 c.Frame.aB.Bits ai=0)then bnd (kO aI aS e1.To) λ(bB:(List Int))=>bnd (jT c bB (br .andNot .u64 c.Frame.aB.Bits ai)) λ(bD:aZ)=>bnd (dL bp ([bD]:List aZ)) λ(l_1:List aZ)=>J1 (l_1,eY,eP)else J1 (bp,eY,eP)) (λ(sg:(List aZ)×Int×Int)=>match sg with|(bp,eY,eP)=>bif decide (eY=0)then some (bp,(0:Int))else bnd (hU t (bg.mk ([(aN.mk aS c.To)]:List aN) [])) λ(cW:aa)=>bnd (kO cW aS c.To) λ(bH:(List Int))=>bif decide ((bH.length:Int)=(0:Int))then some (bp,eY)else jn (λ(ac8:Int)=>bnd (jT c bH ac8) λ(jY:aZ)=>bnd (dL bp ([jY]:List aZ)) λ(l_2:List aZ)=>some (l_2,(0:Int))) λJ2=>bif !decide (eP=0)then J2 (br .or .u64 eY (br .andNot .u64 c.Frame.aB.Bits ai))else J2 eY) ([],(0:Int),(0:Int))
def lQ(e:aC)(t:aa)(aS:Int)(p:aH)(down:List Int):Option (cE×Int):=
 bnd (jI e aS p) λ(ai:cE×Int)=>bif !decide (ai.2=0)then some ((cE.mk (0:Int) (0:Int) []),ai.2)else jn (λ(v_1:Bool)=>bif v_1 then some ((cE.mk (0:Int) (0:Int) []),(1:Int))else bO ai.1.cg 0 (λ(j1:Int) (e1:aZ) (Z1:(Int×(List aZ))→Option _) (sg:Int×(List aZ))=>match sg with|(m_1,m_2)=>jn (λ(sg:Int×(List aZ))=>match sg with|(m_3,m_4)=>Z1 (m_3,m_4)) λJ2=>bnd (cO down e1.To) λ(bB:Bool)=>bif !bB then bnd (dL m_2 ([e1]:List aZ)) λ(l_1:List aZ)=>J2 (m_1,l_1)else bnd (oC e t aS e1) λ(bD:(List aZ)×Int)=>bnd (dL m_2 bD.1) λ(l_2:List aZ)=>J2 (br .or .u64 m_1 bD.2,l_2)) (λ(sg:Int×(List aZ))=>match sg with|(m_1,m_2)=>some ((cE.mk ai.1.Local m_1 m_2),(0:Int))) (ai.1.mL,[])) λJ1=>bnd (nt e) λ(aI:Bool)=>(bif !aI then J1 true else bnd (gY t) λ(bf:Int)=>J1 (!decide (bf=0)))
def gK(d:cV)(aS:Int)(c:aZ):Option cV:=
 bnd (nF d.ei aS c.To) λ(ai:Int×Bool)=>bif !ai.2 then bnd (dL d.cL.iA ([(dY.mk aS c.Frame.aB.Bits)]:List dY)) λ(l_1:List dY)=>some (cV.mk d.ct d.cS d.ei d.cB (dB.mk d.cL.dD d.cL.dI l_1) d.iY)else bnd (dL d.cL.dI ([(b8.mk aS c.To c.Frame.aB.Bits)]:List b8)) λ(l_2:List b8)=>bnd (dL d.iY ([(az.mk c.To c.Frame)]:List az)) λ(l_3:List az)=>some (cV.mk d.ct d.cS d.ei d.cB (dB.mk d.cL.dD l_2 d.cL.iA) l_3)
def je(d:cV)(v:az):Option cV:=
 bif decide (0<(v.cK.fU.length:Int))then bnd (elO v.cK.fU (0:Int)) λ(e_1:Int)=>bnd (mJ v.cK.fU (1:Int) (v.cK.fU.length:Int)) λ(l_1:List Int)=>bnd (gK d v.cc (aZ.mk e_1 (bL.mk l_1 v.cK.aB))) λ(ai:cV)=>some ai else bnd (oB d.cS d.cB v.cc) λ(aI:(List Int))=>bnd (lQ d.ct d.cS v.cc v.cK.aB aI) λ(bf:cE×Int)=>bO d.ct.List 0 (λ(j1:Int) (e1:aq) (Z1:(List bX)→Option _) (m_1:(List bX))=>jn (λ(m_2:(List bX))=>Z1 m_2) λJ1=>chk (decide (0≤e1.Bit))<|bif decide (br .and .u64 (Int.fdiv bf.1.Local (2 ^ min e1.Bit.toNat 64)) (1:Int)=(1:Int))then bnd (nj v.cK.aB e1.Bit) λ(bB:aH)=>bnd (dL m_1 ([(bX.mk v.cc bB)]:List bX)) λ(l_2:List bX)=>J1 l_2 else J1 m_1) (λ(m_1:(List bX))=>jn (λ(m_3:(List dY))=>bO bf.1.cg 0 (λ(j2:Int) (e2:aZ) (Z2:(Int×(List aq)×(List aR)×(List aW)×(List aR)×(List aW)×(List aN)×(List Int)×(List bX)×(List b8)×(List dY)×(List az))→Option _) (sg:Int×(List aq)×(List aR)×(List aW)×(List aR)×(List aW)×(List aN)×(List Int)×(List bX)×(List b8)×(List dY)×(List az))=>match sg with|(m_4,m_5,m_6,m_7,m_8,m_9,nc,ng,lF,ff,rE,rF)=>bnd (gK (cV.mk (aC.mk m_4 m_5) (aa.mk m_6 m_7) (aa.mk m_8 m_9) (bg.mk nc ng) (dB.mk lF ff rE) rF) v.cc e2) λ(bD:cV)=>Z2 (bD.ct.Length,bD.ct.List,bD.cS.ah,bD.cS.Links,bD.ei.ah,bD.ei.Links,bD.cB.Links,bD.cB.ah,bD.cL.dD,bD.cL.dI,bD.cL.iA,bD.iY)) (λ(sg:Int×(List aq)×(List aR)×(List aW)×(List aR)×(List aW)×(List aN)×(List Int)×(List bX)×(List b8)×(List dY)×(List az))=>match sg with|(m_4,m_5,m_6,m_7,m_8,m_9,nc,ng,lF,ff,rE,rF)=>some (cV.mk (aC.mk m_4 m_5) (aa.mk m_6 m_7) (aa.mk m_8 m_9) (bg.mk nc ng) (dB.mk lF ff rE) rF)) (d.ct.Length,d.ct.List,d.cS.ah,d.cS.Links,d.ei.ah,d.ei.Links,d.cB.Links,d.cB.ah,m_1,d.cL.dI,m_3,d.iY)) λJ2=>bif !decide (bf.1.mL=0)then bnd (dL d.cL.iA ([(dY.mk v.cc bf.1.mL)]:List dY)) λ(l_3:List dY)=>J2 l_3 else J2 d.cL.iA) d.cL.dD
def jq(e:aC)(t:aa)(f:bg)(p:aH)(aS:Int):Option (dB×Int):=
 jn (λ(v_1:Bool)=>bif v_1 then some ((dB.mk [] [] []),(1:Int))else bnd (kL t aS) λ(bB:Bool)=>bif !bB then some ((dB.mk [] [] []),(4:Int))else bif !decide (p.Mode=2)then some ((dB.mk [] [] []),(7:Int))else bif !decide (p.Length=e.Length)then some ((dB.mk [] [] []),(8:Int))else bnd (cO f.ah aS) λ(bD:Bool)=>bif bD then some ((dB.mk [] [] ([(dY.mk aS p.Bits)]:List dY)),(0:Int))else bnd (hU t f) λ(cW:aa)=>whl (λ(Z1:(Int×(List aq)×(List aR)×(List aW)×(List aR)×(List aW)×(List aN)×(List Int)×(List bX)×(List b8)×(List dY)×(List az))→Option _) (sg:Int×(List aq)×(List aR)×(List aW)×(List aR)×(List aW)×(List aN)×(List Int)×(List bX)×(List b8)×(List dY)×(List az))=>match sg with|(m_1,m_2,m_3,m_4,m_5,m_6,m_7,m_8,m_9,nc,ng,lF)=>bif decide (0<(lF.length:Int))then bnd (elO lF (0:Int)) λ(e_1:az)=>bnd (mJ lF (1:Int) (lF.length:Int)) λ(l_1:List az)=>bnd (je (cV.mk (aC.mk m_1 m_2) (aa.mk m_3 m_4) (aa.mk m_5 m_6) (bg.mk m_7 m_8) (dB.mk m_9 nc ng) l_1) e_1) λ(bH:cV)=>bif decide (2000<(bH.cL.dI.length:Int))then some ((dB.mk [] [] []),(11:Int))else Z1 (bH.ct.Length,bH.ct.List,bH.cS.ah,bH.cS.Links,bH.ei.ah,bH.ei.Links,bH.cB.Links,bH.cB.ah,bH.cL.dD,bH.cL.dI,bH.cL.iA,bH.iY)else some ((dB.mk m_9 nc ng),(0:Int))) (e.Length,e.List,t.ah,t.Links,cW.ah,cW.Links,f.Links,f.ah,[],[],[],([(az.mk aS (bL.mk [] p))]:List az))) λJ1=>bnd (nt e) λ(ai:Bool)=>(bif !ai then J1 true else bnd (gY t) λ(aI:Int)=>(bif !decide (aI=0)then J1 true else bnd (kP p) λ(bf:Bool)=>J1 (!bf)))
end
end Go.Proofs.YtdjeacigeegklaaGreat
namespace Go.Proofs.YtdjeacigeegklaaGreat
open Go
set_option maxRecDepth 100000
set_option linter.all false
noncomputable section
def uH(e:aC):Option Bool:=
 bO e.List 0 (λ(j1:Int) (e1:aq) (Z1:Unit→Option _) (sg:Unit)=>match sg with|()=>bif decide (e1.Kind=2)then some false else Z1 ()) (λ(sg:Unit)=>match sg with|()=>bnd (gD e) λ(ai:Int)=>some (decide (ai=0))) ()
def mC(p:aH)(bits:Int)(iL:List Int):Option aZ:=
 bnd (elO iL (0:Int)) λ(e_1:Int)=>bnd (mJ iL (1:Int) (iL.length:Int)) λ(l_1:List Int)=>some (aZ.mk e_1 (bL.mk l_1 (aH.mk p.Mode p.cC p.Set p.Length p.TTL p.dG p.dH p.eO bits p.cM)))
def rH(e:aC)(t:aa)(aS:Int)(c:aZ):Option ((List aZ)×Int):=
 bnd (ue e c.To) λ(ai:Int)=>bnd (jG t (bg.mk [] ([c.To]:List Int))) λ(aI:aa)=>bO e.List 0 (λ(j1:Int) (e1:aq) (Z1:((List aZ)×Int×Int)→Option _) (sg:(List aZ)×Int×Int)=>match sg with|(bp,eY,eP)=>jn (λ(sg:(List aZ)×Int×Int)=>match sg with|(cZ,w9,rW)=>Z1 (cZ,w9,rW)) λJ1=>chk (decide (0≤IntKind.wrap .u64 e1.Bit))<|bif ((!decide (e1.aO=c.To))||((decide (br .and .u64 c.Frame.aB.Bits (IntKind.wrap .u64 ((1:Int)*2 ^ min (IntKind.wrap .u64 e1.Bit).toNat 64))=(0:Int)))||(decide (e1.To=aS))))then J1 (bp,eY,eP)else bif decide (e1.Kind=3)then J1 (bp,br .or .u64 eY (IntKind.wrap .u64 ((1:Int)*2 ^ min (IntKind.wrap .u64 e1.Bit).toNat 64)),eP)else bnd (rA aI aS e1.To) λ(bf:(List Int))=>bif decide ((bf.length:Int)=(0:Int))then J1 (bp,br .or .u64 eY (IntKind.wrap .u64 ((1:Int)*2 ^ min (IntKind.wrap .u64 e1.Bit).toNat 64)),br .or .u64 eP (IntKind.wrap .u64 ((1:Int)*2 ^ min (IntKind.wrap .u64 e1.Bit).toNat 64)))else bif !decide (br .andNot .u64 c.Frame.aB.Bits ai=0)then bnd (mC c.Frame.aB (br .andNot .u64 c.Frame.aB.Bits ai) bf) λ(bB:aZ)=>bnd (dL bp ([bB]:List aZ)) λ(l_1:List aZ)=>J1 (l_1,eY,eP)else J1 (bp,eY,eP)) (λ(sg:(List aZ)×Int×Int)=>match sg with|(bp,eY,eP)=>bif decide (eY=0)then some (bp,(0:Int))else bnd (jG t (bg.mk ([(aN.mk aS c.To)]:List aN) [])) λ(bD:aa)=>bnd (rA bD aS c.To) λ(cW:(List Int))=>bif decide ((cW.length:Int)=(0:Int))then some (bp,eY)else jn (λ(auu:Int)=>bnd (mC c.Frame.aB auu cW) λ(bH:aZ)=>bnd (dL bp ([bH]:List aZ)) λ(l_2:List aZ)=>some (l_2,(0:Int))) λJ2=>bif !decide (eP=0)then J2 (br .or .u64 eY (br .andNot .u64 c.Frame.aB.Bits ai))else J2 eY) ([],(0:Int),(0:Int))
def s8(e:aC)(t:aa)(aS:Int)(p:aH)(down:List Int):Option (cE×Int):=
 bnd (s7 e aS p) λ(ai:cE×Int)=>bif !decide (ai.2=0)then some ((cE.mk (0:Int) (0:Int) []),ai.2)else jn (λ(v_1:Bool)=>bif v_1 then some ((cE.mk (0:Int) (0:Int) []),(1:Int))else bO ai.1.cg 0 (λ(j1:Int) (e1:aZ) (Z1:(Int×(List aZ))→Option _) (sg:Int×(List aZ))=>match sg with|(m_1,m_2)=>jn (λ(sg:Int×(List aZ))=>match sg with|(m_3,m_4)=>Z1 (m_3,m_4)) λJ2=>bnd (eG down e1.To) λ(bB:Bool)=>bif !bB then bnd (dL m_2 ([e1]:List aZ)) λ(l_1:List aZ)=>J2 (m_1,l_1)else bnd (rH e t aS e1) λ(bD:(List aZ)×Int)=>bnd (dL m_2 bD.1) λ(l_2:List aZ)=>J2 (br .or .u64 m_1 bD.2,l_2)) (λ(sg:Int×(List aZ))=>match sg with|(m_1,m_2)=>some ((cE.mk ai.1.Local m_1 m_2),(0:Int))) (ai.1.mL,[])) λJ1=>bnd (uH e) λ(aI:Bool)=>(bif !aI then J1 true else bnd (ic t) λ(bf:Int)=>J1 (!decide (bf=0)))
end
end Go.Proofs.YtdjeacigeegklaaGreat
namespace Go.Proofs.YtdjeacigeegklaaGreat
open Go
set_option maxRecDepth 100000
set_option linter.all false
noncomputable section
def mD: Option aa:=
 nM ((5:Int)-(1:Int)).toNat (1:Int) (λ(j1:Int) (Z1:(List aR)→Option _) (m_1:(List aR))=>bnd (dL m_1 ([(aR.mk (j1:Int) true)]:List aR)) λ(l_1:List aR)=>Z1 l_1) (λ(j1:Int) (m_1:(List aR))=>bO ([(ck.mk (1:Int) (2:Int)),(ck.mk (1:Int) (4:Int)),(ck.mk (2:Int) (3:Int)),(ck.mk (3:Int) (4:Int))]:List ck) 0 (λ(j2:Int) (e2:ck) (Z2:(List aW)→Option _) (m_2:(List aW))=>bnd (dL m_2 ([(aW.mk e2.E0 e2.E1 (1:Int) (1:Int) (0:Int))]:List aW)) λ(l_2:List aW)=>Z2 l_2) (λ(m_2:(List aW))=>some (aa.mk m_1 m_2)) []) []
def jU: Option Bool:=
 bnd (mD) λ(ai:aa)=>bnd (mN ai (16:Int)) λ(aI:aC×Int)=>bnd (mO aI.1 (dz.mk (1:Int) ([(aN.mk (1:Int) (2:Int)),(aN.mk (2:Int) (3:Int))]:List aN)) ([(2:Int),(3:Int)]:List Int)) λ(bf:Int×Int)=>bnd (mD) λ(bB:aa)=>bnd (lQ aI.1 bB (1:Int) (aH.mk (2:Int) (0:Int) (0:Int) (16:Int) (9:Int) (0:Int) (0:Int) (0:Int) bf.1 (⟨#[]⟩:ByteArray)) ([(2:Int)]:List Int)) λ(bD:cE×Int)=>(bif decide (bD.2=0)then(bif decide ((bD.1.cg.length:Int)=(2:Int))then bnd (elO bD.1.cg (0:Int)) λ(e_1:aZ)=>(bif decide (e_1.To=4)then bnd (fV e_1.Frame.fU ([(3:Int)]:List Int)) λ(cW:Bool)=>(bif cW then bnd (elO bD.1.cg (1:Int)) λ(e_2:aZ)=>bnd (fV e_2.Frame.fU ([(3:Int),(2:Int)]:List Int)) λ(bH:Bool)=>(bif bH then some (decide (bD.1.mL=0))else some false)else some false)else some false)else some false)else some false)
def nH(sa0:bM)(p:aa):Option (bg×bM):=
 jn (λ(sg:Bool×(List Int)×Int)=>match sg with|(v_1,m_1,m_2)=>bif v_1 then bnd (cn (bM.mk m_1 m_2) (p.Links.length:Int)) λ(aI:Int×bM)=>bnd (elO p.Links aI.1) λ(e_1:aW)=>bnd (cn aI.2 (2:Int)) λ(bf:Int×bM)=>bif decide (bf.1=0)then some ((bg.mk ([(aN.mk e_1.A e_1.B)]:List aN) []),bf.2)else some ((bg.mk ([(aN.mk e_1.B e_1.A)]:List aN) []),bf.2)else bnd (cn (bM.mk m_1 m_2) (p.ah.length:Int)) λ(bB:Int×bM)=>bnd (elO p.ah bB.1) λ(e_2:aR)=>some ((bg.mk [] ([e_2.ID]:List Int)),bB.2)) λJ1=>(bif decide (0<(p.Links.length:Int))then bnd (cn sa0 (2:Int)) λ(ai:Int×bM)=>J1 (decide (ai.1=0),ai.2.L,ai.2.At)else J1 (false,sa0.L,sa0.At))
def pZ(sa0:bM):Option (aa×aC×dz×(List Int)×aH×Bool×bM):=
 bnd (ow sa0 (7:Int)) λ(ai:aa×bM)=>bnd (mN ai.1 (64:Int)) λ(aI:aC×Int)=>bnd (cn ai.2 (ai.1.ah.length:Int)) λ(bf:Int×bM)=>bnd (elO ai.1.ah bf.1) λ(e_1:aR)=>bnd (sY bf.2 ai.1 e_1.ID) λ(bB:dz×bM)=>bnd (lN bB.1) λ(bD:(List Int))=>bO bD 0 (λ(j1:Int) (e1:Int) (Z1:((List Int)×(List Int)×Int)→Option _) (sg:(List Int)×(List Int)×Int)=>match sg with|(fG,m_1,m_2)=>jn (λ(sg:(List Int)×(List Int)×Int)=>match sg with|(mA,m_3,m_4)=>Z1 (mA,m_3,m_4)) λJ1=>bO bB.1.Links 0 (λ(j2:Int) (e2:aN) (Z2:Bool→Option _) (o5:Bool)=>(bif o5 then Z2 (!decide (e2.bn=e1))else Z2 false)) (λ(o5:Bool)=>jn (λ(sg:Bool×(List Int)×Int)=>match sg with|(v_1,m_5,m_6)=>bif v_1 then bnd (dL fG ([e1]:List Int)) λ(l_1:List Int)=>J1 (l_1,m_5,m_6)else J1 (fG,m_5,m_6)) λJ2=>(bif o5 then J2 (true,m_1,m_2)else bnd (cn (bM.mk m_1 m_2) (2:Int)) λ(cW:Int×bM)=>J2 (decide (cW.1=0),cW.2.L,cW.2.At))) true) (λ(sg:(List Int)×(List Int)×Int)=>match sg with|(fG,m_1,m_2)=>bnd (qp aI.1 bB.1 fG (aH.mk (0:Int) (0:Int) (0:Int) (0:Int) (63:Int) (0:Int) (0:Int) (0:Int) (0:Int) (⟨#[]⟩:ByteArray))) λ(bH:aH×Int)=>some (ai.1,aI.1,bB.1,fG,bH.1,((decide (aI.2=0))&&(decide (bH.2=0))),(bM.mk m_1 m_2))) ([],bB.2.L,bB.2.At)
end
end Go.Proofs.YtdjeacigeegklaaGreat
