/- Several texts in one. No condition but those that stand in each. -/
import Derived.Test.YtdjeacigeegklaaGreatT
namespace Go.Proofs.YtdjeacigeegklaaGreat
open Go
set_option maxRecDepth 100000
set_option linter.all false
noncomputable section
def o5(n:Int):Option Bool:=
 some ((decide (1≤n))&&(decide (n≤1000)))
def mS(t:af)(ra1:Int):Option Bool:=
 bF t.aq 0 (λ(j1:Int) (e1:aY) (Z1:Unit→Option _) (sg:Unit)=>match sg with|()=>bif decide (e1.ID=ra1)then some true else Z1 ()) (λ(sg:Unit)=>match sg with|()=>some false) ()
def kU(t:af)(cG:Int)(eA:Int):Option (Int×Bool):=
 bF t.Links 0 (λ(j1:Int) (e1:bt) (Z1:Unit→Option _) (sg:Unit)=>match sg with|()=>bif ((decide (e1.A=cG))&&(decide (e1.B=eA)))then some (e1.iz,true)else bif ((decide (e1.B=cG))&&(decide (e1.A=eA)))then some (e1.iA,true)else Z1 ()) (λ(sg:Unit)=>match sg with|()=>some ((0:Int),false)) ()
def iJ(t:af):Option Int:=
 bif ((decide (24<(t.aq.length:Int)))||(decide (60<(t.Links.length:Int))))then some (3:Int)else bF t.aq 0 (λ(j1:Int) (e1:aY) (Z1:Unit→Option _) (sg:Unit)=>match sg with|()=>bif ((decide (e1.ID<1))||(decide (99<e1.ID)))then some (2:Int)else Z1 ()) (λ(sg:Unit)=>match sg with|()=>bF (List.drop 1 t.aq) 1 (λ(j2:Int) (e2:aY) (Z2:Unit→Option _) (sg:Unit)=>match sg with|()=>bnd (elO t.aq (w64 ((j2:Int)-(1:Int)))) λ(e_1:aY)=>bif decide (e2.ID≤e_1.ID)then some (25:Int)else Z2 ()) (λ(sg:Unit)=>match sg with|()=>bF t.Links 0 (λ(j3:Int) (e3:bt) (Z3:Unit→Option _) (sg:Unit)=>match sg with|()=>jn (λ(v_1:Bool)=>bif v_1 then some (2:Int)else Z3 ()) λJ1=>bnd (o5 e3.iz) λ(ai:Bool)=>(bif !ai then J1 true else bnd (o5 e3.iA) λ(aI:Bool)=>(bif !aI then J1 true else(bif decide (e3.nX<0)then J1 true else J1 (decide (1000<e3.nX)))))) (λ(sg:Unit)=>match sg with|()=>bF t.Links 0 (λ(j4:Int) (e4:bt) (Z4:Unit→Option _) (sg:Unit)=>match sg with|()=>jn (λ(v_2:Bool)=>bif v_2 then some (4:Int)else Z4 ()) λJ2=>bnd (mS t e4.A) λ(bn:Bool)=>(bif !bn then J2 true else bnd (mS t e4.B) λ(bf:Bool)=>J2 (!bf))) (λ(sg:Unit)=>match sg with|()=>bF t.Links 0 (λ(j5:Int) (e5:bt) (Z5:Unit→Option _) (sg:Unit)=>match sg with|()=>bif decide (e5.B≤e5.A)then some (8:Int)else Z5 ()) (λ(sg:Unit)=>match sg with|()=>bF (List.drop 1 t.Links) 1 (λ(j6:Int) (e6:bt) (Z6:Unit→Option _) (sg:Unit)=>match sg with|()=>bnd (elO t.Links (w64 ((j6:Int)-(1:Int)))) λ(e_2:bt)=>bif ((decide (e6.A<e_2.A))||((decide (e_2.A=e6.A))&&(decide (e6.B≤e_2.B))))then some (25:Int)else Z6 ()) (λ(sg:Unit)=>match sg with|()=>some (0:Int)) ()) ()) ()) ()) ()) ()
end
end Go.Proofs.YtdjeacigeegklaaGreat
namespace Go.Proofs.YtdjeacigeegklaaGreat
open Go
set_option maxRecDepth 100000
set_option linter.all false
noncomputable section
def j8(t:af)(ra1:Int):Option Bool:=
 bnd (iJ t) λ(ai:Int)=>(bif decide (ai=0)then bnd (mS t ra1) λ(aI:Bool)=>some aI else some false)
def o6(t:af)(cG:Int)(eA:Int):Option (Int×Bool):=
 bnd (iJ t) λ(ai:Int)=>bif !decide (ai=0)then some ((0:Int),false)else bnd (kU t cG eA) λ(aI:Int×Bool)=>some (aI.1,aI.2)
def ny(t:af)(ra1:Int):Option (List Int):=
 bF t.aq 0 (λ(j1:Int) (e1:aY) (Z1:(List Int)→Option _) (bN:(List Int))=>jn (λ(dO:(List Int))=>Z1 dO) λJ1=>bnd (kU t ra1 e1.ID) λ(ai:Int×Bool)=>bif ai.2 then bnd (dK bN ([e1.ID]:List Int)) λ(l_1:List Int)=>J1 l_1 else J1 bN) (λ(bN:(List Int))=>some bN) []
def kH(t:af)(ra1:Int):Option (List Int):=
 bnd (iJ t) λ(ai:Int)=>bif !decide (ai=0)then some []else bnd (ny t ra1) λ(aI:(List Int))=>some aI
end
end Go.Proofs.YtdjeacigeegklaaGreat
namespace Go.Proofs.YtdjeacigeegklaaGreat
open Go
set_option maxRecDepth 100000
set_option linter.all false
noncomputable section
def gH(xa0:Int):Option Bool:=
 some (!decide (xa0=xa0))
def eE(xa0:Int)(y:Int):Option Int:=
 bnd (gH xa0) λ(ai:Bool)=>bnd (gH y) λ(aI:Bool)=>bif ai then bif aI then some (0:Int)else some (-1:Int)else bif aI then some (1:Int)else bif decide (xa0<y)then some (-1:Int)else bif decide (y<xa0)then some (1:Int)else some (0:Int)
def lR(vals:List Int):Option Int:=
 bF vals 0 (λ(j1:Int) (e1:Int) (Z1:Unit→Option _) (sg:Unit)=>match sg with|()=>bif !decide (e1=0)then some e1 else Z1 ()) (λ(sg:Unit)=>match sg with|()=>some (0:Int)) ()
def cI(xa0:List aY)(target:Int)(cmp:aY→Int→Option Int):Option (Int×Bool):=
 whl (λ(Z1:(Int×Int)→Option _) (sg:Int×Int)=>match sg with|(i_1,j_1)=>bif decide (i_1<j_1)then bnd (elO xa0 (w64 (Int.fdiv (IntKind.wrap .u64 (w64 (i_1+j_1))) (2 ^ min (1:Int).toNat 64)))) λ(e_1:aY)=>bnd (cmp e_1 target) λ(ai:Int)=>bif decide (ai<0)then Z1 (w64 ((w64 (Int.fdiv (IntKind.wrap .u64 (w64 (i_1+j_1))) (2 ^ min (1:Int).toNat 64)))+(1:Int)),j_1)else Z1 (i_1,w64 (Int.fdiv (IntKind.wrap .u64 (w64 (i_1+j_1))) (2 ^ min (1:Int).toNat 64)))else(bif decide (i_1<(xa0.length:Int))then bnd (elO xa0 i_1) λ(e_2:aY)=>bnd (cmp e_2 target) λ(aI:Int)=>some (i_1,decide (aI=0))else some (i_1,false))) ((0:Int),(xa0.length:Int))
def eo(sa0:List ak)(f:ak→Option Bool):Option Int:=
 bF sa0 0 (λ(j1:Int) (e1:ak) (Z1:Unit→Option _) (sg:Unit)=>match sg with|()=>bnd (f e1) λ(ai:Bool)=>bif ai then some (j1:Int)else Z1 ()) (λ(sg:Unit)=>match sg with|()=>some (-1:Int)) ()
def eX(sa0:List aY)(f:aY→Option Bool):Option Int:=
 bF sa0 0 (λ(j1:Int) (e1:aY) (Z1:Unit→Option _) (sg:Unit)=>match sg with|()=>bnd (f e1) λ(ai:Bool)=>bif ai then some (j1:Int)else Z1 ()) (λ(sg:Unit)=>match sg with|()=>some (-1:Int)) ()
def fD(sa0:List bt)(f:bt→Option Bool):Option Int:=
 bF sa0 0 (λ(j1:Int) (e1:bt) (Z1:Unit→Option _) (sg:Unit)=>match sg with|()=>bnd (f e1) λ(ai:Bool)=>bif ai then some (j1:Int)else Z1 ()) (λ(sg:Unit)=>match sg with|()=>some (-1:Int)) ()
def de(xa0:List bt)(target:bt)(cmp:bt→bt→Option Int):Option (Int×Bool):=
 whl (λ(Z1:(Int×Int)→Option _) (sg:Int×Int)=>match sg with|(i_1,j_1)=>bif decide (i_1<j_1)then bnd (elO xa0 (w64 (Int.fdiv (IntKind.wrap .u64 (w64 (i_1+j_1))) (2 ^ min (1:Int).toNat 64)))) λ(e_1:bt)=>bnd (cmp e_1 target) λ(ai:Int)=>bif decide (ai<0)then Z1 (w64 ((w64 (Int.fdiv (IntKind.wrap .u64 (w64 (i_1+j_1))) (2 ^ min (1:Int).toNat 64)))+(1:Int)),j_1)else Z1 (i_1,w64 (Int.fdiv (IntKind.wrap .u64 (w64 (i_1+j_1))) (2 ^ min (1:Int).toNat 64)))else(bif decide (i_1<(xa0.length:Int))then bnd (elO xa0 i_1) λ(e_2:bt)=>bnd (cmp e_2 target) λ(aI:Int)=>some (i_1,decide (aI=0))else some (i_1,false))) ((0:Int),(xa0.length:Int))
def dU(sa0:List aY)(f:aY→Option Bool):Option Bool:=
 bnd (eX sa0 f) λ(ai:Int)=>some (decide (0≤ai))
def cZ(sa0:List bt)(f:bt→Option Bool):Option Bool:=
 bnd (fD sa0 f) λ(ai:Int)=>some (decide (0≤ai))
def jC(n:Int)(least:Int)(most:Int):Option Bool:=
 some ((decide (least≤n))&&(decide (n≤most)))
def iS(a:bt)(b:bt):Option Int:=
 bnd (eE a.A b.A) λ(ai:Int)=>bnd (eE a.B b.B) λ(aI:Int)=>bnd (lR ([ai,aI]:List Int)) λ(bn:Int)=>some bn
def kP(ra0:aY)(id:Int):Option Int:=
 bnd (eE ra0.ID id) λ(ai:Int)=>some ai
def mz(ra0:aY):Option Bool:=
 bnd (jC ra0.ID (1:Int) (99:Int)) λ(ai:Bool)=>some (!ai)
def kI(l:bt):Option Bool:=
 bnd (jC l.iz (1:Int) (1000:Int)) λ(ai:Bool)=>(bif !ai then some true else bnd (jC l.iA (1:Int) (1000:Int)) λ(aI:Bool)=>(bif !aI then some true else bnd (jC l.nX (0:Int) (1000:Int)) λ(bn:Bool)=>some (!bn)))
def iT(id:Int)(c_0:af):Option Bool:=
 bnd (cI c_0.aq id kP) λ(ai:Int×Bool)=>some (!ai.2)
def mA(l:bt)(c_0:af):Option Bool:=
 bnd (iT l.A c_0) λ(ai:Bool)=>(bif ai then some true else bnd (iT l.B c_0) λ(aI:Bool)=>some aI)
def mB(l:bt):Option Bool:=
 some (decide (l.B≤l.A))
def iN(t:af):Option Int:=
 bif ((decide (24<(t.aq.length:Int)))||(decide (60<(t.Links.length:Int))))then some (3:Int)else bnd (dU t.aq mz) λ(ai:Bool)=>bif ai then some (2:Int)else bF t.aq 0 (λ(j1:Int) (e1:aY) (Z1:Unit→Option _) (sg:Unit)=>match sg with|()=>jn (λ(v_1:Bool)=>bif v_1 then some (25:Int)else Z1 ()) λJ1=>(bif decide (0<(j1:Int))then bnd (elO t.aq (w64 ((j1:Int)-(1:Int)))) λ(e_1:aY)=>J1 (decide (e1.ID≤e_1.ID))else J1 false)) (λ(sg:Unit)=>match sg with|()=>bnd (cZ t.Links kI) λ(aI:Bool)=>bif aI then some (2:Int)else bnd (cZ t.Links (λ(y0:bt)=>mA y0 t)) λ(bn:Bool)=>bif bn then some (4:Int)else bnd (cZ t.Links mB) λ(bf:Bool)=>bif bf then some (8:Int)else bF t.Links 0 (λ(j2:Int) (e2:bt) (Z2:Unit→Option _) (sg:Unit)=>match sg with|()=>jn (λ(v_2:Bool)=>bif v_2 then some (25:Int)else Z2 ()) λJ2=>(bif decide (0<(j2:Int))then bnd (elO t.Links (w64 ((j2:Int)-(1:Int)))) λ(e_2:bt)=>bnd (iS e_2 e2) λ(bO:Int)=>J2 (decide (0≤bO))else J2 false)) (λ(sg:Unit)=>match sg with|()=>some (0:Int)) ()) ()
def jN(t:af):Option Bool:=
 bnd (iN t) λ(ai:Int)=>some (decide (ai=0))
def mC(t:af)(aK:Int):Option (aY×Bool):=
 bnd (cI t.aq aK kP) λ(ai:Int×Bool)=>bif !ai.2 then some ((aY.mk (0:Int) false),false)else bnd (elO t.aq ai.1) λ(e_1:aY)=>some (e_1,true)
def nA(t:af)(aK:Int):Option Bool:=
 bnd (mC t aK) λ(ai:aY×Bool)=>bnd (jN t) λ(aI:Bool)=>(bif aI then some ai.2 else some false)
def mD(t:af)(cG:Int)(eA:Int):Option (Int×Bool):=
 bnd (jN t) λ(ai:Bool)=>bif !ai then some ((0:Int),false)else bnd (de t.Links (bt.mk (if eA<cG then eA else cG) (if eA>cG then eA else cG) (0:Int) (0:Int) (0:Int)) iS) λ(aI:Int×Bool)=>bif !aI.2 then some ((0:Int),false)else bif decide (cG<eA)then bnd (elO t.Links aI.1) λ(e_1:bt)=>some (e_1.iz,true)else bnd (elO t.Links aI.1) λ(e_2:bt)=>some (e_2.iA,true)
end
end Go.Proofs.YtdjeacigeegklaaGreat
namespace Go.Proofs.YtdjeacigeegklaaGreat
open Go
set_option maxRecDepth 100000
set_option linter.all false
noncomputable section
def pX(xa0:Int):Option Int:=
 jn (λ(sg:Int×Int)=>match sg with|(ai,n_1)=>jn (λ(sg:Int×Int)=>match sg with|(aI,n_2)=>jn (λ(sg:Int×Int)=>match sg with|(bn,n_3)=>bnd (ixS (⟨#[0,1,2,2,3,3,3,3,4,4,4,4,4,4,4,4,5,5,5,5,5,5,5,5,5,5,5,5,5,5,5,5,6,6,6,6,6,6,6,6,6,6,6,6,6,6,6,6,6,6,6,6,6,6,6,6,6,6,6,6,6,6,6,6,7,7,7,7,7,7,7,7,7,7,7,7,7,7,7,7,7,7,7,7,7,7,7,7,7,7,7,7,7,7,7,7,7,7,7,7,7,7,7,7,7,7,7,7,7,7,7,7,7,7,7,7,7,7,7,7,7,7,7,7,7,7,7,7,8,8,8,8,8,8,8,8,8,8,8,8,8,8,8,8,8,8,8,8,8,8,8,8,8,8,8,8,8,8,8,8,8,8,8,8,8,8,8,8,8,8,8,8,8,8,8,8,8,8,8,8,8,8,8,8,8,8,8,8,8,8,8,8,8,8,8,8,8,8,8,8,8,8,8,8,8,8,8,8,8,8,8,8,8,8,8,8,8,8,8,8,8,8,8,8,8,8,8,8,8,8,8,8,8,8,8,8,8,8,8,8,8,8,8,8,8,8,8,8,8,8,8,8,8,8,8,8]⟩:ByteArray) (IntKind.wrap .u8 bn)) λ(b_1:UInt8)=>some (w64 (n_3+(w64 (b_1.toNat:Int))))) λJ3=>bif decide (256≤aI)then J3 (Int.fdiv aI (2 ^ min (8:Int).toNat 64),w64 (n_2+8))else J3 (aI,n_2)) λJ2=>bif decide (65536≤ai)then J2 (Int.fdiv ai (2 ^ min (16:Int).toNat 64),w64 (n_1+16))else J2 (ai,n_1)) λJ1=>bif decide (4294967296≤xa0)then J1 (Int.fdiv xa0 (2 ^ min (32:Int).toNat 64),(32:Int))else J1 (xa0,(0:Int))
def sx(xa0:Int):Option Int:=
 bnd (pX xa0) λ(ai:Int)=>some ai
def gI: Option Unit:=
 whl (λ(Z1:Unit→Option _) (sg:Unit)=>match sg with|()=>some ()) ()
def jb(limit:Int):Option Unit:=
 whl (λ(Z1:Unit→Option _) (sg:Unit)=>match sg with|()=>bnd (gI) λ(ai:Unit)=>some ()) ()
def ou: Option Unit:=
 bnd (sx (0:Int)) λ(ai:Int)=>bnd (jb ai) λ(aI:Unit)=>some ()
end
end Go.Proofs.YtdjeacigeegklaaGreat
namespace Go.Proofs.YtdjeacigeegklaaGreat
open Go
set_option maxRecDepth 100000
set_option linter.all false
noncomputable section
def lg(t:List Int):Option aR:=
 bnd (oZ t (0:Int) (if(2000:Int)<(t.length:Int)then(2000:Int)else(t.length:Int))) λ(l_1:List Int)=>some (aR.mk l_1 (0:Int))
def iH(t:aR):Option (Int×aR):=
 bif decide ((t.L.length:Int)≤t.At)then some ((0:Int),t)else bnd (elO t.L (w64 ((w64 (t.At+1))-(1:Int)))) λ(e_1:Int)=>some (e_1,(aR.mk t.L (w64 (t.At+1))))
def lp(xa0:Int)(n:Int):Option Int:=
 bif decide (n<1)then some (0:Int)else chk (decide (n≠0))<|jn (λ(ai:Int)=>some ai) λJ1=>bif decide (Int.tmod xa0 n<0)then J1 (w64 ((Int.tmod xa0 n)+n))else J1 (Int.tmod xa0 n)
def bu(t:aR)(n:Int):Option (Int×aR):=
 bnd (iH t) λ(ai:Int×aR)=>bnd (lp ai.1 n) λ(aI:Int)=>some (aI,ai.2)
def eF(t:aR)(lo:Int)(hi:Int):Option (Int×aR):=
 bnd (bu t (w64 ((w64 (hi-lo))+(1:Int)))) λ(ai:Int×aR)=>some (w64 (lo+ai.1),ai.2)
def cH(t:aR)(l:List Int):Option (Int×aR):=
 bnd (bu t (l.length:Int)) λ(ai:Int×aR)=>bnd (elO l ai.1) λ(e_1:Int)=>some (e_1,ai.2)
def fq(l:List Int)(xa1:Int):Option Bool:=
 bF l 0 (λ(j1:Int) (e1:Int) (Z1:Unit→Option _) (sg:Unit)=>match sg with|()=>bif decide (e1=xa1)then some true else Z1 ()) (λ(sg:Unit)=>match sg with|()=>some false) ()
def jt(l:List Int)(xa1:Int):Option (List Int):=
 whl (λ(Z1:Int→Option _) (k_1:Int)=>jn (λ(v_1:Bool)=>bif v_1 then Z1 (w64 (k_1+1))else jn (λ(v_2:Bool)=>bif v_2 then some l else bnd (oZ l k_1 (l.length:Int)) λ(l_1:List Int)=>bnd (dK ([xa1]:List Int) l_1) λ(l_2:List Int)=>bnd (oZ l (0:Int) k_1) λ(l_3:List Int)=>bnd (dK l_3 l_2) λ(l_4:List Int)=>some l_4) λJ2=>(bif decide (k_1<(l.length:Int))then bnd (elO l k_1) λ(e_2:Int)=>J2 (decide (e_2=xa1))else J2 false)) λJ1=>(bif decide (k_1<(l.length:Int))then bnd (elO l k_1) λ(e_1:Int)=>J1 (decide (e_1<xa1))else J1 false)) (0:Int)
end
end Go.Proofs.YtdjeacigeegklaaGreat
namespace Go.Proofs.YtdjeacigeegklaaGreat
open Go
set_option maxRecDepth 100000
set_option linter.all false
noncomputable section
def lJ(n:Int):Option Bool:=
 some ((decide (n=8))||((decide (n=16))||((decide (n=32))||(decide (n=64)))))
def gU(n:Int):Option Bool:=
 some ((decide (1≤n))&&(decide (n≤99)))
def gy(e:aG):Option Int:=
 bnd (lJ e.Length) λ(ai:Bool)=>bF e.List 0 (λ(j1:Int) (e1:ak) (Z1:Bool→Option _) (n9:Bool)=>(bif n9 then(bif decide (0≤e1.Bit)then(bif decide (e1.Bit<e.Length)then bnd (gU e1.aN) λ(aI:Bool)=>(bif aI then bnd (gU e1.To) λ(bn:Bool)=>Z1 bn else Z1 false)else Z1 false)else Z1 false)else Z1 false)) (λ(n9:Bool)=>bif !n9 then some (2:Int)else bF e.List 0 (λ(j2:Int) (e2:ak) (Z2:Unit→Option _) (sg:Unit)=>match sg with|()=>bif ((decide (e2.Kind<1))||(decide (3<e2.Kind)))then some (1:Int)else Z2 ()) (λ(sg:Unit)=>match sg with|()=>bF e.List 0 (λ(j3:Int) (e3:ak) (Z3:Unit→Option _) (sg:Unit)=>match sg with|()=>bif !((decide (e3.To=e3.aN))==(decide (e3.Kind=3)))then some (8:Int)else Z3 ()) (λ(sg:Unit)=>match sg with|()=>bF (List.drop 1 e.List) 1 (λ(j4:Int) (e4:ak) (Z4:Unit→Option _) (sg:Unit)=>match sg with|()=>bnd (elO e.List (w64 ((j4:Int)-(1:Int)))) λ(e_1:ak)=>bif decide (e4.Bit≤e_1.Bit)then some (25:Int)else Z4 ()) (λ(sg:Unit)=>match sg with|()=>bF e.List 0 (λ(j5:Int) (e5:ak) (Z5:Unit→Option _) (sg:Unit)=>match sg with|()=>bnd (oZ e.List (0:Int) (j5:Int)) λ(l_1:List ak)=>bF l_1 0 (λ(j6:Int) (e6:ak) (Z6:Unit→Option _) (sg:Unit)=>match sg with|()=>bif ((decide (e5.aN=e6.aN))&&((decide (e5.Kind=e6.Kind))&&(decide (e5.To=e6.To))))then some (5:Int)else Z6 ()) (λ(sg:Unit)=>match sg with|()=>Z5 ()) ()) (λ(sg:Unit)=>match sg with|()=>some (0:Int)) ()) ()) ()) ()) ai
def qj(e:aG)(ra1:Int):Option Int:=
 jn (λ(bN:Int)=>some bN) λJ1=>bnd (gy e) λ(ai:Int)=>bif decide (ai=0)then bF e.List 0 (λ(j1:Int) (e1:ak) (Z1:Int→Option _) (dO:Int)=>jn (λ(zR:Int)=>Z1 zR) λJ2=>bif decide (e1.aN=ra1)then chk (decide (0≤IntKind.wrap .u64 e1.Bit))<|J2 (bB .or .u64 dO (IntKind.wrap .u64 ((1:Int)*2 ^ min (IntKind.wrap .u64 e1.Bit).toNat 64)))else J2 dO) (λ(dO:Int)=>J1 dO) (0:Int)else J1 (0:Int)
def lS(e:aG)(ra1:Int)(kind:Int)(sY:Int):Option (Int×Bool):=
 jn (λ(sg:Unit)=>match sg with|()=>some ((0:Int),false)) λJ1=>bnd (gy e) λ(ai:Int)=>bif decide (ai=0)then bF e.List 0 (λ(j1:Int) (e1:ak) (Z1:Unit→Option _) (sg:Unit)=>match sg with|()=>bif ((decide (e1.aN=ra1))&&((decide (e1.Kind=kind))&&(decide (e1.To=sY))))then some (e1.Bit,true)else Z1 ()) (λ(sg:Unit)=>match sg with|()=>J1 ()) ()else J1 ()
def nC(t:af)(n:Int):Option (aG×Int):=
 bnd (iJ t) λ(ai:Int)=>bif !decide (ai=0)then some ((aG.mk (0:Int) []),(1:Int))else bnd (lJ n) λ(aI:Bool)=>bif !aI then some ((aG.mk (0:Int) []),(2:Int))else bF t.aq 0 (λ(j1:Int) (e1:aY) (Z1:(List ak)→Option _) (m_1:(List ak))=>bnd (dK m_1 ([(ak.mk (m_1.length:Int) e1.ID (3:Int) e1.ID)]:List ak)) λ(l_1:List ak)=>bnd (kH t e1.ID) λ(bn:(List Int))=>bF bn 0 (λ(j2:Int) (e2:Int) (Z2:(List ak)→Option _) (m_2:(List ak))=>bnd (dK m_2 ([(ak.mk (m_2.length:Int) e1.ID (1:Int) e2)]:List ak)) λ(l_2:List ak)=>Z2 l_2) (λ(m_2:(List ak))=>Z1 m_2) l_1) (λ(m_1:(List ak))=>bif decide (n<(m_1.length:Int))then some ((aG.mk (0:Int) []),(3:Int))else some ((aG.mk n m_1),(0:Int))) []
def jv(t:cM):Option Int:=
 bnd (gU t.dB) λ(ai:Bool)=>bF t.Links 0 (λ(j1:Int) (e1:cB) (Z1:Bool→Option _) (xG:Bool)=>(bif xG then bnd (gU e1.ct) λ(aI:Bool)=>(bif aI then bnd (gU e1.To) λ(bn:Bool)=>Z1 bn else Z1 false)else Z1 false)) (λ(xG:Bool)=>bif !xG then some (2:Int)else bF (List.drop 1 t.Links) 1 (λ(j2:Int) (e2:cB) (Z2:Unit→Option _) (sg:Unit)=>match sg with|()=>bnd (elO t.Links (w64 ((j2:Int)-(1:Int)))) λ(e_1:cB)=>bif ((decide (e2.ct<e_1.ct))||((decide (e_1.ct=e2.ct))&&(decide (e2.To≤e_1.To))))then some (25:Int)else Z2 ()) (λ(sg:Unit)=>match sg with|()=>bF t.Links 0 (λ(j3:Int) (e3:cB) (Z3:Unit→Option _) (sg:Unit)=>match sg with|()=>bnd (oZ t.Links (0:Int) (j3:Int)) λ(l_1:List cB)=>bF l_1 0 (λ(j4:Int) (e4:cB) (Z4:Unit→Option _) (sg:Unit)=>match sg with|()=>bif decide (e4.To=e3.To)then some (8:Int)else Z4 ()) (λ(sg:Unit)=>match sg with|()=>bif decide (e3.To=t.dB)then some (8:Int)else Z3 ()) ()) (λ(sg:Unit)=>match sg with|()=>whl (λ(Z5:((List Int)×Bool)→Option _) (sg:(List Int)×Bool)=>match sg with|(o7,rA)=>bif rA then bF t.Links 0 (λ(j6:Int) (e6:cB) (Z6:((List Int)×Bool)→Option _) (sg:(List Int)×Bool)=>match sg with|(iC,kJ)=>jn (λ(sg:(List Int)×Bool)=>match sg with|(rB,rC)=>Z6 (rB,rC)) λJ1=>jn (λ(v_1:Bool)=>bif v_1 then bnd (dK iC ([e6.To]:List Int)) λ(l_2:List Int)=>J1 (l_2,true)else J1 (iC,kJ)) λJ2=>bnd (fq iC e6.ct) λ(bf:Bool)=>(bif bf then bnd (fq iC e6.To) λ(bO:Bool)=>J2 (!bO)else J2 false)) (λ(sg:(List Int)×Bool)=>match sg with|(iC,kJ)=>Z5 (iC,kJ)) (o7,false)else bF t.Links 0 (λ(j7:Int) (e7:cB) (Z7:Unit→Option _) (sg:Unit)=>match sg with|()=>bnd (fq o7 e7.ct) λ(br:Bool)=>bif !br then some (10:Int)else Z7 ()) (λ(sg:Unit)=>match sg with|()=>some (0:Int)) ()) (([t.dB]:List Int),true)) ()) ()) ai
def kQ(t:cM):Option (List Int):=
 bnd (jv t) λ(ai:Int)=>bif !decide (ai=0)then some []else bF t.Links 0 (λ(j1:Int) (e1:cB) (Z1:(List Int)→Option _) (bN:(List Int))=>bnd (jt bN e1.To) λ(aI:(List Int))=>Z1 aI) (λ(bN:(List Int))=>some bN) ([t.dB]:List Int)
def lq(l:List Int):Option Bool:=
 bF (List.drop 1 l) 1 (λ(j1:Int) (e1:Int) (Z1:Unit→Option _) (sg:Unit)=>match sg with|()=>bnd (elO l (w64 ((j1:Int)-(1:Int)))) λ(e_1:Int)=>bif decide (e1≤e_1)then some false else Z1 ()) (λ(sg:Unit)=>match sg with|()=>some true) ()
def o8(e:aG)(t:cM)(receivers:List Int):Option (Int×Int):=
 bnd (gy e) λ(ai:Int)=>bif !decide (ai=0)then some ((0:Int),ai)else bnd (jv t) λ(aI:Int)=>bif !decide (aI=0)then some ((0:Int),aI)else bnd (lq receivers) λ(bn:Bool)=>bif !bn then some ((0:Int),(25:Int))else bnd (kQ t) λ(bf:(List Int))=>bF receivers 0 (λ(j1:Int) (e1:Int) (Z1:Unit→Option _) (sg:Unit)=>match sg with|()=>bnd (fq bf e1) λ(bO:Bool)=>bif !bO then some ((0:Int),(8:Int))else Z1 ()) (λ(sg:Unit)=>match sg with|()=>bF t.Links 0 (λ(j2:Int) (e2:cB) (Z2:Int→Option _) (bN:Int)=>bnd (lS e e2.ct (1:Int) e2.To) λ(br:Int×Bool)=>bif !br.2 then some ((0:Int),(4:Int))else chk (decide (0≤IntKind.wrap .u64 br.1))<|Z2 (bB .or .u64 bN (IntKind.wrap .u64 ((1:Int)*2 ^ min (IntKind.wrap .u64 br.1).toNat 64)))) (λ(bN:Int)=>bF receivers 0 (λ(j3:Int) (e3:Int) (Z3:Int→Option _) (dO:Int)=>bnd (lS e e3 (3:Int) e3) λ(cv:Int×Bool)=>bif !cv.2 then some ((0:Int),(4:Int))else chk (decide (0≤IntKind.wrap .u64 cv.1))<|Z3 (bB .or .u64 dO (IntKind.wrap .u64 ((1:Int)*2 ^ min (IntKind.wrap .u64 cv.1).toNat 64)))) (λ(dO:Int)=>some (dO,(0:Int))) bN) (0:Int)) ()
end
end Go.Proofs.YtdjeacigeegklaaGreat
namespace Go.Proofs.YtdjeacigeegklaaGreat
open Go
set_option maxRecDepth 100000
set_option linter.all false
noncomputable section
def nD(t:aR)(most:Int):Option (af×aR):=
 bnd (eF t (1:Int) most) λ(ai:Int×aR)=>chk (decide (ai.1≤9223372036854775807))<|mb (ai.1-0).toNat (0:Int) (λ(j1:Int) (Z1:(Int×(List aY)×(List Int)×Int)→Option _) (sg:Int×(List aY)×(List Int)×Int)=>match sg with|(v8,m_1,m_2,m_3)=>bnd (cH (aR.mk m_2 m_3) ([(1:Int),(1:Int),(1:Int),(2:Int),(5:Int)]:List Int)) λ(aI:Int×aR)=>bnd (dK m_1 ([(aY.mk (w64 (v8+aI.1)) true)]:List aY)) λ(l_1:List aY)=>Z1 (w64 (v8+aI.1),l_1,aI.2.L,aI.2.At)) (λ(j1:Int) (sg:Int×(List aY)×(List Int)×Int)=>match sg with|(v8,m_1,m_2,m_3)=>chk (decide (0<ai.1)&&decide (ai.1≤4294967296))<|chk (decide (((List.replicate ai.1.toNat []:List (List Bool)).length:Int)≤9223372036854775807))<|mb (((List.replicate ai.1.toNat []:List (List Bool)).length:Int)-(0:Int)).toNat (0:Int) (λ(j2:Int) (Z2:(List (List Bool))→Option _) (m_4:(List (List Bool)))=>chk (decide (0≤ai.1)&&decide (ai.1≤4294967296))<|bnd (elO m_4 (j2:Int)) λ(e_1:List Bool)=>Z2 (List.set m_4 (j2:Int).toNat (List.replicate (ai.1).toNat false))) (λ(j2:Int) (m_4:(List (List Bool)))=>chk (decide (ai.1≤9223372036854775807))<|mb (ai.1-1).toNat (1:Int) (λ(j3:Int) (Z3:((List Int)×Int×(List (List Bool)))→Option _) (sg:(List Int)×Int×(List (List Bool)))=>match sg with|(m_5,m_6,m_7)=>jn (λ(sg:(List (List Bool))×(List Int)×Int)=>match sg with|(m_8,m_9,ir)=>Z3 (m_9,ir,m_8)) λJ1=>bnd (bu (aR.mk m_5 m_6) (12:Int)) λ(bn:Int×aR)=>bif decide (bn.1<11)then bnd (bu bn.2 (j3:Int)) λ(bf:Int×aR)=>bnd (elO m_7 bf.1) λ(e_2:List Bool)=>bnd (elO e_2 (j3:Int)) λ(e_3:Bool)=>bnd (qC e_2 (j3:Int) true) λ(l_2:List Bool)=>J1 ((List.set m_7 bf.1.toNat l_2),bf.2.L,bf.2.At)else J1 (m_7,bn.2.L,bn.2.At)) (λ(j3:Int) (sg:(List Int)×Int×(List (List Bool)))=>match sg with|(m_5,m_6,m_7)=>bnd (bu (aR.mk m_5 m_6) (w64 (ai.1+2))) λ(bO:Int×aR)=>whl (λ(Z4:(Int×(List Int)×Int×(List (List Bool)))→Option _) (sg:Int×(List Int)×Int×(List (List Bool)))=>match sg with|(i_1,gD,jP,eC)=>bif decide (0<i_1)then jn (λ(sg:(List (List Bool))×(List Int)×Int)=>match sg with|(oe,sZ,s4)=>Z4 (w64 (i_1-1),sZ,s4,oe)) λJ2=>bnd (bu (aR.mk gD jP) ai.1) λ(br:Int×aR)=>bnd (bu br.2 ai.1) λ(cv:Int×aR)=>bif !decide (br.1=cv.1)then bnd (elO eC (if cv.1<br.1 then cv.1 else br.1)) λ(e_4:List Bool)=>bnd (elO e_4 (if cv.1>br.1 then cv.1 else br.1)) λ(e_5:Bool)=>bnd (qC e_4 (if cv.1>br.1 then cv.1 else br.1) true) λ(l_3:List Bool)=>J2 ((List.set eC (if cv.1<br.1 then cv.1 else br.1).toNat l_3),cv.2.L,cv.2.At)else J2 (eC,cv.2.L,cv.2.At)else bnd (bu (aR.mk gD jP) (3:Int)) λ(dA:Int×aR)=>chk (decide ((eC.length:Int)≤9223372036854775807))<|mb ((eC.length:Int)-(0:Int)).toNat (0:Int) (λ(j5:Int) (Z5:((List bt)×(List Int)×Int)→Option _) (sg:(List bt)×(List Int)×Int)=>match sg with|(qL,nE,nF)=>chk (decide ((eC.length:Int)≤9223372036854775807))<|mb ((eC.length:Int)-(0:Int)).toNat (0:Int) (λ(j6:Int) (Z6:((List bt)×(List Int)×Int)→Option _) (sg:(List bt)×(List Int)×Int)=>match sg with|(me,nG,o9)=>jn (λ(sg:(List Int)×Int×(List bt))=>match sg with|(tL,tM,pZ)=>Z6 (pZ,tL,tM)) λJ3=>bnd (elO eC (j5:Int)) λ(e_6:List Bool)=>bnd (elO e_6 (j6:Int)) λ(e_7:Bool)=>bif !e_7 then J3 (nG,o9,me)else bnd (elO m_1 (j5:Int)) λ(e_8:aY)=>bnd (elO m_1 (j6:Int)) λ(e_9:aY)=>bnd (cH (aR.mk nG o9) ([(0:Int),(1:Int),(2:Int),(3:Int),(5:Int),(10:Int),(1000:Int)]:List Int)) λ(kK:Int×aR)=>jn (λ(sg:(List Int)×Int×Int×Int)=>match sg with|(p8,nH,aed,aee)=>bnd (dK me ([(bt.mk e_8.ID e_9.ID aed aee kK.1)]:List bt)) λ(l_4:List bt)=>J3 (p8,nH,l_4)) λJ4=>bif !(decide (dA.1=0))then bnd (eF kK.2 (1:Int) (20:Int)) λ(gz:Int×aR)=>bnd (cH gz.2 ([(1:Int),(2:Int),(3:Int),gz.1,(1000:Int)]:List Int)) λ(og:Int×aR)=>bnd (eF og.2 (1:Int) (20:Int)) λ(ug:Int×aR)=>bnd (cH ug.2 ([og.1,og.1,ug.1]:List Int)) λ(oO:Int×aR)=>J4 (oO.2.L,oO.2.At,og.1,oO.1)else J4 (kK.2.L,kK.2.At,(1:Int),(1:Int))) (λ(j6:Int) (sg:(List bt)×(List Int)×Int)=>match sg with|(me,nG,o9)=>Z5 (me,nG,o9)) (qL,nE,nF)) (λ(j5:Int) (sg:(List bt)×(List Int)×Int)=>match sg with|(qL,nE,nF)=>some ((af.mk m_1 qL),(aR.mk nE nF))) ([],dA.2.L,dA.2.At)) (bO.1,bO.2.L,bO.2.At,m_7)) (m_2,m_3,m_4)) (List.replicate ai.1.toNat []:List (List Bool))) ((0:Int),[],ai.2.L,ai.2.At)
def pe(t:aR)(p:af):Option (Int×aR):=
 jn (λ(sg:Bool×(List Int)×Int)=>match sg with|(v_1,m_1,m_2)=>bif v_1 then bnd (cH (aR.mk m_1 m_2) ([(0:Int),(98:Int),(100:Int)]:List Int)) λ(aI:Int×aR)=>some (aI.1,aI.2)else bnd (bu (aR.mk m_1 m_2) (p.aq.length:Int)) λ(bn:Int×aR)=>bnd (elO p.aq bn.1) λ(e_1:aY)=>some (e_1.ID,bn.2)) λJ1=>(bif decide ((p.aq.length:Int)=(0:Int))then J1 (true,t.L,t.At)else bnd (bu t (40:Int)) λ(ai:Int×aR)=>J1 (decide (ai.1=39),ai.2.L,ai.2.At))
def sC(t:aR)(p:af)(n:Int):Option ((List Int)×aR):=
 bnd (bu t (w64 (n+1))) λ(ai:Int×aR)=>whl (λ(Z1:((List Int)×Int×(List Int)×Int)→Option _) (sg:(List Int)×Int×(List Int)×Int)=>match sg with|(bN,i_1,m_1,m_2)=>bif ((decide (0<i_1))&&(decide (0<(p.aq.length:Int))))then bnd (bu (aR.mk m_1 m_2) (p.aq.length:Int)) λ(aI:Int×aR)=>bnd (elO p.aq aI.1) λ(e_1:aY)=>bnd (jt bN e_1.ID) λ(bn:(List Int))=>Z1 (bn,w64 (i_1-1),aI.2.L,aI.2.At)else some (bN,(aR.mk m_1 m_2))) ([],ai.1,ai.2.L,ai.2.At)
def tD(l:List cB)(ha1:cB):Option (List cB):=
 whl (λ(Z1:Int→Option _) (k_1:Int)=>jn (λ(v_1:Bool)=>bif v_1 then Z1 (w64 (k_1+1))else bnd (oZ l k_1 (l.length:Int)) λ(l_1:List cB)=>bnd (dK ([ha1]:List cB) l_1) λ(l_2:List cB)=>bnd (oZ l (0:Int) k_1) λ(l_3:List cB)=>bnd (dK l_3 l_2) λ(l_4:List cB)=>some l_4) λJ1=>(bif decide (k_1<(l.length:Int))then bnd (elO l k_1) λ(e_1:cB)=>(bif decide (e_1.ct<ha1.ct)then J1 true else(bif decide (e_1.ct=ha1.ct)then J1 (decide (e_1.To<ha1.To))else J1 false))else J1 false)) (0:Int)
def sD(t:aR)(p:af)(root:Int):Option (cM×aR):=
 bnd (bu t (w64 ((w64 ((2:Int)*(p.Links.length:Int)))+(1:Int)))) λ(ai:Int×aR)=>whl (λ(Z1:((List Int)×Int×(List cB)×(List Int)×Int)→Option _) (sg:(List Int)×Int×(List cB)×(List Int)×Int)=>match sg with|(qu,i_1,m_1,m_2,m_3)=>bif decide (0<i_1)then jn (λ(sg:(List Int)×(List Int)×Int×(List cB))=>match sg with|(zS,m_4,m_5,m_6)=>Z1 (zS,w64 (i_1-1),m_6,m_4,m_5)) λJ1=>bnd (bu (aR.mk m_2 m_3) (p.Links.length:Int)) λ(aI:Int×aR)=>bnd (elO p.Links aI.1) λ(e_1:bt)=>jn (λ(sg:Int×Int)=>match sg with|(m_7,m_8)=>jn (λ(v_1:Bool)=>bif v_1 then bnd (dK qu ([m_8]:List Int)) λ(l_1:List Int)=>bnd (tD m_1 (cB.mk m_7 m_8)) λ(br:(List cB))=>J1 (l_1,aI.2.L,aI.2.At,br)else J1 (qu,aI.2.L,aI.2.At,m_1)) λJ3=>bnd (fq qu m_7) λ(bf:Bool)=>(bif bf then bnd (fq qu m_8) λ(bO:Bool)=>J3 (!bO)else J3 false)) λJ2=>bnd (fq qu e_1.B) λ(bn:Bool)=>bif bn then J2 (e_1.B,e_1.A)else J2 (e_1.A,e_1.B)else some ((cM.mk root m_1),(aR.mk m_2 m_3))) (([root]:List Int),ai.1,[],ai.2.L,ai.2.At)
def pg(t:aR)(p:af):Option (aG×aR):=
 bnd (cH t ([(64:Int),(64:Int),(32:Int),(16:Int)]:List Int)) λ(ai:Int×aR)=>bnd (nC p (64:Int)) λ(aI:aG×Int)=>jn (λ(sg:Bool×(List Int)×Int)=>match sg with|(v_1,m_1,m_2)=>bif v_1 then some (aI.1,(aR.mk m_1 m_2))else bF p.aq 0 (λ(j1:Int) (e1:aY) (Z1:((List ak)×(List Int)×Int)→Option _) (sg:(List ak)×(List Int)×Int)=>match sg with|(m_3,m_4,m_5)=>jn (λ(sg:(List Int)×Int×(List ak))=>match sg with|(m_6,m_7,m_8)=>Z1 (m_8,m_6,m_7)) λJ2=>jn (λ(sg:(List Int)×Int×(List ak))=>match sg with|(m_9,ir,gD)=>bF p.Links 0 (λ(j2:Int) (e2:bt) (Z2:((List ak)×(List Int)×Int)→Option _) (sg:(List ak)×(List Int)×Int)=>match sg with|(jP,eC,oe)=>jn (λ(sg:(List Int)×Int×(List ak))=>match sg with|(sZ,s4,qL)=>Z2 (qL,sZ,s4)) λJ4=>jn (λ(zT:Int)=>jn (λ(xI:Int)=>jn (λ(sg:Bool×(List Int)×Int)=>match sg with|(v_2,nE,nF)=>bif v_2 then bnd (dK jP ([(ak.mk (jP.length:Int) e1.ID (1:Int) xI)]:List ak)) λ(l_2:List ak)=>J4 (nE,nF,l_2)else J4 (nE,nF,jP)) λJ7=>(bif !decide (xI=0)then bnd (bu (aR.mk eC oe) (5:Int)) λ(bO:Int×aR)=>J7 (decide (0<bO.1),bO.2.L,bO.2.At)else J7 (false,eC,oe))) λJ6=>bif decide (e2.B=e1.ID)then J6 e2.A else J6 zT) λJ5=>bif decide (e2.A=e1.ID)then J5 e2.B else J5 (0:Int)) (λ(sg:(List ak)×(List Int)×Int)=>match sg with|(jP,eC,oe)=>bnd (bu (aR.mk eC oe) (p.aq.length:Int)) λ(br:Int×aR)=>bnd (elO p.aq br.1) λ(e_1:aY)=>jn (λ(sg:Bool×(List Int)×Int)=>match sg with|(v_3,me,nG)=>bif v_3 then bnd (dK jP ([(ak.mk (jP.length:Int) e1.ID (2:Int) e_1.ID)]:List ak)) λ(l_3:List ak)=>J2 (me,nG,l_3)else J2 (me,nG,jP)) λJ8=>(bif !decide (e_1.ID=e1.ID)then bnd (bu br.2 (3:Int)) λ(cv:Int×aR)=>J8 (decide (cv.1=0),cv.2.L,cv.2.At)else J8 (false,br.2.L,br.2.At))) (gD,m_9,ir)) λJ3=>bnd (bu (aR.mk m_4 m_5) (5:Int)) λ(bf:Int×aR)=>bif decide (0<bf.1)then bnd (dK m_3 ([(ak.mk (m_3.length:Int) e1.ID (3:Int) e1.ID)]:List ak)) λ(l_1:List ak)=>J3 (bf.2.L,bf.2.At,l_1)else J3 (bf.2.L,bf.2.At,m_3)) (λ(sg:(List ak)×(List Int)×Int)=>match sg with|(m_3,m_4,m_5)=>bnd (oZ m_3 (0:Int) (if ai.1<(m_3.length:Int)then ai.1 else(m_3.length:Int))) λ(l_4:List ak)=>jn (λ(sg:(List Int)×Int×(List ak))=>match sg with|(o9,tL,tM)=>some ((aG.mk ai.1 tM),(aR.mk o9 tL))) λJ9=>jn (λ(sg:Bool×(List Int)×Int)=>match sg with|(v_4,pZ,p8)=>bif v_4 then bF l_4 0 (λ(j3:Int) (e3:ak) (Z3:(List ak)→Option _) (nH:(List ak))=>bnd (elO nH (j3:Int)) λ(e_2:ak)=>bnd (qC nH (j3:Int) (ak.mk (w64 (e_2.Bit+(w64 (ai.1-(nH.length:Int))))) e_2.aN e_2.Kind e_2.To)) λ(l_5:List ak)=>Z3 l_5) (λ(nH:(List ak))=>J9 (pZ,p8,nH)) l_4 else J9 (pZ,p8,l_4)) λJ10=>bnd (bu (aR.mk m_4 m_5) (3:Int)) λ(dA:Int×aR)=>(bif decide (dA.1=0)then J10 (decide ((l_4.length:Int)<ai.1),dA.2.L,dA.2.At)else J10 (false,dA.2.L,dA.2.At))) ([],m_1,m_2)) λJ1=>(bif decide (aI.2=0)then bnd (bu ai.2 (2:Int)) λ(bn:Int×aR)=>J1 (decide (bn.1=0),bn.2.L,bn.2.At)else J1 (false,ai.2.L,ai.2.At))
def l7(p:af):Option Bool:=
 some ((decide ((p.aq.length:Int)≤(30:Int)))&&(decide ((p.Links.length:Int)≤(70:Int))))
end
end Go.Proofs.YtdjeacigeegklaaGreat
namespace Go.Proofs.YtdjeacigeegklaaGreat
open Go
set_option maxRecDepth 100000
set_option linter.all false
noncomputable section
def kL(xa0:Int):Option Bool:=
 some (!decide (xa0=xa0))
def nI(xa0:Int)(y:Int):Option Bool:=
 bnd (gH xa0) λ(ai:Bool)=>(bif ai then bnd (gH y) λ(aI:Bool)=>(bif !aI then some true else some (decide (xa0<y)))else some (decide (xa0<y)))
def kM(vals:List Int):Option Int:=
 bF vals 0 (λ(j1:Int) (e1:Int) (Z1:Unit→Option _) (sg:Unit)=>match sg with|()=>bif !decide (e1=0)then some e1 else Z1 ()) (λ(sg:Unit)=>match sg with|()=>some (0:Int)) ()
def fJ(xa0:List Int)(target:Int):Option (Int×Bool):=
 whl (λ(Z1:(Int×Int)→Option _) (sg:Int×Int)=>match sg with|(i_1,j_1)=>bif decide (i_1<j_1)then bnd (elO xa0 (w64 (Int.fdiv (IntKind.wrap .u64 (w64 (i_1+j_1))) (2 ^ min (1:Int).toNat 64)))) λ(e_1:Int)=>bnd (nI e_1 target) λ(ai:Bool)=>bif ai then Z1 (w64 ((w64 (Int.fdiv (IntKind.wrap .u64 (w64 (i_1+j_1))) (2 ^ min (1:Int).toNat 64)))+(1:Int)),j_1)else Z1 (i_1,w64 (Int.fdiv (IntKind.wrap .u64 (w64 (i_1+j_1))) (2 ^ min (1:Int).toNat 64)))else(bif decide (i_1<(xa0.length:Int))then bnd (elO xa0 i_1) λ(e_2:Int)=>(bif decide (e_2=target)then some (i_1,true)else bnd (kL e_2) λ(aI:Bool)=>(bif aI then bnd (kL target) λ(bn:Bool)=>some (i_1,bn)else some (i_1,false)))else some (i_1,false))) ((0:Int),(xa0.length:Int))
def gV(n:Int):Option Bool:=
 some ((decide (n=8))||((decide (n=16))||((decide (n=32))||(decide (n=64)))))
def qv(length:Int):Option Int:=
 bnd (gV length) λ(ai:Bool)=>bif !ai then some (0:Int)else chk (decide (0≤w64 ((64:Int)-length)))<|some (Int.fdiv (18446744073709551615:Int) (2 ^ min (w64 ((64:Int)-length)).toNat 64))
def nJ(b:Int)(length:Int):Option Bool:=
 bnd (gV length) λ(ai:Bool)=>(bif ai then bnd (qv length) λ(aI:Int)=>some (decide (bB .andNot .u64 b aI=0))else some false)
def fK(n:Int):Option Bool:=
 some ((decide (1≤n))&&(decide (n≤99)))
def jQ(a:ak):Option aS:=
 some (aS.mk a.aN a.Kind a.To)
def fL(e:aG):Option Int:=
 bnd (gV e.Length) λ(ai:Bool)=>bif !ai then some (2:Int)else bF e.List 0 (λ(j1:Int) (e1:ak) (Z1:Unit→Option _) (sg:Unit)=>match sg with|()=>jn (λ(v_1:Bool)=>bif v_1 then some (2:Int)else Z1 ()) λJ1=>(bif decide (e1.Bit<0)then J1 true else(bif decide (e.Length≤e1.Bit)then J1 true else bnd (fK e1.aN) λ(aI:Bool)=>(bif !aI then J1 true else bnd (fK e1.To) λ(bn:Bool)=>J1 (!bn))))) (λ(sg:Unit)=>match sg with|()=>bF e.List 0 (λ(j2:Int) (e2:ak) (Z2:Unit→Option _) (sg:Unit)=>match sg with|()=>bif ((decide (e2.Kind<1))||(decide (3<e2.Kind)))then some (1:Int)else Z2 ()) (λ(sg:Unit)=>match sg with|()=>bF e.List 0 (λ(j3:Int) (e3:ak) (Z3:Unit→Option _) (sg:Unit)=>match sg with|()=>bif !((decide (e3.To=e3.aN))==(decide (e3.Kind=3)))then some (8:Int)else Z3 ()) (λ(sg:Unit)=>match sg with|()=>bF (List.drop 1 e.List) 1 (λ(j4:Int) (e4:ak) (Z4:Unit→Option _) (sg:Unit)=>match sg with|()=>bnd (elO e.List (w64 ((j4:Int)-(1:Int)))) λ(e_1:ak)=>bif decide (e4.Bit≤e_1.Bit)then some (25:Int)else Z4 ()) (λ(sg:Unit)=>match sg with|()=>bF e.List 0 (λ(j5:Int) (e5:ak) (Z5:(List (aS×Bool))→Option _) (m_1:(List (aS×Bool)))=>bnd (jQ e5) λ(bf:aS)=>bif ((jK cO m_1 bf).getD false)then some (5:Int)else bnd (jQ e5) λ(bO:aS)=>Z5 (pW cO m_1 bO true)) (λ(m_1:(List (aS×Bool)))=>some (0:Int)) []) ()) ()) ()) ()
def mE(e:aG)(aK:Int):Option Int:=
 jn (λ(b_1:Int)=>some b_1) λJ1=>bnd (fL e) λ(ai:Int)=>bif decide (ai=0)then bF e.List 0 (λ(j1:Int) (e1:ak) (Z1:Int→Option _) (b_2:Int)=>jn (λ(b_3:Int)=>Z1 b_3) λJ2=>bif decide (e1.aN=aK)then chk (decide (0≤e1.Bit))<|J2 (bB .or .u64 b_2 (IntKind.wrap .u64 ((1:Int)*2 ^ min e1.Bit.toNat 64)))else J2 b_2) (λ(b_2:Int)=>J1 b_2) (0:Int)else J1 (0:Int)
def mF(a:ak)(c_0:aS):Option Bool:=
 bnd (jQ a) λ(ai:aS)=>some (cO ai c_0)
def lT(e:aG)(xa1:aS):Option (Int×Bool):=
 bnd (eo e.List (λ(y0:ak)=>mF y0 xa1)) λ(ai:Int)=>bif decide (ai<0)then some ((0:Int),false)else bnd (elO e.List ai) λ(e_1:ak)=>some (e_1.Bit,true)
def jG(t:cM):Option (List (Int×Bool)):=
 whl (λ(Z1:(Bool×(List (Int×Bool)))→Option _) (sg:Bool×(List (Int×Bool)))=>match sg with|(uu,m_1)=>bif uu then bF t.Links 0 (λ(j2:Int) (e2:cB) (Z2:(Bool×(List (Int×Bool)))→Option _) (sg:Bool×(List (Int×Bool)))=>match sg with|(nK,m_2)=>jn (λ(sg:Bool×(List (Int×Bool)))=>match sg with|(uv,m_3)=>Z2 (uv,m_3)) λJ1=>bif (((aF m_2 e2.ct).getD false)&&(!((aF m_2 e2.To).getD false)))then J1 (true,bM m_2 e2.To true)else J1 (nK,m_2)) (λ(sg:Bool×(List (Int×Bool)))=>match sg with|(nK,m_2)=>Z1 (nK,m_2)) (false,m_1)else some m_1) (true,bM [] t.dB true)
def gL(t:cM):Option Int:=
 bnd (fK t.dB) λ(ai:Bool)=>bif !ai then some (2:Int)else bF t.Links 0 (λ(j1:Int) (e1:cB) (Z1:Unit→Option _) (sg:Unit)=>match sg with|()=>jn (λ(v_1:Bool)=>bif v_1 then some (2:Int)else Z1 ()) λJ1=>bnd (fK e1.ct) λ(aI:Bool)=>(bif !aI then J1 true else bnd (fK e1.To) λ(bn:Bool)=>J1 (!bn))) (λ(sg:Unit)=>match sg with|()=>bF (List.drop 1 t.Links) 1 (λ(j2:Int) (e2:cB) (Z2:Unit→Option _) (sg:Unit)=>match sg with|()=>bnd (elO t.Links (w64 ((j2:Int)-(1:Int)))) λ(e_1:cB)=>bnd (eE e_1.ct e2.ct) λ(bf:Int)=>bnd (eE e_1.To e2.To) λ(bO:Int)=>bnd (lR ([bf,bO]:List Int)) λ(br:Int)=>bif decide (0≤br)then some (25:Int)else Z2 ()) (λ(sg:Unit)=>match sg with|()=>bF t.Links 0 (λ(j3:Int) (e3:cB) (Z3:(List (Int×Bool))→Option _) (m_1:(List (Int×Bool)))=>bif ((aF m_1 e3.To).getD false)then some (8:Int)else Z3 (bM m_1 e3.To true)) (λ(m_1:(List (Int×Bool)))=>bnd (jG t) λ(cv:(List (Int×Bool)))=>bF t.Links 0 (λ(j4:Int) (e4:cB) (Z4:Unit→Option _) (sg:Unit)=>match sg with|()=>bif !((aF cv e4.ct).getD false)then some (10:Int)else Z4 ()) (λ(sg:Unit)=>match sg with|()=>some (0:Int)) ()) (bM [] t.dB true)) ()) ()
def jH(t:cM):Option (List Int):=
 bnd (gL t) λ(ai:Int)=>bif !decide (ai=0)then some []else bF t.Links 0 (λ(j1:Int) (e1:cB) (Z1:(List Int)→Option _) (bN:(List Int))=>bnd (dK bN ([e1.To]:List Int)) λ(l_1:List Int)=>Z1 l_1) (λ(bN:(List Int))=>chk (decide (bN.length<4611686018427387904))<|some (jZ bN)) ([t.dB]:List Int)
def lU(e:aG)(t:cM)(receivers:List Int):Option (Int×Int):=
 bnd (fL e) λ(ai:Int)=>bnd (gL t) λ(aI:Int)=>bnd (kM ([ai,aI]:List Int)) λ(bn:Int)=>bif !decide (bn=0)then some ((0:Int),bn)else bF (List.drop 1 receivers) 1 (λ(j1:Int) (e1:Int) (Z1:Unit→Option _) (sg:Unit)=>match sg with|()=>bnd (elO receivers (w64 ((j1:Int)-(1:Int)))) λ(e_1:Int)=>bif decide (e1≤e_1)then some ((0:Int),(25:Int))else Z1 ()) (λ(sg:Unit)=>match sg with|()=>bnd (jH t) λ(bf:(List Int))=>bF receivers 0 (λ(j2:Int) (e2:Int) (Z2:(List aS)→Option _) (pq:(List aS))=>bnd (fJ bf e2) λ(bO:Int×Bool)=>bif !bO.2 then some ((0:Int),(8:Int))else bnd (dK pq ([(aS.mk e2 (3:Int) e2)]:List aS)) λ(l_1:List aS)=>Z2 l_1) (λ(pq:(List aS))=>bF t.Links 0 (λ(j3:Int) (e3:cB) (Z3:(List aS)→Option _) (iP:(List aS))=>bnd (dK iP ([(aS.mk e3.ct (1:Int) e3.To)]:List aS)) λ(l_2:List aS)=>Z3 l_2) (λ(iP:(List aS))=>bF iP 0 (λ(j4:Int) (e4:aS) (Z4:Int→Option _) (b_1:Int)=>bnd (lT e e4) λ(br:Int×Bool)=>bif !br.2 then some ((0:Int),(4:Int))else chk (decide (0≤br.1))<|Z4 (bB .or .u64 b_1 (IntKind.wrap .u64 ((1:Int)*2 ^ min br.1.toNat 64)))) (λ(b_1:Int)=>some (b_1,(0:Int))) (0:Int)) pq) []) ()
end
end Go.Proofs.YtdjeacigeegklaaGreat
namespace Go.Proofs.YtdjeacigeegklaaGreat
open Go
set_option maxRecDepth 100000
set_option linter.all false
noncomputable section
def ni(a:aC)(b:aC):Option Int:=
 bnd (eE a.to_ b.to_) λ(ai:Int)=>some ai
end
end Go.Proofs.YtdjeacigeegklaaGreat
namespace Go.Proofs.YtdjeacigeegklaaGreat
open Go
set_option maxRecDepth 100000
set_option linter.all false
noncomputable section
def jR(t:af):Option Bool:=
 bnd (iN t) λ(ai:Int)=>some (decide (ai=0))
def mG(t:af):Option fH:=
 bF t.aq 0 (λ(j1:Int) (e1:aY) (Z1:((List (Int×List aC))×(List (Int×List aC)))→Option _) (sg:(List (Int×List aC))×(List (Int×List aC)))=>match sg with|(m_1,m_2)=>Z1 (bM m_1 e1.ID [],bM m_2 e1.ID [])) (λ(sg:(List (Int×List aC))×(List (Int×List aC)))=>match sg with|(m_1,m_2)=>bF t.Links 0 (λ(j2:Int) (e2:bt) (Z2:((List (Int×List aC))×(List (Int×List aC)))→Option _) (sg:(List (Int×List aC))×(List (Int×List aC)))=>match sg with|(m_3,m_4)=>bnd (dK ((aF m_3 e2.A).getD []) ([(aC.mk e2.B e2.iz)]:List aC)) λ(l_1:List aC)=>bnd (dK ((aF (bM m_3 e2.A l_1) e2.B).getD []) ([(aC.mk e2.A e2.iA)]:List aC)) λ(l_2:List aC)=>bnd (dK ((aF m_4 e2.B).getD []) ([(aC.mk e2.A e2.iz)]:List aC)) λ(l_3:List aC)=>bnd (dK ((aF (bM m_4 e2.B l_3) e2.A).getD []) ([(aC.mk e2.B e2.iA)]:List aC)) λ(l_4:List aC)=>Z2 (bM (bM m_3 e2.A l_1) e2.B l_2,bM (bM m_4 e2.B l_3) e2.A l_4)) (λ(sg:(List (Int×List aC))×(List (Int×List aC)))=>match sg with|(m_3,m_4)=>bnd (tv m_3 (λ(n_1:Int) (v_1:List aC) (m_5:(List (Int×List aC)))=>chk (aF m_5 n_1).isSome<|bnd (sk (lQ [λx:aC=>x.to_]) ((aF m_5 n_1).getD [])) λ(l_5:List aC)=>some (bM m_5 n_1 l_5)) m_3) λ(R1:(List (Int×List aC)))=>some (fH.mk R1 m_4)) (m_1,m_2)) (([]:List (Int×List aC)),([]:List (Int×List aC)))
def fM(links:List (Int×List aC))(cG:Int):Option (List (Int×Int)):=
 bif !((aF links cG).isSome)then some []else jn (λ(sg:(List (Int×Int))×(List (Int×Int)))=>match sg with|(m_1,m_2)=>some m_1) λJ1=>whl (λ(Z1:((List (Int×Int))×(List (Int×Int)))→Option _) (sg:(List (Int×Int))×(List (Int×Int)))=>match sg with|(m_3,m_4)=>bif decide (0<(m_4.length:Int))then bnd (tv m_4 (λ(n_1:Int) (v_1:Int) (dV:Int)=>bif ((decide (dV=0))||((decide (v_1<((aF m_4 dV).getD (0:Int))))||((decide (v_1=((aF m_4 dV).getD (0:Int))))&&(decide (n_1<dV)))))then some n_1 else some dV) (0:Int)) λ(R1:Int)=>bif decide (((bM m_3 R1 ((aF m_4 R1).getD (0:Int))).length:Int)=(links.length:Int))then J1 (bM m_3 R1 ((aF m_4 R1).getD (0:Int)),oH m_4 R1)else bF ((aF links R1).getD []) 0 (λ(j2:Int) (e2:aC) (Z2:(List (Int×Int))→Option _) (m_5:(List (Int×Int)))=>jn (λ(m_6:(List (Int×Int)))=>Z2 m_6) λJ2=>bif (aF (bM m_3 R1 ((aF m_4 R1).getD (0:Int))) e2.to_).isSome then J2 m_5 else bif ((!((aF m_5 e2.to_).isSome))||(decide (w64 (((aF m_4 R1).getD (0:Int))+e2.gb)<((aF m_5 e2.to_).getD (0:Int)))))then J2 (bM m_5 e2.to_ (w64 (((aF m_4 R1).getD (0:Int))+e2.gb)))else J2 m_5) (λ(m_5:(List (Int×Int)))=>Z1 (bM m_3 R1 ((aF m_4 R1).getD (0:Int)),m_5)) (oH m_4 R1)else J1 (m_3,m_4)) ([],bM [] cG (0:Int))
def iU(g:fH)(fE:List (Int×Int))(dX:Int):Option (List Int):=
 bif !((aF fE dX).isSome)then some []else bF ((aF g.mR dX).getD []) 0 (λ(j1:Int) (e1:aC) (Z1:(List Int)→Option _) (bN:(List Int))=>jn (λ(dO:(List Int))=>Z1 dO) λJ1=>bif (((aF fE e1.to_).isSome)&&(decide (w64 (e1.gb+((aF fE e1.to_).getD (0:Int)))=((aF fE dX).getD (0:Int)))))then bnd (dK bN ([e1.to_]:List Int)) λ(l_1:List Int)=>J1 l_1 else J1 bN) (λ(bN:(List Int))=>some bN) []
def lV(t:af)(cG:Int)(eA:Int):Option (List Int):=
 jn (λ(v_1:Bool)=>bif v_1 then some []else bnd (mG t) λ(aI:fH)=>bnd (fM aI.in_ eA) λ(bn:(List (Int×Int)))=>whl (λ(Z1:((List Int)×Int)→Option _) (sg:(List Int)×Int)=>match sg with|(bN,xK)=>bif !decide (xK=eA)then bnd (iU aI bn xK) λ(bf:(List Int))=>bif decide ((bf.length:Int)=(0:Int))then some []else bnd (elO bf (0:Int)) λ(e_1:Int)=>bnd (dK bN ([e_1]:List Int)) λ(l_1:List Int)=>bnd (elO l_1 (w64 ((l_1.length:Int)-(1:Int)))) λ(e_2:Int)=>Z1 (l_1,e_2)else some bN) ([],cG)) λJ1=>bnd (jR t) λ(ai:Bool)=>(bif !ai then J1 true else J1 (decide (cG=eA)))
end
end Go.Proofs.YtdjeacigeegklaaGreat
namespace Go.Proofs.YtdjeacigeegklaaGreat
open Go
set_option maxRecDepth 100000
set_option linter.all false
noncomputable section
def j9(n:Int)(most:Int):Option Bool:=
 some ((decide (0≤n))&&(decide (n≤most)))
def iV(p:aD):Option Bool:=
 (bif decide (1≤p.Mode)then(bif decide (p.Mode≤3)then bnd (j9 p.bL (7:Int)) λ(ai:Bool)=>(bif ai then bnd (j9 p.Set (31:Int)) λ(aI:Bool)=>(bif aI then bnd (nJ p.Bits p.Length) λ(bn:Bool)=>(bif bn then bnd (j9 p.TTL (63:Int)) λ(bf:Bool)=>(bif bf then bnd (j9 p.cn (1023:Int)) λ(bO:Bool)=>(bif bO then bnd (j9 p.cq (256:Int)) λ(br:Bool)=>(bif br then bnd (j9 p.dg (7:Int)) λ(cv:Bool)=>(bif cv then some (decide ((p.cm.size:Int)≤(64:Int)))else some false)else some false)else some false)else some false)else some false)else some false)else some false)else some false)else some false)
def mh(p:aD)(bit:Int):Option aD:=
 jn (λ(v_1:Bool)=>bif v_1 then some (aD.mk (0:Int) (0:Int) (0:Int) (0:Int) (0:Int) (0:Int) (0:Int) (0:Int) (0:Int) (⟨#[]⟩:ByteArray))else chk (decide (0≤bit))<|some (aD.mk p.Mode p.bL p.Set p.Length p.TTL p.cn p.cq p.dg (IntKind.wrap .u64 ((1:Int)*2 ^ min bit.toNat 64)) p.cm)) λJ1=>bnd (iV p) λ(ai:Bool)=>(bif !ai then J1 true else(bif decide (bit<0)then J1 true else(bif decide (63<bit)then J1 true else chk (decide (0≤bit))<|J1 (decide (bB .and .u64 (Int.fdiv p.Bits (2 ^ min bit.toNat 64)) (1:Int)=(0:Int))))))
def iW(e:aG)(p:aD):Option Int:=
 bif !decide (p.Mode=2)then some (7:Int)else bif !decide (p.Length=e.Length)then some (8:Int)else some (0:Int)
def iD(e:aG)(aK:Int)(p:aD):Option (dz×(List bG)):=
 bnd (mE e aK) λ(ai:Int)=>bF e.List 0 (λ(j1:Int) (e1:ak) (Z1:((List bG)×Int×Int×(List eP))→Option _) (sg:(List bG)×Int×Int×(List eP))=>match sg with|(iE,m_1,m_2,m_3)=>jn (λ(sg:(List bG)×Int×Int×(List eP))=>match sg with|(ux,m_4,m_5,m_6)=>Z1 (ux,m_4,m_5,m_6)) λJ1=>chk (decide (0≤e1.Bit))<|bif ((!decide (e1.aN=aK))||(decide (bB .and .u64 p.Bits (IntKind.wrap .u64 ((1:Int)*2 ^ min e1.Bit.toNat 64))=(0:Int))))then J1 (iE,m_1,m_2,m_3)else bif decide (e1.Kind=3)then J1 (iE,bB .or .u64 m_1 (IntKind.wrap .u64 ((1:Int)*2 ^ min e1.Bit.toNat 64)),m_2,m_3)else bif decide (p.TTL=0)then J1 (iE,m_1,bB .or .u64 m_2 (IntKind.wrap .u64 ((1:Int)*2 ^ min e1.Bit.toNat 64)),m_3)else bif !decide (bB .andNot .u64 p.Bits ai=0)then jn (λ(m_7:(List Int))=>bnd (dK m_3 ([(eP.mk e1.To (kZ.mk m_7 (aD.mk p.Mode p.bL p.Set p.Length (w64 (p.TTL-1)) p.cn p.cq p.dg (bB .andNot .u64 p.Bits ai) p.cm)))]:List eP)) λ(l_1:List eP)=>bnd (dK iE ([(bG.mk e1 (eP.mk e1.To (kZ.mk m_7 (aD.mk p.Mode p.bL p.Set p.Length (w64 (p.TTL-1)) p.cn p.cq p.dg (bB .andNot .u64 p.Bits ai) p.cm))))]:List bG)) λ(l_2:List bG)=>J1 (l_2,m_1,m_2,l_1)) λJ2=>bif decide (e1.Kind=2)then J2 ([e1.To]:List Int)else J2 []else J1 (iE,m_1,m_2,m_3)) (λ(sg:(List bG)×Int×Int×(List eP))=>match sg with|(iE,m_1,m_2,m_3)=>some ((dz.mk m_1 m_2 m_3),iE)) ([],(0:Int),(0:Int),[])
def jm(e:aG)(aK:Int)(p:aD):Option (dz×Int):=
 jn (λ(v_1:Bool)=>bif v_1 then some ((dz.mk (0:Int) (0:Int) []),(1:Int))else bnd (iW e p) λ(bn:Int)=>bif !decide (bn=0)then some ((dz.mk (0:Int) (0:Int) []),bn)else bnd (iD e aK p) λ(bf:dz×(List bG))=>some (bf.1,(0:Int))) λJ1=>bnd (fL e) λ(ai:Int)=>(bif !decide (ai=0)then J1 true else bnd (iV p) λ(aI:Bool)=>J1 (!aI))
def iQ(t:af)(aK:Int)(a:ak):Option ((List Int)×Bool):=
 bif decide (a.Kind=2)then bnd (lV t aK a.To) λ(ai:(List Int))=>some (ai,decide (0<(ai.length:Int)))else bnd (mD t aK a.To) λ(aI:Int×Bool)=>some (([a.To]:List Int),aI.2)
def fP(e:aG)(t:af)(p:aD)(aK:Int):Option (dy×Int):=
 jn (λ(v_1:Bool)=>bif v_1 then some ((dy.mk [] [] []),(1:Int))else bnd (nA t aK) λ(bf:Bool)=>bif !bf then some ((dy.mk [] [] []),(4:Int))else bnd (iW e p) λ(bO:Int)=>bif !decide (bO=0)then some ((dy.mk [] [] []),bO)else whl (λ(Z1:((List aM)×(List cw)×(List aU)×(List cD))→Option _) (sg:(List aM)×(List cw)×(List aU)×(List cD))=>match sg with|(ga,m_1,m_2,m_3)=>bif decide (0<(ga.length:Int))then bnd (elO ga (0:Int)) λ(e_1:aM)=>bnd (iD e e_1.bY e_1.cz) λ(br:dz×(List bG))=>bF e.List 0 (λ(j2:Int) (e2:ak) (Z2:(List cw)→Option _) (m_4:(List cw))=>jn (λ(m_5:(List cw))=>Z2 m_5) λJ2=>chk (decide (0≤e2.Bit))<|bif decide (bB .and .u64 (Int.fdiv br.1.Local (2 ^ min e2.Bit.toNat 64)) (1:Int)=(1:Int))then bnd (mh e_1.cz e2.Bit) λ(cv:aD)=>bnd (dK m_4 ([(cw.mk e_1.bY cv)]:List cw)) λ(l_1:List cw)=>J2 l_1 else J2 m_4) (λ(m_4:(List cw))=>jn (λ(m_6:(List cD))=>bF br.2 0 (λ(j3:Int) (e3:bG) (Z3:((List aM)×(List aU)×(List cD))→Option _) (sg:(List aM)×(List aU)×(List cD))=>match sg with|(dR,m_7,m_8)=>jn (λ(sg:(List aM)×(List aU)×(List cD))=>match sg with|(gW,m_9,ir)=>Z3 (gW,m_9,ir)) λJ4=>bnd (iQ t e_1.bY e3.fI) λ(dA:(List Int)×Bool)=>bif !dA.2 then chk (decide (0≤e3.fI.Bit))<|bnd (dK m_8 ([(cD.mk e_1.bY (IntKind.wrap .u64 ((1:Int)*2 ^ min e3.fI.Bit.toNat 64)))]:List cD)) λ(l_3:List cD)=>J4 (dR,m_7,l_3)else bF dA.1 0 (λ(j4:Int) (e4:Int) (Z4:(Int×(List aU))→Option _) (sg:Int×(List aU))=>match sg with|(dI,gD)=>bnd (dK gD ([(aU.mk dI e4 e3.copy_.Frame.aQ.Bits)]:List aU)) λ(l_4:List aU)=>Z4 (e4,l_4)) (λ(sg:Int×(List aU))=>match sg with|(dI,gD)=>bif decide (2000<(gD.length:Int))then some ((dy.mk [] [] []),(11:Int))else bnd (dK dR ([(aM.mk dI e3.copy_.Frame.aQ)]:List aM)) λ(l_5:List aM)=>J4 (l_5,gD,m_8)) (e_1.bY,m_7)) (λ(sg:(List aM)×(List aU)×(List cD))=>match sg with|(dR,m_7,m_8)=>bnd (oZ dR (1:Int) (dR.length:Int)) λ(l_6:List aM)=>Z1 (l_6,m_4,m_7,m_8)) (ga,m_2,m_6)) λJ3=>bif !decide (br.1.jL=0)then bnd (dK m_3 ([(cD.mk e_1.bY br.1.jL)]:List cD)) λ(l_2:List cD)=>J3 l_2 else J3 m_3) m_1 else some ((dy.mk m_1 m_2 m_3),(0:Int))) (([(aM.mk aK p)]:List aM),[],[],[])) λJ1=>bnd (fL e) λ(ai:Int)=>(bif !decide (ai=0)then J1 true else bnd (iN t) λ(aI:Int)=>(bif !decide (aI=0)then J1 true else bnd (iV p) λ(bn:Bool)=>J1 (!bn)))
def jI(e:aG)(t:cM)(receivers:List Int)(p:aD):Option (aD×Int):=
 bnd (lU e t receivers) λ(ai:Int×Int)=>bif !decide (ai.2=0)then some ((aD.mk (0:Int) (0:Int) (0:Int) (0:Int) (0:Int) (0:Int) (0:Int) (0:Int) (0:Int) (⟨#[]⟩:ByteArray)),ai.2)else bnd (iV (aD.mk (2:Int) p.bL p.Set e.Length p.TTL p.cn p.cq p.dg ai.1 p.cm)) λ(aI:Bool)=>bif !aI then some ((aD.mk (0:Int) (0:Int) (0:Int) (0:Int) (0:Int) (0:Int) (0:Int) (0:Int) (0:Int) (⟨#[]⟩:ByteArray)),(1:Int))else some ((aD.mk (2:Int) p.bL p.Set e.Length p.TTL p.cn p.cq p.dg ai.1 p.cm),(0:Int))
end
end Go.Proofs.YtdjeacigeegklaaGreat
namespace Go.Proofs.YtdjeacigeegklaaGreat
open Go
set_option maxRecDepth 100000
set_option linter.all false
noncomputable section
def l8(n:Int):Option Bool:=
 some ((decide (n=8))||((decide (n=16))||((decide (n=32))||(decide (n=64)))))
def wj(k:Int):Option Int:=
 bif ((decide (k<0))||(decide (63<k)))then some (0:Int)else chk (decide (0≤IntKind.wrap .u64 k))<|some (IntKind.wrap .u64 ((1:Int)*2 ^ min (IntKind.wrap .u64 k).toNat 64))
def sE(length:Int):Option Int:=
 bnd (l8 length) λ(ai:Bool)=>bif !ai then some (0:Int)else chk (decide (length≤9223372036854775807))<|mb (length-0).toNat (0:Int) (λ(j1:Int) (Z1:Int→Option _) (b_1:Int)=>bnd (wj (j1:Int)) λ(aI:Int)=>Z1 (bB .or .u64 b_1 aI)) (λ(j1:Int) (b_1:Int)=>some b_1) (0:Int)
def ov(b:Int)(length:Int):Option Bool:=
 bnd (l8 length) λ(ai:Bool)=>(bif ai then bnd (sE length) λ(aI:Int)=>some (decide (bB .andNot .u64 b aI=0))else some false)
def gX(n:Int)(most:Int):Option Bool:=
 some ((decide (0≤n))&&(decide (n≤most)))
def kV(p:aD):Option Bool:=
 (bif decide (1≤p.Mode)then(bif decide (p.Mode≤3)then bnd (gX p.bL (7:Int)) λ(ai:Bool)=>(bif ai then bnd (gX p.Set (31:Int)) λ(aI:Bool)=>(bif aI then bnd (ov p.Bits p.Length) λ(bn:Bool)=>(bif bn then bnd (gX p.TTL (63:Int)) λ(bf:Bool)=>(bif bf then bnd (gX p.cn (1023:Int)) λ(bO:Bool)=>(bif bO then bnd (gX p.cq (256:Int)) λ(br:Bool)=>(bif br then bnd (gX p.dg (7:Int)) λ(cv:Bool)=>(bif cv then some (decide ((p.cm.size:Int)≤(64:Int)))else some false)else some false)else some false)else some false)else some false)else some false)else some false)else some false)else some false)
def ow(t:af)(ra1:Int):Option Int:=
 bF t.aq 0 (λ(j1:Int) (e1:aY) (Z1:Unit→Option _) (sg:Unit)=>match sg with|()=>bif decide (e1.ID=ra1)then some (j1:Int)else Z1 ()) (λ(sg:Unit)=>match sg with|()=>some (0:Int)) ()
def sF(t:af)(y6:Int):Option (List Int):=
 chk (decide (0≤(t.aq.length:Int))&&decide ((t.aq.length:Int)≤4294967296))<|whl (λ(Z1:((List Int)×Int)→Option _) (sg:(List Int)×Int)=>match sg with|(d_1,i_1)=>bif decide (i_1<(d_1.length:Int))then jn (λ(d_2:(List Int))=>Z1 (d_2,w64 (i_1+1))) λJ1=>bnd (elO d_1 i_1) λ(e_1:Int)=>bnd (qC d_1 i_1 (1073741824:Int)) λ(l_1:List Int)=>bnd (elO t.aq i_1) λ(e_2:aY)=>bif decide (e_2.ID=y6)then bnd (elO l_1 i_1) λ(e_3:Int)=>bnd (qC l_1 i_1 (0:Int)) λ(l_2:List Int)=>J1 l_2 else J1 l_1 else whl (λ(Z2:((List Int)×Int)→Option _) (sg:(List Int)×Int)=>match sg with|(d_3,mj)=>bif decide (mj<(d_3.length:Int))then bF t.Links 0 (λ(j3:Int) (e3:bt) (Z3:(List Int)→Option _) (d_4:(List Int))=>jn (λ(d_5:(List Int))=>Z3 d_5) λJ2=>bnd (ow t e3.A) λ(ai:Int)=>bnd (ow t e3.B) λ(aI:Int)=>jn (λ(d_6:(List Int))=>bnd (elO d_6 ai) λ(e_6:Int)=>bif decide (e_6<1073741824)then bnd (elO d_6 aI) λ(e_7:Int)=>bnd (qC d_6 aI (if(w64 (e3.iA+e_6))<e_7 then w64 (e3.iA+e_6)else e_7)) λ(l_4:List Int)=>J2 l_4 else J2 d_6) λJ3=>bnd (elO d_4 aI) λ(e_4:Int)=>bif decide (e_4<1073741824)then bnd (elO d_4 ai) λ(e_5:Int)=>bnd (qC d_4 ai (if(w64 (e3.iz+e_4))<e_5 then w64 (e3.iz+e_4)else e_5)) λ(l_3:List Int)=>J3 l_3 else J3 d_4) (λ(d_4:(List Int))=>Z2 (d_4,w64 (mj+1))) d_3 else some d_3) (d_1,(0:Int))) ((List.replicate ((t.aq.length:Int)).toNat (0:Int)),(0:Int))
def mH(t:af)(d:List Int)(ra2:Int):Option Int:=
 bF t.aq 0 (λ(j1:Int) (e1:aY) (Z1:Unit→Option _) (sg:Unit)=>match sg with|()=>bif decide (e1.ID=ra2)then bnd (elO d (j1:Int)) λ(e_1:Int)=>some e_1 else Z1 ()) (λ(sg:Unit)=>match sg with|()=>some (1073741824:Int)) ()
def oy(t:af)(d:List Int)(dX:Int):Option (List Int):=
 bnd (mH t d dX) λ(ai:Int)=>bif ((decide (ai=1073741824))||(decide (ai=0)))then some []else bnd (ny t dX) λ(aI:(List Int))=>bF aI 0 (λ(j1:Int) (e1:Int) (Z1:(List Int)→Option _) (bN:(List Int))=>jn (λ(dO:(List Int))=>Z1 dO) λJ1=>bnd (kU t dX e1) λ(bn:Int×Bool)=>jn (λ(v_1:Bool)=>bif v_1 then bnd (dK bN ([e1]:List Int)) λ(l_1:List Int)=>J1 l_1 else J1 bN) λJ2=>bnd (mH t d e1) λ(bf:Int)=>(bif decide (bf<1073741824)then bnd (mH t d e1) λ(bO:Int)=>J2 (decide (w64 (bn.1+bO)=ai))else J2 false)) (λ(bN:(List Int))=>some bN) []
def oz(t:af)(cG:Int)(eA:Int):Option (List Int):=
 jn (λ(v_1:Bool)=>bif v_1 then some []else bnd (sF t eA) λ(bn:(List Int))=>whl (λ(Z1:(Int×(List Int))→Option _) (sg:Int×(List Int))=>match sg with|(dI,bN)=>bif !decide (dI=eA)then bnd (oy t bn dI) λ(bf:(List Int))=>bif decide ((bf.length:Int)=(0:Int))then some []else bnd (elO bf (0:Int)) λ(e_1:Int)=>bnd (dK bN ([e_1]:List Int)) λ(l_1:List Int)=>Z1 (e_1,l_1)else some bN) (cG,[])) λJ1=>bnd (j8 t cG) λ(ai:Bool)=>(bif !ai then J1 true else bnd (j8 t eA) λ(aI:Bool)=>J1 (!aI))
def jS(e:aG)(p:aD):Option Int:=
 bif !decide (p.Mode=2)then some (7:Int)else bif !decide (p.Length=e.Length)then some (8:Int)else some (0:Int)
def kR(e:aG)(aK:Int)(p:aD):Option (dz×Int):=
 jn (λ(v_1:Bool)=>bif v_1 then some ((dz.mk (0:Int) (0:Int) []),(1:Int))else bnd (jS e p) λ(bn:Int)=>bif !decide (bn=0)then some ((dz.mk (0:Int) (0:Int) []),bn)else bnd (qj e aK) λ(bf:Int)=>bF e.List 0 (λ(j1:Int) (e1:ak) (Z1:(Int×Int×(List eP))→Option _) (sg:Int×Int×(List eP))=>match sg with|(m_1,m_2,m_3)=>jn (λ(sg:Int×Int×(List eP))=>match sg with|(m_4,m_5,m_6)=>Z1 (m_4,m_5,m_6)) λJ2=>chk (decide (0≤IntKind.wrap .u64 e1.Bit))<|bif ((!decide (e1.aN=aK))||(decide (bB .and .u64 p.Bits (IntKind.wrap .u64 ((1:Int)*2 ^ min (IntKind.wrap .u64 e1.Bit).toNat 64))=(0:Int))))then J2 (m_1,m_2,m_3)else bif decide (e1.Kind=3)then J2 (bB .or .u64 m_1 (IntKind.wrap .u64 ((1:Int)*2 ^ min (IntKind.wrap .u64 e1.Bit).toNat 64)),m_2,m_3)else bif decide (p.TTL=0)then J2 (m_1,bB .or .u64 m_2 (IntKind.wrap .u64 ((1:Int)*2 ^ min (IntKind.wrap .u64 e1.Bit).toNat 64)),m_3)else bif !decide (bB .andNot .u64 p.Bits bf=0)then jn (λ(m_7:(List Int))=>bnd (dK m_3 ([(eP.mk e1.To (kZ.mk m_7 (aD.mk p.Mode p.bL p.Set p.Length (w64 (p.TTL-1)) p.cn p.cq p.dg (bB .andNot .u64 p.Bits bf) p.cm)))]:List eP)) λ(l_1:List eP)=>J2 (m_1,m_2,l_1)) λJ3=>bif decide (e1.Kind=2)then J3 ([e1.To]:List Int)else J3 []else J2 (m_1,m_2,m_3)) (λ(sg:Int×Int×(List eP))=>match sg with|(m_1,m_2,m_3)=>some ((dz.mk m_1 m_2 m_3),(0:Int))) ((0:Int),(0:Int),[])) λJ1=>bnd (gy e) λ(ai:Int)=>(bif !decide (ai=0)then J1 true else bnd (kV p) λ(aI:Bool)=>J1 (!aI))
def mU(e:aG)(aK:Int)(c:eP):Option Int:=
 jn (λ(y7:Int)=>bnd (lS e aK y7 c.To) λ(ai:Int×Bool)=>chk (decide (0≤IntKind.wrap .u64 ai.1))<|some (IntKind.wrap .u64 ((1:Int)*2 ^ min (IntKind.wrap .u64 ai.1).toNat 64))) λJ1=>bif decide (0<(c.Frame.fk.length:Int))then J1 (2:Int)else J1 (1:Int)
def mV(t:af)(aK:Int)(c:eP):Option (List Int):=
 bif decide (0<(c.Frame.fk.length:Int))then bnd (oz t aK c.To) λ(ai:(List Int))=>some ai else bnd (o6 t aK c.To) λ(aI:Int×Bool)=>bif aI.2 then some ([c.To]:List Int)else some []
def kN(aK:Int)(bits:Int)(p:aD):Option (List cw):=
 mb ((64:Int)-(0:Int)).toNat (0:Int) (λ(j1:Int) (Z1:(List cw)→Option _) (bN:(List cw))=>jn (λ(dO:(List cw))=>Z1 dO) λJ1=>chk (decide (0≤IntKind.wrap .u64 (j1:Int)))<|bif decide (bB .and .u64 (Int.fdiv bits (2 ^ min (IntKind.wrap .u64 (j1:Int)).toNat 64)) (1:Int)=(1:Int))then chk (decide (0≤IntKind.wrap .u64 (j1:Int)))<|bnd (dK bN ([(cw.mk aK (aD.mk p.Mode p.bL p.Set p.Length p.TTL p.cn p.cq p.dg (IntKind.wrap .u64 ((1:Int)*2 ^ min (IntKind.wrap .u64 (j1:Int)).toNat 64)) p.cm))]:List cw)) λ(l_1:List cw)=>J1 l_1 else J1 bN) (λ(j1:Int) (bN:(List cw))=>some bN) []
def kf(e:aG)(t:af)(p:aD)(aK:Int):Option (dy×Int):=
 jn (λ(v_1:Bool)=>bif v_1 then some ((dy.mk [] [] []),(1:Int))else bnd (j8 t aK) λ(bf:Bool)=>bif !bf then some ((dy.mk [] [] []),(4:Int))else bnd (jS e p) λ(bO:Int)=>bif !decide (bO=0)then some ((dy.mk [] [] []),bO)else whl (λ(Z1:((List cU)×Int×(List cw)×(List aU)×(List cD))→Option _) (sg:(List cU)×Int×(List cw)×(List aU)×(List cD))=>match sg with|(ga,i_1,m_1,m_2,m_3)=>bif decide (i_1<(ga.length:Int))then bnd (elO ga i_1) λ(e_1:cU)=>bnd (kR e e_1.aN e_1.aQ) λ(br:dz×Int)=>bnd (kN e_1.aN br.1.Local e_1.aQ) λ(cv:(List cw))=>bnd (dK m_1 cv) λ(l_1:List cw)=>jn (λ(m_4:(List cD))=>bF br.1.dS 0 (λ(j2:Int) (e2:eP) (Z2:((List cU)×(List aU)×(List cD))→Option _) (sg:(List cU)×(List aU)×(List cD))=>match sg with|(dR,m_5,m_6)=>jn (λ(sg:(List cU)×(List aU)×(List cD))=>match sg with|(gW,m_7,m_8)=>Z2 (gW,m_7,m_8)) λJ3=>bnd (mV t e_1.aN e2) λ(dA:(List Int))=>bif decide ((dA.length:Int)=(0:Int))then bnd (mU e e_1.aN e2) λ(kK:Int)=>bnd (dK m_6 ([(cD.mk e_1.aN kK)]:List cD)) λ(l_3:List cD)=>J3 (dR,m_5,l_3)else bF dA 0 (λ(j3:Int) (e3:Int) (Z3:(Int×(List aU))→Option _) (sg:Int×(List aU))=>match sg with|(dI,m_9)=>bnd (dK m_9 ([(aU.mk dI e3 e2.Frame.aQ.Bits)]:List aU)) λ(l_4:List aU)=>Z3 (e3,l_4)) (λ(sg:Int×(List aU))=>match sg with|(dI,m_9)=>bif decide (2000<(m_9.length:Int))then some ((dy.mk [] [] []),(11:Int))else bnd (dK dR ([(cU.mk e2.To e2.Frame.aQ)]:List cU)) λ(l_5:List cU)=>J3 (l_5,m_9,m_6)) (e_1.aN,m_5)) (λ(sg:(List cU)×(List aU)×(List cD))=>match sg with|(dR,m_5,m_6)=>Z1 (dR,w64 (i_1+1),l_1,m_5,m_6)) (ga,m_2,m_4)) λJ2=>bif !decide (br.1.jL=0)then bnd (dK m_3 ([(cD.mk e_1.aN br.1.jL)]:List cD)) λ(l_2:List cD)=>J2 l_2 else J2 m_3 else some ((dy.mk m_1 m_2 m_3),(0:Int))) (([(cU.mk aK p)]:List cU),(0:Int),[],[],[])) λJ1=>bnd (gy e) λ(ai:Int)=>(bif !decide (ai=0)then J1 true else bnd (iJ t) λ(aI:Int)=>(bif !decide (aI=0)then J1 true else bnd (kV p) λ(bn:Bool)=>J1 (!bn)))
def nM(e:aG)(t:cM)(receivers:List Int)(p:aD):Option (aD×Int):=
 bnd (o8 e t receivers) λ(ai:Int×Int)=>bif !decide (ai.2=0)then some ((aD.mk (0:Int) (0:Int) (0:Int) (0:Int) (0:Int) (0:Int) (0:Int) (0:Int) (0:Int) (⟨#[]⟩:ByteArray)),ai.2)else bnd (kV (aD.mk (2:Int) p.bL p.Set e.Length p.TTL p.cn p.cq p.dg ai.1 p.cm)) λ(aI:Bool)=>bif !aI then some ((aD.mk (0:Int) (0:Int) (0:Int) (0:Int) (0:Int) (0:Int) (0:Int) (0:Int) (0:Int) (⟨#[]⟩:ByteArray)),(1:Int))else some ((aD.mk (2:Int) p.bL p.Set e.Length p.TTL p.cn p.cq p.dg ai.1 p.cm),(0:Int))
def jJ(a:dz)(b:dz):Option Bool:=
 bif ((!decide (a.Local=b.Local))||((!decide (a.jL=b.jL))||(!decide ((a.dS.length:Int)=(b.dS.length:Int)))))then some false else bF a.dS 0 (λ(j1:Int) (e1:eP) (Z1:Unit→Option _) (sg:Unit)=>match sg with|()=>bnd (elO b.dS (j1:Int)) λ(e_1:eP)=>bif ((!decide (e1.To=e_1.To))||((!(gN e1.Frame.aQ e_1.Frame.aQ))||(!decide ((e1.Frame.fk.length:Int)=(e_1.Frame.fk.length:Int)))))then some false else bF e1.Frame.fk 0 (λ(j2:Int) (e2:Int) (Z2:Unit→Option _) (sg:Unit)=>match sg with|()=>bnd (elO e_1.Frame.fk (j2:Int)) λ(e_2:Int)=>bif !decide (e2=e_2)then some false else Z2 ()) (λ(sg:Unit)=>match sg with|()=>Z1 ()) ()) (λ(sg:Unit)=>match sg with|()=>some true) ()
def lu(a:dy)(b:dy):Option Bool:=
 bif ((!decide ((a.dD.length:Int)=(b.dD.length:Int)))||((!decide ((a.dF.length:Int)=(b.dF.length:Int)))||(!decide ((a.gm.length:Int)=(b.gm.length:Int)))))then some false else bF a.dD 0 (λ(j1:Int) (e1:cw) (Z1:Unit→Option _) (sg:Unit)=>match sg with|()=>bnd (elO b.dD (j1:Int)) λ(e_1:cw)=>bif !(qh e1 e_1)then some false else Z1 ()) (λ(sg:Unit)=>match sg with|()=>bF a.dF 0 (λ(j2:Int) (e2:aU) (Z2:Unit→Option _) (sg:Unit)=>match sg with|()=>bnd (elO b.dF (j2:Int)) λ(e_2:aU)=>bif !(qi e2 e_2)then some false else Z2 ()) (λ(sg:Unit)=>match sg with|()=>bF a.gm 0 (λ(j3:Int) (e3:cD) (Z3:Unit→Option _) (sg:Unit)=>match sg with|()=>bnd (elO b.gm (j3:Int)) λ(e_3:cD)=>bif !(wL e3 e_3)then some false else Z3 ()) (λ(sg:Unit)=>match sg with|()=>some true) ()) ()) ()
end
end Go.Proofs.YtdjeacigeegklaaGreat
