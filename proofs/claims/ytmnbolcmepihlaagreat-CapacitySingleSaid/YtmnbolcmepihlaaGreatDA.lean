/- Several texts in one. No condition but those that stand in each. -/
import Derived.Test.YtmnbolcmepihlaaGreatWF
import Derived.Test.YtmnbolcmepihlaaGreatWD
namespace Go.Proofs.YtmnbolcmepihlaaGreat
open Go
set_option maxRecDepth 100000
set_option linter.all false
noncomputable section
def ng(n:Int):Option Bool:=
 some ((decide (1≤n))&&(decide (n≤1000)))
def kY(t:af)(ra1:Int):Option Bool:=
 bz t.ay 0 (λ(j1:Int) (e1:aW) (Z1:Unit→Option _) (sg:Unit)=>match sg with|()=>bif decide (e1.ID=ra1)then some true else Z1 ()) (λ(sg:Unit)=>match sg with|()=>some false) ()
def mA(t:af)(dA:Int)(ff:Int):Option (Int×Bool):=
 bz t.Links 0 (λ(j1:Int) (e1:aU) (Z1:Unit→Option _) (sg:Unit)=>match sg with|()=>bif ((decide (e1.A=dA))&&(decide (e1.B=ff)))then some (e1.ec,true)else bif ((decide (e1.B=dA))&&(decide (e1.A=ff)))then some (e1.eB,true)else Z1 ()) (λ(sg:Unit)=>match sg with|()=>some ((0:Int),false)) ()
def gX(t:af):Option Int:=
 bif ((decide (24<(t.ay.length:Int)))||(decide (60<(t.Links.length:Int))))then some (3:Int)else bz t.ay 0 (λ(j1:Int) (e1:aW) (Z1:Unit→Option _) (sg:Unit)=>match sg with|()=>bif ((decide (e1.ID<1))||(decide (99<e1.ID)))then some (2:Int)else Z1 ()) (λ(sg:Unit)=>match sg with|()=>bz (List.drop 1 t.ay) 1 (λ(j2:Int) (e2:aW) (Z2:Unit→Option _) (sg:Unit)=>match sg with|()=>bnd (elO t.ay (w64 ((j2:Int)-(1:Int)))) λ(e_1:aW)=>bif decide (e2.ID≤e_1.ID)then some (25:Int)else Z2 ()) (λ(sg:Unit)=>match sg with|()=>bz t.Links 0 (λ(j3:Int) (e3:aU) (Z3:Unit→Option _) (sg:Unit)=>match sg with|()=>jn (λ(v_1:Bool)=>bif v_1 then some (2:Int)else Z3 ()) λJ1=>bnd (ng e3.ec) λ(az:Bool)=>(bif !az then J1 true else bnd (ng e3.eB) λ(aH:Bool)=>(bif !aH then J1 true else(bif decide (e3.eE<0)then J1 true else J1 (decide (1000<e3.eE)))))) (λ(sg:Unit)=>match sg with|()=>bz t.Links 0 (λ(j4:Int) (e4:aU) (Z4:Unit→Option _) (sg:Unit)=>match sg with|()=>jn (λ(v_2:Bool)=>bif v_2 then some (4:Int)else Z4 ()) λJ2=>bnd (kY t e4.A) λ(bA:Bool)=>(bif !bA then J2 true else bnd (kY t e4.B) λ(bU:Bool)=>J2 (!bU))) (λ(sg:Unit)=>match sg with|()=>bz t.Links 0 (λ(j5:Int) (e5:aU) (Z5:Unit→Option _) (sg:Unit)=>match sg with|()=>bif decide (e5.B≤e5.A)then some (8:Int)else Z5 ()) (λ(sg:Unit)=>match sg with|()=>bz (List.drop 1 t.Links) 1 (λ(j6:Int) (e6:aU) (Z6:Unit→Option _) (sg:Unit)=>match sg with|()=>bnd (elO t.Links (w64 ((j6:Int)-(1:Int)))) λ(e_2:aU)=>bif ((decide (e6.A<e_2.A))||((decide (e_2.A=e6.A))&&(decide (e6.B≤e_2.B))))then some (25:Int)else Z6 ()) (λ(sg:Unit)=>match sg with|()=>some (0:Int)) ()) ()) ()) ()) ()) ()
end
end Go.Proofs.YtmnbolcmepihlaaGreat
namespace Go.Proofs.YtmnbolcmepihlaaGreat
open Go
set_option maxRecDepth 100000
set_option linter.all false
noncomputable section
def gn(t:af)(ra1:Int):Option Bool:=
 bnd (gX t) λ(az:Int)=>(bif decide (az=0)then bnd (kY t ra1) λ(aH:Bool)=>some aH else some false)
def lK(t:af)(dA:Int)(ff:Int):Option (Int×Bool):=
 bnd (gX t) λ(az:Int)=>bif !decide (az=0)then some ((0:Int),false)else bnd (mA t dA ff) λ(aH:Int×Bool)=>some (aH.1,aH.2)
end
end Go.Proofs.YtmnbolcmepihlaaGreat
namespace Go.Proofs.YtmnbolcmepihlaaGreat
open Go
set_option maxRecDepth 100000
set_option linter.all false
noncomputable section
def fD(xa0:Int):Option Bool:=
 some (!decide (xa0=xa0))
def cv(xa0:Int)(y:Int):Option Int:=
 bnd (fD xa0) λ(az:Bool)=>bnd (fD y) λ(aH:Bool)=>bif az then bif aH then some (0:Int)else some (-1:Int)else bif aH then some (1:Int)else bif decide (xa0<y)then some (-1:Int)else bif decide (y<xa0)then some (1:Int)else some (0:Int)
def fm(vals:List Int):Option Int:=
 bz vals 0 (λ(j1:Int) (e1:Int) (Z1:Unit→Option _) (sg:Unit)=>match sg with|()=>bif !decide (e1=0)then some e1 else Z1 ()) (λ(sg:Unit)=>match sg with|()=>some (0:Int)) ()
def cr(xa0:List aU)(target:aU)(cmp:aU→aU→Option Int):Option (Int×Bool):=
 whl (λ(Z1:(Int×Int)→Option _) (sg:Int×Int)=>match sg with|(i_1,j_1)=>bif decide (i_1<j_1)then bnd (elO xa0 (w64 (Int.fdiv (IntKind.wrap .u64 (w64 (i_1+j_1))) (2 ^ min (1:Int).toNat 64)))) λ(e_1:aU)=>bnd (cmp e_1 target) λ(az:Int)=>bif decide (az<0)then Z1 (w64 ((w64 (Int.fdiv (IntKind.wrap .u64 (w64 (i_1+j_1))) (2 ^ min (1:Int).toNat 64)))+(1:Int)),j_1)else Z1 (i_1,w64 (Int.fdiv (IntKind.wrap .u64 (w64 (i_1+j_1))) (2 ^ min (1:Int).toNat 64)))else(bif decide (i_1<(xa0.length:Int))then bnd (elO xa0 i_1) λ(e_2:aU)=>bnd (cmp e_2 target) λ(aH:Int)=>some (i_1,decide (aH=0))else some (i_1,false))) ((0:Int),(xa0.length:Int))
def bV(xa0:List aW)(target:Int)(cmp:aW→Int→Option Int):Option (Int×Bool):=
 whl (λ(Z1:(Int×Int)→Option _) (sg:Int×Int)=>match sg with|(i_1,j_1)=>bif decide (i_1<j_1)then bnd (elO xa0 (w64 (Int.fdiv (IntKind.wrap .u64 (w64 (i_1+j_1))) (2 ^ min (1:Int).toNat 64)))) λ(e_1:aW)=>bnd (cmp e_1 target) λ(az:Int)=>bif decide (az<0)then Z1 (w64 ((w64 (Int.fdiv (IntKind.wrap .u64 (w64 (i_1+j_1))) (2 ^ min (1:Int).toNat 64)))+(1:Int)),j_1)else Z1 (i_1,w64 (Int.fdiv (IntKind.wrap .u64 (w64 (i_1+j_1))) (2 ^ min (1:Int).toNat 64)))else(bif decide (i_1<(xa0.length:Int))then bnd (elO xa0 i_1) λ(e_2:aW)=>bnd (cmp e_2 target) λ(aH:Int)=>some (i_1,decide (aH=0))else some (i_1,false))) ((0:Int),(xa0.length:Int))
def ig(sa0:List Int)(v:Int):Option Int:=
 bz sa0 0 (λ(j1:Int) (e1:Int) (Z1:Unit→Option _) (sg:Unit)=>match sg with|()=>bif decide (v=e1)then some (j1:Int)else Z1 ()) (λ(sg:Unit)=>match sg with|()=>some (-1:Int)) ()
def dW(sa0:List aW)(f:aW→Option Bool):Option Int:=
 bz sa0 0 (λ(j1:Int) (e1:aW) (Z1:Unit→Option _) (sg:Unit)=>match sg with|()=>bnd (f e1) λ(az:Bool)=>bif az then some (j1:Int)else Z1 ()) (λ(sg:Unit)=>match sg with|()=>some (-1:Int)) ()
def er(sa0:List aU)(f:aU→Option Bool):Option Int:=
 bz sa0 0 (λ(j1:Int) (e1:aU) (Z1:Unit→Option _) (sg:Unit)=>match sg with|()=>bnd (f e1) λ(az:Bool)=>bif az then some (j1:Int)else Z1 ()) (λ(sg:Unit)=>match sg with|()=>some (-1:Int)) ()
def ei(sa0:List ai)(f:ai→Option Bool):Option Int:=
 bz sa0 0 (λ(j1:Int) (e1:ai) (Z1:Unit→Option _) (sg:Unit)=>match sg with|()=>bnd (f e1) λ(az:Bool)=>bif az then some (j1:Int)else Z1 ()) (λ(sg:Unit)=>match sg with|()=>some (-1:Int)) ()
def fq(sa0:List Int)(v:Int):Option Bool:=
 bnd (ig sa0 v) λ(az:Int)=>some (decide (0≤az))
def cN(sa0:List aW)(f:aW→Option Bool):Option Bool:=
 bnd (dW sa0 f) λ(az:Int)=>some (decide (0≤az))
def cq(sa0:List aU)(f:aU→Option Bool):Option Bool:=
 bnd (er sa0 f) λ(az:Int)=>some (decide (0≤az))
def gY(n:Int)(least:Int)(most:Int):Option Bool:=
 some ((decide (least≤n))&&(decide (n≤most)))
def gA(a:aU)(b:aU):Option Int:=
 bnd (cv a.A b.A) λ(az:Int)=>bnd (cv a.B b.B) λ(aH:Int)=>bnd (fm ([az,aH]:List Int)) λ(bA:Int)=>some bA
def jb(ra0:aW)(id:Int):Option Int:=
 bnd (cv ra0.ID id) λ(az:Int)=>some az
def kG(ra0:aW):Option Bool:=
 bnd (gY ra0.ID (1:Int) (99:Int)) λ(az:Bool)=>some (!az)
def iV(l:aU):Option Bool:=
 bnd (gY l.ec (1:Int) (1000:Int)) λ(az:Bool)=>(bif !az then some true else bnd (gY l.eB (1:Int) (1000:Int)) λ(aH:Bool)=>(bif !aH then some true else bnd (gY l.eE (0:Int) (1000:Int)) λ(bA:Bool)=>some (!bA)))
def gB(id:Int)(c_0:af):Option Bool:=
 bnd (bV c_0.ay id jb) λ(az:Int×Bool)=>some (!az.2)
def kH(l:aU)(c_0:af):Option Bool:=
 bnd (gB l.A c_0) λ(az:Bool)=>(bif az then some true else bnd (gB l.B c_0) λ(aH:Bool)=>some aH)
def kI(l:aU):Option Bool:=
 some (decide (l.B≤l.A))
def gu(t:af):Option Int:=
 bif ((decide (24<(t.ay.length:Int)))||(decide (60<(t.Links.length:Int))))then some (3:Int)else bnd (cN t.ay kG) λ(az:Bool)=>bif az then some (2:Int)else bz t.ay 0 (λ(j1:Int) (e1:aW) (Z1:Unit→Option _) (sg:Unit)=>match sg with|()=>jn (λ(v_1:Bool)=>bif v_1 then some (25:Int)else Z1 ()) λJ1=>(bif decide (0<(j1:Int))then bnd (elO t.ay (w64 ((j1:Int)-(1:Int)))) λ(e_1:aW)=>J1 (decide (e1.ID≤e_1.ID))else J1 false)) (λ(sg:Unit)=>match sg with|()=>bnd (cq t.Links iV) λ(aH:Bool)=>bif aH then some (2:Int)else bnd (cq t.Links (λ(y0:aU)=>kH y0 t)) λ(bA:Bool)=>bif bA then some (4:Int)else bnd (cq t.Links kI) λ(bU:Bool)=>bif bU then some (8:Int)else bz t.Links 0 (λ(j2:Int) (e2:aU) (Z2:Unit→Option _) (sg:Unit)=>match sg with|()=>jn (λ(v_2:Bool)=>bif v_2 then some (25:Int)else Z2 ()) λJ2=>(bif decide (0<(j2:Int))then bnd (elO t.Links (w64 ((j2:Int)-(1:Int)))) λ(e_2:aU)=>bnd (gA e_2 e2) λ(dP:Int)=>J2 (decide (0≤dP))else J2 false)) (λ(sg:Unit)=>match sg with|()=>some (0:Int)) ()) ()
def iG(t:af):Option Bool:=
 bnd (gu t) λ(az:Int)=>some (decide (az=0))
def kJ(t:af)(iW:Int):Option (aW×Bool):=
 bnd (bV t.ay iW jb) λ(az:Int×Bool)=>bif !az.2 then some ((aW.mk (0:Int) false),false)else bnd (elO t.ay az.1) λ(e_1:aW)=>some (e_1,true)
def jx(t:af)(iW:Int):Option Bool:=
 bnd (kJ t iW) λ(az:aW×Bool)=>bnd (iG t) λ(aH:Bool)=>(bif aH then some az.2 else some false)
def kK(t:af)(dA:Int)(ff:Int):Option (Int×Bool):=
 bnd (iG t) λ(az:Bool)=>bif !az then some ((0:Int),false)else bnd (cr t.Links (aU.mk (if ff<dA then ff else dA) (if ff>dA then ff else dA) (0:Int) (0:Int) (0:Int)) gA) λ(aH:Int×Bool)=>bif !aH.2 then some ((0:Int),false)else bif decide (dA<ff)then bnd (elO t.Links aH.1) λ(e_1:aU)=>some (e_1.ec,true)else bnd (elO t.Links aH.1) λ(e_2:aU)=>some (e_2.eB,true)
end
end Go.Proofs.YtmnbolcmepihlaaGreat
namespace Go.Proofs.YtmnbolcmepihlaaGreat
open Go
set_option maxRecDepth 100000
set_option linter.all false
noncomputable section
def nO(xa0:Int):Option Int:=
 jn (λ(sg:Int×Int)=>match sg with|(az,n_1)=>jn (λ(sg:Int×Int)=>match sg with|(aH,n_2)=>jn (λ(sg:Int×Int)=>match sg with|(bA,n_3)=>bnd (ixS (⟨#[0,1,2,2,3,3,3,3,4,4,4,4,4,4,4,4,5,5,5,5,5,5,5,5,5,5,5,5,5,5,5,5,6,6,6,6,6,6,6,6,6,6,6,6,6,6,6,6,6,6,6,6,6,6,6,6,6,6,6,6,6,6,6,6,7,7,7,7,7,7,7,7,7,7,7,7,7,7,7,7,7,7,7,7,7,7,7,7,7,7,7,7,7,7,7,7,7,7,7,7,7,7,7,7,7,7,7,7,7,7,7,7,7,7,7,7,7,7,7,7,7,7,7,7,7,7,7,7,8,8,8,8,8,8,8,8,8,8,8,8,8,8,8,8,8,8,8,8,8,8,8,8,8,8,8,8,8,8,8,8,8,8,8,8,8,8,8,8,8,8,8,8,8,8,8,8,8,8,8,8,8,8,8,8,8,8,8,8,8,8,8,8,8,8,8,8,8,8,8,8,8,8,8,8,8,8,8,8,8,8,8,8,8,8,8,8,8,8,8,8,8,8,8,8,8,8,8,8,8,8,8,8,8,8,8,8,8,8,8,8,8,8,8,8,8,8,8,8,8,8,8,8,8,8,8,8]⟩:ByteArray) (IntKind.wrap .u8 bA)) λ(b_1:UInt8)=>some (w64 (n_3+(w64 (b_1.toNat:Int))))) λJ3=>bif decide (256≤aH)then J3 (Int.fdiv aH (2 ^ min (8:Int).toNat 64),w64 (n_2+8))else J3 (aH,n_2)) λJ2=>bif decide (65536≤az)then J2 (Int.fdiv az (2 ^ min (16:Int).toNat 64),w64 (n_1+16))else J2 (az,n_1)) λJ1=>bif decide (4294967296≤xa0)then J1 (Int.fdiv xa0 (2 ^ min (32:Int).toNat 64),(32:Int))else J1 (xa0,(0:Int))
def pE(xa0:Int):Option Int:=
 bnd (nO xa0) λ(az:Int)=>some az
def fG: Option Unit:=
 whl (λ(Z1:Unit→Option _) (sg:Unit)=>match sg with|()=>some ()) ()
def gH(limit:Int):Option Unit:=
 whl (λ(Z1:Unit→Option _) (sg:Unit)=>match sg with|()=>bnd (fG) λ(az:Unit)=>some ()) ()
def mB: Option Unit:=
 bnd (pE (0:Int)) λ(az:Int)=>bnd (gH az) λ(aH:Unit)=>some ()
end
end Go.Proofs.YtmnbolcmepihlaaGreat
namespace Go.Proofs.YtmnbolcmepihlaaGreat
open Go
set_option maxRecDepth 100000
set_option linter.all false
noncomputable section
def jh(t:List Int):Option bL:=
 bnd (nM t (0:Int) (if(2000:Int)<(t.length:Int)then(2000:Int)else(t.length:Int))) λ(l_1:List Int)=>some (bL.mk l_1 (0:Int))
def gp(t:bL):Option (Int×bL):=
 bif decide ((t.L.length:Int)≤t.At)then some ((0:Int),t)else bnd (elO t.L (w64 ((w64 (t.At+1))-(1:Int)))) λ(e_1:Int)=>some (e_1,(bL.mk t.L (w64 (t.At+1))))
def ji(xa0:Int)(n:Int):Option Int:=
 bif decide (n<1)then some (0:Int)else chk (decide (n≠0))<|jn (λ(az:Int)=>some az) λJ1=>bif decide (Int.tmod xa0 n<0)then J1 (w64 ((Int.tmod xa0 n)+n))else J1 (Int.tmod xa0 n)
def b8(t:bL)(n:Int):Option (Int×bL):=
 bnd (gp t) λ(az:Int×bL)=>bnd (ji az.1 n) λ(aH:Int)=>some (aH,az.2)
def dN(t:bL)(lo:Int)(hi:Int):Option (Int×bL):=
 bnd (b8 t (w64 ((w64 (hi-lo))+(1:Int)))) λ(az:Int×bL)=>some (w64 (lo+az.1),az.2)
def dV(t:bL)(l:List Int):Option (Int×bL):=
 bnd (b8 t (l.length:Int)) λ(az:Int×bL)=>bnd (elO l az.1) λ(e_1:Int)=>some (e_1,az.2)
def fS(l:List Int)(xa1:Int):Option Bool:=
 bz l 0 (λ(j1:Int) (e1:Int) (Z1:Unit→Option _) (sg:Unit)=>match sg with|()=>bif decide (e1=xa1)then some true else Z1 ()) (λ(sg:Unit)=>match sg with|()=>some false) ()
def gU(l:List Int)(xa1:Int):Option (List Int):=
 whl (λ(Z1:Int→Option _) (k_1:Int)=>jn (λ(v_1:Bool)=>bif v_1 then Z1 (w64 (k_1+1))else jn (λ(v_2:Bool)=>bif v_2 then some l else bnd (nM l k_1 (l.length:Int)) λ(l_1:List Int)=>bnd (iD ([xa1]:List Int) l_1) λ(l_2:List Int)=>bnd (nM l (0:Int) k_1) λ(l_3:List Int)=>bnd (iD l_3 l_2) λ(l_4:List Int)=>some l_4) λJ2=>(bif decide (k_1<(l.length:Int))then bnd (elO l k_1) λ(e_2:Int)=>J2 (decide (e_2=xa1))else J2 false)) λJ1=>(bif decide (k_1<(l.length:Int))then bnd (elO l k_1) λ(e_1:Int)=>J1 (decide (e_1<xa1))else J1 false)) (0:Int)
def iX(a:List Int)(b:List Int):Option Bool:=
 bif !decide ((a.length:Int)=(b.length:Int))then some false else bz a 0 (λ(j1:Int) (e1:Int) (Z1:Unit→Option _) (sg:Unit)=>match sg with|()=>bnd (elO b (j1:Int)) λ(e_1:Int)=>bif !decide (e1=e_1)then some false else Z1 ()) (λ(sg:Unit)=>match sg with|()=>some true) ()
end
end Go.Proofs.YtmnbolcmepihlaaGreat
namespace Go.Proofs.YtmnbolcmepihlaaGreat
open Go
set_option maxRecDepth 100000
set_option linter.all false
noncomputable section
def jy(n:Int):Option Bool:=
 some ((decide (1≤n))&&(decide (n≤99)))
def gV(t:aQ):Option Int:=
 bnd (jy t.bx) λ(az:Bool)=>bz t.Links 0 (λ(j1:Int) (e1:aC) (Z1:Bool→Option _) (vf:Bool)=>(bif vf then bnd (jy e1.aD) λ(aH:Bool)=>(bif aH then bnd (jy e1.To) λ(bA:Bool)=>Z1 bA else Z1 false)else Z1 false)) (λ(vf:Bool)=>bif !vf then some (2:Int)else bz (List.drop 1 t.Links) 1 (λ(j2:Int) (e2:aC) (Z2:Unit→Option _) (sg:Unit)=>match sg with|()=>bnd (elO t.Links (w64 ((j2:Int)-(1:Int)))) λ(e_1:aC)=>bif ((decide (e2.aD<e_1.aD))||((decide (e_1.aD=e2.aD))&&(decide (e2.To≤e_1.To))))then some (25:Int)else Z2 ()) (λ(sg:Unit)=>match sg with|()=>bz t.Links 0 (λ(j3:Int) (e3:aC) (Z3:Unit→Option _) (sg:Unit)=>match sg with|()=>bnd (nM t.Links (0:Int) (j3:Int)) λ(l_1:List aC)=>bz l_1 0 (λ(j4:Int) (e4:aC) (Z4:Unit→Option _) (sg:Unit)=>match sg with|()=>bif decide (e4.To=e3.To)then some (8:Int)else Z4 ()) (λ(sg:Unit)=>match sg with|()=>bif decide (e3.To=t.bx)then some (8:Int)else Z3 ()) ()) (λ(sg:Unit)=>match sg with|()=>whl (λ(Z5:((List Int)×Bool)→Option _) (sg:(List Int)×Bool)=>match sg with|(nh,gC)=>bif gC then bz t.Links 0 (λ(j6:Int) (e6:aC) (Z6:((List Int)×Bool)→Option _) (sg:(List Int)×Bool)=>match sg with|(gj,ef)=>jn (λ(sg:(List Int)×Bool)=>match sg with|(oL,eR)=>Z6 (oL,eR)) λJ1=>jn (λ(v_1:Bool)=>bif v_1 then bnd (iD gj ([e6.To]:List Int)) λ(l_2:List Int)=>J1 (l_2,true)else J1 (gj,ef)) λJ2=>bnd (fS gj e6.aD) λ(bU:Bool)=>(bif bU then bnd (fS gj e6.To) λ(dP:Bool)=>J2 (!dP)else J2 false)) (λ(sg:(List Int)×Bool)=>match sg with|(gj,ef)=>Z5 (gj,ef)) (nh,false)else bz t.Links 0 (λ(j7:Int) (e7:aC) (Z7:Unit→Option _) (sg:Unit)=>match sg with|()=>bnd (fS nh e7.aD) λ(cV:Bool)=>bif !cV then some (10:Int)else Z7 ()) (λ(sg:Unit)=>match sg with|()=>some (0:Int)) ()) (([t.bx]:List Int),true)) ()) ()) az
def kM(t:aQ):Option (List Int):=
 bnd (gV t) λ(az:Int)=>bif !decide (az=0)then some []else bz t.Links 0 (λ(j1:Int) (e1:aC) (Z1:(List Int)→Option _) (b9:(List Int))=>bnd (gU b9 e1.To) λ(aH:(List Int))=>Z1 aH) (λ(b9:(List Int))=>some b9) ([t.bx]:List Int)
def gW(l:List Int):Option Bool:=
 bz (List.drop 1 l) 1 (λ(j1:Int) (e1:Int) (Z1:Unit→Option _) (sg:Unit)=>match sg with|()=>bnd (elO l (w64 ((j1:Int)-(1:Int)))) λ(e_1:Int)=>bif decide (e1≤e_1)then some false else Z1 ()) (λ(sg:Unit)=>match sg with|()=>some true) ()
def iI(a:aQ)(b:aQ):Option Bool:=
 bif ((!decide (a.bx=b.bx))||(!decide ((a.Links.length:Int)=(b.Links.length:Int))))then some false else bz a.Links 0 (λ(j1:Int) (e1:aC) (Z1:Unit→Option _) (sg:Unit)=>match sg with|()=>bnd (elO b.Links (j1:Int)) λ(e_1:aC)=>bif !(bt e1 e_1)then some false else Z1 ()) (λ(sg:Unit)=>match sg with|()=>some true) ()
end
end Go.Proofs.YtmnbolcmepihlaaGreat
namespace Go.Proofs.YtmnbolcmepihlaaGreat
open Go
set_option maxRecDepth 100000
set_option linter.all false
noncomputable section
def lP(t:bL)(most:Int):Option (af×bL):=
 bnd (dN t (1:Int) most) λ(az:Int×bL)=>chk (decide (az.1≤9223372036854775807))<|jf (az.1-0).toNat (0:Int) (λ(j1:Int) (Z1:(Int×(List aW)×(List Int)×Int)→Option _) (sg:Int×(List aW)×(List Int)×Int)=>match sg with|(tv,m_1,m_2,m_3)=>bnd (dV (bL.mk m_2 m_3) ([(1:Int),(1:Int),(1:Int),(2:Int),(5:Int)]:List Int)) λ(aH:Int×bL)=>bnd (iD m_1 ([(aW.mk (w64 (tv+aH.1)) true)]:List aW)) λ(l_1:List aW)=>Z1 (w64 (tv+aH.1),l_1,aH.2.L,aH.2.At)) (λ(j1:Int) (sg:Int×(List aW)×(List Int)×Int)=>match sg with|(tv,m_1,m_2,m_3)=>chk (decide (0<az.1)&&decide (az.1≤4294967296))<|chk (decide (((List.replicate az.1.toNat []:List (List Bool)).length:Int)≤9223372036854775807))<|jf (((List.replicate az.1.toNat []:List (List Bool)).length:Int)-(0:Int)).toNat (0:Int) (λ(j2:Int) (Z2:(List (List Bool))→Option _) (m_4:(List (List Bool)))=>chk (decide (0≤az.1)&&decide (az.1≤4294967296))<|bnd (elO m_4 (j2:Int)) λ(e_1:List Bool)=>Z2 (List.set m_4 (j2:Int).toNat (List.replicate (az.1).toNat false))) (λ(j2:Int) (m_4:(List (List Bool)))=>chk (decide (az.1≤9223372036854775807))<|jf (az.1-1).toNat (1:Int) (λ(j3:Int) (Z3:((List Int)×Int×(List (List Bool)))→Option _) (sg:(List Int)×Int×(List (List Bool)))=>match sg with|(m_5,m_6,m_7)=>jn (λ(sg:(List (List Bool))×(List Int)×Int)=>match sg with|(m_8,m_9,gw)=>Z3 (m_9,gw,m_8)) λJ1=>bnd (b8 (bL.mk m_5 m_6) (12:Int)) λ(bA:Int×bL)=>bif decide (bA.1<11)then bnd (b8 bA.2 (j3:Int)) λ(bU:Int×bL)=>bnd (elO m_7 bU.1) λ(e_2:List Bool)=>bnd (elO e_2 (j3:Int)) λ(e_3:Bool)=>bnd (jU e_2 (j3:Int) true) λ(l_2:List Bool)=>J1 ((List.set m_7 bU.1.toNat l_2),bU.2.L,bU.2.At)else J1 (m_7,bA.2.L,bA.2.At)) (λ(j3:Int) (sg:(List Int)×Int×(List (List Bool)))=>match sg with|(m_5,m_6,m_7)=>bnd (b8 (bL.mk m_5 m_6) (w64 (az.1+2))) λ(dP:Int×bL)=>whl (λ(Z4:(Int×(List Int)×Int×(List (List Bool)))→Option _) (sg:Int×(List Int)×Int×(List (List Bool)))=>match sg with|(i_1,qh,aat,eF)=>bif decide (0<i_1)then jn (λ(sg:(List (List Bool))×(List Int)×Int)=>match sg with|(aau,aav,aaw)=>Z4 (w64 (i_1-1),aav,aaw,aau)) λJ2=>bnd (b8 (bL.mk qh aat) az.1) λ(cV:Int×bL)=>bnd (b8 cV.2 az.1) λ(cB:Int×bL)=>bif !decide (cV.1=cB.1)then bnd (elO eF (if cB.1<cV.1 then cB.1 else cV.1)) λ(e_4:List Bool)=>bnd (elO e_4 (if cB.1>cV.1 then cB.1 else cV.1)) λ(e_5:Bool)=>bnd (jU e_4 (if cB.1>cV.1 then cB.1 else cV.1) true) λ(l_3:List Bool)=>J2 ((List.set eF (if cB.1<cV.1 then cB.1 else cV.1).toNat l_3),cB.2.L,cB.2.At)else J2 (eF,cB.2.L,cB.2.At)else bnd (b8 (bL.mk qh aat) (3:Int)) λ(gd:Int×bL)=>chk (decide ((eF.length:Int)≤9223372036854775807))<|jf ((eF.length:Int)-(0:Int)).toNat (0:Int) (λ(j5:Int) (Z5:((List aU)×(List Int)×Int)→Option _) (sg:(List aU)×(List Int)×Int)=>match sg with|(vg,vh,vi)=>chk (decide ((eF.length:Int)≤9223372036854775807))<|jf ((eF.length:Int)-(0:Int)).toNat (0:Int) (λ(j6:Int) (Z6:((List aU)×(List Int)×Int)→Option _) (sg:(List aU)×(List Int)×Int)=>match sg with|(qi,sG,sH)=>jn (λ(sg:(List Int)×Int×(List aU))=>match sg with|(aax,aay,aaz)=>Z6 (aaz,aax,aay)) λJ3=>bnd (elO eF (j5:Int)) λ(e_6:List Bool)=>bnd (elO e_6 (j6:Int)) λ(e_7:Bool)=>bif !e_7 then J3 (sG,sH,qi)else bnd (elO m_1 (j5:Int)) λ(e_8:aW)=>bnd (elO m_1 (j6:Int)) λ(e_9:aW)=>bnd (dV (bL.mk sG sH) ([(0:Int),(1:Int),(2:Int),(3:Int),(5:Int),(10:Int),(1000:Int)]:List Int)) λ(gI:Int×bL)=>jn (λ(sg:(List Int)×Int×Int×Int)=>match sg with|(aaA,aaB,acS,acT)=>bnd (iD qi ([(aU.mk e_8.ID e_9.ID acS acT gI.1)]:List aU)) λ(l_4:List aU)=>J3 (aaA,aaB,l_4)) λJ4=>bif !(decide (gd.1=0))then bnd (dN gI.2 (1:Int) (20:Int)) λ(s5:Int×bL)=>bnd (dV s5.2 ([(1:Int),(2:Int),(3:Int),s5.1,(1000:Int)]:List Int)) λ(mS:Int×bL)=>bnd (dN mS.2 (1:Int) (20:Int)) λ(rH:Int×bL)=>bnd (dV rH.2 ([mS.1,mS.1,rH.1]:List Int)) λ(rI:Int×bL)=>J4 (rI.2.L,rI.2.At,mS.1,rI.1)else J4 (gI.2.L,gI.2.At,(1:Int),(1:Int))) (λ(j6:Int) (sg:(List aU)×(List Int)×Int)=>match sg with|(qi,sG,sH)=>Z5 (qi,sG,sH)) (vg,vh,vi)) (λ(j5:Int) (sg:(List aU)×(List Int)×Int)=>match sg with|(vg,vh,vi)=>some ((af.mk m_1 vg),(bL.mk vh vi))) ([],gd.2.L,gd.2.At)) (dP.1,dP.2.L,dP.2.At,m_7)) (m_2,m_3,m_4)) (List.replicate az.1.toNat []:List (List Bool))) ((0:Int),[],az.2.L,az.2.At)
def pI(t:bL)(p:af)(n:Int):Option ((List Int)×bL):=
 bnd (b8 t (w64 (n+1))) λ(az:Int×bL)=>whl (λ(Z1:((List Int)×Int×(List Int)×Int)→Option _) (sg:(List Int)×Int×(List Int)×Int)=>match sg with|(b9,i_1,m_1,m_2)=>bif ((decide (0<i_1))&&(decide (0<(p.ay.length:Int))))then bnd (b8 (bL.mk m_1 m_2) (p.ay.length:Int)) λ(aH:Int×bL)=>bnd (elO p.ay aH.1) λ(e_1:aW)=>bnd (gU b9 e_1.ID) λ(bA:(List Int))=>Z1 (bA,w64 (i_1-1),aH.2.L,aH.2.At)else some (b9,(bL.mk m_1 m_2))) ([],az.1,az.2.L,az.2.At)
end
end Go.Proofs.YtmnbolcmepihlaaGreat
namespace Go.Proofs.YtmnbolcmepihlaaGreat
open Go
set_option maxRecDepth 100000
set_option linter.all false
noncomputable section
def iY(xa0:Int):Option Bool:=
 some (!decide (xa0=xa0))
def lQ(xa0:Int)(y:Int):Option Bool:=
 bnd (fD xa0) λ(az:Bool)=>(bif az then bnd (fD y) λ(aH:Bool)=>(bif !aH then some true else some (decide (xa0<y)))else some (decide (xa0<y)))
def eC(xa0:List Int)(target:Int):Option (Int×Bool):=
 whl (λ(Z1:(Int×Int)→Option _) (sg:Int×Int)=>match sg with|(i_1,j_1)=>bif decide (i_1<j_1)then bnd (elO xa0 (w64 (Int.fdiv (IntKind.wrap .u64 (w64 (i_1+j_1))) (2 ^ min (1:Int).toNat 64)))) λ(e_1:Int)=>bnd (lQ e_1 target) λ(az:Bool)=>bif az then Z1 (w64 ((w64 (Int.fdiv (IntKind.wrap .u64 (w64 (i_1+j_1))) (2 ^ min (1:Int).toNat 64)))+(1:Int)),j_1)else Z1 (i_1,w64 (Int.fdiv (IntKind.wrap .u64 (w64 (i_1+j_1))) (2 ^ min (1:Int).toNat 64)))else(bif decide (i_1<(xa0.length:Int))then bnd (elO xa0 i_1) λ(e_2:Int)=>(bif decide (e_2=target)then some (i_1,true)else bnd (iY e_2) λ(aH:Bool)=>(bif aH then bnd (iY target) λ(bA:Bool)=>some (i_1,bA)else some (i_1,false)))else some (i_1,false))) ((0:Int),(xa0.length:Int))
def gD(n:Int):Option Bool:=
 some ((decide (1≤n))&&(decide (n≤99)))
def ir(t:aQ):Option (List (Int×Bool)):=
 whl (λ(Z1:(Bool×(List (Int×Bool)))→Option _) (sg:Bool×(List (Int×Bool)))=>match sg with|(rS,m_1)=>bif rS then bz t.Links 0 (λ(j2:Int) (e2:aC) (Z2:(Bool×(List (Int×Bool)))→Option _) (sg:Bool×(List (Int×Bool)))=>match sg with|(lR,m_2)=>jn (λ(sg:Bool×(List (Int×Bool)))=>match sg with|(rT,m_3)=>Z2 (rT,m_3)) λJ1=>bif (((aT m_2 e2.aD).getD false)&&(!((aT m_2 e2.To).getD false)))then J1 (true,bG m_2 e2.To true)else J1 (lR,m_2)) (λ(sg:Bool×(List (Int×Bool)))=>match sg with|(lR,m_2)=>Z1 (lR,m_2)) (false,m_1)else some m_1) (true,bG [] t.bx true)
def fI(t:aQ):Option Int:=
 bnd (gD t.bx) λ(az:Bool)=>bif !az then some (2:Int)else bz t.Links 0 (λ(j1:Int) (e1:aC) (Z1:Unit→Option _) (sg:Unit)=>match sg with|()=>jn (λ(v_1:Bool)=>bif v_1 then some (2:Int)else Z1 ()) λJ1=>bnd (gD e1.aD) λ(aH:Bool)=>(bif !aH then J1 true else bnd (gD e1.To) λ(bA:Bool)=>J1 (!bA))) (λ(sg:Unit)=>match sg with|()=>bz (List.drop 1 t.Links) 1 (λ(j2:Int) (e2:aC) (Z2:Unit→Option _) (sg:Unit)=>match sg with|()=>bnd (elO t.Links (w64 ((j2:Int)-(1:Int)))) λ(e_1:aC)=>bnd (cv e_1.aD e2.aD) λ(bU:Int)=>bnd (cv e_1.To e2.To) λ(dP:Int)=>bnd (fm ([bU,dP]:List Int)) λ(cV:Int)=>bif decide (0≤cV)then some (25:Int)else Z2 ()) (λ(sg:Unit)=>match sg with|()=>bz t.Links 0 (λ(j3:Int) (e3:aC) (Z3:(List (Int×Bool))→Option _) (m_1:(List (Int×Bool)))=>bif ((aT m_1 e3.To).getD false)then some (8:Int)else Z3 (bG m_1 e3.To true)) (λ(m_1:(List (Int×Bool)))=>bnd (ir t) λ(cB:(List (Int×Bool)))=>bz t.Links 0 (λ(j4:Int) (e4:aC) (Z4:Unit→Option _) (sg:Unit)=>match sg with|()=>bif !((aT cB e4.aD).getD false)then some (10:Int)else Z4 ()) (λ(sg:Unit)=>match sg with|()=>some (0:Int)) ()) (bG [] t.bx true)) ()) ()
def iu(t:aQ):Option (List Int):=
 bnd (fI t) λ(az:Int)=>bif !decide (az=0)then some []else bz t.Links 0 (λ(j1:Int) (e1:aC) (Z1:(List Int)→Option _) (b9:(List Int))=>bnd (iD b9 ([e1.To]:List Int)) λ(l_1:List Int)=>Z1 l_1) (λ(b9:(List Int))=>chk (decide (b9.length<4611686018427387904))<|some (gL b9)) ([t.bx]:List Int)
end
end Go.Proofs.YtmnbolcmepihlaaGreat
namespace Go.Proofs.YtmnbolcmepihlaaGreat
open Go
set_option maxRecDepth 100000
set_option linter.all false
noncomputable section
def kN(a:aC)(b:aC):Option Int:=
 bnd (cv a.aD b.aD) λ(az:Int)=>bnd (cv a.To b.To) λ(aH:Int)=>bnd (fm ([az,aH]:List Int)) λ(bA:Int)=>some bA
def pJ(a:ai)(b:ai):Option Int:=
 bnd (cv a.Hop.aD b.Hop.aD) λ(az:Int)=>bnd (cv a.Hop.To b.Hop.To) λ(aH:Int)=>bnd (fm ([az,aH]:List Int)) λ(bA:Int)=>some bA
def kO(a:bQ)(b:bQ):Option Int:=
 bnd (cv a.aD b.aD) λ(az:Int)=>bnd (cv a.To b.To) λ(aH:Int)=>bnd (fm ([az,aH]:List Int)) λ(bA:Int)=>some bA
end
end Go.Proofs.YtmnbolcmepihlaaGreat
namespace Go.Proofs.YtmnbolcmepihlaaGreat
open Go
set_option maxRecDepth 100000
set_option linter.all false
noncomputable section
def pK(t:af):Option (List ai):=
 bz t.Links 0 (λ(j1:Int) (e1:aU) (Z1:(List ai)→Option _) (b9:(List ai))=>bnd (iD b9 ([(ai.mk (aC.mk e1.A e1.B) e1.ec),(ai.mk (aC.mk e1.B e1.A) e1.eB)]:List ai)) λ(l_1:List ai)=>Z1 l_1) (λ(b9:(List ai))=>bnd (jQ (cR [λx:ai=>x.Hop.aD,λx:ai=>x.Hop.To]) b9) λ(l_2:List ai)=>some l_2) []
end
end Go.Proofs.YtmnbolcmepihlaaGreat
namespace Go.Proofs.YtmnbolcmepihlaaGreat
open Go
set_option maxRecDepth 100000
set_option linter.all false
noncomputable section
def iw(l:List Int):Option Bool:=
 bz (List.drop 1 l) 1 (λ(j1:Int) (e1:Int) (Z1:Unit→Option _) (sg:Unit)=>match sg with|()=>bnd (elO l (w64 ((j1:Int)-(1:Int)))) λ(e_1:Int)=>bif decide (e1≤e_1)then some false else Z1 ()) (λ(sg:Unit)=>match sg with|()=>some true) ()
def iy(t:af)(xa1:aQ)(receivers:List Int):Option Int:=
 bnd (gu t) λ(az:Int)=>bif !decide (az=0)then some (1:Int)else bnd (fI xa1) λ(aH:Int)=>bif !decide (aH=0)then some aH else bnd (iD ([xa1.bx]:List Int) receivers) λ(l_1:List Int)=>bz l_1 0 (λ(j1:Int) (e1:Int) (Z1:Unit→Option _) (sg:Unit)=>match sg with|()=>bnd (jx t e1) λ(bA:Bool)=>bif !bA then some (4:Int)else Z1 ()) (λ(sg:Unit)=>match sg with|()=>bz xa1.Links 0 (λ(j2:Int) (e2:aC) (Z2:Unit→Option _) (sg:Unit)=>match sg with|()=>bnd (kK t e2.aD e2.To) λ(bU:Int×Bool)=>bif !bU.2 then some (4:Int)else Z2 ()) (λ(sg:Unit)=>match sg with|()=>bnd (iw receivers) λ(dP:Bool)=>bif !dP then some (25:Int)else bnd (iu xa1) λ(cV:(List Int))=>bz receivers 0 (λ(j3:Int) (e3:Int) (Z3:Unit→Option _) (sg:Unit)=>match sg with|()=>bnd (fq cV e3) λ(cB:Bool)=>bif !cB then some (9:Int)else Z3 ()) (λ(sg:Unit)=>match sg with|()=>some (0:Int)) ()) ()) ()
end
end Go.Proofs.YtmnbolcmepihlaaGreat
namespace Go.Proofs.YtmnbolcmepihlaaGreat
open Go
set_option maxRecDepth 100000
set_option linter.all false
noncomputable section
def jj(t:af)(xa1:aQ)(receivers:List Int):Option Int:=
 bnd (gX t) λ(az:Int)=>bif !decide (az=0)then some (1:Int)else bnd (gV xa1) λ(aH:Int)=>bif !decide (aH=0)then some aH else bnd (gn t xa1.bx) λ(bA:Bool)=>bif !bA then some (4:Int)else bz receivers 0 (λ(j1:Int) (e1:Int) (Z1:Unit→Option _) (sg:Unit)=>match sg with|()=>bnd (gn t e1) λ(bU:Bool)=>bif !bU then some (4:Int)else Z1 ()) (λ(sg:Unit)=>match sg with|()=>bz xa1.Links 0 (λ(j2:Int) (e2:aC) (Z2:Unit→Option _) (sg:Unit)=>match sg with|()=>bnd (lK t e2.aD e2.To) λ(dP:Int×Bool)=>bif !dP.2 then some (4:Int)else Z2 ()) (λ(sg:Unit)=>match sg with|()=>bnd (gW receivers) λ(cV:Bool)=>bif !cV then some (25:Int)else bnd (kM xa1) λ(cB:(List Int))=>bz receivers 0 (λ(j3:Int) (e3:Int) (Z3:Unit→Option _) (sg:Unit)=>match sg with|()=>bnd (fS cB e3) λ(gd:Bool)=>bif !gd then some (9:Int)else Z3 ()) (λ(sg:Unit)=>match sg with|()=>some (0:Int)) ()) ()) ()
def jH(t:af)(xa1:aQ):Option (Int×Int):=
 bnd (jj t xa1 []) λ(az:Int)=>bif !decide (az=0)then some ((0:Int),az)else bz xa1.Links 0 (λ(j1:Int) (e1:aC) (Z1:Int→Option _) (n_1:Int)=>bnd (lK t e1.aD e1.To) λ(aH:Int×Bool)=>Z1 (w64 (n_1+aH.1))) (λ(n_1:Int)=>some (n_1,(0:Int))) (0:Int)
def mC(t:af)(root:Int)(receivers:List Int):Option Int:=
 bnd (gX t) λ(az:Int)=>bif !decide (az=0)then some (1:Int)else bnd (gW receivers) λ(aH:Bool)=>bif !aH then some (25:Int)else bnd (iD ([root]:List Int) receivers) λ(l_1:List Int)=>bz l_1 0 (λ(j1:Int) (e1:Int) (Z1:Unit→Option _) (sg:Unit)=>match sg with|()=>bnd (gn t e1) λ(bA:Bool)=>bif !bA then some (4:Int)else Z1 ()) (λ(sg:Unit)=>match sg with|()=>some (0:Int)) ()
end
end Go.Proofs.YtmnbolcmepihlaaGreat
namespace Go.Proofs.YtmnbolcmepihlaaGreat
open Go
set_option maxRecDepth 100000
set_option linter.all false
noncomputable section
def mD(t:af)(ra1:Int):Option Int:=
 bz t.ay 0 (λ(j1:Int) (e1:aW) (Z1:Unit→Option _) (sg:Unit)=>match sg with|()=>bif decide (e1.ID=ra1)then some (j1:Int)else Z1 ()) (λ(sg:Unit)=>match sg with|()=>some (0:Int)) ()
def pL(t:af)(wW:Int):Option (List Int):=
 chk (decide (0≤(t.ay.length:Int))&&decide ((t.ay.length:Int)≤4294967296))<|whl (λ(Z1:((List Int)×Int)→Option _) (sg:(List Int)×Int)=>match sg with|(d_1,i_1)=>bif decide (i_1<(d_1.length:Int))then jn (λ(d_2:(List Int))=>Z1 (d_2,w64 (i_1+1))) λJ1=>bnd (elO d_1 i_1) λ(e_1:Int)=>bnd (jU d_1 i_1 (1073741824:Int)) λ(l_1:List Int)=>bnd (elO t.ay i_1) λ(e_2:aW)=>bif decide (e_2.ID=wW)then bnd (elO l_1 i_1) λ(e_3:Int)=>bnd (jU l_1 i_1 (0:Int)) λ(l_2:List Int)=>J1 l_2 else J1 l_1 else whl (λ(Z2:((List Int)×Int)→Option _) (sg:(List Int)×Int)=>match sg with|(d_3,jY)=>bif decide (jY<(d_3.length:Int))then bz t.Links 0 (λ(j3:Int) (e3:aU) (Z3:(List Int)→Option _) (d_4:(List Int))=>jn (λ(d_5:(List Int))=>Z3 d_5) λJ2=>bnd (mD t e3.A) λ(az:Int)=>bnd (mD t e3.B) λ(aH:Int)=>jn (λ(d_6:(List Int))=>bnd (elO d_6 az) λ(e_6:Int)=>bif decide (e_6<1073741824)then bnd (elO d_6 aH) λ(e_7:Int)=>bnd (jU d_6 aH (if(w64 (e3.eB+e_6))<e_7 then w64 (e3.eB+e_6)else e_7)) λ(l_4:List Int)=>J2 l_4 else J2 d_6) λJ3=>bnd (elO d_4 aH) λ(e_4:Int)=>bif decide (e_4<1073741824)then bnd (elO d_4 az) λ(e_5:Int)=>bnd (jU d_4 az (if(w64 (e3.ec+e_4))<e_5 then w64 (e3.ec+e_4)else e_5)) λ(l_3:List Int)=>J3 l_3 else J3 d_4) (λ(d_4:(List Int))=>Z2 (d_4,w64 (jY+1))) d_3 else some d_3) (d_1,(0:Int))) ((List.replicate ((t.ay.length:Int)).toNat (0:Int)),(0:Int))
def nK(t:af)(d:List Int)(ra2:Int):Option Int:=
 bz t.ay 0 (λ(j1:Int) (e1:aW) (Z1:Unit→Option _) (sg:Unit)=>match sg with|()=>bif decide (e1.ID=ra2)then bnd (elO d (j1:Int)) λ(e_1:Int)=>some e_1 else Z1 ()) (λ(sg:Unit)=>match sg with|()=>some (1073741824:Int)) ()
def nj(t:af)(dA:Int)(ff:Int):Option (Int×Bool):=
 jn (λ(v_1:Bool)=>bif v_1 then some ((0:Int),false)else bnd (pL t ff) λ(bA:(List Int))=>bnd (nK t bA dA) λ(bU:Int)=>bif decide (bU=1073741824)then some ((0:Int),false)else some (bU,true)) λJ1=>bnd (gn t dA) λ(az:Bool)=>(bif !az then J1 true else bnd (gn t ff) λ(aH:Bool)=>J1 (!aH))
def jk(t:af)(root:Int)(receivers:List Int):Option Bool:=
 bz receivers 0 (λ(j1:Int) (e1:Int) (Z1:Unit→Option _) (sg:Unit)=>match sg with|()=>bnd (nj t root e1) λ(az:Int×Bool)=>bif !az.2 then some false else Z1 ()) (λ(sg:Unit)=>match sg with|()=>some true) ()
def mE(t:af):Option ((List (List Int))×(Vec 100)):=
 bz t.ay 0 (λ(j1:Int) (e1:aW) (Z1:(Vec 100)→Option _) (m_1:(Vec 100))=>bnd (elO m_1.l e1.ID) λ(e_1:Int)=>Z1 (Vec.put m_1 e1.ID.toNat (j1:Int))) (λ(m_1:(Vec 100))=>chk (decide (0<(t.ay.length:Int))&&decide ((t.ay.length:Int)≤4294967296))<|chk (decide (((List.replicate (t.ay.length:Int).toNat []:List (List Int)).length:Int)≤9223372036854775807))<|jf (((List.replicate (t.ay.length:Int).toNat []:List (List Int)).length:Int)-(0:Int)).toNat (0:Int) (λ(j2:Int) (Z2:(List (List Int))→Option _) (m_2:(List (List Int)))=>chk (decide (0≤(t.ay.length:Int))&&decide ((t.ay.length:Int)≤4294967296))<|bnd (elO m_2 (j2:Int)) λ(e_2:List Int)=>Z2 (List.set m_2 (j2:Int).toNat (List.replicate ((t.ay.length:Int)).toNat (0:Int)))) (λ(j2:Int) (m_2:(List (List Int)))=>bz t.Links 0 (λ(j3:Int) (e3:aU) (Z3:(List (List Int))→Option _) (m_3:(List (List Int)))=>bnd (elO m_1.l e3.A) λ(e_3:Int)=>bnd (elO m_3 e_3) λ(e_4:List Int)=>bnd (elO m_1.l e3.B) λ(e_5:Int)=>bnd (elO m_3 e_5) λ(e_6:List Int)=>bnd (elO e_4 e_5) λ(e_7:Int)=>bnd (elO (List.set m_3 e_3.toNat (List.set e_4 e_5.toNat e3.ec)) e_5) λ(e_8:List Int)=>bnd (elO e_8 e_3) λ(e_9:Int)=>Z3 (List.set (List.set m_3 e_3.toNat (List.set e_4 e_5.toNat e3.ec)) e_5.toNat (List.set e_8 e_3.toNat e3.eB))) (λ(m_3:(List (List Int)))=>some (m_3,m_1)) m_2) (List.replicate (t.ay.length:Int).toNat []:List (List Int))) (Vec.zero 100)
def mF(ck:List (List Int))(root:Int)(receivers:List Int):Option Int:=
 chk (decide (0≤IntKind.wrap .u64 (receivers.length:Int)))<|chk (decide (0<IntKind.wrap .i64 ((1:Int)*2 ^ min (IntKind.wrap .u64 (receivers.length:Int)).toNat 64))&&decide (IntKind.wrap .i64 ((1:Int)*2 ^ min (IntKind.wrap .u64 (receivers.length:Int)).toNat 64)≤4294967296))<|chk (decide (((List.replicate (IntKind.wrap .i64 ((1:Int)*2 ^ min (IntKind.wrap .u64 (receivers.length:Int)).toNat 64)).toNat []:List (List Int)).length:Int)≤9223372036854775807))<|jf (((List.replicate (IntKind.wrap .i64 ((1:Int)*2 ^ min (IntKind.wrap .u64 (receivers.length:Int)).toNat 64)).toNat []:List (List Int)).length:Int)-(0:Int)).toNat (0:Int) (λ(j1:Int) (Z1:(List (List Int))→Option _) (m_1:(List (List Int)))=>chk (decide (0≤(ck.length:Int))&&decide ((ck.length:Int)≤4294967296))<|bnd (elO m_1 (j1:Int)) λ(e_1:List Int)=>bnd (elO (List.set m_1 (j1:Int).toNat (List.replicate ((ck.length:Int)).toNat (0:Int))) (j1:Int)) λ(e_2:List Int)=>chk (decide ((e_2.length:Int)≤9223372036854775807))<|jf ((e_2.length:Int)-(0:Int)).toNat (0:Int) (λ(j2:Int) (Z2:(List (List Int))→Option _) (m_2:(List (List Int)))=>jn (λ(m_3:(List (List Int)))=>Z2 m_3) λJ1=>bnd (elO m_2 (j1:Int)) λ(e_3:List Int)=>bnd (elO e_3 (j2:Int)) λ(e_4:Int)=>bif decide ((j1:Int)=(0:Int))then bnd (elO (List.set m_2 (j1:Int).toNat (List.set e_3 (j2:Int).toNat (1099511627776:Int))) (j1:Int)) λ(e_5:List Int)=>bnd (elO e_5 (j2:Int)) λ(e_6:Int)=>J1 (List.set (List.set m_2 (j1:Int).toNat (List.set e_3 (j2:Int).toNat (1099511627776:Int))) (j1:Int).toNat (List.set e_5 (j2:Int).toNat (0:Int)))else J1 (List.set m_2 (j1:Int).toNat (List.set e_3 (j2:Int).toNat (1099511627776:Int)))) (λ(j2:Int) (m_2:(List (List Int)))=>bz receivers 0 (λ(j3:Int) (e3:Int) (Z3:(List (List Int))→Option _) (m_4:(List (List Int)))=>jn (λ(m_5:(List (List Int)))=>Z3 m_5) λJ2=>chk (decide (0≤IntKind.wrap .u64 (j3:Int)))<|bif decide ((j1:Int)=IntKind.wrap .i64 ((1:Int)*2 ^ min (IntKind.wrap .u64 (j3:Int)).toNat 64))then bnd (elO m_4 (j1:Int)) λ(e_7:List Int)=>bnd (elO e_7 e3) λ(e_8:Int)=>J2 (List.set m_4 (j1:Int).toNat (List.set e_7 e3.toNat (0:Int)))else J2 m_4) (λ(m_4:(List (List Int)))=>whl (λ(Z4:(Int×(List (List Int)))→Option _) (sg:Int×(List (List Int)))=>match sg with|(v_1,m_6)=>bif ((decide (v_1<(ck.length:Int)))&&(decide (0<(j1:Int))))then whl (λ(Z5:(Int×(List (List Int)))→Option _) (sg:Int×(List (List Int)))=>match sg with|(nk,m_7)=>bif decide (0<nk)then bnd (elO m_7 (j1:Int)) λ(e_9:List Int)=>bnd (elO e_9 v_1) λ(vk:Int)=>bnd (elO m_7 nk) λ(aps:List Int)=>bnd (elO aps v_1) λ(vl:Int)=>bnd (elO m_7 (eZ .xor .i64 (j1:Int) nk)) λ(apt:List Int)=>bnd (elO apt v_1) λ(vm:Int)=>Z5 (eZ .and .i64 (w64 (nk-1)) (j1:Int),(List.set m_7 (j1:Int).toNat (List.set e_9 v_1.toNat (if(w64 (vl+vm))<vk then w64 (vl+vm)else vk))))else Z4 (w64 (v_1+1),m_7)) (eZ .and .i64 (w64 ((j1:Int)-(1:Int))) (j1:Int),m_6)else whl (λ(Z6:(Bool×(List (List Int)))→Option _) (sg:Bool×(List (List Int)))=>match sg with|(gC,m_8)=>bif gC then bz ck 0 (λ(j7:Int) (e7:List Int) (Z7:(Bool×(List (List Int)))→Option _) (sg:Bool×(List (List Int)))=>match sg with|(ef,m_9)=>bz ck 0 (λ(j8:Int) (e8:List Int) (Z8:(Bool×(List (List Int)))→Option _) (sg:Bool×(List (List Int)))=>match sg with|(eR,gw)=>jn (λ(sg:Bool×(List (List Int)))=>match sg with|(oM,qh)=>Z8 (oM,qh)) λJ3=>jn (λ(v_2:Bool)=>bif v_2 then bnd (elO gw (j1:Int)) λ(aaD:List Int)=>bnd (elO e7 (j8:Int)) λ(acU:Int)=>bnd (elO aaD (j8:Int)) λ(acV:Int)=>bnd (elO aaD (j7:Int)) λ(e_22:Int)=>J3 (true,(List.set gw (j1:Int).toNat (List.set aaD (j7:Int).toNat (w64 (acU+acV)))))else J3 (eR,gw)) λJ4=>bnd (elO e7 (j8:Int)) λ(acW:Int)=>(bif decide (0<acW)then bnd (elO gw (j1:Int)) λ(aic:List Int)=>bnd (elO aic (j8:Int)) λ(ae3:Int)=>bnd (elO aic (j7:Int)) λ(ae4:Int)=>J4 (decide (w64 (acW+ae3)<ae4))else J4 false)) (λ(sg:Bool×(List (List Int)))=>match sg with|(eR,gw)=>Z7 (eR,gw)) (ef,m_9)) (λ(sg:Bool×(List (List Int)))=>match sg with|(ef,m_9)=>Z6 (ef,m_9)) (false,m_8)else Z1 m_8) (decide (0<(j1:Int)),m_6)) ((0:Int),m_4)) m_2) (List.set m_1 (j1:Int).toNat (List.replicate ((ck.length:Int)).toNat (0:Int)))) (λ(j1:Int) (m_1:(List (List Int)))=>bnd (elO m_1 (w64 ((m_1.length:Int)-(1:Int)))) λ(apu:List Int)=>bnd (elO apu root) λ(aid:Int)=>some aid) (List.replicate (IntKind.wrap .i64 ((1:Int)*2 ^ min (IntKind.wrap .u64 (receivers.length:Int)).toNat 64)).toNat []:List (List Int))
def iJ(t:af)(root:Int)(receivers:List Int):Option (Int×Int):=
 bnd (mC t root receivers) λ(az:Int)=>bif !decide (az=0)then some ((0:Int),az)else bif decide (6<(receivers.length:Int))then some ((0:Int),(3:Int))else bnd (jk t root receivers) λ(aH:Bool)=>bif !aH then some ((0:Int),(9:Int))else bnd (mE t) λ(bA:(List (List Int))×(Vec 100))=>bz receivers 0 (λ(j1:Int) (e1:Int) (Z1:(List Int)→Option _) (l_1:(List Int))=>bnd (elO bA.2.l e1) λ(e_1:Int)=>bnd (iD l_1 ([e_1]:List Int)) λ(l_2:List Int)=>Z1 l_2) (λ(l_1:(List Int))=>bnd (elO bA.2.l root) λ(e_2:Int)=>bnd (mF bA.1 e_2 l_1) λ(bU:Int)=>some (bU,(0:Int))) []
end
end Go.Proofs.YtmnbolcmepihlaaGreat
namespace Go.Proofs.YtmnbolcmepihlaaGreat
open Go
set_option maxRecDepth 100000
set_option linter.all false
noncomputable section
def jJ(t:af)(d:bf):Option Int:=
 bif decide (6<(d.bY.length:Int))then some (3:Int)else bz (List.drop 1 d.bY) 1 (λ(j1:Int) (e1:Int) (Z1:Unit→Option _) (sg:Unit)=>match sg with|()=>bnd (elO d.bY (w64 ((j1:Int)-(1:Int)))) λ(e_1:Int)=>bif decide (e1≤e_1)then some (25:Int)else Z1 ()) (λ(sg:Unit)=>match sg with|()=>bnd (iD ([d.bx]:List Int) d.bY) λ(l_1:List Int)=>bz l_1 0 (λ(j2:Int) (e2:Int) (Z2:Unit→Option _) (sg:Unit)=>match sg with|()=>bnd (jx t e2) λ(az:Bool)=>bif !az then some (4:Int)else Z2 ()) (λ(sg:Unit)=>match sg with|()=>bif ((decide (d.gb<1))||(decide (1000<d.gb)))then some (2:Int)else some (0:Int)) ()) ()
def gx(t:af)(bO:List bf):Option Int:=
 bnd (gu t) λ(az:Int)=>bif !decide (az=0)then some (1:Int)else bif decide (12<(bO.length:Int))then some (3:Int)else bz bO 0 (λ(j1:Int) (e1:bf) (Z1:Unit→Option _) (sg:Unit)=>match sg with|()=>bnd (jJ t e1) λ(aH:Int)=>bif !decide (aH=0)then some aH else Z1 ()) (λ(sg:Unit)=>match sg with|()=>some (0:Int)) ()
def iK(t:af):Option (List (aC×Int)):=
 bz t.Links 0 (λ(j1:Int) (e1:aU) (Z1:(List (aC×Int))→Option _) (m_1:(List (aC×Int)))=>Z1 (eo bt (eo bt m_1 (aC.mk e1.A e1.B) e1.eE) (aC.mk e1.B e1.A) e1.eE)) (λ(m_1:(List (aC×Int)))=>some m_1) []
def dy(sa0:List ai)(del:ai→Option Bool):Option (List ai):=
 bnd (ei sa0 del) λ(az:Int)=>bif decide (az=(-1:Int))then some sa0 else whl (λ(Z1:((List ai)×Int×Int)→Option _) (sg:(List ai)×Int×Int)=>match sg with|(mg,i_1,j_1)=>bif decide (j_1<(mg.length:Int))then jn (λ(sg:(List ai)×Int)=>match sg with|(aaK,i_2)=>Z1 (aaK,i_2,w64 (j_1+1))) λJ1=>bnd (elO mg j_1) λ(e_1:ai)=>bnd (del e_1) λ(aH:Bool)=>bif !aH then bnd (elO mg i_1) λ(e_2:ai)=>bnd (jU mg i_1 e_1) λ(l_1:List ai)=>J1 (l_1,w64 (i_1+1))else J1 (mg,i_1)else chk (decide (0≤i_1∧i_1<(mg.length:Int)))<|bnd (nM (mg.take i_1.toNat++List.replicate (mg.length-i_1.toNat) (ai.mk (aC.mk (0:Int) (0:Int)) (0:Int))) (0:Int) i_1) λ(l_2:List ai)=>some l_2) (sa0,az,w64 (az+1))
def ij(a:ai)(c_0:List (aC×Int))(c_1:Int):Option Bool:=
 some (decide (((bX bt c_0 a.Hop).getD (0:Int))<c_1))
def fJ(ra0:List (aC×Int))(t:af)(gP:Int):Option (List ai):=
 bnd (pK t) λ(az:(List ai))=>bnd (dy az (λ(y0:ai)=>ij y0 ra0 gP)) λ(aH:(List ai))=>some aH
def cI(ra0:List (aC×Int))(xa1:aQ)(gP:Int):Option (Bool×(List (aC×Int))):=
 bz xa1.Links 0 (λ(j1:Int) (e1:aC) (Z1:(Bool×(List (aC×Int)))→Option _) (sg:Bool×(List (aC×Int)))=>match sg with|(nZ,m_1)=>chk (bX bt m_1 e1).isSome<|(bif nZ then Z1 (decide (0≤((bX bt (eo bt m_1 e1 (w64 (((bX bt m_1 e1).getD (0:Int))-gP))) e1).getD (0:Int))),eo bt m_1 e1 (w64 (((bX bt m_1 e1).getD (0:Int))-gP)))else Z1 (false,eo bt m_1 e1 (w64 (((bX bt m_1 e1).getD (0:Int))-gP))))) (λ(sg:Bool×(List (aC×Int)))=>match sg with|(nZ,m_1)=>some (nZ,m_1)) (true,ra0)
def kQ(xa0:aQ):Option Bool:=
 some ((decide (xa0.bx=0))&&(decide ((xa0.Links.length:Int)=(0:Int))))
end
end Go.Proofs.YtmnbolcmepihlaaGreat
namespace Go.Proofs.YtmnbolcmepihlaaGreat
open Go
set_option maxRecDepth 100000
set_option linter.all false
noncomputable section
def kR(aq:List ai)(root:Int):Option (List Int):=
 whl (λ(Z1:((List Int)×Int×(List (Int×Bool)))→Option _) (sg:(List Int)×Int×(List (Int×Bool)))=>match sg with|(b9,i_1,m_1)=>bif decide (i_1<(b9.length:Int))then bz aq 0 (λ(j2:Int) (e2:ai) (Z2:((List Int)×(List (Int×Bool)))→Option _) (sg:(List Int)×(List (Int×Bool)))=>match sg with|(jd,m_2)=>jn (λ(sg:(List Int)×(List (Int×Bool)))=>match sg with|(xR,m_3)=>Z2 (xR,m_3)) λJ1=>jn (λ(v_1:Bool)=>bif v_1 then bnd (iD jd ([e2.Hop.To]:List Int)) λ(l_1:List Int)=>J1 (l_1,bG m_2 e2.Hop.To true)else J1 (jd,m_2)) λJ2=>bnd (elO jd i_1) λ(e_1:Int)=>(bif decide (e2.Hop.aD=e_1)then J2 (!((aT m_2 e2.Hop.To).getD false))else J2 false)) (λ(sg:(List Int)×(List (Int×Bool)))=>match sg with|(jd,m_2)=>Z1 (jd,w64 (i_1+1),m_2)) (b9,m_1)else chk (decide (b9.length<4611686018427387904))<|some (gL b9)) (([root]:List Int),(0:Int),bG [] root true)
def jM(t:af)(ra1:List (aC×Int))(d:bf):Option ((List Int)×Bool):=
 bnd (fJ ra1 t d.gb) λ(az:(List ai))=>bnd (kR az d.bx) λ(aH:(List Int))=>bz d.bY 0 (λ(j1:Int) (e1:Int) (Z1:Unit→Option _) (sg:Unit)=>match sg with|()=>bnd (eC aH e1) λ(bA:Int×Bool)=>bif !bA.2 then some (aH,false)else Z1 ()) (λ(sg:Unit)=>match sg with|()=>some (aH,true)) ()
def gE(t:af)(rest:List bQ)(d:bf):Option ((List Int)×Int):=
 bnd (gx t ([d]:List bf)) λ(az:Int)=>bif !decide (az=0)then some ([],az)else bnd (mh rest) λ(aH:(List (aC×Int)))=>bnd (jM t aH d) λ(bA:(List Int)×Bool)=>bif bA.2 then some ([],(9:Int))else some (bA.1,(0:Int))
def gQ(t:af)(bO:List bf)(l:List aQ):Option ((List bQ)×Int):=
 bnd (gx t bO) λ(az:Int)=>bif !decide (az=0)then some ([],az)else bif decide ((bO.length:Int)<(l.length:Int))then some ([],(8:Int))else bnd (iK t) λ(aH:(List (aC×Int)))=>bz l 0 (λ(j1:Int) (e1:aQ) (Z1:(List (aC×Int))→Option _) (m_1:(List (aC×Int)))=>jn (λ(sg:Bool×(List (aC×Int)))=>match sg with|(v_1,m_2)=>bif v_1 then some ([],(1:Int))else Z1 m_2) λJ1=>bnd (kQ e1) λ(bA:Bool)=>(bif !bA then bnd (iy t e1 []) λ(bU:Int)=>(bif !decide (bU=0)then J1 (true,m_1)else bnd (elO bO (j1:Int)) λ(e_1:bf)=>bnd (cI m_1 e1 e_1.gb) λ(dP:Bool×(List (aC×Int)))=>J1 (!dP.1,dP.2))else bnd (elO bO (j1:Int)) λ(e_2:bf)=>bnd (cI m_1 e1 e_2.gb) λ(cV:Bool×(List (aC×Int)))=>J1 (!cV.1,cV.2))) (λ(m_1:(List (aC×Int)))=>bnd (jL m_1) λ(cB:(List bQ))=>some (cB,(0:Int))) aH
end
end Go.Proofs.YtmnbolcmepihlaaGreat
namespace Go.Proofs.YtmnbolcmepihlaaGreat
open Go
set_option maxRecDepth 100000
set_option linter.all false
noncomputable section
def fT{β:Type}(t:af)(bO:List bf)(K0:((List aQ)×Int)→Option β):Option β:=
 bnd (gx t bO) λ(az:Int)=>bif !decide (az=0)then K0 ([],az)else bnd (iK t) λ(aH:(List (aC×Int)))=>chk (decide (0≤(bO.length:Int))&&decide ((bO.length:Int)≤4294967296))<|bz bO 0 (λ(j1:Int) (e1:bf) (Z1:((List aQ)×(List (aC×Int)))→Option _) (sg:(List aQ)×(List (aC×Int)))=>match sg with|(b9,m_1)=>jn (λ(sg:(List aQ)×(List (aC×Int)))=>match sg with|(jd,m_2)=>Z1 (jd,m_2)) λJ1=>bnd (fJ m_1 t e1.gb) λ(bA:(List ai))=>jI bA e1.bx e1.bY λ(bU:(List aC)×Int×Bool)=>bif bU.2.2 then bnd (elO b9 (j1:Int)) λ(e_1:aQ)=>bnd (jU b9 (j1:Int) (aQ.mk e1.bx bU.1)) λ(l_1:List aQ)=>bnd (elO l_1 (j1:Int)) λ(e_2:aQ)=>bnd (cI m_1 e_2 e1.gb) λ(dP:Bool×(List (aC×Int)))=>J1 (l_1,dP.2)else J1 (b9,m_1)) (λ(sg:(List aQ)×(List (aC×Int)))=>match sg with|(b9,m_1)=>K0 (b9,(0:Int))) ((List.replicate ((bO.length:Int)).toNat (aQ.mk (0:Int) [])),aH)
end
end Go.Proofs.YtmnbolcmepihlaaGreat
