/- Several texts in one. No condition but those that stand in each. -/
import Derived.Test.YtmnbolcmepihlaaGreatWD
namespace Go.Proofs.YtmnbolcmepihlaaGreat
open Go
set_option maxRecDepth 100000
set_option linter.all false
noncomputable section
def lK(n:Int):Option Bool:=
 some ((decide (1≤n))&&(decide (n≤1000)))
def jD(t:aj)(ra1:Int):Option Bool:=
 bF t.ak 0 (λ(j1:Int) (e1:aK) (Z1:Unit→Option _) (sg:Unit)=>match sg with|()=>bif decide (e1.ID=ra1)then some true else Z1 ()) (λ(sg:Unit)=>match sg with|()=>some false) ()
def kO(t:aj)(cH:Int)(ez:Int):Option (Int×Bool):=
 bF t.Links 0 (λ(j1:Int) (e1:aU) (Z1:Unit→Option _) (sg:Unit)=>match sg with|()=>bif ((decide (e1.A=cH))&&(decide (e1.B=ez)))then some (e1.dL,true)else bif ((decide (e1.B=cH))&&(decide (e1.A=ez)))then some (e1.ep,true)else Z1 ()) (λ(sg:Unit)=>match sg with|()=>some ((0:Int),false)) ()
def gl(t:aj):Option Int:=
 bif ((decide (24<(t.ak.length:Int)))||(decide (60<(t.Links.length:Int))))then some (3:Int)else bF t.ak 0 (λ(j1:Int) (e1:aK) (Z1:Unit→Option _) (sg:Unit)=>match sg with|()=>bif ((decide (e1.ID<1))||(decide (99<e1.ID)))then some (2:Int)else Z1 ()) (λ(sg:Unit)=>match sg with|()=>bF (List.drop 1 t.ak) 1 (λ(j2:Int) (e2:aK) (Z2:Unit→Option _) (sg:Unit)=>match sg with|()=>bnd (elO t.ak (w64 ((j2:Int)-(1:Int)))) λ(e_1:aK)=>bif decide (e2.ID≤e_1.ID)then some (25:Int)else Z2 ()) (λ(sg:Unit)=>match sg with|()=>bF t.Links 0 (λ(j3:Int) (e3:aU) (Z3:Unit→Option _) (sg:Unit)=>match sg with|()=>jn (λ(v_1:Bool)=>bif v_1 then some (2:Int)else Z3 ()) λJ1=>bnd (lK e3.dL) λ(az:Bool)=>(bif !az then J1 true else bnd (lK e3.ep) λ(aD:Bool)=>(bif !aD then J1 true else(bif decide (e3.ku<0)then J1 true else J1 (decide (1000<e3.ku)))))) (λ(sg:Unit)=>match sg with|()=>bF t.Links 0 (λ(j4:Int) (e4:aU) (Z4:Unit→Option _) (sg:Unit)=>match sg with|()=>jn (λ(v_2:Bool)=>bif v_2 then some (4:Int)else Z4 ()) λJ2=>bnd (jD t e4.A) λ(bt:Bool)=>(bif !bt then J2 true else bnd (jD t e4.B) λ(bJ:Bool)=>J2 (!bJ))) (λ(sg:Unit)=>match sg with|()=>bF t.Links 0 (λ(j5:Int) (e5:aU) (Z5:Unit→Option _) (sg:Unit)=>match sg with|()=>bif decide (e5.B≤e5.A)then some (8:Int)else Z5 ()) (λ(sg:Unit)=>match sg with|()=>bF (List.drop 1 t.Links) 1 (λ(j6:Int) (e6:aU) (Z6:Unit→Option _) (sg:Unit)=>match sg with|()=>bnd (elO t.Links (w64 ((j6:Int)-(1:Int)))) λ(e_2:aU)=>bif ((decide (e6.A<e_2.A))||((decide (e_2.A=e6.A))&&(decide (e6.B≤e_2.B))))then some (25:Int)else Z6 ()) (λ(sg:Unit)=>match sg with|()=>some (0:Int)) ()) ()) ()) ()) ()) ()
end
end Go.Proofs.YtmnbolcmepihlaaGreat
namespace Go.Proofs.YtmnbolcmepihlaaGreat
open Go
set_option maxRecDepth 100000
set_option linter.all false
noncomputable section
def fB(t:aj)(ra1:Int):Option Bool:=
 bnd (gl t) λ(az:Int)=>(bif decide (az=0)then bnd (jD t ra1) λ(aD:Bool)=>some aD else some false)
def lM(t:aj)(cH:Int)(ez:Int):Option (Int×Bool):=
 bnd (gl t) λ(az:Int)=>bif !decide (az=0)then some ((0:Int),false)else bnd (kO t cH ez) λ(aD:Int×Bool)=>some (aD.1,aD.2)
end
end Go.Proofs.YtmnbolcmepihlaaGreat
namespace Go.Proofs.YtmnbolcmepihlaaGreat
open Go
set_option maxRecDepth 100000
set_option linter.all false
noncomputable section
def gX(xa0:Int):Option Bool:=
 some (!decide (xa0=xa0))
def cn(xa0:Int)(y:Int):Option Int:=
 bnd (gX xa0) λ(az:Bool)=>bnd (gX y) λ(aD:Bool)=>bif az then bif aD then some (0:Int)else some (-1:Int)else bif aD then some (1:Int)else bif decide (xa0<y)then some (-1:Int)else bif decide (y<xa0)then some (1:Int)else some (0:Int)
def fC(vals:List Int):Option Int:=
 bF vals 0 (λ(j1:Int) (e1:Int) (Z1:Unit→Option _) (sg:Unit)=>match sg with|()=>bif !decide (e1=0)then some e1 else Z1 ()) (λ(sg:Unit)=>match sg with|()=>some (0:Int)) ()
def bT(xa0:List aU)(target:aU)(cmp:aU→aU→Option Int):Option (Int×Bool):=
 whl (λ(Z1:(Int×Int)→Option _) (sg:Int×Int)=>match sg with|(i_1,j_1)=>bif decide (i_1<j_1)then bnd (elO xa0 (w64 (Int.fdiv (IntKind.wrap .u64 (w64 (i_1+j_1))) (2 ^ min (1:Int).toNat 64)))) λ(e_1:aU)=>bnd (cmp e_1 target) λ(az:Int)=>bif decide (az<0)then Z1 (w64 ((w64 (Int.fdiv (IntKind.wrap .u64 (w64 (i_1+j_1))) (2 ^ min (1:Int).toNat 64)))+(1:Int)),j_1)else Z1 (i_1,w64 (Int.fdiv (IntKind.wrap .u64 (w64 (i_1+j_1))) (2 ^ min (1:Int).toNat 64)))else(bif decide (i_1<(xa0.length:Int))then bnd (elO xa0 i_1) λ(e_2:aU)=>bnd (cmp e_2 target) λ(aD:Int)=>some (i_1,decide (aD=0))else some (i_1,false))) ((0:Int),(xa0.length:Int))
def bI(xa0:List aK)(target:Int)(cmp:aK→Int→Option Int):Option (Int×Bool):=
 whl (λ(Z1:(Int×Int)→Option _) (sg:Int×Int)=>match sg with|(i_1,j_1)=>bif decide (i_1<j_1)then bnd (elO xa0 (w64 (Int.fdiv (IntKind.wrap .u64 (w64 (i_1+j_1))) (2 ^ min (1:Int).toNat 64)))) λ(e_1:aK)=>bnd (cmp e_1 target) λ(az:Int)=>bif decide (az<0)then Z1 (w64 ((w64 (Int.fdiv (IntKind.wrap .u64 (w64 (i_1+j_1))) (2 ^ min (1:Int).toNat 64)))+(1:Int)),j_1)else Z1 (i_1,w64 (Int.fdiv (IntKind.wrap .u64 (w64 (i_1+j_1))) (2 ^ min (1:Int).toNat 64)))else(bif decide (i_1<(xa0.length:Int))then bnd (elO xa0 i_1) λ(e_2:aK)=>bnd (cmp e_2 target) λ(aD:Int)=>some (i_1,decide (aD=0))else some (i_1,false))) ((0:Int),(xa0.length:Int))
def gv(sa0:List Int)(v:Int):Option Int:=
 bF sa0 0 (λ(j1:Int) (e1:Int) (Z1:Unit→Option _) (sg:Unit)=>match sg with|()=>bif decide (v=e1)then some (j1:Int)else Z1 ()) (λ(sg:Unit)=>match sg with|()=>some (-1:Int)) ()
def dg(sa0:List aK)(f:aK→Option Bool):Option Int:=
 bF sa0 0 (λ(j1:Int) (e1:aK) (Z1:Unit→Option _) (sg:Unit)=>match sg with|()=>bnd (f e1) λ(az:Bool)=>bif az then some (j1:Int)else Z1 ()) (λ(sg:Unit)=>match sg with|()=>some (-1:Int)) ()
def dM(sa0:List aU)(f:aU→Option Bool):Option Int:=
 bF sa0 0 (λ(j1:Int) (e1:aU) (Z1:Unit→Option _) (sg:Unit)=>match sg with|()=>bnd (f e1) λ(az:Bool)=>bif az then some (j1:Int)else Z1 ()) (λ(sg:Unit)=>match sg with|()=>some (-1:Int)) ()
def gR(sa0:List Int)(f:Int→Option Bool):Option Int:=
 bF sa0 0 (λ(j1:Int) (e1:Int) (Z1:Unit→Option _) (sg:Unit)=>match sg with|()=>bnd (f e1) λ(az:Bool)=>bif az then some (j1:Int)else Z1 ()) (λ(sg:Unit)=>match sg with|()=>some (-1:Int)) ()
def cv(sa0:List Int)(v:Int):Option Bool:=
 bnd (gv sa0 v) λ(az:Int)=>some (decide (0≤az))
def cu(sa0:List aK)(f:aK→Option Bool):Option Bool:=
 bnd (dg sa0 f) λ(az:Int)=>some (decide (0≤az))
def bQ(sa0:List aU)(f:aU→Option Bool):Option Bool:=
 bnd (dM sa0 f) λ(az:Int)=>some (decide (0≤az))
def gd(sa0:List Int)(f:Int→Option Bool):Option Bool:=
 bnd (gR sa0 f) λ(az:Int)=>some (decide (0≤az))
def gm(n:Int)(least:Int)(most:Int):Option Bool:=
 some ((decide (least≤n))&&(decide (n≤most)))
def fN(a:aU)(b:aU):Option Int:=
 bnd (cn a.A b.A) λ(az:Int)=>bnd (cn a.B b.B) λ(aD:Int)=>bnd (fC ([az,aD]:List Int)) λ(bt:Int)=>some bt
def gY(ra0:aK)(id:Int):Option Int:=
 bnd (cn ra0.ID id) λ(az:Int)=>some az
def jh(ra0:aK):Option Bool:=
 bnd (gm ra0.ID (1:Int) (99:Int)) λ(az:Bool)=>some (!az)
def gT(l:aU):Option Bool:=
 bnd (gm l.dL (1:Int) (1000:Int)) λ(az:Bool)=>(bif !az then some true else bnd (gm l.ep (1:Int) (1000:Int)) λ(aD:Bool)=>(bif !aD then some true else bnd (gm l.ku (0:Int) (1000:Int)) λ(bt:Bool)=>some (!bt)))
def fO(id:Int)(c_0:aj):Option Bool:=
 bnd (bI c_0.ak id gY) λ(az:Int×Bool)=>some (!az.2)
def ji(l:aU)(c_0:aj):Option Bool:=
 bnd (fO l.A c_0) λ(az:Bool)=>(bif az then some true else bnd (fO l.B c_0) λ(aD:Bool)=>some aD)
def jj(l:aU):Option Bool:=
 some (decide (l.B≤l.A))
def fG(t:aj):Option Int:=
 bif ((decide (24<(t.ak.length:Int)))||(decide (60<(t.Links.length:Int))))then some (3:Int)else bnd (cu t.ak jh) λ(az:Bool)=>bif az then some (2:Int)else bF t.ak 0 (λ(j1:Int) (e1:aK) (Z1:Unit→Option _) (sg:Unit)=>match sg with|()=>jn (λ(v_1:Bool)=>bif v_1 then some (25:Int)else Z1 ()) λJ1=>(bif decide (0<(j1:Int))then bnd (elO t.ak (w64 ((j1:Int)-(1:Int)))) λ(e_1:aK)=>J1 (decide (e1.ID≤e_1.ID))else J1 false)) (λ(sg:Unit)=>match sg with|()=>bnd (bQ t.Links gT) λ(aD:Bool)=>bif aD then some (2:Int)else bnd (bQ t.Links (λ(y0:aU)=>ji y0 t)) λ(bt:Bool)=>bif bt then some (4:Int)else bnd (bQ t.Links jj) λ(bJ:Bool)=>bif bJ then some (8:Int)else bF t.Links 0 (λ(j2:Int) (e2:aU) (Z2:Unit→Option _) (sg:Unit)=>match sg with|()=>jn (λ(v_2:Bool)=>bif v_2 then some (25:Int)else Z2 ()) λJ2=>(bif decide (0<(j2:Int))then bnd (elO t.Links (w64 ((j2:Int)-(1:Int)))) λ(e_2:aU)=>bnd (fN e_2 e2) λ(cc:Int)=>J2 (decide (0≤cc))else J2 false)) (λ(sg:Unit)=>match sg with|()=>some (0:Int)) ()) ()
def gE(t:aj):Option Bool:=
 bnd (fG t) λ(az:Int)=>some (decide (az=0))
def jk(t:aj)(gU:Int):Option (aK×Bool):=
 bnd (bI t.ak gU gY) λ(az:Int×Bool)=>bif !az.2 then some ((aK.mk (0:Int) false),false)else bnd (elO t.ak az.1) λ(e_1:aK)=>some (e_1,true)
def gF(t:aj)(gU:Int):Option Bool:=
 bnd (jk t gU) λ(az:aK×Bool)=>bnd (gE t) λ(aD:Bool)=>(bif aD then some az.2 else some false)
def gZ(t:aj)(cH:Int)(ez:Int):Option (Int×Bool):=
 bnd (gE t) λ(az:Bool)=>bif !az then some ((0:Int),false)else bnd (bT t.Links (aU.mk (if ez<cH then ez else cH) (if ez>cH then ez else cH) (0:Int) (0:Int) (0:Int)) fN) λ(aD:Int×Bool)=>bif !aD.2 then some ((0:Int),false)else bif decide (cH<ez)then bnd (elO t.Links aD.1) λ(e_1:aU)=>some (e_1.dL,true)else bnd (elO t.Links aD.1) λ(e_2:aU)=>some (e_2.ep,true)
end
end Go.Proofs.YtmnbolcmepihlaaGreat
namespace Go.Proofs.YtmnbolcmepihlaaGreat
open Go
set_option maxRecDepth 100000
set_option linter.all false
noncomputable section
def mg(xa0:Int):Option Int:=
 jn (λ(sg:Int×Int)=>match sg with|(az,n_1)=>jn (λ(sg:Int×Int)=>match sg with|(aD,n_2)=>jn (λ(sg:Int×Int)=>match sg with|(bt,n_3)=>bnd (ixS (⟨#[0,1,2,2,3,3,3,3,4,4,4,4,4,4,4,4,5,5,5,5,5,5,5,5,5,5,5,5,5,5,5,5,6,6,6,6,6,6,6,6,6,6,6,6,6,6,6,6,6,6,6,6,6,6,6,6,6,6,6,6,6,6,6,6,7,7,7,7,7,7,7,7,7,7,7,7,7,7,7,7,7,7,7,7,7,7,7,7,7,7,7,7,7,7,7,7,7,7,7,7,7,7,7,7,7,7,7,7,7,7,7,7,7,7,7,7,7,7,7,7,7,7,7,7,7,7,7,7,8,8,8,8,8,8,8,8,8,8,8,8,8,8,8,8,8,8,8,8,8,8,8,8,8,8,8,8,8,8,8,8,8,8,8,8,8,8,8,8,8,8,8,8,8,8,8,8,8,8,8,8,8,8,8,8,8,8,8,8,8,8,8,8,8,8,8,8,8,8,8,8,8,8,8,8,8,8,8,8,8,8,8,8,8,8,8,8,8,8,8,8,8,8,8,8,8,8,8,8,8,8,8,8,8,8,8,8,8,8,8,8,8,8,8,8,8,8,8,8,8,8,8,8,8,8,8,8]⟩:ByteArray) (IntKind.wrap .u8 bt)) λ(b_1:UInt8)=>some (w64 (n_3+(w64 (b_1.toNat:Int))))) λJ3=>bif decide (256≤aD)then J3 (Int.fdiv aD (2 ^ min (8:Int).toNat 64),w64 (n_2+8))else J3 (aD,n_2)) λJ2=>bif decide (65536≤az)then J2 (Int.fdiv az (2 ^ min (16:Int).toNat 64),w64 (n_1+16))else J2 (az,n_1)) λJ1=>bif decide (4294967296≤xa0)then J1 (Int.fdiv xa0 (2 ^ min (32:Int).toNat 64),(32:Int))else J1 (xa0,(0:Int))
def nN(xa0:Int):Option Int:=
 bnd (mg xa0) λ(az:Int)=>some az
def eU: Option Unit:=
 whl (λ(Z1:Unit→Option _) (sg:Unit)=>match sg with|()=>some ()) ()
def fT(limit:Int):Option Unit:=
 whl (λ(Z1:Unit→Option _) (sg:Unit)=>match sg with|()=>bnd (eU) λ(az:Unit)=>some ()) ()
def kP: Option Unit:=
 bnd (nN (0:Int)) λ(az:Int)=>bnd (fT az) λ(aD:Unit)=>some ()
end
end Go.Proofs.YtmnbolcmepihlaaGreat
namespace Go.Proofs.YtmnbolcmepihlaaGreat
open Go
set_option maxRecDepth 100000
set_option linter.all false
noncomputable section
def ir(t:List Int):Option bx:=
 bnd (o3 t (0:Int) (if(2000:Int)<(t.length:Int)then(2000:Int)else(t.length:Int))) λ(l_1:List Int)=>some (bx.mk l_1 (0:Int))
def fD(t:bx):Option (Int×bx):=
 bif decide ((t.L.length:Int)≤t.At)then some ((0:Int),t)else bnd (elO t.L (w64 ((w64 (t.At+1))-(1:Int)))) λ(e_1:Int)=>some (e_1,(bx.mk t.L (w64 (t.At+1))))
def iu(xa0:Int)(n:Int):Option Int:=
 bif decide (n<1)then some (0:Int)else chk (decide (n≠0))<|jn (λ(az:Int)=>some az) λJ1=>bif decide (Int.tmod xa0 n<0)then J1 (w64 ((Int.tmod xa0 n)+n))else J1 (Int.tmod xa0 n)
def bL(t:bx)(n:Int):Option (Int×bx):=
 bnd (fD t) λ(az:Int×bx)=>bnd (iu az.1 n) λ(aD:Int)=>some (aD,az.2)
def dJ(t:bx)(lo:Int)(hi:Int):Option (Int×bx):=
 bnd (bL t (w64 ((w64 (hi-lo))+(1:Int)))) λ(az:Int×bx)=>some (w64 (lo+az.1),az.2)
def de(t:bx)(l:List Int):Option (Int×bx):=
 bnd (bL t (l.length:Int)) λ(az:Int×bx)=>bnd (elO l az.1) λ(e_1:Int)=>some (e_1,az.2)
def fe(l:List Int)(xa1:Int):Option Bool:=
 bF l 0 (λ(j1:Int) (e1:Int) (Z1:Unit→Option _) (sg:Unit)=>match sg with|()=>bif decide (e1=xa1)then some true else Z1 ()) (λ(sg:Unit)=>match sg with|()=>some false) ()
def gh(l:List Int)(xa1:Int):Option (List Int):=
 whl (λ(Z1:Int→Option _) (k_1:Int)=>jn (λ(v_1:Bool)=>bif v_1 then Z1 (w64 (k_1+1))else jn (λ(v_2:Bool)=>bif v_2 then some l else bnd (o3 l k_1 (l.length:Int)) λ(l_1:List Int)=>bnd (ij ([xa1]:List Int) l_1) λ(l_2:List Int)=>bnd (o3 l (0:Int) k_1) λ(l_3:List Int)=>bnd (ij l_3 l_2) λ(l_4:List Int)=>some l_4) λJ2=>(bif decide (k_1<(l.length:Int))then bnd (elO l k_1) λ(e_2:Int)=>J2 (decide (e_2=xa1))else J2 false)) λJ1=>(bif decide (k_1<(l.length:Int))then bnd (elO l k_1) λ(e_1:Int)=>J1 (decide (e_1<xa1))else J1 false)) (0:Int)
end
end Go.Proofs.YtmnbolcmepihlaaGreat
namespace Go.Proofs.YtmnbolcmepihlaaGreat
open Go
set_option maxRecDepth 100000
set_option linter.all false
noncomputable section
def iG(n:Int):Option Bool:=
 some ((decide (1≤n))&&(decide (n≤99)))
def gi(t:bV):Option Int:=
 bnd (iG t.bK) λ(az:Bool)=>bF t.Links 0 (λ(j1:Int) (e1:aS) (Z1:Bool→Option _) (sW:Bool)=>(bif sW then bnd (iG e1.aH) λ(aD:Bool)=>(bif aD then bnd (iG e1.To) λ(bt:Bool)=>Z1 bt else Z1 false)else Z1 false)) (λ(sW:Bool)=>bif !sW then some (2:Int)else bF (List.drop 1 t.Links) 1 (λ(j2:Int) (e2:aS) (Z2:Unit→Option _) (sg:Unit)=>match sg with|()=>bnd (elO t.Links (w64 ((j2:Int)-(1:Int)))) λ(e_1:aS)=>bif ((decide (e2.aH<e_1.aH))||((decide (e_1.aH=e2.aH))&&(decide (e2.To≤e_1.To))))then some (25:Int)else Z2 ()) (λ(sg:Unit)=>match sg with|()=>bF t.Links 0 (λ(j3:Int) (e3:aS) (Z3:Unit→Option _) (sg:Unit)=>match sg with|()=>bnd (o3 t.Links (0:Int) (j3:Int)) λ(l_1:List aS)=>bF l_1 0 (λ(j4:Int) (e4:aS) (Z4:Unit→Option _) (sg:Unit)=>match sg with|()=>bif decide (e4.To=e3.To)then some (8:Int)else Z4 ()) (λ(sg:Unit)=>match sg with|()=>bif decide (e3.To=t.bK)then some (8:Int)else Z3 ()) ()) (λ(sg:Unit)=>match sg with|()=>whl (λ(Z5:((List Int)×Bool)→Option _) (sg:(List Int)×Bool)=>match sg with|(lN,fP)=>bif fP then bF t.Links 0 (λ(j6:Int) (e6:aS) (Z6:((List Int)×Bool)→Option _) (sg:(List Int)×Bool)=>match sg with|(fu,dD)=>jn (λ(sg:(List Int)×Bool)=>match sg with|(ng,dY)=>Z6 (ng,dY)) λJ1=>jn (λ(v_1:Bool)=>bif v_1 then bnd (ij fu ([e6.To]:List Int)) λ(l_2:List Int)=>J1 (l_2,true)else J1 (fu,dD)) λJ2=>bnd (fe fu e6.aH) λ(bJ:Bool)=>(bif bJ then bnd (fe fu e6.To) λ(cc:Bool)=>J2 (!cc)else J2 false)) (λ(sg:(List Int)×Bool)=>match sg with|(fu,dD)=>Z5 (fu,dD)) (lN,false)else bF t.Links 0 (λ(j7:Int) (e7:aS) (Z7:Unit→Option _) (sg:Unit)=>match sg with|()=>bnd (fe lN e7.aH) λ(dh:Bool)=>bif !dh then some (10:Int)else Z7 ()) (λ(sg:Unit)=>match sg with|()=>some (0:Int)) ()) (([t.bK]:List Int),true)) ()) ()) az
def jl(t:bV):Option (List Int):=
 bnd (gi t) λ(az:Int)=>bif !decide (az=0)then some []else bF t.Links 0 (λ(j1:Int) (e1:aS) (Z1:(List Int)→Option _) (dz:(List Int))=>bnd (gh dz e1.To) λ(aD:(List Int))=>Z1 aD) (λ(dz:(List Int))=>some dz) ([t.bK]:List Int)
def gj(l:List Int):Option Bool:=
 bF (List.drop 1 l) 1 (λ(j1:Int) (e1:Int) (Z1:Unit→Option _) (sg:Unit)=>match sg with|()=>bnd (elO l (w64 ((j1:Int)-(1:Int)))) λ(e_1:Int)=>bif decide (e1≤e_1)then some false else Z1 ()) (λ(sg:Unit)=>match sg with|()=>some true) ()
end
end Go.Proofs.YtmnbolcmepihlaaGreat
namespace Go.Proofs.YtmnbolcmepihlaaGreat
open Go
set_option maxRecDepth 100000
set_option linter.all false
noncomputable section
def jU(t:bx)(most:Int):Option (aj×bx):=
 bnd (dJ t (1:Int) most) λ(az:Int×bx)=>chk (decide (az.1≤9223372036854775807))<|gP (az.1-0).toNat (0:Int) (λ(j1:Int) (Z1:(Int×(List aK)×(List Int)×Int)→Option _) (sg:Int×(List aK)×(List Int)×Int)=>match sg with|(rz,m_1,m_2,m_3)=>bnd (de (bx.mk m_2 m_3) ([(1:Int),(1:Int),(1:Int),(2:Int),(5:Int)]:List Int)) λ(aD:Int×bx)=>bnd (ij m_1 ([(aK.mk (w64 (rz+aD.1)) true)]:List aK)) λ(l_1:List aK)=>Z1 (w64 (rz+aD.1),l_1,aD.2.L,aD.2.At)) (λ(j1:Int) (sg:Int×(List aK)×(List Int)×Int)=>match sg with|(rz,m_1,m_2,m_3)=>chk (decide (0<az.1)&&decide (az.1≤4294967296))<|chk (decide (((List.replicate az.1.toNat []:List (List Bool)).length:Int)≤9223372036854775807))<|gP (((List.replicate az.1.toNat []:List (List Bool)).length:Int)-(0:Int)).toNat (0:Int) (λ(j2:Int) (Z2:(List (List Bool))→Option _) (m_4:(List (List Bool)))=>chk (decide (0≤az.1)&&decide (az.1≤4294967296))<|bnd (elO m_4 (j2:Int)) λ(e_1:List Bool)=>Z2 (List.set m_4 (j2:Int).toNat (List.replicate (az.1).toNat false))) (λ(j2:Int) (m_4:(List (List Bool)))=>chk (decide (az.1≤9223372036854775807))<|gP (az.1-1).toNat (1:Int) (λ(j3:Int) (Z3:((List Int)×Int×(List (List Bool)))→Option _) (sg:(List Int)×Int×(List (List Bool)))=>match sg with|(m_5,m_6,m_7)=>jn (λ(sg:(List (List Bool))×(List Int)×Int)=>match sg with|(m_8,m_9,fI)=>Z3 (m_9,fI,m_8)) λJ1=>bnd (bL (bx.mk m_5 m_6) (12:Int)) λ(bt:Int×bx)=>bif decide (bt.1<11)then bnd (bL bt.2 (j3:Int)) λ(bJ:Int×bx)=>bnd (elO m_7 bJ.1) λ(e_2:List Bool)=>bnd (elO e_2 (j3:Int)) λ(e_3:Bool)=>bnd (nH e_2 (j3:Int) true) λ(l_2:List Bool)=>J1 ((List.set m_7 bJ.1.toNat l_2),bJ.2.L,bJ.2.At)else J1 (m_7,bt.2.L,bt.2.At)) (λ(j3:Int) (sg:(List Int)×Int×(List (List Bool)))=>match sg with|(m_5,m_6,m_7)=>bnd (bL (bx.mk m_5 m_6) (w64 (az.1+2))) λ(cc:Int×bx)=>whl (λ(Z4:(Int×(List Int)×Int×(List (List Bool)))→Option _) (sg:Int×(List Int)×Int×(List (List Bool)))=>match sg with|(i_1,oy,x7,dQ)=>bif decide (0<i_1)then jn (λ(sg:(List (List Bool))×(List Int)×Int)=>match sg with|(x8,x9,ya)=>Z4 (w64 (i_1-1),x9,ya,x8)) λJ2=>bnd (bL (bx.mk oy x7) az.1) λ(dh:Int×bx)=>bnd (bL dh.2 az.1) λ(cU:Int×bx)=>bif !decide (dh.1=cU.1)then bnd (elO dQ (if cU.1<dh.1 then cU.1 else dh.1)) λ(e_4:List Bool)=>bnd (elO e_4 (if cU.1>dh.1 then cU.1 else dh.1)) λ(e_5:Bool)=>bnd (nH e_4 (if cU.1>dh.1 then cU.1 else dh.1) true) λ(l_3:List Bool)=>J2 ((List.set dQ (if cU.1<dh.1 then cU.1 else dh.1).toNat l_3),cU.2.L,cU.2.At)else J2 (dQ,cU.2.L,cU.2.At)else bnd (bL (bx.mk oy x7) (3:Int)) λ(iU:Int×bx)=>chk (decide ((dQ.length:Int)≤9223372036854775807))<|gP ((dQ.length:Int)-(0:Int)).toNat (0:Int) (λ(j5:Int) (Z5:((List aU)×(List Int)×Int)→Option _) (sg:(List aU)×(List Int)×Int)=>match sg with|(sX,sY,sZ)=>chk (decide ((dQ.length:Int)≤9223372036854775807))<|gP ((dQ.length:Int)-(0:Int)).toNat (0:Int) (λ(j6:Int) (Z6:((List aU)×(List Int)×Int)→Option _) (sg:(List aU)×(List Int)×Int)=>match sg with|(oz,qn,qo)=>jn (λ(sg:(List Int)×Int×(List aU))=>match sg with|(yb,yc,yd)=>Z6 (yd,yb,yc)) λJ3=>bnd (elO dQ (j5:Int)) λ(e_6:List Bool)=>bnd (elO e_6 (j6:Int)) λ(e_7:Bool)=>bif !e_7 then J3 (qn,qo,oz)else bnd (elO m_1 (j5:Int)) λ(e_8:aK)=>bnd (elO m_1 (j6:Int)) λ(e_9:aK)=>bnd (de (bx.mk qn qo) ([(0:Int),(1:Int),(2:Int),(3:Int),(5:Int),(10:Int),(1000:Int)]:List Int)) λ(mO:Int×bx)=>jn (λ(sg:(List Int)×Int×Int×Int)=>match sg with|(ye,yf,aar,aas)=>bnd (ij oz ([(aU.mk e_8.ID e_9.ID aar aas mO.1)]:List aU)) λ(l_4:List aU)=>J3 (ye,yf,l_4)) λJ4=>bif !(decide (iU.1=0))then bnd (dJ mO.2 (1:Int) (20:Int)) λ(vj:Int×bx)=>bnd (de vj.2 ([(1:Int),(2:Int),(3:Int),vj.1,(1000:Int)]:List Int)) λ(l5:Int×bx)=>bnd (dJ l5.2 (1:Int) (20:Int)) λ(acu:Int×bx)=>bnd (de acu.2 ([l5.1,l5.1,acu.1]:List Int)) λ(pJ:Int×bx)=>J4 (pJ.2.L,pJ.2.At,l5.1,pJ.1)else J4 (mO.2.L,mO.2.At,(1:Int),(1:Int))) (λ(j6:Int) (sg:(List aU)×(List Int)×Int)=>match sg with|(oz,qn,qo)=>Z5 (oz,qn,qo)) (sX,sY,sZ)) (λ(j5:Int) (sg:(List aU)×(List Int)×Int)=>match sg with|(sX,sY,sZ)=>some ((aj.mk m_1 sX),(bx.mk sY sZ))) ([],iU.2.L,iU.2.At)) (cc.1,cc.2.L,cc.2.At,m_7)) (m_2,m_3,m_4)) (List.replicate az.1.toNat []:List (List Bool))) ((0:Int),[],az.2.L,az.2.At)
def nS(t:bx)(p:aj)(n:Int):Option ((List Int)×bx):=
 bnd (bL t (w64 (n+1))) λ(az:Int×bx)=>whl (λ(Z1:((List Int)×Int×(List Int)×Int)→Option _) (sg:(List Int)×Int×(List Int)×Int)=>match sg with|(dz,i_1,m_1,m_2)=>bif ((decide (0<i_1))&&(decide (0<(p.ak.length:Int))))then bnd (bL (bx.mk m_1 m_2) (p.ak.length:Int)) λ(aD:Int×bx)=>bnd (elO p.ak aD.1) λ(e_1:aK)=>bnd (gh dz e_1.ID) λ(bt:(List Int))=>Z1 (bt,w64 (i_1-1),aD.2.L,aD.2.At)else some (dz,(bx.mk m_1 m_2))) ([],az.1,az.2.L,az.2.At)
end
end Go.Proofs.YtmnbolcmepihlaaGreat
namespace Go.Proofs.YtmnbolcmepihlaaGreat
open Go
set_option maxRecDepth 100000
set_option linter.all false
noncomputable section
def fQ(n:Int):Option Bool:=
 some ((decide (1≤n))&&(decide (n≤99)))
def gy(t:bV):Option (List (Int×Bool)):=
 whl (λ(Z1:(Bool×(List (Int×Bool)))→Option _) (sg:Bool×(List (Int×Bool)))=>match sg with|(pT,m_1)=>bif pT then bF t.Links 0 (λ(j2:Int) (e2:aS) (Z2:(Bool×(List (Int×Bool)))→Option _) (sg:Bool×(List (Int×Bool)))=>match sg with|(jV,m_2)=>jn (λ(sg:Bool×(List (Int×Bool)))=>match sg with|(pU,m_3)=>Z2 (pU,m_3)) λJ1=>bif (((aM m_2 e2.aH).getD false)&&(!((aM m_2 e2.To).getD false)))then J1 (true,bw m_2 e2.To true)else J1 (jV,m_2)) (λ(sg:Bool×(List (Int×Bool)))=>match sg with|(jV,m_2)=>Z1 (jV,m_2)) (false,m_1)else some m_1) (true,bw [] t.bK true)
def eW(t:bV):Option Int:=
 bnd (fQ t.bK) λ(az:Bool)=>bif !az then some (2:Int)else bF t.Links 0 (λ(j1:Int) (e1:aS) (Z1:Unit→Option _) (sg:Unit)=>match sg with|()=>jn (λ(v_1:Bool)=>bif v_1 then some (2:Int)else Z1 ()) λJ1=>bnd (fQ e1.aH) λ(aD:Bool)=>(bif !aD then J1 true else bnd (fQ e1.To) λ(bt:Bool)=>J1 (!bt))) (λ(sg:Unit)=>match sg with|()=>bF (List.drop 1 t.Links) 1 (λ(j2:Int) (e2:aS) (Z2:Unit→Option _) (sg:Unit)=>match sg with|()=>bnd (elO t.Links (w64 ((j2:Int)-(1:Int)))) λ(e_1:aS)=>bnd (cn e_1.aH e2.aH) λ(bJ:Int)=>bnd (cn e_1.To e2.To) λ(cc:Int)=>bnd (fC ([bJ,cc]:List Int)) λ(dh:Int)=>bif decide (0≤dh)then some (25:Int)else Z2 ()) (λ(sg:Unit)=>match sg with|()=>bF t.Links 0 (λ(j3:Int) (e3:aS) (Z3:(List (Int×Bool))→Option _) (m_1:(List (Int×Bool)))=>bif ((aM m_1 e3.To).getD false)then some (8:Int)else Z3 (bw m_1 e3.To true)) (λ(m_1:(List (Int×Bool)))=>bnd (gy t) λ(cU:(List (Int×Bool)))=>bF t.Links 0 (λ(j4:Int) (e4:aS) (Z4:Unit→Option _) (sg:Unit)=>match sg with|()=>bif !((aM cU e4.aH).getD false)then some (10:Int)else Z4 ()) (λ(sg:Unit)=>match sg with|()=>some (0:Int)) ()) (bw [] t.bK true)) ()) ()
def gz(t:bV):Option (List Int):=
 bnd (eW t) λ(az:Int)=>bif !decide (az=0)then some []else bF t.Links 0 (λ(j1:Int) (e1:aS) (Z1:(List Int)→Option _) (dz:(List Int))=>bnd (ij dz ([e1.To]:List Int)) λ(l_1:List Int)=>Z1 l_1) (λ(dz:(List Int))=>chk (decide (dz.length<4611686018427387904))<|some (gK dz)) ([t.bK]:List Int)
end
end Go.Proofs.YtmnbolcmepihlaaGreat
namespace Go.Proofs.YtmnbolcmepihlaaGreat
open Go
set_option maxRecDepth 100000
set_option linter.all false
noncomputable section
def jm(a:aS)(b:aS):Option Int:=
 bnd (cn a.aH b.aH) λ(az:Int)=>bnd (cn a.To b.To) λ(aD:Int)=>bnd (fC ([az,aD]:List Int)) λ(bt:Int)=>some bt
def nT(a:aq)(b:aq):Option Int:=
 bnd (cn a.Hop.aH b.Hop.aH) λ(az:Int)=>bnd (cn a.Hop.To b.Hop.To) λ(aD:Int)=>bnd (fC ([az,aD]:List Int)) λ(bt:Int)=>some bt
end
end Go.Proofs.YtmnbolcmepihlaaGreat
namespace Go.Proofs.YtmnbolcmepihlaaGreat
open Go
set_option maxRecDepth 100000
set_option linter.all false
noncomputable section
def l6(t:aj):Option (List aq):=
 bF t.Links 0 (λ(j1:Int) (e1:aU) (Z1:(List aq)→Option _) (dz:(List aq))=>bnd (ij dz ([(aq.mk (aS.mk e1.A e1.B) e1.dL),(aq.mk (aS.mk e1.B e1.A) e1.ep)]:List aq)) λ(l_1:List aq)=>Z1 l_1) (λ(dz:(List aq))=>bnd (mD (eD [λx:aq=>x.Hop.aH,λx:aq=>x.Hop.To]) dz) λ(l_2:List aq)=>some l_2) []
end
end Go.Proofs.YtmnbolcmepihlaaGreat
namespace Go.Proofs.YtmnbolcmepihlaaGreat
open Go
set_option maxRecDepth 100000
set_option linter.all false
noncomputable section
def eR(l:List Int):Option Bool:=
 bF (List.drop 1 l) 1 (λ(j1:Int) (e1:Int) (Z1:Unit→Option _) (sg:Unit)=>match sg with|()=>bnd (elO l (w64 ((j1:Int)-(1:Int)))) λ(e_1:Int)=>bif decide (e1≤e_1)then some false else Z1 ()) (λ(sg:Unit)=>match sg with|()=>some true) ()
def ic(t:aj)(root:Int)(receivers:List Int):Option Int:=
 bnd (fG t) λ(az:Int)=>bif !decide (az=0)then some (1:Int)else bnd (eR receivers) λ(aD:Bool)=>bif !aD then some (25:Int)else bnd (ij ([root]:List Int) receivers) λ(l_1:List Int)=>bF l_1 0 (λ(j1:Int) (e1:Int) (Z1:Unit→Option _) (sg:Unit)=>match sg with|()=>bnd (gF t e1) λ(bt:Bool)=>bif !bt then some (4:Int)else Z1 ()) (λ(sg:Unit)=>match sg with|()=>some (0:Int)) ()
def fA(t:aj)(xa1:bV)(receivers:List Int):Option Int:=
 bnd (fG t) λ(az:Int)=>bif !decide (az=0)then some (1:Int)else bnd (eW xa1) λ(aD:Int)=>bif !decide (aD=0)then some aD else bnd (ij ([xa1.bK]:List Int) receivers) λ(l_1:List Int)=>bF l_1 0 (λ(j1:Int) (e1:Int) (Z1:Unit→Option _) (sg:Unit)=>match sg with|()=>bnd (gF t e1) λ(bt:Bool)=>bif !bt then some (4:Int)else Z1 ()) (λ(sg:Unit)=>match sg with|()=>bF xa1.Links 0 (λ(j2:Int) (e2:aS) (Z2:Unit→Option _) (sg:Unit)=>match sg with|()=>bnd (gZ t e2.aH e2.To) λ(bJ:Int×Bool)=>bif !bJ.2 then some (4:Int)else Z2 ()) (λ(sg:Unit)=>match sg with|()=>bnd (eR receivers) λ(cc:Bool)=>bif !cc then some (25:Int)else bnd (gz xa1) λ(dh:(List Int))=>bF receivers 0 (λ(j3:Int) (e3:Int) (Z3:Unit→Option _) (sg:Unit)=>match sg with|()=>bnd (cv dh e3) λ(cU:Bool)=>bif !cU then some (9:Int)else Z3 ()) (λ(sg:Unit)=>match sg with|()=>some (0:Int)) ()) ()) ()
def jW(t:aj)(xa1:bV):Option (Int×Int):=
 bnd (fA t xa1 []) λ(az:Int)=>bif !decide (az=0)then some ((0:Int),az)else bF xa1.Links 0 (λ(j1:Int) (e1:aS) (Z1:Int→Option _) (dF:Int)=>bnd (gZ t e1.aH e1.To) λ(aD:Int×Bool)=>Z1 (w64 (dF+aD.1))) (λ(dF:Int)=>some (dF,(0:Int))) (0:Int)
def kZ(ra0:Int)(c_0:jR):Option Bool:=
 bnd (cv c_0.ak ra0) λ(az:Bool)=>some az
def mj(t:aj)(root:Int)(receivers:List Int)(l:List jR):Option Bool:=
 bif decide (200<(l.length:Int))then some false else bF l 0 (λ(j1:Int) (e1:jR) (Z1:Unit→Option _) (sg:Unit)=>match sg with|()=>jn (λ(v_1:Bool)=>bif v_1 then some false else bF e1.ak 0 (λ(j2:Int) (e2:Int) (Z2:Unit→Option _) (sg:Unit)=>match sg with|()=>bnd (gF t e2) λ(bt:Bool)=>bif !bt then some false else Z2 ()) (λ(sg:Unit)=>match sg with|()=>bnd (gd receivers (λ(y0:Int)=>kZ y0 e1)) λ(bJ:Bool)=>bif !bJ then some false else Z1 ()) ()) λJ1=>(bif decide (e1.Value<1)then J1 true else(bif decide (24000<e1.Value)then J1 true else bnd (eR e1.ak) λ(az:Bool)=>(bif !az then J1 true else bnd (cv e1.ak root) λ(aD:Bool)=>J1 aD)))) (λ(sg:Unit)=>match sg with|()=>bnd (l6 t) λ(cc:(List aq))=>bF cc 0 (λ(j3:Int) (e3:aq) (Z3:Unit→Option _) (sg:Unit)=>match sg with|()=>bF l 0 (λ(j4:Int) (e4:jR) (Z4:Int→Option _) (dF:Int)=>jn (λ(vk:Int)=>Z4 vk) λJ2=>jn (λ(v_2:Bool)=>bif v_2 then J2 (w64 (dF+e4.Value))else J2 dF) λJ3=>bnd (cv e4.ak e3.Hop.To) λ(dh:Bool)=>(bif dh then bnd (cv e4.ak e3.Hop.aH) λ(cU:Bool)=>J3 (!cU)else J3 false)) (λ(dF:Int)=>bif decide (e3.bO<dF)then some false else Z3 ()) (0:Int)) (λ(sg:Unit)=>match sg with|()=>some true) ()) ()
def iC(t:aj)(root:Int)(receivers:List Int)(l:List jR):Option (Int×Int):=
 bnd (ic t root receivers) λ(az:Int)=>bif !decide (az=0)then some ((0:Int),az)else bnd (mj t root receivers l) λ(aD:Bool)=>bif !aD then some ((0:Int),(1:Int))else bF l 0 (λ(j1:Int) (e1:jR) (Z1:Int→Option _) (dF:Int)=>Z1 (w64 (dF+e1.Value))) (λ(dF:Int)=>some (dF,(0:Int))) (0:Int)
end
end Go.Proofs.YtmnbolcmepihlaaGreat
namespace Go.Proofs.YtmnbolcmepihlaaGreat
open Go
set_option maxRecDepth 100000
set_option linter.all false
noncomputable section
def iw(t:aj)(xa1:bV)(receivers:List Int):Option Int:=
 bnd (gl t) λ(az:Int)=>bif !decide (az=0)then some (1:Int)else bnd (gi xa1) λ(aD:Int)=>bif !decide (aD=0)then some aD else bnd (fB t xa1.bK) λ(bt:Bool)=>bif !bt then some (4:Int)else bF receivers 0 (λ(j1:Int) (e1:Int) (Z1:Unit→Option _) (sg:Unit)=>match sg with|()=>bnd (fB t e1) λ(bJ:Bool)=>bif !bJ then some (4:Int)else Z1 ()) (λ(sg:Unit)=>match sg with|()=>bF xa1.Links 0 (λ(j2:Int) (e2:aS) (Z2:Unit→Option _) (sg:Unit)=>match sg with|()=>bnd (lM t e2.aH e2.To) λ(cc:Int×Bool)=>bif !cc.2 then some (4:Int)else Z2 ()) (λ(sg:Unit)=>match sg with|()=>bnd (gj receivers) λ(dh:Bool)=>bif !dh then some (25:Int)else bnd (jl xa1) λ(cU:(List Int))=>bF receivers 0 (λ(j3:Int) (e3:Int) (Z3:Unit→Option _) (sg:Unit)=>match sg with|()=>bnd (fe cU e3) λ(iU:Bool)=>bif !iU then some (9:Int)else Z3 ()) (λ(sg:Unit)=>match sg with|()=>some (0:Int)) ()) ()) ()
def kQ(t:aj)(root:Int)(receivers:List Int):Option Int:=
 bnd (gl t) λ(az:Int)=>bif !decide (az=0)then some (1:Int)else bnd (gj receivers) λ(aD:Bool)=>bif !aD then some (25:Int)else bnd (ij ([root]:List Int) receivers) λ(l_1:List Int)=>bF l_1 0 (λ(j1:Int) (e1:Int) (Z1:Unit→Option _) (sg:Unit)=>match sg with|()=>bnd (fB t e1) λ(bt:Bool)=>bif !bt then some (4:Int)else Z1 ()) (λ(sg:Unit)=>match sg with|()=>some (0:Int)) ()
end
end Go.Proofs.YtmnbolcmepihlaaGreat
namespace Go.Proofs.YtmnbolcmepihlaaGreat
open Go
set_option maxRecDepth 100000
set_option linter.all false
noncomputable section
def kR(t:aj)(ra1:Int):Option Int:=
 bF t.ak 0 (λ(j1:Int) (e1:aK) (Z1:Unit→Option _) (sg:Unit)=>match sg with|()=>bif decide (e1.ID=ra1)then some (j1:Int)else Z1 ()) (λ(sg:Unit)=>match sg with|()=>some (0:Int)) ()
def nV(t:aj)(uD:Int):Option (List Int):=
 chk (decide (0≤(t.ak.length:Int))&&decide ((t.ak.length:Int)≤4294967296))<|whl (λ(Z1:((List Int)×Int)→Option _) (sg:(List Int)×Int)=>match sg with|(d_1,i_1)=>bif decide (i_1<(d_1.length:Int))then jn (λ(d_2:(List Int))=>Z1 (d_2,w64 (i_1+1))) λJ1=>bnd (elO d_1 i_1) λ(e_1:Int)=>bnd (nH d_1 i_1 (1073741824:Int)) λ(l_1:List Int)=>bnd (elO t.ak i_1) λ(e_2:aK)=>bif decide (e_2.ID=uD)then bnd (elO l_1 i_1) λ(e_3:Int)=>bnd (nH l_1 i_1 (0:Int)) λ(l_2:List Int)=>J1 l_2 else J1 l_1 else whl (λ(Z2:((List Int)×Int)→Option _) (sg:(List Int)×Int)=>match sg with|(d_3,iX)=>bif decide (iX<(d_3.length:Int))then bF t.Links 0 (λ(j3:Int) (e3:aU) (Z3:(List Int)→Option _) (d_4:(List Int))=>jn (λ(d_5:(List Int))=>Z3 d_5) λJ2=>bnd (kR t e3.A) λ(az:Int)=>bnd (kR t e3.B) λ(aD:Int)=>jn (λ(d_6:(List Int))=>bnd (elO d_6 az) λ(e_6:Int)=>bif decide (e_6<1073741824)then bnd (elO d_6 aD) λ(e_7:Int)=>bnd (nH d_6 aD (if(w64 (e3.ep+e_6))<e_7 then w64 (e3.ep+e_6)else e_7)) λ(l_4:List Int)=>J2 l_4 else J2 d_6) λJ3=>bnd (elO d_4 aD) λ(e_4:Int)=>bif decide (e_4<1073741824)then bnd (elO d_4 az) λ(e_5:Int)=>bnd (nH d_4 az (if(w64 (e3.dL+e_4))<e_5 then w64 (e3.dL+e_4)else e_5)) λ(l_3:List Int)=>J3 l_3 else J3 d_4) (λ(d_4:(List Int))=>Z2 (d_4,w64 (iX+1))) d_3 else some d_3) (d_1,(0:Int))) ((List.replicate ((t.ak.length:Int)).toNat (0:Int)),(0:Int))
def l7(t:aj)(d:List Int)(ra2:Int):Option Int:=
 bF t.ak 0 (λ(j1:Int) (e1:aK) (Z1:Unit→Option _) (sg:Unit)=>match sg with|()=>bif decide (e1.ID=ra2)then bnd (elO d (j1:Int)) λ(e_1:Int)=>some e_1 else Z1 ()) (λ(sg:Unit)=>match sg with|()=>some (1073741824:Int)) ()
def lQ(t:aj)(cH:Int)(ez:Int):Option (Int×Bool):=
 jn (λ(v_1:Bool)=>bif v_1 then some ((0:Int),false)else bnd (nV t ez) λ(bt:(List Int))=>bnd (l7 t bt cH) λ(bJ:Int)=>bif decide (bJ=1073741824)then some ((0:Int),false)else some (bJ,true)) λJ1=>bnd (fB t cH) λ(az:Bool)=>(bif !az then J1 true else bnd (fB t ez) λ(aD:Bool)=>J1 (!aD))
def iy(t:aj)(root:Int)(receivers:List Int):Option Bool:=
 bF receivers 0 (λ(j1:Int) (e1:Int) (Z1:Unit→Option _) (sg:Unit)=>match sg with|()=>bnd (lQ t root e1) λ(az:Int×Bool)=>bif !az.2 then some false else Z1 ()) (λ(sg:Unit)=>match sg with|()=>some true) ()
def kS(t:aj):Option ((List (List Int))×(Vec 100)):=
 bF t.ak 0 (λ(j1:Int) (e1:aK) (Z1:(Vec 100)→Option _) (m_1:(Vec 100))=>bnd (elO m_1.l e1.ID) λ(e_1:Int)=>Z1 (Vec.put m_1 e1.ID.toNat (j1:Int))) (λ(m_1:(Vec 100))=>chk (decide (0<(t.ak.length:Int))&&decide ((t.ak.length:Int)≤4294967296))<|chk (decide (((List.replicate (t.ak.length:Int).toNat []:List (List Int)).length:Int)≤9223372036854775807))<|gP (((List.replicate (t.ak.length:Int).toNat []:List (List Int)).length:Int)-(0:Int)).toNat (0:Int) (λ(j2:Int) (Z2:(List (List Int))→Option _) (m_2:(List (List Int)))=>chk (decide (0≤(t.ak.length:Int))&&decide ((t.ak.length:Int)≤4294967296))<|bnd (elO m_2 (j2:Int)) λ(e_2:List Int)=>Z2 (List.set m_2 (j2:Int).toNat (List.replicate ((t.ak.length:Int)).toNat (0:Int)))) (λ(j2:Int) (m_2:(List (List Int)))=>bF t.Links 0 (λ(j3:Int) (e3:aU) (Z3:(List (List Int))→Option _) (m_3:(List (List Int)))=>bnd (elO m_1.l e3.A) λ(e_3:Int)=>bnd (elO m_3 e_3) λ(e_4:List Int)=>bnd (elO m_1.l e3.B) λ(e_5:Int)=>bnd (elO m_3 e_5) λ(e_6:List Int)=>bnd (elO e_4 e_5) λ(e_7:Int)=>bnd (elO (List.set m_3 e_3.toNat (List.set e_4 e_5.toNat e3.dL)) e_5) λ(e_8:List Int)=>bnd (elO e_8 e_3) λ(e_9:Int)=>Z3 (List.set (List.set m_3 e_3.toNat (List.set e_4 e_5.toNat e3.dL)) e_5.toNat (List.set e_8 e_3.toNat e3.ep))) (λ(m_3:(List (List Int)))=>some (m_3,m_1)) m_2) (List.replicate (t.ak.length:Int).toNat []:List (List Int))) (Vec.zero 100)
def kT(bN:List (List Int))(root:Int)(receivers:List Int):Option Int:=
 chk (decide (0≤IntKind.wrap .u64 (receivers.length:Int)))<|chk (decide (0<IntKind.wrap .i64 ((1:Int)*2 ^ min (IntKind.wrap .u64 (receivers.length:Int)).toNat 64))&&decide (IntKind.wrap .i64 ((1:Int)*2 ^ min (IntKind.wrap .u64 (receivers.length:Int)).toNat 64)≤4294967296))<|chk (decide (((List.replicate (IntKind.wrap .i64 ((1:Int)*2 ^ min (IntKind.wrap .u64 (receivers.length:Int)).toNat 64)).toNat []:List (List Int)).length:Int)≤9223372036854775807))<|gP (((List.replicate (IntKind.wrap .i64 ((1:Int)*2 ^ min (IntKind.wrap .u64 (receivers.length:Int)).toNat 64)).toNat []:List (List Int)).length:Int)-(0:Int)).toNat (0:Int) (λ(j1:Int) (Z1:(List (List Int))→Option _) (m_1:(List (List Int)))=>chk (decide (0≤(bN.length:Int))&&decide ((bN.length:Int)≤4294967296))<|bnd (elO m_1 (j1:Int)) λ(e_1:List Int)=>bnd (elO (List.set m_1 (j1:Int).toNat (List.replicate ((bN.length:Int)).toNat (0:Int))) (j1:Int)) λ(e_2:List Int)=>chk (decide ((e_2.length:Int)≤9223372036854775807))<|gP ((e_2.length:Int)-(0:Int)).toNat (0:Int) (λ(j2:Int) (Z2:(List (List Int))→Option _) (m_2:(List (List Int)))=>jn (λ(m_3:(List (List Int)))=>Z2 m_3) λJ1=>bnd (elO m_2 (j1:Int)) λ(e_3:List Int)=>bnd (elO e_3 (j2:Int)) λ(e_4:Int)=>bif decide ((j1:Int)=(0:Int))then bnd (elO (List.set m_2 (j1:Int).toNat (List.set e_3 (j2:Int).toNat (1099511627776:Int))) (j1:Int)) λ(e_5:List Int)=>bnd (elO e_5 (j2:Int)) λ(e_6:Int)=>J1 (List.set (List.set m_2 (j1:Int).toNat (List.set e_3 (j2:Int).toNat (1099511627776:Int))) (j1:Int).toNat (List.set e_5 (j2:Int).toNat (0:Int)))else J1 (List.set m_2 (j1:Int).toNat (List.set e_3 (j2:Int).toNat (1099511627776:Int)))) (λ(j2:Int) (m_2:(List (List Int)))=>bF receivers 0 (λ(j3:Int) (e3:Int) (Z3:(List (List Int))→Option _) (m_4:(List (List Int)))=>jn (λ(m_5:(List (List Int)))=>Z3 m_5) λJ2=>chk (decide (0≤IntKind.wrap .u64 (j3:Int)))<|bif decide ((j1:Int)=IntKind.wrap .i64 ((1:Int)*2 ^ min (IntKind.wrap .u64 (j3:Int)).toNat 64))then bnd (elO m_4 (j1:Int)) λ(e_7:List Int)=>bnd (elO e_7 e3) λ(e_8:Int)=>J2 (List.set m_4 (j1:Int).toNat (List.set e_7 e3.toNat (0:Int)))else J2 m_4) (λ(m_4:(List (List Int)))=>whl (λ(Z4:(Int×(List (List Int)))→Option _) (sg:Int×(List (List Int)))=>match sg with|(v_1,m_6)=>bif ((decide (v_1<(bN.length:Int)))&&(decide (0<(j1:Int))))then whl (λ(Z5:(Int×(List (List Int)))→Option _) (sg:Int×(List (List Int)))=>match sg with|(lR,m_7)=>bif decide (0<lR)then bnd (elO m_7 (j1:Int)) λ(e_9:List Int)=>bnd (elO e_9 v_1) λ(s5:Int)=>bnd (elO m_7 lR) λ(alD:List Int)=>bnd (elO alD v_1) λ(s6:Int)=>bnd (elO m_7 (en .xor .i64 (j1:Int) lR)) λ(alF:List Int)=>bnd (elO alF v_1) λ(s7:Int)=>Z5 (en .and .i64 (w64 (lR-1)) (j1:Int),(List.set m_7 (j1:Int).toNat (List.set e_9 v_1.toNat (if(w64 (s6+s7))<s5 then w64 (s6+s7)else s5))))else Z4 (w64 (v_1+1),m_7)) (en .and .i64 (w64 ((j1:Int)-(1:Int))) (j1:Int),m_6)else whl (λ(Z6:(Bool×(List (List Int)))→Option _) (sg:Bool×(List (List Int)))=>match sg with|(fP,m_8)=>bif fP then bF bN 0 (λ(j7:Int) (e7:List Int) (Z7:(Bool×(List (List Int)))→Option _) (sg:Bool×(List (List Int)))=>match sg with|(dD,m_9)=>bF bN 0 (λ(j8:Int) (e8:List Int) (Z8:(Bool×(List (List Int)))→Option _) (sg:Bool×(List (List Int)))=>match sg with|(dY,fI)=>jn (λ(sg:Bool×(List (List Int)))=>match sg with|(nh,oy)=>Z8 (nh,oy)) λJ3=>jn (λ(v_2:Bool)=>bif v_2 then bnd (elO fI (j1:Int)) λ(yg:List Int)=>bnd (elO e7 (j8:Int)) λ(aat:Int)=>bnd (elO yg (j8:Int)) λ(aau:Int)=>bnd (elO yg (j7:Int)) λ(e_22:Int)=>J3 (true,(List.set fI (j1:Int).toNat (List.set yg (j7:Int).toNat (w64 (aat+aau)))))else J3 (dY,fI)) λJ4=>bnd (elO e7 (j8:Int)) λ(aav:Int)=>(bif decide (0<aav)then bnd (elO fI (j1:Int)) λ(afc:List Int)=>bnd (elO afc (j8:Int)) λ(acv:Int)=>bnd (elO afc (j7:Int)) λ(acw:Int)=>J4 (decide (w64 (aav+acv)<acw))else J4 false)) (λ(sg:Bool×(List (List Int)))=>match sg with|(dY,fI)=>Z7 (dY,fI)) (dD,m_9)) (λ(sg:Bool×(List (List Int)))=>match sg with|(dD,m_9)=>Z6 (dD,m_9)) (false,m_8)else Z1 m_8) (decide (0<(j1:Int)),m_6)) ((0:Int),m_4)) m_2) (List.set m_1 (j1:Int).toNat (List.replicate ((bN.length:Int)).toNat (0:Int)))) (λ(j1:Int) (m_1:(List (List Int)))=>bnd (elO m_1 (w64 ((m_1.length:Int)-(1:Int)))) λ(alG:List Int)=>bnd (elO alG root) λ(afd:Int)=>some afd) (List.replicate (IntKind.wrap .i64 ((1:Int)*2 ^ min (IntKind.wrap .u64 (receivers.length:Int)).toNat 64)).toNat []:List (List Int))
def iO(t:aj)(root:Int)(receivers:List Int):Option (Int×Int):=
 bnd (kQ t root receivers) λ(az:Int)=>bif !decide (az=0)then some ((0:Int),az)else bif decide (6<(receivers.length:Int))then some ((0:Int),(3:Int))else bnd (iy t root receivers) λ(aD:Bool)=>bif !aD then some ((0:Int),(9:Int))else bnd (kS t) λ(bt:(List (List Int))×(Vec 100))=>bF receivers 0 (λ(j1:Int) (e1:Int) (Z1:(List Int)→Option _) (l_1:(List Int))=>bnd (elO bt.2.l e1) λ(e_1:Int)=>bnd (ij l_1 ([e_1]:List Int)) λ(l_2:List Int)=>Z1 l_2) (λ(l_1:(List Int))=>bnd (elO bt.2.l root) λ(e_2:Int)=>bnd (kT bt.1 e_2 l_1) λ(bJ:Int)=>some (bJ,(0:Int))) []
end
end Go.Proofs.YtmnbolcmepihlaaGreat
namespace Go.Proofs.YtmnbolcmepihlaaGreat
open Go
set_option maxRecDepth 100000
set_option linter.all false
noncomputable section
def fS{β:Type}(t:aj)(root:Int)(receivers:List Int)(K0:(bV×Int×Int)→Option β):Option β:=
 bnd (ic t root receivers) λ(az:Int)=>bif !decide (az=0)then K0 ((bV.mk (0:Int) []),(0:Int),az)else bif decide (6<(receivers.length:Int))then K0 ((bV.mk (0:Int) []),(0:Int),(3:Int))else bnd (l6 t) λ(aD:(List aq))=>kI aD root receivers λ(bt:(List aS)×Int×Bool)=>bif !bt.2.2 then K0 ((bV.mk (0:Int) []),(0:Int),(9:Int))else K0 ((bV.mk root bt.1),bt.2.1,(0:Int))
end
end Go.Proofs.YtmnbolcmepihlaaGreat
