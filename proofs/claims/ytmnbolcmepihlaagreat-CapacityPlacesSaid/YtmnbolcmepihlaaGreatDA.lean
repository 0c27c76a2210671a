/- Several texts in one. No condition but those that stand in each. -/
import Derived.Test.YtmnbolcmepihlaaGreatWY
namespace Go.Proofs.YtmnbolcmepihlaaGreat
open Go
set_option maxRecDepth 100000
set_option linter.all false
noncomputable section
def nw(n:Int):Option Bool:=
 some ((decide (1≤n))&&(decide (n≤1000)))
def kW(t:ai)(ra1:Int):Option Bool:=
 bJ t.aC 0 (λ(j1:Int) (e1:bg) (Z1:Unit→Option _) (sg:Unit)=>match sg with|()=>bif decide (e1.ID=ra1)then some true else Z1 ()) (λ(sg:Unit)=>match sg with|()=>some false) ()
def mG(t:ai)(cv:Int)(dJ:Int):Option (Int×Bool):=
 bJ t.Links 0 (λ(j1:Int) (e1:bk) (Z1:Unit→Option _) (sg:Unit)=>match sg with|()=>bif ((decide (e1.A=cv))&&(decide (e1.B=dJ)))then some (e1.eZ,true)else bif ((decide (e1.B=cv))&&(decide (e1.A=dJ)))then some (e1.gj,true)else Z1 ()) (λ(sg:Unit)=>match sg with|()=>some ((0:Int),false)) ()
def gZ(t:ai):Option Int:=
 bif ((decide (24<(t.aC.length:Int)))||(decide (60<(t.Links.length:Int))))then some (3:Int)else bJ t.aC 0 (λ(j1:Int) (e1:bg) (Z1:Unit→Option _) (sg:Unit)=>match sg with|()=>bif ((decide (e1.ID<1))||(decide (99<e1.ID)))then some (2:Int)else Z1 ()) (λ(sg:Unit)=>match sg with|()=>bJ (List.drop 1 t.aC) 1 (λ(j2:Int) (e2:bg) (Z2:Unit→Option _) (sg:Unit)=>match sg with|()=>bnd (elO t.aC (w64 ((j2:Int)-(1:Int)))) λ(e_1:bg)=>bif decide (e2.ID≤e_1.ID)then some (25:Int)else Z2 ()) (λ(sg:Unit)=>match sg with|()=>bJ t.Links 0 (λ(j3:Int) (e3:bk) (Z3:Unit→Option _) (sg:Unit)=>match sg with|()=>jn (λ(v_1:Bool)=>bif v_1 then some (2:Int)else Z3 ()) λJ1=>bnd (nw e3.eZ) λ(aq:Bool)=>(bif !aq then J1 true else bnd (nw e3.gj) λ(aF:Bool)=>(bif !aF then J1 true else(bif decide (e3.dZ<0)then J1 true else J1 (decide (1000<e3.dZ)))))) (λ(sg:Unit)=>match sg with|()=>bJ t.Links 0 (λ(j4:Int) (e4:bk) (Z4:Unit→Option _) (sg:Unit)=>match sg with|()=>jn (λ(v_2:Bool)=>bif v_2 then some (4:Int)else Z4 ()) λJ2=>bnd (kW t e4.A) λ(bx:Bool)=>(bif !bx then J2 true else bnd (kW t e4.B) λ(bV:Bool)=>J2 (!bV))) (λ(sg:Unit)=>match sg with|()=>bJ t.Links 0 (λ(j5:Int) (e5:bk) (Z5:Unit→Option _) (sg:Unit)=>match sg with|()=>bif decide (e5.B≤e5.A)then some (8:Int)else Z5 ()) (λ(sg:Unit)=>match sg with|()=>bJ (List.drop 1 t.Links) 1 (λ(j6:Int) (e6:bk) (Z6:Unit→Option _) (sg:Unit)=>match sg with|()=>bnd (elO t.Links (w64 ((j6:Int)-(1:Int)))) λ(e_2:bk)=>bif ((decide (e6.A<e_2.A))||((decide (e_2.A=e6.A))&&(decide (e6.B≤e_2.B))))then some (25:Int)else Z6 ()) (λ(sg:Unit)=>match sg with|()=>some (0:Int)) ()) ()) ()) ()) ()) ()
end
end Go.Proofs.YtmnbolcmepihlaaGreat
namespace Go.Proofs.YtmnbolcmepihlaaGreat
open Go
set_option maxRecDepth 100000
set_option linter.all false
noncomputable section
def kX(t:ai)(ra1:Int):Option Bool:=
 bnd (gZ t) λ(aq:Int)=>(bif decide (aq=0)then bnd (kW t ra1) λ(aF:Bool)=>some aF else some false)
def lM(t:ai)(cv:Int)(dJ:Int):Option (Int×Bool):=
 bnd (gZ t) λ(aq:Int)=>bif !decide (aq=0)then some ((0:Int),false)else bnd (mG t cv dJ) λ(aF:Int×Bool)=>some (aF.1,aF.2)
end
end Go.Proofs.YtmnbolcmepihlaaGreat
namespace Go.Proofs.YtmnbolcmepihlaaGreat
open Go
set_option maxRecDepth 100000
set_option linter.all false
noncomputable section
def fN(xa0:Int):Option Bool:=
 some (!decide (xa0=xa0))
def cA(xa0:Int)(y:Int):Option Int:=
 bnd (fN xa0) λ(aq:Bool)=>bnd (fN y) λ(aF:Bool)=>bif aq then bif aF then some (0:Int)else some (-1:Int)else bif aF then some (1:Int)else bif decide (xa0<y)then some (-1:Int)else bif decide (y<xa0)then some (1:Int)else some (0:Int)
def fE(vals:List Int):Option Int:=
 bJ vals 0 (λ(j1:Int) (e1:Int) (Z1:Unit→Option _) (sg:Unit)=>match sg with|()=>bif !decide (e1=0)then some e1 else Z1 ()) (λ(sg:Unit)=>match sg with|()=>some (0:Int)) ()
def cw(xa0:List bk)(target:bk)(cmp:bk→bk→Option Int):Option (Int×Bool):=
 whl (λ(Z1:(Int×Int)→Option _) (sg:Int×Int)=>match sg with|(i_1,j_1)=>bif decide (i_1<j_1)then bnd (elO xa0 (w64 (Int.fdiv (IntKind.wrap .u64 (w64 (i_1+j_1))) (2 ^ min (1:Int).toNat 64)))) λ(e_1:bk)=>bnd (cmp e_1 target) λ(aq:Int)=>bif decide (aq<0)then Z1 (w64 ((w64 (Int.fdiv (IntKind.wrap .u64 (w64 (i_1+j_1))) (2 ^ min (1:Int).toNat 64)))+(1:Int)),j_1)else Z1 (i_1,w64 (Int.fdiv (IntKind.wrap .u64 (w64 (i_1+j_1))) (2 ^ min (1:Int).toNat 64)))else(bif decide (i_1<(xa0.length:Int))then bnd (elO xa0 i_1) λ(e_2:bk)=>bnd (cmp e_2 target) λ(aF:Int)=>some (i_1,decide (aF=0))else some (i_1,false))) ((0:Int),(xa0.length:Int))
def cg(xa0:List bg)(target:Int)(cmp:bg→Int→Option Int):Option (Int×Bool):=
 whl (λ(Z1:(Int×Int)→Option _) (sg:Int×Int)=>match sg with|(i_1,j_1)=>bif decide (i_1<j_1)then bnd (elO xa0 (w64 (Int.fdiv (IntKind.wrap .u64 (w64 (i_1+j_1))) (2 ^ min (1:Int).toNat 64)))) λ(e_1:bg)=>bnd (cmp e_1 target) λ(aq:Int)=>bif decide (aq<0)then Z1 (w64 ((w64 (Int.fdiv (IntKind.wrap .u64 (w64 (i_1+j_1))) (2 ^ min (1:Int).toNat 64)))+(1:Int)),j_1)else Z1 (i_1,w64 (Int.fdiv (IntKind.wrap .u64 (w64 (i_1+j_1))) (2 ^ min (1:Int).toNat 64)))else(bif decide (i_1<(xa0.length:Int))then bnd (elO xa0 i_1) λ(e_2:bg)=>bnd (cmp e_2 target) λ(aF:Int)=>some (i_1,decide (aF=0))else some (i_1,false))) ((0:Int),(xa0.length:Int))
def ij(sa0:List Int)(v:Int):Option Int:=
 bJ sa0 0 (λ(j1:Int) (e1:Int) (Z1:Unit→Option _) (sg:Unit)=>match sg with|()=>bif decide (v=e1)then some (j1:Int)else Z1 ()) (λ(sg:Unit)=>match sg with|()=>some (-1:Int)) ()
def ec(sa0:List bg)(f:bg→Option Bool):Option Int:=
 bJ sa0 0 (λ(j1:Int) (e1:bg) (Z1:Unit→Option _) (sg:Unit)=>match sg with|()=>bnd (f e1) λ(aq:Bool)=>bif aq then some (j1:Int)else Z1 ()) (λ(sg:Unit)=>match sg with|()=>some (-1:Int)) ()
def eC(sa0:List bk)(f:bk→Option Bool):Option Int:=
 bJ sa0 0 (λ(j1:Int) (e1:bk) (Z1:Unit→Option _) (sg:Unit)=>match sg with|()=>bnd (f e1) λ(aq:Bool)=>bif aq then some (j1:Int)else Z1 ()) (λ(sg:Unit)=>match sg with|()=>some (-1:Int)) ()
def ez(sa0:List ah)(f:ah→Option Bool):Option Int:=
 bJ sa0 0 (λ(j1:Int) (e1:ah) (Z1:Unit→Option _) (sg:Unit)=>match sg with|()=>bnd (f e1) λ(aq:Bool)=>bif aq then some (j1:Int)else Z1 ()) (λ(sg:Unit)=>match sg with|()=>some (-1:Int)) ()
def fF(sa0:List Int)(v:Int):Option Bool:=
 bnd (ij sa0 v) λ(aq:Int)=>some (decide (0≤aq))
def cU(sa0:List bg)(f:bg→Option Bool):Option Bool:=
 bnd (ec sa0 f) λ(aq:Int)=>some (decide (0≤aq))
def cu(sa0:List bk)(f:bk→Option Bool):Option Bool:=
 bnd (eC sa0 f) λ(aq:Int)=>some (decide (0≤aq))
def hU(n:Int)(least:Int)(most:Int):Option Bool:=
 some ((decide (least≤n))&&(decide (n≤most)))
def gE(a:bk)(b:bk):Option Int:=
 bnd (cA a.A b.A) λ(aq:Int)=>bnd (cA a.B b.B) λ(aF:Int)=>bnd (fE ([aq,aF]:List Int)) λ(bx:Int)=>some bx
def iX(ra0:bg)(id:Int):Option Int:=
 bnd (cA ra0.ID id) λ(aq:Int)=>some aq
def ki(ra0:bg):Option Bool:=
 bnd (hU ra0.ID (1:Int) (99:Int)) λ(aq:Bool)=>some (!aq)
def iS(l:bk):Option Bool:=
 bnd (hU l.eZ (1:Int) (1000:Int)) λ(aq:Bool)=>(bif !aq then some true else bnd (hU l.gj (1:Int) (1000:Int)) λ(aF:Bool)=>(bif !aF then some true else bnd (hU l.dZ (0:Int) (1000:Int)) λ(bx:Bool)=>some (!bx)))
def gF(id:Int)(c_0:ai):Option Bool:=
 bnd (cg c_0.aC id iX) λ(aq:Int×Bool)=>some (!aq.2)
def kj(l:bk)(c_0:ai):Option Bool:=
 bnd (gF l.A c_0) λ(aq:Bool)=>(bif aq then some true else bnd (gF l.B c_0) λ(aF:Bool)=>some aF)
def ko(l:bk):Option Bool:=
 some (decide (l.B≤l.A))
def gy(t:ai):Option Int:=
 bif ((decide (24<(t.aC.length:Int)))||(decide (60<(t.Links.length:Int))))then some (3:Int)else bnd (cU t.aC ki) λ(aq:Bool)=>bif aq then some (2:Int)else bJ t.aC 0 (λ(j1:Int) (e1:bg) (Z1:Unit→Option _) (sg:Unit)=>match sg with|()=>jn (λ(v_1:Bool)=>bif v_1 then some (25:Int)else Z1 ()) λJ1=>(bif decide (0<(j1:Int))then bnd (elO t.aC (w64 ((j1:Int)-(1:Int)))) λ(e_1:bg)=>J1 (decide (e1.ID≤e_1.ID))else J1 false)) (λ(sg:Unit)=>match sg with|()=>bnd (cu t.Links iS) λ(aF:Bool)=>bif aF then some (2:Int)else bnd (cu t.Links (λ(y0:bk)=>kj y0 t)) λ(bx:Bool)=>bif bx then some (4:Int)else bnd (cu t.Links ko) λ(bV:Bool)=>bif bV then some (8:Int)else bJ t.Links 0 (λ(j2:Int) (e2:bk) (Z2:Unit→Option _) (sg:Unit)=>match sg with|()=>jn (λ(v_2:Bool)=>bif v_2 then some (25:Int)else Z2 ()) λJ2=>(bif decide (0<(j2:Int))then bnd (elO t.Links (w64 ((j2:Int)-(1:Int)))) λ(e_2:bk)=>bnd (gE e_2 e2) λ(cK:Int)=>J2 (decide (0≤cK))else J2 false)) (λ(sg:Unit)=>match sg with|()=>some (0:Int)) ()) ()
def iE(t:ai):Option Bool:=
 bnd (gy t) λ(aq:Int)=>some (decide (aq=0))
def kr(t:ai)(jG:Int):Option (bg×Bool):=
 bnd (cg t.aC jG iX) λ(aq:Int×Bool)=>bif !aq.2 then some ((bg.mk (0:Int) false),false)else bnd (elO t.aC aq.1) λ(e_1:bg)=>some (e_1,true)
def jr(t:ai)(jG:Int):Option Bool:=
 bnd (kr t jG) λ(aq:bg×Bool)=>bnd (iE t) λ(aF:Bool)=>(bif aF then some aq.2 else some false)
def iY(t:ai)(cv:Int)(dJ:Int):Option (Int×Bool):=
 bnd (iE t) λ(aq:Bool)=>bif !aq then some ((0:Int),false)else bnd (cw t.Links (bk.mk (if dJ<cv then dJ else cv) (if dJ>cv then dJ else cv) (0:Int) (0:Int) (0:Int)) gE) λ(aF:Int×Bool)=>bif !aF.2 then some ((0:Int),false)else bif decide (cv<dJ)then bnd (elO t.Links aF.1) λ(e_1:bk)=>some (e_1.eZ,true)else bnd (elO t.Links aF.1) λ(e_2:bk)=>some (e_2.gj,true)
end
end Go.Proofs.YtmnbolcmepihlaaGreat
namespace Go.Proofs.YtmnbolcmepihlaaGreat
open Go
set_option maxRecDepth 100000
set_option linter.all false
noncomputable section
def nV(xa0:Int):Option Int:=
 jn (λ(sg:Int×Int)=>match sg with|(aq,n_1)=>jn (λ(sg:Int×Int)=>match sg with|(aF,n_2)=>jn (λ(sg:Int×Int)=>match sg with|(bx,n_3)=>bnd (ixS (⟨#[0,1,2,2,3,3,3,3,4,4,4,4,4,4,4,4,5,5,5,5,5,5,5,5,5,5,5,5,5,5,5,5,6,6,6,6,6,6,6,6,6,6,6,6,6,6,6,6,6,6,6,6,6,6,6,6,6,6,6,6,6,6,6,6,7,7,7,7,7,7,7,7,7,7,7,7,7,7,7,7,7,7,7,7,7,7,7,7,7,7,7,7,7,7,7,7,7,7,7,7,7,7,7,7,7,7,7,7,7,7,7,7,7,7,7,7,7,7,7,7,7,7,7,7,7,7,7,7,8,8,8,8,8,8,8,8,8,8,8,8,8,8,8,8,8,8,8,8,8,8,8,8,8,8,8,8,8,8,8,8,8,8,8,8,8,8,8,8,8,8,8,8,8,8,8,8,8,8,8,8,8,8,8,8,8,8,8,8,8,8,8,8,8,8,8,8,8,8,8,8,8,8,8,8,8,8,8,8,8,8,8,8,8,8,8,8,8,8,8,8,8,8,8,8,8,8,8,8,8,8,8,8,8,8,8,8,8,8,8,8,8,8,8,8,8,8,8,8,8,8,8,8,8,8,8,8]⟩:ByteArray) (IntKind.wrap .u8 bx)) λ(b_1:UInt8)=>some (w64 (n_3+(w64 (b_1.toNat:Int))))) λJ3=>bif decide (256≤aF)then J3 (Int.fdiv aF (2 ^ min (8:Int).toNat 64),w64 (n_2+8))else J3 (aF,n_2)) λJ2=>bif decide (65536≤aq)then J2 (Int.fdiv aq (2 ^ min (16:Int).toNat 64),w64 (n_1+16))else J2 (aq,n_1)) λJ1=>bif decide (4294967296≤xa0)then J1 (Int.fdiv xa0 (2 ^ min (32:Int).toNat 64),(32:Int))else J1 (xa0,(0:Int))
def pP(xa0:Int):Option Int:=
 bnd (nV xa0) λ(aq:Int)=>some aq
def fR: Option Unit:=
 whl (λ(Z1:Unit→Option _) (sg:Unit)=>match sg with|()=>some ()) ()
def gM(limit:Int):Option Unit:=
 whl (λ(Z1:Unit→Option _) (sg:Unit)=>match sg with|()=>bnd (fR) λ(aq:Unit)=>some ()) ()
def mH: Option Unit:=
 bnd (pP (0:Int)) λ(aq:Int)=>bnd (gM aq) λ(aF:Unit)=>some ()
end
end Go.Proofs.YtmnbolcmepihlaaGreat
namespace Go.Proofs.YtmnbolcmepihlaaGreat
open Go
set_option maxRecDepth 100000
set_option linter.all false
noncomputable section
def jf(t:List Int):Option bL:=
 bnd (lH t (0:Int) (if(2000:Int)<(t.length:Int)then(2000:Int)else(t.length:Int))) λ(l_1:List Int)=>some (bL.mk l_1 (0:Int))
def gw(t:bL):Option (Int×bL):=
 bif decide ((t.L.length:Int)≤t.At)then some ((0:Int),t)else bnd (elO t.L (w64 ((w64 (t.At+1))-(1:Int)))) λ(e_1:Int)=>some (e_1,(bL.mk t.L (w64 (t.At+1))))
def jg(xa0:Int)(n:Int):Option Int:=
 bif decide (n<1)then some (0:Int)else chk (decide (n≠0))<|jn (λ(aq:Int)=>some aq) λJ1=>bif decide (Int.tmod xa0 n<0)then J1 (w64 ((Int.tmod xa0 n)+n))else J1 (Int.tmod xa0 n)
def ck(t:bL)(n:Int):Option (Int×bL):=
 bnd (gw t) λ(aq:Int×bL)=>bnd (jg aq.1 n) λ(aF:Int)=>some (aF,aq.2)
def eA(t:bL)(lo:Int)(hi:Int):Option (Int×bL):=
 bnd (ck t (w64 ((w64 (hi-lo))+(1:Int)))) λ(aq:Int×bL)=>some (w64 (lo+aq.1),aq.2)
def dL(t:bL)(l:List Int):Option (Int×bL):=
 bnd (ck t (l.length:Int)) λ(aq:Int×bL)=>bnd (elO l aq.1) λ(e_1:Int)=>some (e_1,aq.2)
def dF(l:List Int)(xa1:Int):Option Bool:=
 bJ l 0 (λ(j1:Int) (e1:Int) (Z1:Unit→Option _) (sg:Unit)=>match sg with|()=>bif decide (e1=xa1)then some true else Z1 ()) (λ(sg:Unit)=>match sg with|()=>some false) ()
def ee(l:List Int)(xa1:Int):Option (List Int):=
 whl (λ(Z1:Int→Option _) (k_1:Int)=>jn (λ(v_1:Bool)=>bif v_1 then Z1 (w64 (k_1+1))else jn (λ(v_2:Bool)=>bif v_2 then some l else bnd (lH l k_1 (l.length:Int)) λ(l_1:List Int)=>bnd (gn ([xa1]:List Int) l_1) λ(l_2:List Int)=>bnd (lH l (0:Int) k_1) λ(l_3:List Int)=>bnd (gn l_3 l_2) λ(l_4:List Int)=>some l_4) λJ2=>(bif decide (k_1<(l.length:Int))then bnd (elO l k_1) λ(e_2:Int)=>J2 (decide (e_2=xa1))else J2 false)) λJ1=>(bif decide (k_1<(l.length:Int))then bnd (elO l k_1) λ(e_1:Int)=>J1 (decide (e_1<xa1))else J1 false)) (0:Int)
def iT(a:List Int)(b:List Int):Option Bool:=
 bif !decide ((a.length:Int)=(b.length:Int))then some false else bJ a 0 (λ(j1:Int) (e1:Int) (Z1:Unit→Option _) (sg:Unit)=>match sg with|()=>bnd (elO b (j1:Int)) λ(e_1:Int)=>bif !decide (e1=e_1)then some false else Z1 ()) (λ(sg:Unit)=>match sg with|()=>some true) ()
end
end Go.Proofs.YtmnbolcmepihlaaGreat
namespace Go.Proofs.YtmnbolcmepihlaaGreat
open Go
set_option maxRecDepth 100000
set_option linter.all false
noncomputable section
def jt(n:Int):Option Bool:=
 some ((decide (1≤n))&&(decide (n≤99)))
def gX(t:aT):Option Int:=
 bnd (jt t.bw) λ(aq:Bool)=>bJ t.Links 0 (λ(j1:Int) (e1:az) (Z1:Bool→Option _) (vv:Bool)=>(bif vv then bnd (jt e1.aD) λ(aF:Bool)=>(bif aF then bnd (jt e1.To) λ(bx:Bool)=>Z1 bx else Z1 false)else Z1 false)) (λ(vv:Bool)=>bif !vv then some (2:Int)else bJ (List.drop 1 t.Links) 1 (λ(j2:Int) (e2:az) (Z2:Unit→Option _) (sg:Unit)=>match sg with|()=>bnd (elO t.Links (w64 ((j2:Int)-(1:Int)))) λ(e_1:az)=>bif ((decide (e2.aD<e_1.aD))||((decide (e_1.aD=e2.aD))&&(decide (e2.To≤e_1.To))))then some (25:Int)else Z2 ()) (λ(sg:Unit)=>match sg with|()=>bJ t.Links 0 (λ(j3:Int) (e3:az) (Z3:Unit→Option _) (sg:Unit)=>match sg with|()=>bnd (lH t.Links (0:Int) (j3:Int)) λ(l_1:List az)=>bJ l_1 0 (λ(j4:Int) (e4:az) (Z4:Unit→Option _) (sg:Unit)=>match sg with|()=>bif decide (e4.To=e3.To)then some (8:Int)else Z4 ()) (λ(sg:Unit)=>match sg with|()=>bif decide (e3.To=t.bw)then some (8:Int)else Z3 ()) ()) (λ(sg:Unit)=>match sg with|()=>whl (λ(Z5:((List Int)×Bool)→Option _) (sg:(List Int)×Bool)=>match sg with|(ny,gG)=>bif gG then bJ t.Links 0 (λ(j6:Int) (e6:az) (Z6:((List Int)×Bool)→Option _) (sg:(List Int)×Bool)=>match sg with|(gr,ep)=>jn (λ(sg:(List Int)×Bool)=>match sg with|(oZ,eV)=>Z6 (oZ,eV)) λJ1=>jn (λ(v_1:Bool)=>bif v_1 then bnd (gn gr ([e6.To]:List Int)) λ(l_2:List Int)=>J1 (l_2,true)else J1 (gr,ep)) λJ2=>bnd (dF gr e6.aD) λ(bV:Bool)=>(bif bV then bnd (dF gr e6.To) λ(cK:Bool)=>J2 (!cK)else J2 false)) (λ(sg:(List Int)×Bool)=>match sg with|(gr,ep)=>Z5 (gr,ep)) (ny,false)else bJ t.Links 0 (λ(j7:Int) (e7:az) (Z7:Unit→Option _) (sg:Unit)=>match sg with|()=>bnd (dF ny e7.aD) λ(cQ:Bool)=>bif !cQ then some (10:Int)else Z7 ()) (λ(sg:Unit)=>match sg with|()=>some (0:Int)) ()) (([t.bw]:List Int),true)) ()) ()) aq
def kG(t:aT):Option (List Int):=
 bnd (gX t) λ(aq:Int)=>bif !decide (aq=0)then some []else bJ t.Links 0 (λ(j1:Int) (e1:az) (Z1:(List Int)→Option _) (bK:(List Int))=>bnd (ee bK e1.To) λ(aF:(List Int))=>Z1 aF) (λ(bK:(List Int))=>some bK) ([t.bw]:List Int)
def gY(l:List Int):Option Bool:=
 bJ (List.drop 1 l) 1 (λ(j1:Int) (e1:Int) (Z1:Unit→Option _) (sg:Unit)=>match sg with|()=>bnd (elO l (w64 ((j1:Int)-(1:Int)))) λ(e_1:Int)=>bif decide (e1≤e_1)then some false else Z1 ()) (λ(sg:Unit)=>match sg with|()=>some true) ()
end
end Go.Proofs.YtmnbolcmepihlaaGreat
namespace Go.Proofs.YtmnbolcmepihlaaGreat
open Go
set_option maxRecDepth 100000
set_option linter.all false
noncomputable section
def lQ(t:bL)(most:Int):Option (ai×bL):=
 bnd (eA t (1:Int) most) λ(aq:Int×bL)=>chk (decide (aq.1≤9223372036854775807))<|jd (aq.1-0).toNat (0:Int) (λ(j1:Int) (Z1:(Int×(List bg)×(List Int)×Int)→Option _) (sg:Int×(List bg)×(List Int)×Int)=>match sg with|(tN,m_1,m_2,m_3)=>bnd (dL (bL.mk m_2 m_3) ([(1:Int),(1:Int),(1:Int),(2:Int),(5:Int)]:List Int)) λ(aF:Int×bL)=>bnd (gn m_1 ([(bg.mk (w64 (tN+aF.1)) true)]:List bg)) λ(l_1:List bg)=>Z1 (w64 (tN+aF.1),l_1,aF.2.L,aF.2.At)) (λ(j1:Int) (sg:Int×(List bg)×(List Int)×Int)=>match sg with|(tN,m_1,m_2,m_3)=>chk (decide (0<aq.1)&&decide (aq.1≤4294967296))<|chk (decide (((List.replicate aq.1.toNat []:List (List Bool)).length:Int)≤9223372036854775807))<|jd (((List.replicate aq.1.toNat []:List (List Bool)).length:Int)-(0:Int)).toNat (0:Int) (λ(j2:Int) (Z2:(List (List Bool))→Option _) (m_4:(List (List Bool)))=>chk (decide (0≤aq.1)&&decide (aq.1≤4294967296))<|bnd (elO m_4 (j2:Int)) λ(e_1:List Bool)=>Z2 (List.set m_4 (j2:Int).toNat (List.replicate (aq.1).toNat false))) (λ(j2:Int) (m_4:(List (List Bool)))=>chk (decide (aq.1≤9223372036854775807))<|jd (aq.1-1).toNat (1:Int) (λ(j3:Int) (Z3:((List Int)×Int×(List (List Bool)))→Option _) (sg:(List Int)×Int×(List (List Bool)))=>match sg with|(m_5,m_6,m_7)=>jn (λ(sg:(List (List Bool))×(List Int)×Int)=>match sg with|(m_8,m_9,gA)=>Z3 (m_9,gA,m_8)) λJ1=>bnd (ck (bL.mk m_5 m_6) (12:Int)) λ(bx:Int×bL)=>bif decide (bx.1<11)then bnd (ck bx.2 (j3:Int)) λ(bV:Int×bL)=>bnd (elO m_7 bV.1) λ(e_2:List Bool)=>bnd (elO e_2 (j3:Int)) λ(e_3:Bool)=>bnd (nu e_2 (j3:Int) true) λ(l_2:List Bool)=>J1 ((List.set m_7 bV.1.toNat l_2),bV.2.L,bV.2.At)else J1 (m_7,bx.2.L,bx.2.At)) (λ(j3:Int) (sg:(List Int)×Int×(List (List Bool)))=>match sg with|(m_5,m_6,m_7)=>bnd (ck (bL.mk m_5 m_6) (w64 (aq.1+2))) λ(cK:Int×bL)=>whl (λ(Z4:(Int×(List Int)×Int×(List (List Bool)))→Option _) (sg:Int×(List Int)×Int×(List (List Bool)))=>match sg with|(i_1,qq,aaB,eN)=>bif decide (0<i_1)then jn (λ(sg:(List (List Bool))×(List Int)×Int)=>match sg with|(aaC,aaD,aaE)=>Z4 (w64 (i_1-1),aaD,aaE,aaC)) λJ2=>bnd (ck (bL.mk qq aaB) aq.1) λ(cQ:Int×bL)=>bnd (ck cQ.2 aq.1) λ(dy:Int×bL)=>bif !decide (cQ.1=dy.1)then bnd (elO eN (if dy.1<cQ.1 then dy.1 else cQ.1)) λ(e_4:List Bool)=>bnd (elO e_4 (if dy.1>cQ.1 then dy.1 else cQ.1)) λ(e_5:Bool)=>bnd (nu e_4 (if dy.1>cQ.1 then dy.1 else cQ.1) true) λ(l_3:List Bool)=>J2 ((List.set eN (if dy.1<cQ.1 then dy.1 else cQ.1).toNat l_3),dy.2.L,dy.2.At)else J2 (eN,dy.2.L,dy.2.At)else bnd (ck (bL.mk qq aaB) (3:Int)) λ(lR:Int×bL)=>chk (decide ((eN.length:Int)≤9223372036854775807))<|jd ((eN.length:Int)-(0:Int)).toNat (0:Int) (λ(j5:Int) (Z5:((List bk)×(List Int)×Int)→Option _) (sg:(List bk)×(List Int)×Int)=>match sg with|(vw,vz,vA)=>chk (decide ((eN.length:Int)≤9223372036854775807))<|jd ((eN.length:Int)-(0:Int)).toNat (0:Int) (λ(j6:Int) (Z6:((List bk)×(List Int)×Int)→Option _) (sg:(List bk)×(List Int)×Int)=>match sg with|(qs,sM,sN)=>jn (λ(sg:(List Int)×Int×(List bk))=>match sg with|(aaF,aaG,aaH)=>Z6 (aaH,aaF,aaG)) λJ3=>bnd (elO eN (j5:Int)) λ(e_6:List Bool)=>bnd (elO e_6 (j6:Int)) λ(e_7:Bool)=>bif !e_7 then J3 (sM,sN,qs)else bnd (elO m_1 (j5:Int)) λ(e_8:bg)=>bnd (elO m_1 (j6:Int)) λ(e_9:bg)=>bnd (dL (bL.mk sM sN) ([(0:Int),(1:Int),(2:Int),(3:Int),(5:Int),(10:Int),(1000:Int)]:List Int)) λ(rC:Int×bL)=>jn (λ(sg:(List Int)×Int×Int×Int)=>match sg with|(aaI,aaJ,acV,acW)=>bnd (gn qs ([(bk.mk e_8.ID e_9.ID acV acW rC.1)]:List bk)) λ(l_4:List bk)=>J3 (aaI,aaJ,l_4)) λJ4=>bif !(decide (lR.1=0))then bnd (eA rC.2 (1:Int) (20:Int)) λ(afe:Int×bL)=>bnd (dL afe.2 ([(1:Int),(2:Int),(3:Int),afe.1,(1000:Int)]:List Int)) λ(rS:Int×bL)=>bnd (eA rS.2 (1:Int) (20:Int)) λ(aff:Int×bL)=>bnd (dL aff.2 ([rS.1,rS.1,aff.1]:List Int)) λ(rT:Int×bL)=>J4 (rT.2.L,rT.2.At,rS.1,rT.1)else J4 (rC.2.L,rC.2.At,(1:Int),(1:Int))) (λ(j6:Int) (sg:(List bk)×(List Int)×Int)=>match sg with|(qs,sM,sN)=>Z5 (qs,sM,sN)) (vw,vz,vA)) (λ(j5:Int) (sg:(List bk)×(List Int)×Int)=>match sg with|(vw,vz,vA)=>some ((ai.mk m_1 vw),(bL.mk vz vA))) ([],lR.2.L,lR.2.At)) (cK.1,cK.2.L,cK.2.At,m_7)) (m_2,m_3,m_4)) (List.replicate aq.1.toNat []:List (List Bool))) ((0:Int),[],aq.2.L,aq.2.At)
def pS(t:bL)(p:ai)(n:Int):Option ((List Int)×bL):=
 bnd (ck t (w64 (n+1))) λ(aq:Int×bL)=>whl (λ(Z1:((List Int)×Int×(List Int)×Int)→Option _) (sg:(List Int)×Int×(List Int)×Int)=>match sg with|(bK,i_1,m_1,m_2)=>bif ((decide (0<i_1))&&(decide (0<(p.aC.length:Int))))then bnd (ck (bL.mk m_1 m_2) (p.aC.length:Int)) λ(aF:Int×bL)=>bnd (elO p.aC aF.1) λ(e_1:bg)=>bnd (ee bK e_1.ID) λ(bx:(List Int))=>Z1 (bx,w64 (i_1-1),aF.2.L,aF.2.At)else some (bK,(bL.mk m_1 m_2))) ([],aq.1,aq.2.L,aq.2.At)
end
end Go.Proofs.YtmnbolcmepihlaaGreat
namespace Go.Proofs.YtmnbolcmepihlaaGreat
open Go
set_option maxRecDepth 100000
set_option linter.all false
noncomputable section
def iV(xa0:Int):Option Bool:=
 some (!decide (xa0=xa0))
def lS(xa0:Int)(y:Int):Option Bool:=
 bnd (fN xa0) λ(aq:Bool)=>(bif aq then bnd (fN y) λ(aF:Bool)=>(bif !aF then some true else some (decide (xa0<y)))else some (decide (xa0<y)))
def eG(xa0:List Int)(target:Int):Option (Int×Bool):=
 whl (λ(Z1:(Int×Int)→Option _) (sg:Int×Int)=>match sg with|(i_1,j_1)=>bif decide (i_1<j_1)then bnd (elO xa0 (w64 (Int.fdiv (IntKind.wrap .u64 (w64 (i_1+j_1))) (2 ^ min (1:Int).toNat 64)))) λ(e_1:Int)=>bnd (lS e_1 target) λ(aq:Bool)=>bif aq then Z1 (w64 ((w64 (Int.fdiv (IntKind.wrap .u64 (w64 (i_1+j_1))) (2 ^ min (1:Int).toNat 64)))+(1:Int)),j_1)else Z1 (i_1,w64 (Int.fdiv (IntKind.wrap .u64 (w64 (i_1+j_1))) (2 ^ min (1:Int).toNat 64)))else(bif decide (i_1<(xa0.length:Int))then bnd (elO xa0 i_1) λ(e_2:Int)=>(bif decide (e_2=target)then some (i_1,true)else bnd (iV e_2) λ(aF:Bool)=>(bif aF then bnd (iV target) λ(bx:Bool)=>some (i_1,bx)else some (i_1,false)))else some (i_1,false))) ((0:Int),(xa0.length:Int))
def gH(n:Int):Option Bool:=
 some ((decide (1≤n))&&(decide (n≤99)))
def ir(t:aT):Option (List (Int×Bool)):=
 whl (λ(Z1:(Bool×(List (Int×Bool)))→Option _) (sg:Bool×(List (Int×Bool)))=>match sg with|(sk,m_1)=>bif sk then bJ t.Links 0 (λ(j2:Int) (e2:az) (Z2:(Bool×(List (Int×Bool)))→Option _) (sg:Bool×(List (Int×Bool)))=>match sg with|(lT,m_2)=>jn (λ(sg:Bool×(List (Int×Bool)))=>match sg with|(sr,m_3)=>Z2 (sr,m_3)) λJ1=>bif (((aY m_2 e2.aD).getD false)&&(!((aY m_2 e2.To).getD false)))then J1 (true,bN m_2 e2.To true)else J1 (lT,m_2)) (λ(sg:Bool×(List (Int×Bool)))=>match sg with|(lT,m_2)=>Z1 (lT,m_2)) (false,m_1)else some m_1) (true,bN [] t.bw true)
def fT(t:aT):Option Int:=
 bnd (gH t.bw) λ(aq:Bool)=>bif !aq then some (2:Int)else bJ t.Links 0 (λ(j1:Int) (e1:az) (Z1:Unit→Option _) (sg:Unit)=>match sg with|()=>jn (λ(v_1:Bool)=>bif v_1 then some (2:Int)else Z1 ()) λJ1=>bnd (gH e1.aD) λ(aF:Bool)=>(bif !aF then J1 true else bnd (gH e1.To) λ(bx:Bool)=>J1 (!bx))) (λ(sg:Unit)=>match sg with|()=>bJ (List.drop 1 t.Links) 1 (λ(j2:Int) (e2:az) (Z2:Unit→Option _) (sg:Unit)=>match sg with|()=>bnd (elO t.Links (w64 ((j2:Int)-(1:Int)))) λ(e_1:az)=>bnd (cA e_1.aD e2.aD) λ(bV:Int)=>bnd (cA e_1.To e2.To) λ(cK:Int)=>bnd (fE ([bV,cK]:List Int)) λ(cQ:Int)=>bif decide (0≤cQ)then some (25:Int)else Z2 ()) (λ(sg:Unit)=>match sg with|()=>bJ t.Links 0 (λ(j3:Int) (e3:az) (Z3:(List (Int×Bool))→Option _) (m_1:(List (Int×Bool)))=>bif ((aY m_1 e3.To).getD false)then some (8:Int)else Z3 (bN m_1 e3.To true)) (λ(m_1:(List (Int×Bool)))=>bnd (ir t) λ(dy:(List (Int×Bool)))=>bJ t.Links 0 (λ(j4:Int) (e4:az) (Z4:Unit→Option _) (sg:Unit)=>match sg with|()=>bif !((aY dy e4.aD).getD false)then some (10:Int)else Z4 ()) (λ(sg:Unit)=>match sg with|()=>some (0:Int)) ()) (bN [] t.bw true)) ()) ()
def iu(t:aT):Option (List Int):=
 bnd (fT t) λ(aq:Int)=>bif !decide (aq=0)then some []else bJ t.Links 0 (λ(j1:Int) (e1:az) (Z1:(List Int)→Option _) (bK:(List Int))=>bnd (gn bK ([e1.To]:List Int)) λ(l_1:List Int)=>Z1 l_1) (λ(bK:(List Int))=>chk (decide (bK.length<4611686018427387904))<|some (gP bK)) ([t.bw]:List Int)
end
end Go.Proofs.YtmnbolcmepihlaaGreat
namespace Go.Proofs.YtmnbolcmepihlaaGreat
open Go
set_option maxRecDepth 100000
set_option linter.all false
noncomputable section
def kH(a:az)(b:az):Option Int:=
 bnd (cA a.aD b.aD) λ(aq:Int)=>bnd (cA a.To b.To) λ(aF:Int)=>bnd (fE ([aq,aF]:List Int)) λ(bx:Int)=>some bx
def pT(a:ah)(b:ah):Option Int:=
 bnd (cA a.Hop.aD b.Hop.aD) λ(aq:Int)=>bnd (cA a.Hop.To b.Hop.To) λ(aF:Int)=>bnd (fE ([aq,aF]:List Int)) λ(bx:Int)=>some bx
def kI(a:aR)(b:aR):Option Int:=
 bnd (cA a.aD b.aD) λ(aq:Int)=>bnd (cA a.To b.To) λ(aF:Int)=>bnd (fE ([aq,aF]:List Int)) λ(bx:Int)=>some bx
end
end Go.Proofs.YtmnbolcmepihlaaGreat
namespace Go.Proofs.YtmnbolcmepihlaaGreat
open Go
set_option maxRecDepth 100000
set_option linter.all false
noncomputable section
def pU(t:ai):Option (List ah):=
 bJ t.Links 0 (λ(j1:Int) (e1:bk) (Z1:(List ah)→Option _) (bK:(List ah))=>bnd (gn bK ([(ah.mk (az.mk e1.A e1.B) e1.eZ),(ah.mk (az.mk e1.B e1.A) e1.gj)]:List ah)) λ(l_1:List ah)=>Z1 l_1) (λ(bK:(List ah))=>bnd (jO (cZ [λx:ah=>x.Hop.aD,λx:ah=>x.Hop.To]) bK) λ(l_2:List ah)=>some l_2) []
end
end Go.Proofs.YtmnbolcmepihlaaGreat
namespace Go.Proofs.YtmnbolcmepihlaaGreat
open Go
set_option maxRecDepth 100000
set_option linter.all false
noncomputable section
def iw(l:List Int):Option Bool:=
 bJ (List.drop 1 l) 1 (λ(j1:Int) (e1:Int) (Z1:Unit→Option _) (sg:Unit)=>match sg with|()=>bnd (elO l (w64 ((j1:Int)-(1:Int)))) λ(e_1:Int)=>bif decide (e1≤e_1)then some false else Z1 ()) (λ(sg:Unit)=>match sg with|()=>some true) ()
def fK(t:ai)(xa1:aT)(receivers:List Int):Option Int:=
 bnd (gy t) λ(aq:Int)=>bif !decide (aq=0)then some (1:Int)else bnd (fT xa1) λ(aF:Int)=>bif !decide (aF=0)then some aF else bnd (gn ([xa1.bw]:List Int) receivers) λ(l_1:List Int)=>bJ l_1 0 (λ(j1:Int) (e1:Int) (Z1:Unit→Option _) (sg:Unit)=>match sg with|()=>bnd (jr t e1) λ(bx:Bool)=>bif !bx then some (4:Int)else Z1 ()) (λ(sg:Unit)=>match sg with|()=>bJ xa1.Links 0 (λ(j2:Int) (e2:az) (Z2:Unit→Option _) (sg:Unit)=>match sg with|()=>bnd (iY t e2.aD e2.To) λ(bV:Int×Bool)=>bif !bV.2 then some (4:Int)else Z2 ()) (λ(sg:Unit)=>match sg with|()=>bnd (iw receivers) λ(cK:Bool)=>bif !cK then some (25:Int)else bnd (iu xa1) λ(cQ:(List Int))=>bJ receivers 0 (λ(j3:Int) (e3:Int) (Z3:Unit→Option _) (sg:Unit)=>match sg with|()=>bnd (fF cQ e3) λ(dy:Bool)=>bif !dy then some (9:Int)else Z3 ()) (λ(sg:Unit)=>match sg with|()=>some (0:Int)) ()) ()) ()
def lV(t:ai)(xa1:aT):Option (Int×Int):=
 bnd (fK t xa1 []) λ(aq:Int)=>bif !decide (aq=0)then some ((0:Int),aq)else bJ xa1.Links 0 (λ(j1:Int) (e1:az) (Z1:Int→Option _) (pV:Int)=>bnd (iY t e1.aD e1.To) λ(aF:Int×Bool)=>Z1 (w64 (pV+aF.1))) (λ(pV:Int)=>some (pV,(0:Int))) (0:Int)
end
end Go.Proofs.YtmnbolcmepihlaaGreat
namespace Go.Proofs.YtmnbolcmepihlaaGreat
open Go
set_option maxRecDepth 100000
set_option linter.all false
noncomputable section
def gp(t:ai)(xa1:aT)(receivers:List Int):Option Int:=
 bnd (gZ t) λ(aq:Int)=>bif !decide (aq=0)then some (1:Int)else bnd (gX xa1) λ(aF:Int)=>bif !decide (aF=0)then some aF else bnd (kX t xa1.bw) λ(bx:Bool)=>bif !bx then some (4:Int)else bJ receivers 0 (λ(j1:Int) (e1:Int) (Z1:Unit→Option _) (sg:Unit)=>match sg with|()=>bnd (kX t e1) λ(bV:Bool)=>bif !bV then some (4:Int)else Z1 ()) (λ(sg:Unit)=>match sg with|()=>bJ xa1.Links 0 (λ(j2:Int) (e2:az) (Z2:Unit→Option _) (sg:Unit)=>match sg with|()=>bnd (lM t e2.aD e2.To) λ(cK:Int×Bool)=>bif !cK.2 then some (4:Int)else Z2 ()) (λ(sg:Unit)=>match sg with|()=>bnd (gY receivers) λ(cQ:Bool)=>bif !cQ then some (25:Int)else bnd (kG xa1) λ(dy:(List Int))=>bJ receivers 0 (λ(j3:Int) (e3:Int) (Z3:Unit→Option _) (sg:Unit)=>match sg with|()=>bnd (dF dy e3) λ(lR:Bool)=>bif !lR then some (9:Int)else Z3 ()) (λ(sg:Unit)=>match sg with|()=>some (0:Int)) ()) ()) ()
def nB(t:ai)(xa1:aT):Option (Int×Int):=
 bnd (gp t xa1 []) λ(aq:Int)=>bif !decide (aq=0)then some ((0:Int),aq)else bJ xa1.Links 0 (λ(j1:Int) (e1:az) (Z1:Int→Option _) (n_1:Int)=>bnd (lM t e1.aD e1.To) λ(aF:Int×Bool)=>Z1 (w64 (n_1+aF.1))) (λ(n_1:Int)=>some (n_1,(0:Int))) (0:Int)
end
end Go.Proofs.YtmnbolcmepihlaaGreat
namespace Go.Proofs.YtmnbolcmepihlaaGreat
open Go
set_option maxRecDepth 100000
set_option linter.all false
noncomputable section
def mI(t:ai):Option ((List (List Int))×(Vec 100)):=
 bJ t.aC 0 (λ(j1:Int) (e1:bg) (Z1:(Vec 100)→Option _) (m_1:(Vec 100))=>bnd (elO m_1.l e1.ID) λ(e_1:Int)=>Z1 (Vec.put m_1 e1.ID.toNat (j1:Int))) (λ(m_1:(Vec 100))=>chk (decide (0<(t.aC.length:Int))&&decide ((t.aC.length:Int)≤4294967296))<|chk (decide (((List.replicate (t.aC.length:Int).toNat []:List (List Int)).length:Int)≤9223372036854775807))<|jd (((List.replicate (t.aC.length:Int).toNat []:List (List Int)).length:Int)-(0:Int)).toNat (0:Int) (λ(j2:Int) (Z2:(List (List Int))→Option _) (m_2:(List (List Int)))=>chk (decide (0≤(t.aC.length:Int))&&decide ((t.aC.length:Int)≤4294967296))<|bnd (elO m_2 (j2:Int)) λ(e_2:List Int)=>Z2 (List.set m_2 (j2:Int).toNat (List.replicate ((t.aC.length:Int)).toNat (0:Int)))) (λ(j2:Int) (m_2:(List (List Int)))=>bJ t.Links 0 (λ(j3:Int) (e3:bk) (Z3:(List (List Int))→Option _) (m_3:(List (List Int)))=>bnd (elO m_1.l e3.A) λ(e_3:Int)=>bnd (elO m_3 e_3) λ(e_4:List Int)=>bnd (elO m_1.l e3.B) λ(e_5:Int)=>bnd (elO m_3 e_5) λ(e_6:List Int)=>bnd (elO e_4 e_5) λ(e_7:Int)=>bnd (elO (List.set m_3 e_3.toNat (List.set e_4 e_5.toNat e3.eZ)) e_5) λ(e_8:List Int)=>bnd (elO e_8 e_3) λ(e_9:Int)=>Z3 (List.set (List.set m_3 e_3.toNat (List.set e_4 e_5.toNat e3.eZ)) e_5.toNat (List.set e_8 e_3.toNat e3.gj))) (λ(m_3:(List (List Int)))=>some (m_3,m_1)) m_2) (List.replicate (t.aC.length:Int).toNat []:List (List Int))) (Vec.zero 100)
def mJ(cq:List (List Int))(root:Int)(receivers:List Int):Option Int:=
 chk (decide (0≤IntKind.wrap .u64 (receivers.length:Int)))<|chk (decide (0<IntKind.wrap .i64 ((1:Int)*2 ^ min (IntKind.wrap .u64 (receivers.length:Int)).toNat 64))&&decide (IntKind.wrap .i64 ((1:Int)*2 ^ min (IntKind.wrap .u64 (receivers.length:Int)).toNat 64)≤4294967296))<|chk (decide (((List.replicate (IntKind.wrap .i64 ((1:Int)*2 ^ min (IntKind.wrap .u64 (receivers.length:Int)).toNat 64)).toNat []:List (List Int)).length:Int)≤9223372036854775807))<|jd (((List.replicate (IntKind.wrap .i64 ((1:Int)*2 ^ min (IntKind.wrap .u64 (receivers.length:Int)).toNat 64)).toNat []:List (List Int)).length:Int)-(0:Int)).toNat (0:Int) (λ(j1:Int) (Z1:(List (List Int))→Option _) (m_1:(List (List Int)))=>chk (decide (0≤(cq.length:Int))&&decide ((cq.length:Int)≤4294967296))<|bnd (elO m_1 (j1:Int)) λ(e_1:List Int)=>bnd (elO (List.set m_1 (j1:Int).toNat (List.replicate ((cq.length:Int)).toNat (0:Int))) (j1:Int)) λ(e_2:List Int)=>chk (decide ((e_2.length:Int)≤9223372036854775807))<|jd ((e_2.length:Int)-(0:Int)).toNat (0:Int) (λ(j2:Int) (Z2:(List (List Int))→Option _) (m_2:(List (List Int)))=>jn (λ(m_3:(List (List Int)))=>Z2 m_3) λJ1=>bnd (elO m_2 (j1:Int)) λ(e_3:List Int)=>bnd (elO e_3 (j2:Int)) λ(e_4:Int)=>bif decide ((j1:Int)=(0:Int))then bnd (elO (List.set m_2 (j1:Int).toNat (List.set e_3 (j2:Int).toNat (1099511627776:Int))) (j1:Int)) λ(e_5:List Int)=>bnd (elO e_5 (j2:Int)) λ(e_6:Int)=>J1 (List.set (List.set m_2 (j1:Int).toNat (List.set e_3 (j2:Int).toNat (1099511627776:Int))) (j1:Int).toNat (List.set e_5 (j2:Int).toNat (0:Int)))else J1 (List.set m_2 (j1:Int).toNat (List.set e_3 (j2:Int).toNat (1099511627776:Int)))) (λ(j2:Int) (m_2:(List (List Int)))=>bJ receivers 0 (λ(j3:Int) (e3:Int) (Z3:(List (List Int))→Option _) (m_4:(List (List Int)))=>jn (λ(m_5:(List (List Int)))=>Z3 m_5) λJ2=>chk (decide (0≤IntKind.wrap .u64 (j3:Int)))<|bif decide ((j1:Int)=IntKind.wrap .i64 ((1:Int)*2 ^ min (IntKind.wrap .u64 (j3:Int)).toNat 64))then bnd (elO m_4 (j1:Int)) λ(e_7:List Int)=>bnd (elO e_7 e3) λ(e_8:Int)=>J2 (List.set m_4 (j1:Int).toNat (List.set e_7 e3.toNat (0:Int)))else J2 m_4) (λ(m_4:(List (List Int)))=>whl (λ(Z4:(Int×(List (List Int)))→Option _) (sg:Int×(List (List Int)))=>match sg with|(v_1,m_6)=>bif ((decide (v_1<(cq.length:Int)))&&(decide (0<(j1:Int))))then whl (λ(Z5:(Int×(List (List Int)))→Option _) (sg:Int×(List (List Int)))=>match sg with|(nC,m_7)=>bif decide (0<nC)then bnd (elO m_7 (j1:Int)) λ(e_9:List Int)=>bnd (elO e_9 v_1) λ(rD:Int)=>bnd (elO m_7 nC) λ(apv:List Int)=>bnd (elO apv v_1) λ(vC:Int)=>bnd (elO m_7 (fk .xor .i64 (j1:Int) nC)) λ(apw:List Int)=>bnd (elO apw v_1) λ(vD:Int)=>Z5 (fk .and .i64 (w64 (nC-1)) (j1:Int),(List.set m_7 (j1:Int).toNat (List.set e_9 v_1.toNat (if(w64 (vC+vD))<rD then w64 (vC+vD)else rD))))else Z4 (w64 (v_1+1),m_7)) (fk .and .i64 (w64 ((j1:Int)-(1:Int))) (j1:Int),m_6)else whl (λ(Z6:(Bool×(List (List Int)))→Option _) (sg:Bool×(List (List Int)))=>match sg with|(gG,m_8)=>bif gG then bJ cq 0 (λ(j7:Int) (e7:List Int) (Z7:(Bool×(List (List Int)))→Option _) (sg:Bool×(List (List Int)))=>match sg with|(ep,m_9)=>bJ cq 0 (λ(j8:Int) (e8:List Int) (Z8:(Bool×(List (List Int)))→Option _) (sg:Bool×(List (List Int)))=>match sg with|(eV,gA)=>jn (λ(sg:Bool×(List (List Int)))=>match sg with|(o4,qq)=>Z8 (o4,qq)) λJ3=>jn (λ(v_2:Bool)=>bif v_2 then bnd (elO gA (j1:Int)) λ(aaL:List Int)=>bnd (elO e7 (j8:Int)) λ(acX:Int)=>bnd (elO aaL (j8:Int)) λ(acY:Int)=>bnd (elO aaL (j7:Int)) λ(e_22:Int)=>J3 (true,(List.set gA (j1:Int).toNat (List.set aaL (j7:Int).toNat (w64 (acX+acY)))))else J3 (eV,gA)) λJ4=>bnd (elO e7 (j8:Int)) λ(acZ:Int)=>(bif decide (0<acZ)then bnd (elO gA (j1:Int)) λ(ais:List Int)=>bnd (elO ais (j8:Int)) λ(afg:Int)=>bnd (elO ais (j7:Int)) λ(afh:Int)=>J4 (decide (w64 (acZ+afg)<afh))else J4 false)) (λ(sg:Bool×(List (List Int)))=>match sg with|(eV,gA)=>Z7 (eV,gA)) (ep,m_9)) (λ(sg:Bool×(List (List Int)))=>match sg with|(ep,m_9)=>Z6 (ep,m_9)) (false,m_8)else Z1 m_8) (decide (0<(j1:Int)),m_6)) ((0:Int),m_4)) m_2) (List.set m_1 (j1:Int).toNat (List.replicate ((cq.length:Int)).toNat (0:Int)))) (λ(j1:Int) (m_1:(List (List Int)))=>bnd (elO m_1 (w64 ((m_1.length:Int)-(1:Int)))) λ(apx:List Int)=>bnd (elO apx root) λ(ait:Int)=>some ait) (List.replicate (IntKind.wrap .i64 ((1:Int)*2 ^ min (IntKind.wrap .u64 (receivers.length:Int)).toNat 64)).toNat []:List (List Int))
end
end Go.Proofs.YtmnbolcmepihlaaGreat
namespace Go.Proofs.YtmnbolcmepihlaaGreat
open Go
set_option maxRecDepth 100000
set_option linter.all false
noncomputable section
def jH(t:ai)(d:aN):Option Int:=
 bif decide (6<(d.aV.length:Int))then some (3:Int)else bJ (List.drop 1 d.aV) 1 (λ(j1:Int) (e1:Int) (Z1:Unit→Option _) (sg:Unit)=>match sg with|()=>bnd (elO d.aV (w64 ((j1:Int)-(1:Int)))) λ(e_1:Int)=>bif decide (e1≤e_1)then some (25:Int)else Z1 ()) (λ(sg:Unit)=>match sg with|()=>bnd (gn ([d.bw]:List Int) d.aV) λ(l_1:List Int)=>bJ l_1 0 (λ(j2:Int) (e2:Int) (Z2:Unit→Option _) (sg:Unit)=>match sg with|()=>bnd (jr t e2) λ(aq:Bool)=>bif !aq then some (4:Int)else Z2 ()) (λ(sg:Unit)=>match sg with|()=>bif ((decide (d.bM<1))||(decide (1000<d.bM)))then some (2:Int)else some (0:Int)) ()) ()
def ga(t:ai)(aP:List aN):Option Int:=
 bnd (gy t) λ(aq:Int)=>bif !decide (aq=0)then some (1:Int)else bif decide (12<(aP.length:Int))then some (3:Int)else bJ aP 0 (λ(j1:Int) (e1:aN) (Z1:Unit→Option _) (sg:Unit)=>match sg with|()=>bnd (jH t e1) λ(aF:Int)=>bif !decide (aF=0)then some aF else Z1 ()) (λ(sg:Unit)=>match sg with|()=>some (0:Int)) ()
def gB(t:ai):Option (List (az×Int)):=
 bJ t.Links 0 (λ(j1:Int) (e1:bk) (Z1:(List (az×Int))→Option _) (m_1:(List (az×Int)))=>Z1 (er bA (er bA m_1 (az.mk e1.A e1.B) e1.dZ) (az.mk e1.B e1.A) e1.dZ)) (λ(m_1:(List (az×Int)))=>some m_1) []
def dH(sa0:List ah)(del:ah→Option Bool):Option (List ah):=
 bnd (ez sa0 del) λ(aq:Int)=>bif decide (aq=(-1:Int))then some sa0 else whl (λ(Z1:((List ah)×Int×Int)→Option _) (sg:(List ah)×Int×Int)=>match sg with|(mq,i_1,j_1)=>bif decide (j_1<(mq.length:Int))then jn (λ(sg:(List ah)×Int)=>match sg with|(aaS,i_2)=>Z1 (aaS,i_2,w64 (j_1+1))) λJ1=>bnd (elO mq j_1) λ(e_1:ah)=>bnd (del e_1) λ(aF:Bool)=>bif !aF then bnd (elO mq i_1) λ(e_2:ah)=>bnd (nu mq i_1 e_1) λ(l_1:List ah)=>J1 (l_1,w64 (i_1+1))else J1 (mq,i_1)else chk (decide (0≤i_1∧i_1<(mq.length:Int)))<|bnd (lH (mq.take i_1.toNat++List.replicate (mq.length-i_1.toNat) (ah.mk (az.mk (0:Int) (0:Int)) (0:Int))) (0:Int) i_1) λ(l_2:List ah)=>some l_2) (sa0,aq,w64 (aq+1))
def iq(a:ah)(c_0:List (az×Int))(c_1:Int):Option Bool:=
 some (decide (((bZ bA c_0 a.Hop).getD (0:Int))<c_1))
def ff(ra0:List (az×Int))(t:ai)(fu:Int):Option (List ah):=
 bnd (pU t) λ(aq:(List ah))=>bnd (dH aq (λ(y0:ah)=>iq y0 ra0 fu)) λ(aF:(List ah))=>some aF
def cI(ra0:List (az×Int))(xa1:aT)(fu:Int):Option (Bool×(List (az×Int))):=
 bJ xa1.Links 0 (λ(j1:Int) (e1:az) (Z1:(Bool×(List (az×Int)))→Option _) (sg:Bool×(List (az×Int)))=>match sg with|(oh,m_1)=>chk (bZ bA m_1 e1).isSome<|(bif oh then Z1 (decide (0≤((bZ bA (er bA m_1 e1 (w64 (((bZ bA m_1 e1).getD (0:Int))-fu))) e1).getD (0:Int))),er bA m_1 e1 (w64 (((bZ bA m_1 e1).getD (0:Int))-fu)))else Z1 (false,er bA m_1 e1 (w64 (((bZ bA m_1 e1).getD (0:Int))-fu))))) (λ(sg:Bool×(List (az×Int)))=>match sg with|(oh,m_1)=>some (oh,m_1)) (true,ra0)
def ja(xa0:aT):Option Bool:=
 some ((decide (xa0.bw=0))&&(decide ((xa0.Links.length:Int)=(0:Int))))
end
end Go.Proofs.YtmnbolcmepihlaaGreat
namespace Go.Proofs.YtmnbolcmepihlaaGreat
open Go
set_option maxRecDepth 100000
set_option linter.all false
noncomputable section
def kL(ay:List ah)(root:Int):Option (List Int):=
 whl (λ(Z1:((List Int)×Int×(List (Int×Bool)))→Option _) (sg:(List Int)×Int×(List (Int×Bool)))=>match sg with|(bK,i_1,m_1)=>bif decide (i_1<(bK.length:Int))then bJ ay 0 (λ(j2:Int) (e2:ah) (Z2:((List Int)×(List (Int×Bool)))→Option _) (sg:(List Int)×(List (Int×Bool)))=>match sg with|(eR,m_2)=>jn (λ(sg:(List Int)×(List (Int×Bool)))=>match sg with|(nS,m_3)=>Z2 (nS,m_3)) λJ1=>jn (λ(v_1:Bool)=>bif v_1 then bnd (gn eR ([e2.Hop.To]:List Int)) λ(l_1:List Int)=>J1 (l_1,bN m_2 e2.Hop.To true)else J1 (eR,m_2)) λJ2=>bnd (elO eR i_1) λ(e_1:Int)=>(bif decide (e2.Hop.aD=e_1)then J2 (!((aY m_2 e2.Hop.To).getD false))else J2 false)) (λ(sg:(List Int)×(List (Int×Bool)))=>match sg with|(eR,m_2)=>Z1 (eR,w64 (i_1+1),m_2)) (bK,m_1)else chk (decide (bK.length<4611686018427387904))<|some (gP bK)) (([root]:List Int),(0:Int),bN [] root true)
def jK(t:ai)(ra1:List (az×Int))(d:aN):Option ((List Int)×Bool):=
 bnd (ff ra1 t d.bM) λ(aq:(List ah))=>bnd (kL aq d.bw) λ(aF:(List Int))=>bJ d.aV 0 (λ(j1:Int) (e1:Int) (Z1:Unit→Option _) (sg:Unit)=>match sg with|()=>bnd (eG aF e1) λ(bx:Int×Bool)=>bif !bx.2 then some (aF,false)else Z1 ()) (λ(sg:Unit)=>match sg with|()=>some (aF,true)) ()
def gI(t:ai)(rest:List aR)(d:aN):Option ((List Int)×Int):=
 bnd (ga t ([d]:List aN)) λ(aq:Int)=>bif !decide (aq=0)then some ([],aq)else bnd (mw rest) λ(aF:(List (az×Int)))=>bnd (jK t aF d) λ(bx:(List Int)×Bool)=>bif bx.2 then some ([],(9:Int))else some (bx.1,(0:Int))
def gV(t:ai)(aP:List aN)(l:List aT):Option ((List aR)×Int):=
 bnd (ga t aP) λ(aq:Int)=>bif !decide (aq=0)then some ([],aq)else bif decide ((aP.length:Int)<(l.length:Int))then some ([],(8:Int))else bnd (gB t) λ(aF:(List (az×Int)))=>bJ l 0 (λ(j1:Int) (e1:aT) (Z1:(List (az×Int))→Option _) (m_1:(List (az×Int)))=>jn (λ(sg:Bool×(List (az×Int)))=>match sg with|(v_1,m_2)=>bif v_1 then some ([],(1:Int))else Z1 m_2) λJ1=>bnd (ja e1) λ(bx:Bool)=>(bif !bx then bnd (fK t e1 []) λ(bV:Int)=>(bif !decide (bV=0)then J1 (true,m_1)else bnd (elO aP (j1:Int)) λ(e_1:aN)=>bnd (cI m_1 e1 e_1.bM) λ(cK:Bool×(List (az×Int)))=>J1 (!cK.1,cK.2))else bnd (elO aP (j1:Int)) λ(e_2:aN)=>bnd (cI m_1 e1 e_2.bM) λ(cQ:Bool×(List (az×Int)))=>J1 (!cQ.1,cQ.2))) (λ(m_1:(List (az×Int)))=>bnd (jJ m_1) λ(dy:(List aR))=>some (dy,(0:Int))) aF
end
end Go.Proofs.YtmnbolcmepihlaaGreat
namespace Go.Proofs.YtmnbolcmepihlaaGreat
open Go
set_option maxRecDepth 100000
set_option linter.all false
noncomputable section
def iH{β:Type}(t:ai)(aP:List aN)(K0:((List aT)×Int)→Option β):Option β:=
 bnd (ga t aP) λ(aq:Int)=>bif !decide (aq=0)then K0 ([],aq)else bnd (gB t) λ(aF:(List (az×Int)))=>chk (decide (0≤(aP.length:Int))&&decide ((aP.length:Int)≤4294967296))<|bJ aP 0 (λ(j1:Int) (e1:aN) (Z1:((List aT)×(List (az×Int)))→Option _) (sg:(List aT)×(List (az×Int)))=>match sg with|(bK,m_1)=>jn (λ(sg:(List aT)×(List (az×Int)))=>match sg with|(eR,m_2)=>Z1 (eR,m_2)) λJ1=>bnd (ff m_1 t e1.bM) λ(bx:(List ah))=>iG bx e1.bw e1.aV λ(bV:(List az)×Int×Bool)=>bif bV.2.2 then bnd (elO bK (j1:Int)) λ(e_1:aT)=>bnd (nu bK (j1:Int) (aT.mk e1.bw bV.1)) λ(l_1:List aT)=>bnd (elO l_1 (j1:Int)) λ(e_2:aT)=>bnd (cI m_1 e_2 e1.bM) λ(cK:Bool×(List (az×Int)))=>J1 (l_1,cK.2)else J1 (bK,m_1)) (λ(sg:(List aT)×(List (az×Int)))=>match sg with|(bK,m_1)=>K0 (bK,(0:Int))) ((List.replicate ((aP.length:Int)).toNat (aT.mk (0:Int) [])),aF)
end
end Go.Proofs.YtmnbolcmepihlaaGreat
namespace Go.Proofs.YtmnbolcmepihlaaGreat
open Go
set_option maxRecDepth 100000
set_option linter.all false
noncomputable section
def mK(t:bL)(p:ai)(n:Int):Option ((List aN)×bL):=
 bnd (ck t (w64 (n+1))) λ(aq:Int×bL)=>whl (λ(Z1:((List aN)×Int×(List Int)×Int)→Option _) (sg:(List aN)×Int×(List Int)×Int)=>match sg with|(bK,i_1,m_1,m_2)=>bif decide (0<i_1)then bnd (ck (bL.mk m_1 m_2) (p.aC.length:Int)) λ(aF:Int×bL)=>bnd (elO p.aC aF.1) λ(e_1:bg)=>bnd (pS aF.2 p (3:Int)) λ(bx:(List Int)×bL)=>bnd (dL bx.2 ([(1:Int),(1:Int),(2:Int),(3:Int),(5:Int),(1000:Int)]:List Int)) λ(bV:Int×bL)=>bnd (gn bK ([(aN.mk e_1.ID bx.1 bV.1)]:List aN)) λ(l_1:List aN)=>Z1 (l_1,w64 (i_1-1),bV.2.L,bV.2.At)else some (bK,(bL.mk m_1 m_2))) ([],aq.1,aq.2.L,aq.2.At)
end
end Go.Proofs.YtmnbolcmepihlaaGreat
namespace Go.Proofs.YtmnbolcmepihlaaGreat
open Go
set_option maxRecDepth 100000
set_option linter.all false
noncomputable section
def kM(t:ai)(ra1:List (az×Int))(d:aN)(xa3:aT):Option Bool:=
 bnd (ff ra1 t d.bM) λ(aq:(List ah))=>iG aq d.bw d.aV λ(aF:(List az)×Int×Bool)=>bif !aF.2.2 then bnd (ja xa3) λ(bx:Bool)=>some bx else jn (λ(v_1:Bool)=>bif v_1 then some false else bJ xa3.Links 0 (λ(j1:Int) (e1:az) (Z1:Unit→Option _) (sg:Unit)=>match sg with|()=>bif decide (((bZ bA ra1 e1).getD (0:Int))<d.bM)then some false else Z1 ()) (λ(sg:Unit)=>match sg with|()=>bnd (lV t xa3) λ(cK:Int×Int)=>some ((decide (cK.2=0))&&(decide (cK.1=aF.2.1)))) ()) λJ1=>(bif !decide (xa3.bw=d.bw)then J1 true else bnd (fK t xa3 d.aV) λ(bV:Int)=>J1 (!decide (bV=0)))
def jL(t:ai)(aP:List aN)(l:List aT):Option Int:=
 bnd (ga t aP) λ(aq:Int)=>bif !decide (aq=0)then some aq else bif !decide ((l.length:Int)=(aP.length:Int))then some (8:Int)else bnd (gB t) λ(aF:(List (az×Int)))=>bJ aP 0 (λ(j1:Int) (e1:aN) (Z1:(List (az×Int))→Option _) (m_1:(List (az×Int)))=>bnd (elO l (j1:Int)) λ(e_1:aT)=>bnd (kM t m_1 e1 e_1) λ(bx:Bool)=>bif !bx then some (1:Int)else bnd (cI m_1 e_1 e1.bM) λ(bV:Bool×(List (az×Int)))=>Z1 bV.2) (λ(m_1:(List (az×Int)))=>some (0:Int)) aF
end
end Go.Proofs.YtmnbolcmepihlaaGreat
namespace Go.Proofs.YtmnbolcmepihlaaGreat
open Go
set_option maxRecDepth 100000
set_option linter.all false
noncomputable section
def lW(t:aT):Option Bool:=
 some ((decide (t.bw=0))&&(decide ((t.Links.length:Int)=(0:Int))))
def kZ(l:List aR)(cv:Int)(dJ:Int)(n:Int):Option (List aR):=
 whl (λ(Z1:Int→Option _) (k_1:Int)=>jn (λ(v_1:Bool)=>bif v_1 then Z1 (w64 (k_1+1))else bnd (gn ([]:List aR) l) λ(l_1:List aR)=>jn (λ(v_2:Bool)=>bif v_2 then bnd (elO l_1 k_1) λ(e_3:aR)=>bnd (nu l_1 k_1 (aR.mk e_3.aD e_3.To (w64 (e_3.Count+n)))) λ(l_2:List aR)=>some l_2 else bnd (lH l_1 (0:Int) k_1) λ(l_3:List aR)=>bnd (lH l k_1 (l.length:Int)) λ(l_4:List aR)=>bnd (gn l_3 ([(aR.mk cv dJ n)]:List aR)) λ(l_5:List aR)=>bnd (gn l_5 l_4) λ(l_6:List aR)=>some l_6) λJ2=>(bif decide (k_1<(l.length:Int))then bnd (elO l k_1) λ(e_2:aR)=>(bif decide (e_2.aD=cv)then J2 (decide (e_2.To=dJ))else J2 false)else J2 false)) λJ1=>(bif decide (k_1<(l.length:Int))then bnd (elO l k_1) λ(e_1:aR)=>(bif decide (e_1.aD<cv)then J1 true else(bif decide (e_1.aD=cv)then J1 (decide (e_1.To<dJ))else J1 false))else J1 false)) (0:Int)
def lX(t:ai)(d:aN):Option Int:=
 bif decide (6<(d.aV.length:Int))then some (3:Int)else bnd (gY d.aV) λ(aq:Bool)=>bif !aq then some (25:Int)else bnd (gn ([d.bw]:List Int) d.aV) λ(l_1:List Int)=>bJ l_1 0 (λ(j1:Int) (e1:Int) (Z1:Unit→Option _) (sg:Unit)=>match sg with|()=>bnd (kX t e1) λ(aF:Bool)=>bif !aF then some (4:Int)else Z1 ()) (λ(sg:Unit)=>match sg with|()=>bif ((decide (d.bM<1))||(decide (1000<d.bM)))then some (2:Int)else some (0:Int)) ()
def mL(t:ai)(aP:List aN):Option Int:=
 bnd (gZ t) λ(aq:Int)=>bif !decide (aq=0)then some (1:Int)else bif decide (12<(aP.length:Int))then some (3:Int)else bJ aP 0 (λ(j1:Int) (e1:aN) (Z1:Unit→Option _) (sg:Unit)=>match sg with|()=>bnd (lX t e1) λ(aF:Int)=>bif !decide (aF=0)then some aF else Z1 ()) (λ(sg:Unit)=>match sg with|()=>some (0:Int)) ()
def nD(t:ai):Option (List aR):=
 bJ t.Links 0 (λ(j1:Int) (e1:bk) (Z1:(List aR)→Option _) (bK:(List aR))=>bnd (kZ bK e1.A e1.B e1.dZ) λ(aq:(List aR))=>bnd (kZ aq e1.B e1.A e1.dZ) λ(aF:(List aR))=>Z1 aF) (λ(bK:(List aR))=>some bK) []
def jl(l:List aR)(cv:Int)(dJ:Int):Option Int:=
 bJ l 0 (λ(j1:Int) (e1:aR) (Z1:Unit→Option _) (sg:Unit)=>match sg with|()=>bif ((decide (e1.aD=cv))&&(decide (e1.To=dJ)))then some e1.Count else Z1 ()) (λ(sg:Unit)=>match sg with|()=>some (0:Int)) ()
def nE(t:ai)(rest:List aR)(xa2:aT)(fu:Int):Option ((List aR)×Bool):=
 bnd (lW xa2) λ(aq:Bool)=>bif aq then some (rest,true)else bnd (gp t xa2 []) λ(aF:Int)=>bif !decide (aF=0)then some ([],false)else bJ xa2.Links 0 (λ(j1:Int) (e1:az) (Z1:(List aR)→Option _) (gb:(List aR))=>bnd (jl gb e1.aD e1.To) λ(bx:Int)=>bif decide (bx<fu)then some ([],false)else bnd (kZ gb e1.aD e1.To (w64 (0-fu))) λ(bV:(List aR))=>Z1 bV) (λ(gb:(List aR))=>some (gb,true)) rest
def kN(t:ai)(rest:List aR)(d:aN):Option (List Int):=
 bJ t.aC 0 (λ(j1:Int) (e1:bg) (Z1:(List Int)→Option _) (bK:(List Int))=>bJ t.Links 0 (λ(j2:Int) (e2:bk) (Z2:(List Int)→Option _) (eR:(List Int))=>jn (λ(nS:(List Int))=>Z2 nS) λJ1=>jn (λ(qB:(List Int))=>jn (λ(v_2:Bool)=>bif v_2 then bnd (ee qB e2.A) λ(cQ:(List Int))=>J1 cQ else J1 qB) λJ4=>bnd (dF qB e2.B) λ(bV:Bool)=>(bif bV then bnd (jl rest e2.B e2.A) λ(cK:Int)=>J4 (decide (d.bM≤cK))else J4 false)) λJ2=>jn (λ(v_1:Bool)=>bif v_1 then bnd (ee eR e2.B) λ(bx:(List Int))=>J2 bx else J2 eR) λJ3=>bnd (dF eR e2.A) λ(aq:Bool)=>(bif aq then bnd (jl rest e2.A e2.B) λ(aF:Int)=>J3 (decide (d.bM≤aF))else J3 false)) (λ(eR:(List Int))=>Z1 eR) bK) (λ(bK:(List Int))=>some bK) ([d.bw]:List Int)
def jM(t:ai)(rest:List aR)(d:aN):Option Bool:=
 bnd (kN t rest d) λ(aq:(List Int))=>bJ d.aV 0 (λ(j1:Int) (e1:Int) (Z1:Unit→Option _) (sg:Unit)=>match sg with|()=>bnd (dF aq e1) λ(aF:Bool)=>bif !aF then some false else Z1 ()) (λ(sg:Unit)=>match sg with|()=>some true) ()
def mM(t:ai)(rest:List aR)(d:aN):Option Int:=
 bnd (mI t) λ(aq:(List (List Int))×(Vec 100))=>bJ t.Links 0 (λ(j1:Int) (e1:bk) (Z1:(List (List Int))→Option _) (m_1:(List (List Int)))=>jn (λ(m_2:(List (List Int)))=>Z1 m_2) λJ1=>jn (λ(m_3:(List (List Int)))=>bnd (jl rest e1.B e1.A) λ(bx:Int)=>bif decide (bx<d.bM)then bnd (elO aq.2.l e1.B) λ(e_5:Int)=>bnd (elO m_3 e_5) λ(e_6:List Int)=>bnd (elO aq.2.l e1.A) λ(e_7:Int)=>bnd (elO e_6 e_7) λ(e_8:Int)=>bnd (nu e_6 e_7 (0:Int)) λ(l_2:List Int)=>J1 (List.set m_3 e_5.toNat l_2)else J1 m_3) λJ2=>bnd (jl rest e1.A e1.B) λ(aF:Int)=>bif decide (aF<d.bM)then bnd (elO aq.2.l e1.A) λ(e_1:Int)=>bnd (elO m_1 e_1) λ(e_2:List Int)=>bnd (elO aq.2.l e1.B) λ(e_3:Int)=>bnd (elO e_2 e_3) λ(e_4:Int)=>bnd (nu e_2 e_3 (0:Int)) λ(l_1:List Int)=>J2 (List.set m_1 e_1.toNat l_1)else J2 m_1) (λ(m_1:(List (List Int)))=>bJ d.aV 0 (λ(j2:Int) (e2:Int) (Z2:(List Int)→Option _) (tv:(List Int))=>bnd (elO aq.2.l e2) λ(e_9:Int)=>bnd (gn tv ([e_9]:List Int)) λ(l_3:List Int)=>Z2 l_3) (λ(tv:(List Int))=>bnd (elO aq.2.l d.bw) λ(rD:Int)=>bnd (mJ m_1 rD tv) λ(bV:Int)=>some bV) []) aq.1
def mN(t:ai)(aP:List aN)(l:List aT):Option Int:=
 bnd (mL t aP) λ(aq:Int)=>bif !decide (aq=0)then some aq else bif !decide ((l.length:Int)=(aP.length:Int))then some (8:Int)else bnd (nD t) λ(aF:(List aR))=>bJ aP 0 (λ(j1:Int) (e1:aN) (Z1:(List aR)→Option _) (gb:(List aR))=>jn (λ(ux:(List aR))=>Z1 ux) λJ1=>bnd (elO l (j1:Int)) λ(e_1:aT)=>bnd (jM t gb e1) λ(bx:Bool)=>bnd (lW e_1) λ(bV:Bool)=>bif (bx==bV)then some (1:Int)else bif !bx then J1 gb else bnd (nE t gb e_1 e1.bM) λ(cK:(List aR)×Bool)=>jn (λ(v_1:Bool)=>bif v_1 then some (1:Int)else bnd (nB t e_1) λ(dy:Int×Int)=>bnd (mM t gb e1) λ(lR:Int)=>bif !decide (dy.1=lR)then some (1:Int)else J1 cK.1) λJ2=>(bif !cK.2 then J2 true else(bif !decide (e_1.bw=e1.bw)then J2 true else bnd (gp t e_1 e1.aV) λ(cQ:Int)=>J2 (!decide (cQ=0))))) (λ(gb:(List aR))=>some (0:Int)) aF
end
end Go.Proofs.YtmnbolcmepihlaaGreat
