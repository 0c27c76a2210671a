/- Several texts in one. No condition but those that stand in each. -/
import Derived.Test.YtmnbolcmepihlaaGreatWY
namespace Go.Proofs.YtmnbolcmepihlaaGreat
open Go
set_option maxRecDepth 100000
set_option linter.all false
section
noncomputable section
def uc(cN:Int):Option Bool:=
 some (!decide (cN=cN))
def nt(cN:Int)(y:Int):Option Int:=
 bf (uc cN) λ(a8:Bool)=>bf (uc y) λ(bt:Bool)=>bif a8 then bif bt then some (0:Int)else some (-1:Int)else bif bt then some (1:Int)else bif decide (cN<y)then some (-1:Int)else bif decide (y<cN)then some (1:Int)else some (0:Int)
def qL(fR:List Int):Option Int:=
 ez fR 0 (λ(bp:Int) (aA:Int) (dh:Unit→Option _) (av:Unit)=>match av with|()=>bif !decide (aA=0)then some aA else dh ()) (λ(av:Unit)=>match av with|()=>some (0:Int)) ()
def BB(cN:List c8)(target:c8)(rO:c8→c8→Option Int):Option (Int×Bool):=
 kW (λ(dh:(Int×Int)→Option _) (av:Int×Int)=>match av with|(cr,fN)=>bif decide (cr<fN)then bf (dj cN (bK (Int.fdiv (IntKind.wrap .u64 (bK (cr+fN))) (2 ^ min (1:Int).toNat 64)))) λ(ej:c8)=>bf (rO ej target) λ(a8:Int)=>bif decide (a8<0)then dh (bK ((bK (Int.fdiv (IntKind.wrap .u64 (bK (cr+fN))) (2 ^ min (1:Int).toNat 64)))+(1:Int)),fN)else dh (cr,bK (Int.fdiv (IntKind.wrap .u64 (bK (cr+fN))) (2 ^ min (1:Int).toNat 64)))else(bif decide (cr<(cN.length:Int))then bf (dj cN cr) λ(hS:c8)=>bf (rO hS target) λ(bt:Int)=>some (cr,decide (bt=0))else some (cr,false))) ((0:Int),(cN.length:Int))
def yV(cN:List eC)(target:Int)(rO:eC→Int→Option Int):Option (Int×Bool):=
 kW (λ(dh:(Int×Int)→Option _) (av:Int×Int)=>match av with|(cr,fN)=>bif decide (cr<fN)then bf (dj cN (bK (Int.fdiv (IntKind.wrap .u64 (bK (cr+fN))) (2 ^ min (1:Int).toNat 64)))) λ(ej:eC)=>bf (rO ej target) λ(a8:Int)=>bif decide (a8<0)then dh (bK ((bK (Int.fdiv (IntKind.wrap .u64 (bK (cr+fN))) (2 ^ min (1:Int).toNat 64)))+(1:Int)),fN)else dh (cr,bK (Int.fdiv (IntKind.wrap .u64 (bK (cr+fN))) (2 ^ min (1:Int).toNat 64)))else(bif decide (cr<(cN.length:Int))then bf (dj cN cr) λ(hS:eC)=>bf (rO hS target) λ(bt:Int)=>some (cr,decide (bt=0))else some (cr,false))) ((0:Int),(cN.length:Int))
def EF(eN:List Int)(v:Int):Option Int:=
 ez eN 0 (λ(bp:Int) (aA:Int) (dh:Unit→Option _) (av:Unit)=>match av with|()=>bif decide (v=aA)then some (bp:Int)else dh ()) (λ(av:Unit)=>match av with|()=>some (-1:Int)) ()
def Et(eN:List eC)(f:eC→Option Bool):Option Int:=
 ez eN 0 (λ(bp:Int) (aA:eC) (dh:Unit→Option _) (av:Unit)=>match av with|()=>bf (f aA) λ(a8:Bool)=>bif a8 then some (bp:Int)else dh ()) (λ(av:Unit)=>match av with|()=>some (-1:Int)) ()
def Ev(eN:List c8)(f:c8→Option Bool):Option Int:=
 ez eN 0 (λ(bp:Int) (aA:c8) (dh:Unit→Option _) (av:Unit)=>match av with|()=>bf (f aA) λ(a8:Bool)=>bif a8 then some (bp:Int)else dh ()) (λ(av:Unit)=>match av with|()=>some (-1:Int)) ()
def Eu(eN:List bL)(f:bL→Option Bool):Option Int:=
 ez eN 0 (λ(bp:Int) (aA:bL) (dh:Unit→Option _) (av:Unit)=>match av with|()=>bf (f aA) λ(a8:Bool)=>bif a8 then some (bp:Int)else dh ()) (λ(av:Unit)=>match av with|()=>some (-1:Int)) ()
def BF(eN:List Int)(v:Int):Option Bool:=
 bf (EF eN v) λ(a8:Int)=>some (decide (0≤a8))
def BA(eN:List eC)(f:eC→Option Bool):Option Bool:=
 bf (Et eN f) λ(a8:Int)=>some (decide (0≤a8))
def xq(eN:List c8)(f:c8→Option Bool):Option Bool:=
 bf (Ev eN f) λ(a8:Int)=>some (decide (0≤a8))
def vu(n:Int)(i1:Int)(kU:Int):Option Bool:=
 some ((decide (i1≤n))&&(decide (n≤kU)))
def y5(a:c8)(b:c8):Option Int:=
 bf (nt a.A b.A) λ(a8:Int)=>bf (nt a.B b.B) λ(bt:Int)=>bf (qL ([a8,bt]:List Int)) λ(c7:Int)=>some c7
def zf(j4:eC)(id:Int):Option Int:=
 bf (nt j4.ff id) λ(a8:Int)=>some a8
def Fc(j4:eC):Option Bool:=
 bf (vu j4.ff (1:Int) (99:Int)) λ(a8:Bool)=>some (!a8)
def BL(l:c8):Option Bool:=
 bf (vu l.qi (1:Int) (1000:Int)) λ(a8:Bool)=>(bif !a8 then some true else bf (vu l.qj (1:Int) (1000:Int)) λ(bt:Bool)=>(bif !bt then some true else bf (vu l.kY (0:Int) (1000:Int)) λ(c7:Bool)=>some (!c7)))
def y6(id:Int)(l7:b0):Option Bool:=
 bf (yV l7.dU id zf) λ(a8:Int×Bool)=>some (!a8.2)
def Fe(l:c8)(l7:b0):Option Bool:=
 bf (y6 l.A l7) λ(a8:Bool)=>(bif a8 then some true else bf (y6 l.B l7) λ(bt:Bool)=>some bt)
def Ff(l:c8):Option Bool:=
 some (decide (l.B≤l.A))
def xz(t:b0):Option Int:=
 bif ((decide (24<(t.dU.length:Int)))||(decide (60<(t.Links.length:Int))))then some (3:Int)else bf (BA t.dU Fc) λ(a8:Bool)=>bif a8 then some (2:Int)else ez t.dU 0 (λ(bp:Int) (aA:eC) (dh:Unit→Option _) (av:Unit)=>match av with|()=>jn (λ(jL:Bool)=>bif jL then some (25:Int)else dh ()) λfD=>(bif decide (0<(bp:Int))then bf (dj t.dU (bK ((bp:Int)-(1:Int)))) λ(ej:eC)=>fD (decide (aA.ff≤ej.ff))else fD false)) (λ(av:Unit)=>match av with|()=>bf (xq t.Links BL) λ(bt:Bool)=>bif bt then some (2:Int)else bf (xq t.Links (λ(jc:c8)=>Fe jc t)) λ(c7:Bool)=>bif c7 then some (4:Int)else bf (xq t.Links Ff) λ(fl:Bool)=>bif fl then some (8:Int)else ez t.Links 0 (λ(dd:Int) (e2:c8) (jM:Unit→Option _) (av:Unit)=>match av with|()=>jn (λ(sK:Bool)=>bif sK then some (25:Int)else jM ()) λjB=>(bif decide (0<(dd:Int))then bf (dj t.Links (bK ((dd:Int)-(1:Int)))) λ(hS:c8)=>bf (y5 hS e2) λ(fE:Int)=>jB (decide (0≤fE))else jB false)) (λ(av:Unit)=>match av with|()=>some (0:Int)) ()) ()
def zb(t:b0):Option Bool:=
 bf (xz t) λ(a8:Int)=>some (decide (a8=0))
def Cy(t:b0)(oF:Int):Option (eC×Bool):=
 bf (yV t.dU oF zf) λ(a8:Int×Bool)=>bif !a8.2 then some ((eC.mk (0:Int) false),false)else bf (dj t.dU a8.1) λ(ej:eC)=>some (ej,true)
def zD(t:b0)(oF:Int):Option Bool:=
 bf (Cy t oF) λ(a8:eC×Bool)=>bf (zb t) λ(bt:Bool)=>(bif bt then some a8.2 else some false)
def Cz(t:b0)(tg:Int)(tK:Int):Option (Int×Bool):=
 bf (zb t) λ(a8:Bool)=>bif !a8 then some ((0:Int),false)else bf (BB t.Links (c8.mk (if tK<tg then tK else tg) (if tK>tg then tK else tg) (0:Int) (0:Int) (0:Int)) y5) λ(bt:Int×Bool)=>bif !bt.2 then some ((0:Int),false)else bif decide (tg<tK)then bf (dj t.Links bt.1) λ(ej:c8)=>some (ej.qi,true)else bf (dj t.Links bt.1) λ(hS:c8)=>some (hS.qj,true)
end
end
section
noncomputable section
def KA(cN:Int):Option Int:=
 jn (λ(av:Int×Int)=>match av with|(a8,uz)=>jn (λ(av:Int×Int)=>match av with|(bt,uA)=>jn (λ(av:Int×Int)=>match av with|(c7,zW)=>bf (Kr (⟨#[0,1,2,2,3,3,3,3,4,4,4,4,4,4,4,4,5,5,5,5,5,5,5,5,5,5,5,5,5,5,5,5,6,6,6,6,6,6,6,6,6,6,6,6,6,6,6,6,6,6,6,6,6,6,6,6,6,6,6,6,6,6,6,6,7,7,7,7,7,7,7,7,7,7,7,7,7,7,7,7,7,7,7,7,7,7,7,7,7,7,7,7,7,7,7,7,7,7,7,7,7,7,7,7,7,7,7,7,7,7,7,7,7,7,7,7,7,7,7,7,7,7,7,7,7,7,7,7,8,8,8,8,8,8,8,8,8,8,8,8,8,8,8,8,8,8,8,8,8,8,8,8,8,8,8,8,8,8,8,8,8,8,8,8,8,8,8,8,8,8,8,8,8,8,8,8,8,8,8,8,8,8,8,8,8,8,8,8,8,8,8,8,8,8,8,8,8,8,8,8,8,8,8,8,8,8,8,8,8,8,8,8,8,8,8,8,8,8,8,8,8,8,8,8,8,8,8,8,8,8,8,8,8,8,8,8,8,8,8,8,8,8,8,8,8,8,8,8,8,8,8,8,8,8,8,8]⟩:ByteArray) (IntKind.wrap .u8 c7)) λ(Eo:UInt8)=>some (bK (zW+(bK (Eo.toNat:Int))))) λsO=>bif decide (256≤bt)then sO (Int.fdiv bt (2 ^ min (8:Int).toNat 64),bK (uA+8))else sO (bt,uA)) λjB=>bif decide (65536≤a8)then jB (Int.fdiv a8 (2 ^ min (16:Int).toNat 64),bK (uz+16))else jB (a8,uz)) λfD=>bif decide (4294967296≤cN)then fD (Int.fdiv cN (2 ^ min (32:Int).toNat 64),(32:Int))else fD (cN,(0:Int))
def KN(cN:Int):Option Int:=
 bf (KA cN) λ(a8:Int)=>some a8
def Jt: Option Unit:=
 kW (λ(dh:Unit→Option _) (av:Unit)=>match av with|()=>some ()) ()
def Jx(CL:Int):Option Unit:=
 kW (λ(dh:Unit→Option _) (av:Unit)=>match av with|()=>bf (Jt) λ(a8:Unit)=>some ()) ()
def SO: Option Unit:=
 bf (KN (0:Int)) λ(a8:Int)=>bf (Jx a8) λ(bt:Unit)=>some ()
end
end
section
noncomputable section
def Ct(t:List Int):Option dX:=
 bf (qo t (0:Int) (if(2000:Int)<(t.length:Int)then(2000:Int)else(t.length:Int))) λ(eU:List Int)=>some (dX.mk eU (0:Int))
def BK(t:dX):Option (Int×dX):=
 bif decide ((t.L.length:Int)≤t.At)then some ((0:Int),t)else bf (dj t.L (bK ((bK (t.At+1))-(1:Int)))) λ(ej:Int)=>some (ej,(dX.mk t.L (bK (t.At+1))))
def Cu(cN:Int)(n:Int):Option Int:=
 bif decide (n<1)then some (0:Int)else ij (decide (n≠0))<|jn (λ(a8:Int)=>some a8) λfD=>bif decide (Int.tmod cN n<0)then fD (bK ((Int.tmod cN n)+n))else fD (Int.tmod cN n)
def np(t:dX)(n:Int):Option (Int×dX):=
 bf (BK t) λ(a8:Int×dX)=>bf (Cu a8.1 n) λ(bt:Int)=>some (bt,a8.2)
def xx(t:dX)(lo:Int)(hi:Int):Option (Int×dX):=
 bf (np t (bK ((bK (hi-lo))+(1:Int)))) λ(a8:Int×dX)=>some (bK (lo+a8.1),a8.2)
def ua(t:dX)(l:List Int):Option (Int×dX):=
 bf (np t (l.length:Int)) λ(a8:Int×dX)=>bf (dj l a8.1) λ(ej:Int)=>some (ej,a8.2)
def Cv(l:List Int)(hc:Int):Option (List Int):=
 kW (λ(dh:Int→Option _) (oK:Int)=>jn (λ(jL:Bool)=>bif jL then dh (bK (oK+1))else jn (λ(sK:Bool)=>bif sK then some l else bf (qo l oK (l.length:Int)) λ(eU:List Int)=>bf (j7 ([hc]:List Int) eU) λ(nJ:List Int)=>bf (qo l (0:Int) oK) λ(vX:List Int)=>bf (j7 vX nJ) λ(vY:List Int)=>some vY) λjB=>(bif decide (oK<(l.length:Int))then bf (dj l oK) λ(hS:Int)=>jB (decide (hS=hc))else jB false)) λfD=>(bif decide (oK<(l.length:Int))then bf (dj l oK) λ(ej:Int)=>fD (decide (ej<hc))else fD false)) (0:Int)
def BM(a:List Int)(b:List Int):Option Bool:=
 bif !decide ((a.length:Int)=(b.length:Int))then some false else ez a 0 (λ(bp:Int) (aA:Int) (dh:Unit→Option _) (av:Unit)=>match av with|()=>bf (dj b (bp:Int)) λ(ej:Int)=>bif !decide (aA=ej)then some false else dh ()) (λ(av:Unit)=>match av with|()=>some true) ()
end
end
section
noncomputable section
def Cw(t:dX)(kU:Int):Option (b0×dX):=
 bf (xx t (1:Int) kU) λ(a8:Int×dX)=>ij (decide (a8.1≤9223372036854775807))<|mK (a8.1-0).toNat (0:Int) (λ(bp:Int) (dh:(Int×(List eC)×(List Int)×Int)→Option _) (av:Int×(List eC)×(List Int)×Int)=>match av with|(tF,cc,dZ,g3)=>bf (ua (dX.mk dZ g3) ([(1:Int),(1:Int),(1:Int),(2:Int),(5:Int)]:List Int)) λ(bt:Int×dX)=>bf (j7 cc ([(eC.mk (bK (tF+bt.1)) true)]:List eC)) λ(eU:List eC)=>dh (bK (tF+bt.1),eU,bt.2.L,bt.2.At)) (λ(bp:Int) (av:Int×(List eC)×(List Int)×Int)=>match av with|(tF,cc,dZ,g3)=>ij (decide (0<a8.1)&&decide (a8.1≤4294967296))<|ij (decide (((List.replicate a8.1.toNat []:List (List Bool)).length:Int)≤9223372036854775807))<|mK (((List.replicate a8.1.toNat []:List (List Bool)).length:Int)-(0:Int)).toNat (0:Int) (λ(dd:Int) (jM:(List (List Bool))→Option _) (sp:(List (List Bool)))=>ij (decide (0≤a8.1)&&decide (a8.1≤4294967296))<|bf (dj sp (dd:Int)) λ(ej:List Bool)=>jM (List.set sp (dd:Int).toNat (List.replicate (a8.1).toNat false))) (λ(dd:Int) (sp:(List (List Bool)))=>ij (decide (a8.1≤9223372036854775807))<|mK (a8.1-1).toNat (1:Int) (λ(gJ:Int) (o0:((List Int)×Int×(List (List Bool)))→Option _) (av:(List Int)×Int×(List (List Bool)))=>match av with|(wj,wk,pE)=>jn (λ(av:(List (List Bool))×(List Int)×Int)=>match av with|(zO,zP,AS)=>o0 (zP,AS,zO)) λfD=>bf (np (dX.mk wj wk) (12:Int)) λ(c7:Int×dX)=>bif decide (c7.1<11)then bf (np c7.2 (gJ:Int)) λ(fl:Int×dX)=>bf (dj pE fl.1) λ(hS:List Bool)=>bf (dj hS (gJ:Int)) λ(EA:Bool)=>bf (rB hS (gJ:Int) true) λ(nJ:List Bool)=>fD ((List.set pE fl.1.toNat nJ),fl.2.L,fl.2.At)else fD (pE,c7.2.L,c7.2.At)) (λ(gJ:Int) (av:(List Int)×Int×(List (List Bool)))=>match av with|(wj,wk,pE)=>bf (np (dX.mk wj wk) (bK (a8.1+2))) λ(fE:Int×dX)=>kW (λ(vi:(Int×(List Int)×Int×(List (List Bool)))→Option _) (av:Int×(List Int)×Int×(List (List Bool)))=>match av with|(cr,AT,AU,hD)=>bif decide (0<cr)then jn (λ(av:(List (List Bool))×(List Int)×Int)=>match av with|(AV,AW,AX)=>vi (bK (cr-1),AW,AX,AV)) λjB=>bf (np (dX.mk AT AU) a8.1) λ(et:Int×dX)=>bf (np et.2 a8.1) λ(gW:Int×dX)=>bif !decide (et.1=gW.1)then bf (dj hD (if gW.1<et.1 then gW.1 else et.1)) λ(vm:List Bool)=>bf (dj vm (if gW.1>et.1 then gW.1 else et.1)) λ(afD:Bool)=>bf (rB vm (if gW.1>et.1 then gW.1 else et.1) true) λ(vX:List Bool)=>jB ((List.set hD (if gW.1<et.1 then gW.1 else et.1).toNat vX),gW.2.L,gW.2.At)else jB (hD,gW.2.L,gW.2.At)else bf (np (dX.mk AT AU) (3:Int)) λ(rE:Int×dX)=>ij (decide ((hD.length:Int)≤9223372036854775807))<|mK ((hD.length:Int)-(0:Int)).toNat (0:Int) (λ(lH:Int) (M9:((List c8)×(List Int)×Int)→Option _) (av:(List c8)×(List Int)×Int)=>match av with|(u3,u4,u5)=>ij (decide ((hD.length:Int)≤9223372036854775807))<|mK ((hD.length:Int)-(0:Int)).toNat (0:Int) (λ(oH:Int) (Na:((List c8)×(List Int)×Int)→Option _) (av:(List c8)×(List Int)×Int)=>match av with|(qt,sC,sD)=>jn (λ(av:(List Int)×Int×(List c8))=>match av with|(AY,AZ,A0)=>Na (A0,AY,AZ)) λsO=>bf (dj hD (lH:Int)) λ(Jo:List Bool)=>bf (dj Jo (oH:Int)) λ(Jp:Bool)=>bif !Jp then sO (sC,sD,qt)else bf (dj cc (lH:Int)) λ(y0:eC)=>bf (dj cc (oH:Int)) λ(y1:eC)=>bf (ua (dX.mk sC sD) ([(0:Int),(1:Int),(2:Int),(3:Int),(5:Int),(10:Int),(1000:Int)]:List Int)) λ(rF:Int×dX)=>jn (λ(av:(List Int)×Int×Int×Int)=>match av with|(A1,A2,Bg,Bh)=>bf (j7 qt ([(c8.mk y0.ff y1.ff Bg Bh rF.1)]:List c8)) λ(vY:List c8)=>sO (A1,A2,vY)) λA6=>bif !(decide (rE.1=0))then bf (xx rF.2 (1:Int) (20:Int)) λ(Ic:Int×dX)=>bf (ua Ic.2 ([(1:Int),(2:Int),(3:Int),Ic.1,(1000:Int)]:List Int)) λ(uJ:Int×dX)=>bf (xx uJ.2 (1:Int) (20:Int)) λ(Ie:Int×dX)=>bf (ua Ie.2 ([uJ.1,uJ.1,Ie.1]:List Int)) λ(uK:Int×dX)=>A6 (uK.2.L,uK.2.At,uJ.1,uK.1)else A6 (rF.2.L,rF.2.At,(1:Int),(1:Int))) (λ(oH:Int) (av:(List c8)×(List Int)×Int)=>match av with|(qt,sC,sD)=>M9 (qt,sC,sD)) (u3,u4,u5)) (λ(lH:Int) (av:(List c8)×(List Int)×Int)=>match av with|(u3,u4,u5)=>some ((b0.mk cc u3),(dX.mk u4 u5))) ([],rE.2.L,rE.2.At)) (fE.1,fE.2.L,fE.2.At,pE)) (dZ,g3,sp)) (List.replicate a8.1.toNat []:List (List Bool))) ((0:Int),[],a8.2.L,a8.2.At)
def CR(t:dX)(p:b0)(n:Int):Option ((List Int)×dX):=
 bf (np t (bK (n+1))) λ(a8:Int×dX)=>kW (λ(dh:((List Int)×Int×(List Int)×Int)→Option _) (av:(List Int)×Int×(List Int)×Int)=>match av with|(fI,cr,cc,dZ)=>bif ((decide (0<cr))&&(decide (0<(p.dU.length:Int))))then bf (np (dX.mk cc dZ) (p.dU.length:Int)) λ(bt:Int×dX)=>bf (dj p.dU bt.1) λ(ej:eC)=>bf (Cv fI ej.ff) λ(c7:(List Int))=>dh (c7,bK (cr-1),bt.2.L,bt.2.At)else some (fI,(dX.mk cc dZ))) ([],a8.1,a8.2.L,a8.2.At)
end
end
section
noncomputable section
def BN(cN:Int):Option Bool:=
 some (!decide (cN=cN))
def Cx(cN:Int)(y:Int):Option Bool:=
 bf (uc cN) λ(a8:Bool)=>(bif a8 then bf (uc y) λ(bt:Bool)=>(bif !bt then some true else some (decide (cN<y)))else some (decide (cN<y)))
def BH(cN:List Int)(target:Int):Option (Int×Bool):=
 kW (λ(dh:(Int×Int)→Option _) (av:Int×Int)=>match av with|(cr,fN)=>bif decide (cr<fN)then bf (dj cN (bK (Int.fdiv (IntKind.wrap .u64 (bK (cr+fN))) (2 ^ min (1:Int).toNat 64)))) λ(ej:Int)=>bf (Cx ej target) λ(a8:Bool)=>bif a8 then dh (bK ((bK (Int.fdiv (IntKind.wrap .u64 (bK (cr+fN))) (2 ^ min (1:Int).toNat 64)))+(1:Int)),fN)else dh (cr,bK (Int.fdiv (IntKind.wrap .u64 (bK (cr+fN))) (2 ^ min (1:Int).toNat 64)))else(bif decide (cr<(cN.length:Int))then bf (dj cN cr) λ(hS:Int)=>(bif decide (hS=target)then some (cr,true)else bf (BN hS) λ(bt:Bool)=>(bif bt then bf (BN target) λ(c7:Bool)=>some (cr,c7)else some (cr,false)))else some (cr,false))) ((0:Int),(cN.length:Int))
def y7(n:Int):Option Bool:=
 some ((decide (1≤n))&&(decide (n≤99)))
def BP(t:c0):Option (List (Int×Bool)):=
 kW (λ(dh:(Bool×(List (Int×Bool)))→Option _) (av:Bool×(List (Int×Bool)))=>match av with|(Aa,cc)=>bif Aa then ez t.Links 0 (λ(dd:Int) (e2:bh) (jM:(Bool×(List (Int×Bool)))→Option _) (av:Bool×(List (Int×Bool)))=>match av with|(sj,dZ)=>jn (λ(av:Bool×(List (Int×Bool)))=>match av with|(Ab,g3)=>jM (Ab,g3)) λfD=>bif (((bT dZ e2.bg).getD false)&&(!((bT dZ e2.aQ).getD false)))then fD (true,c6 dZ e2.aQ true)else fD (sj,dZ)) (λ(av:Bool×(List (Int×Bool)))=>match av with|(sj,dZ)=>dh (sj,dZ)) (false,cc)else some cc) (true,c6 [] t.er true)
def xy(t:c0):Option Int:=
 bf (y7 t.er) λ(a8:Bool)=>bif !a8 then some (2:Int)else ez t.Links 0 (λ(bp:Int) (aA:bh) (dh:Unit→Option _) (av:Unit)=>match av with|()=>jn (λ(jL:Bool)=>bif jL then some (2:Int)else dh ()) λfD=>bf (y7 aA.bg) λ(bt:Bool)=>(bif !bt then fD true else bf (y7 aA.aQ) λ(c7:Bool)=>fD (!c7))) (λ(av:Unit)=>match av with|()=>ez (List.drop 1 t.Links) 1 (λ(dd:Int) (e2:bh) (jM:Unit→Option _) (av:Unit)=>match av with|()=>bf (dj t.Links (bK ((dd:Int)-(1:Int)))) λ(ej:bh)=>bf (nt ej.bg e2.bg) λ(fl:Int)=>bf (nt ej.aQ e2.aQ) λ(fE:Int)=>bf (qL ([fl,fE]:List Int)) λ(et:Int)=>bif decide (0≤et)then some (25:Int)else jM ()) (λ(av:Unit)=>match av with|()=>ez t.Links 0 (λ(gJ:Int) (b6:bh) (o0:(List (Int×Bool))→Option _) (cc:(List (Int×Bool)))=>bif ((bT cc b6.aQ).getD false)then some (8:Int)else o0 (c6 cc b6.aQ true)) (λ(cc:(List (Int×Bool)))=>bf (BP t) λ(gW:(List (Int×Bool)))=>ez t.Links 0 (λ(mH:Int) (cQ:bh) (vi:Unit→Option _) (av:Unit)=>match av with|()=>bif !((bT gW cQ.bg).getD false)then some (10:Int)else vi ()) (λ(av:Unit)=>match av with|()=>some (0:Int)) ()) (c6 [] t.er true)) ()) ()
def BQ(t:c0):Option (List Int):=
 bf (xy t) λ(a8:Int)=>bif !decide (a8=0)then some []else ez t.Links 0 (λ(bp:Int) (aA:bh) (dh:(List Int)→Option _) (fI:(List Int))=>bf (j7 fI ([aA.aQ]:List Int)) λ(eU:List Int)=>dh eU) (λ(fI:(List Int))=>ij (decide (fI.length<4611686018427387904))<|some (kZ fI)) ([t.er]:List Int)
end
end
section
noncomputable section
def Fg(a:bh)(b:bh):Option Int:=
 bf (nt a.bg b.bg) λ(a8:Int)=>bf (nt a.aQ b.aQ) λ(bt:Int)=>bf (qL ([a8,bt]:List Int)) λ(c7:Int)=>some c7
def FP(a:bL)(b:bL):Option Int:=
 bf (nt a.Hop.bg b.Hop.bg) λ(a8:Int)=>bf (nt a.Hop.aQ b.Hop.aQ) λ(bt:Int)=>bf (qL ([a8,bt]:List Int)) λ(c7:Int)=>some c7
def Fh(a:ep)(b:ep):Option Int:=
 bf (nt a.bg b.bg) λ(a8:Int)=>bf (nt a.aQ b.aQ) λ(bt:Int)=>bf (qL ([a8,bt]:List Int)) λ(c7:Int)=>some c7
end
end
section
noncomputable section
def CO(t:b0):Option (List bL):=
 ez t.Links 0 (λ(bp:Int) (aA:c8) (dh:(List bL)→Option _) (fI:(List bL))=>bf (j7 fI ([(bL.mk (bh.mk aA.A aA.B) aA.qi),(bL.mk (bh.mk aA.B aA.A) aA.qj)]:List bL)) λ(eU:List bL)=>dh eU) (λ(fI:(List bL))=>bf (m0 (fL [λx:bL=>x.Hop.bg,λx:bL=>x.Hop.aQ]) fI) λ(nJ:List bL)=>some nJ) []
end
end
section
noncomputable section
def BR(l:List Int):Option Bool:=
 ez (List.drop 1 l) 1 (λ(bp:Int) (aA:Int) (dh:Unit→Option _) (av:Unit)=>match av with|()=>bf (dj l (bK ((bp:Int)-(1:Int)))) λ(ej:Int)=>bif decide (aA≤ej)then some false else dh ()) (λ(av:Unit)=>match av with|()=>some true) ()
def BS(t:b0)(hc:c0)(nO:List Int):Option Int:=
 bf (xz t) λ(a8:Int)=>bif !decide (a8=0)then some (1:Int)else bf (xy hc) λ(bt:Int)=>bif !decide (bt=0)then some bt else bf (j7 ([hc.er]:List Int) nO) λ(eU:List Int)=>ez eU 0 (λ(bp:Int) (aA:Int) (dh:Unit→Option _) (av:Unit)=>match av with|()=>bf (zD t aA) λ(c7:Bool)=>bif !c7 then some (4:Int)else dh ()) (λ(av:Unit)=>match av with|()=>ez hc.Links 0 (λ(dd:Int) (e2:bh) (jM:Unit→Option _) (av:Unit)=>match av with|()=>bf (Cz t e2.bg e2.aQ) λ(fl:Int×Bool)=>bif !fl.2 then some (4:Int)else jM ()) (λ(av:Unit)=>match av with|()=>bf (BR nO) λ(fE:Bool)=>bif !fE then some (25:Int)else bf (BQ hc) λ(et:(List Int))=>ez nO 0 (λ(gJ:Int) (b6:Int) (o0:Unit→Option _) (av:Unit)=>match av with|()=>bf (BF et b6) λ(gW:Bool)=>bif !gW then some (9:Int)else o0 ()) (λ(av:Unit)=>match av with|()=>some (0:Int)) ()) ()) ()
end
end
section
noncomputable section
def Co(t:b0)(d:dQ):Option Int:=
 bif decide (6<(d.ia.length:Int))then some (3:Int)else ez (List.drop 1 d.ia) 1 (λ(bp:Int) (aA:Int) (dh:Unit→Option _) (av:Unit)=>match av with|()=>bf (dj d.ia (bK ((bp:Int)-(1:Int)))) λ(ej:Int)=>bif decide (aA≤ej)then some (25:Int)else dh ()) (λ(av:Unit)=>match av with|()=>bf (j7 ([d.er]:List Int) d.ia) λ(eU:List Int)=>ez eU 0 (λ(dd:Int) (e2:Int) (jM:Unit→Option _) (av:Unit)=>match av with|()=>bf (zD t e2) λ(a8:Bool)=>bif !a8 then some (4:Int)else jM ()) (λ(av:Unit)=>match av with|()=>bif ((decide (d.hM<1))||(decide (1000<d.hM)))then some (2:Int)else some (0:Int)) ()) ()
def xB(t:b0)(gh:List dQ):Option Int:=
 bf (xz t) λ(a8:Int)=>bif !decide (a8=0)then some (1:Int)else bif decide (12<(gh.length:Int))then some (3:Int)else ez gh 0 (λ(bp:Int) (aA:dQ) (dh:Unit→Option _) (av:Unit)=>match av with|()=>bf (Co t aA) λ(bt:Int)=>bif !decide (bt=0)then some bt else dh ()) (λ(av:Unit)=>match av with|()=>some (0:Int)) ()
def zc(t:b0):Option (List (bh×Int)):=
 ez t.Links 0 (λ(bp:Int) (aA:c8) (dh:(List (bh×Int))→Option _) (cc:(List (bh×Int)))=>dh (ga c2 (ga c2 cc (bh.mk aA.A aA.B) aA.kY) (bh.mk aA.B aA.A) aA.kY)) (λ(cc:(List (bh×Int)))=>some cc) []
def BE(eN:List bL)(BD:bL→Option Bool):Option (List bL):=
 bf (Eu eN BD) λ(a8:Int)=>bif decide (a8=(-1:Int))then some eN else kW (λ(dh:((List bL)×Int×Int)→Option _) (av:(List bL)×Int×Int)=>match av with|(mI,cr,fN)=>bif decide (fN<(mI.length:Int))then jn (λ(av:(List bL)×Int)=>match av with|(AO,zF)=>dh (AO,zF,bK (fN+1))) λfD=>bf (dj mI fN) λ(ej:bL)=>bf (BD ej) λ(bt:Bool)=>bif !bt then bf (dj mI cr) λ(hS:bL)=>bf (rB mI cr ej) λ(eU:List bL)=>fD (eU,bK (cr+1))else fD (mI,cr)else ij (decide (0≤cr∧cr<(mI.length:Int)))<|bf (qo (mI.take cr.toNat++List.replicate (mI.length-cr.toNat) (bL.mk (bh.mk (0:Int) (0:Int)) (0:Int))) (0:Int) cr) λ(nJ:List bL)=>some nJ) (eN,a8,bK (a8+1))
def EG(a:bL)(l7:List (bh×Int))(yY:Int):Option Bool:=
 some (decide (((c3 c2 l7 a.Hop).getD (0:Int))<yY))
def y9(j4:List (bh×Int))(t:b0)(jk:Int):Option (List bL):=
 bf (CO t) λ(a8:(List bL))=>bf (BE a8 (λ(jc:bL)=>EG jc j4 jk)) λ(bt:(List bL))=>some bt
def qH(j4:List (bh×Int))(hc:c0)(jk:Int):Option (Bool×(List (bh×Int))):=
 ez hc.Links 0 (λ(bp:Int) (aA:bh) (dh:(Bool×(List (bh×Int)))→Option _) (av:Bool×(List (bh×Int)))=>match av with|(th,cc)=>ij (c3 c2 cc aA).isSome<|(bif th then dh (decide (0≤((c3 c2 (ga c2 cc aA (bK (((c3 c2 cc aA).getD (0:Int))-jk))) aA).getD (0:Int))),ga c2 cc aA (bK (((c3 c2 cc aA).getD (0:Int))-jk)))else dh (false,ga c2 cc aA (bK (((c3 c2 cc aA).getD (0:Int))-jk))))) (λ(av:Bool×(List (bh×Int)))=>match av with|(th,cc)=>some (th,cc)) (true,j4)
def zg(cN:c0):Option Bool:=
 some ((decide (cN.er=0))&&(decide ((cN.Links.length:Int)=(0:Int))))
end
end
section
noncomputable section
def CB(aL:List bL)(root:Int):Option (List Int):=
 kW (λ(dh:((List Int)×Int×(List (Int×Bool)))→Option _) (av:(List Int)×Int×(List (Int×Bool)))=>match av with|(fI,cr,cc)=>bif decide (cr<(fI.length:Int))then ez aL 0 (λ(dd:Int) (e2:bL) (jM:((List Int)×(List (Int×Bool)))→Option _) (av:(List Int)×(List (Int×Bool)))=>match av with|(mc,dZ)=>jn (λ(av:(List Int)×(List (Int×Bool)))=>match av with|(AF,g3)=>jM (AF,g3)) λfD=>jn (λ(jL:Bool)=>bif jL then bf (j7 mc ([e2.Hop.aQ]:List Int)) λ(eU:List Int)=>fD (eU,c6 dZ e2.Hop.aQ true)else fD (mc,dZ)) λjB=>bf (dj mc cr) λ(ej:Int)=>(bif decide (e2.Hop.bg=ej)then jB (!((bT dZ e2.Hop.aQ).getD false))else jB false)) (λ(av:(List Int)×(List (Int×Bool)))=>match av with|(mc,dZ)=>dh (mc,bK (cr+1),dZ)) (fI,cc)else ij (decide (fI.length<4611686018427387904))<|some (kZ fI)) (([root]:List Int),(0:Int),c6 [] root true)
def Cp(t:b0)(De:List (bh×Int))(d:dQ):Option ((List Int)×Bool):=
 bf (y9 De t d.hM) λ(a8:(List bL))=>bf (CB a8 d.er) λ(bt:(List Int))=>ez d.ia 0 (λ(bp:Int) (aA:Int) (dh:Unit→Option _) (av:Unit)=>match av with|()=>bf (BH bt aA) λ(c7:Int×Bool)=>bif !c7.2 then some (bt,false)else dh ()) (λ(av:Unit)=>match av with|()=>some (bt,true)) ()
def y8(t:b0)(hy:List ep)(d:dQ):Option ((List Int)×Int):=
 bf (xB t ([d]:List dQ)) λ(a8:Int)=>bif !decide (a8=0)then some ([],a8)else bf (Fp hy) λ(bt:(List (bh×Int)))=>bf (Cp t bt d) λ(c7:(List Int)×Bool)=>bif c7.2 then some ([],(9:Int))else some (c7.1,(0:Int))
def CC(l:List c0)(j5:List Int):Option ((List ep)×Int):=
 bif !decide ((l.length:Int)=(j5.length:Int))then some ([],(8:Int))else ez j5 0 (λ(bp:Int) (aA:Int) (dh:Unit→Option _) (av:Unit)=>match av with|()=>bif ((decide (aA<0))||(decide (1000<aA)))then some ([],(2:Int))else dh ()) (λ(av:Unit)=>match av with|()=>bif decide (12<(l.length:Int))then some ([],(3:Int))else ez l 0 (λ(dd:Int) (e2:c0) (jM:(List (bh×Int))→Option _) (cc:(List (bh×Int)))=>jn (λ(dZ:(List (bh×Int)))=>jM dZ) λfD=>bf (zg e2) λ(a8:Bool)=>bif a8 then fD cc else bf (xy e2) λ(bt:Int)=>bif !decide (bt=0)then some ([],bt)else ez e2.Links 0 (λ(gJ:Int) (b6:bh) (o0:(List (bh×Int))→Option _) (g3:(List (bh×Int)))=>bf (dj j5 (dd:Int)) λ(ej:Int)=>o0 (ga c2 g3 b6 (bK (((c3 c2 g3 b6).getD (0:Int))+ej)))) (λ(g3:(List (bh×Int)))=>fD g3) cc) (λ(cc:(List (bh×Int)))=>bf (vo cc) λ(c7:(List ep))=>some (c7,(0:Int))) []) ()
def vp(t:b0)(gh:List dQ)(l:List c0):Option ((List ep)×Int):=
 bf (xB t gh) λ(a8:Int)=>bif !decide (a8=0)then some ([],a8)else bif decide ((gh.length:Int)<(l.length:Int))then some ([],(8:Int))else bf (zc t) λ(bt:(List (bh×Int)))=>ez l 0 (λ(bp:Int) (aA:c0) (dh:(List (bh×Int))→Option _) (cc:(List (bh×Int)))=>jn (λ(av:Bool×(List (bh×Int)))=>match av with|(jL,dZ)=>bif jL then some ([],(1:Int))else dh dZ) λfD=>bf (zg aA) λ(c7:Bool)=>(bif !c7 then bf (BS t aA []) λ(fl:Int)=>(bif !decide (fl=0)then fD (true,cc)else bf (dj gh (bp:Int)) λ(ej:dQ)=>bf (qH cc aA ej.hM) λ(fE:Bool×(List (bh×Int)))=>fD (!fE.1,fE.2))else bf (dj gh (bp:Int)) λ(hS:dQ)=>bf (qH cc aA hS.hM) λ(et:Bool×(List (bh×Int)))=>fD (!et.1,et.2))) (λ(cc:(List (bh×Int)))=>bf (vo cc) λ(gW:(List ep))=>some (gW,(0:Int))) bt
end
end
section
noncomputable section
def ze{β:Type}(t:b0)(gh:List dQ)(e4:((List c0)×Int)→Option β):Option β:=
 bf (xB t gh) λ(a8:Int)=>bif !decide (a8=0)then e4 ([],a8)else bf (zc t) λ(bt:(List (bh×Int)))=>ij (decide (0≤(gh.length:Int))&&decide ((gh.length:Int)≤4294967296))<|ez gh 0 (λ(bp:Int) (aA:dQ) (dh:((List c0)×(List (bh×Int)))→Option _) (av:(List c0)×(List (bh×Int)))=>match av with|(fI,cc)=>jn (λ(av:(List c0)×(List (bh×Int)))=>match av with|(mc,dZ)=>dh (mc,dZ)) λfD=>bf (y9 cc t aA.hM) λ(c7:(List bL))=>Cn c7 aA.er aA.ia λ(fl:(List bh)×Int×Bool)=>bif fl.2.2 then bf (dj fI (bp:Int)) λ(ej:c0)=>bf (rB fI (bp:Int) (c0.mk aA.er fl.1)) λ(eU:List c0)=>bf (dj eU (bp:Int)) λ(hS:c0)=>bf (qH cc hS aA.hM) λ(fE:Bool×(List (bh×Int)))=>fD (eU,fE.2)else fD (fI,cc)) (λ(av:(List c0)×(List (bh×Int)))=>match av with|(fI,cc)=>e4 (fI,(0:Int))) ((List.replicate ((gh.length:Int)).toNat (c0.mk (0:Int) [])),bt)
end
end
section
noncomputable section
def CE(t:dX)(p:b0)(n:Int):Option ((List dQ)×dX):=
 bf (np t (bK (n+1))) λ(a8:Int×dX)=>kW (λ(dh:((List dQ)×Int×(List Int)×Int)→Option _) (av:(List dQ)×Int×(List Int)×Int)=>match av with|(fI,cr,cc,dZ)=>bif decide (0<cr)then bf (np (dX.mk cc dZ) (p.dU.length:Int)) λ(bt:Int×dX)=>bf (dj p.dU bt.1) λ(ej:eC)=>bf (CR bt.2 p (3:Int)) λ(c7:(List Int)×dX)=>bf (ua c7.2 ([(1:Int),(1:Int),(2:Int),(3:Int),(5:Int),(1000:Int)]:List Int)) λ(fl:Int×dX)=>bf (j7 fI ([(dQ.mk ej.ff c7.1 fl.1)]:List dQ)) λ(eU:List dQ)=>dh (eU,bK (cr-1),fl.2.L,fl.2.At)else some (fI,(dX.mk cc dZ))) ([],a8.1,a8.2.L,a8.2.At)
end
end
end Go.Proofs.YtmnbolcmepihlaaGreat
