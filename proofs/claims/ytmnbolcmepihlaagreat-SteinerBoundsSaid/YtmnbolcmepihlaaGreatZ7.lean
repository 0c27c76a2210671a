/- Several texts in one. No condition but those that stand in each. -/
import Derived.Test.YtmnbolcmepihlaaGreatZ6
import Derived.Test.YtmnbolcmepihlaaGreatZ4
import Derived.Test.YtmnbolcmepihlaaGreatZ5
namespace Go.Proofs.YtmnbolcmepihlaaGreat
section
open Go Go.Proofs.Tryz List
set_option maxRecDepth 100000
set_option linter.all false
def aoO{g:sA}{iC:List (Int×Int)}{k0:Int}{r:(cO)}(hm:EP g iC k0=some r):dR prog 173 [] [.agg [.c7 (bM .i64 (kA eS) g.mZ),.c7 (bM .i64 (kA eS) g.w9)],.c7 (bM .i64 (c9 .i64) iC),Y k0] (bC aB r):=by
 refine dN func173 rfl rfl ?_;unfold EP at hm;refine bl [(0,.al 99)] [(1,.c7 (bM .i64 (c9 .i64) iC)),(2,Y k0),(3,.ptr 99 0)] [(99,.c 210 [.c7 (bM .i64 (kA eS) g.mZ),.c7 (bM .i64 (kA eS) g.w9)])]<|aW [] [] [(7,.c6)]<|aW [(2,nK iC k0 (c9 .i64) (0:Int) o4 (tD (k:=.i64) zeroValue3))] [] [(8,Y ((az iC k0).getD (0:Int))),(9,.bool ((az iC k0).isSome))]<|A.seq<|aW [] [9] [(21,.bool (!((az iC k0).isSome)))] ?_
 rcases cg hm with⟨bk,hm⟩|⟨bk,hm⟩
 ·refine bX bk<|bl [] [(6,.c6)] [] ?_
  cases hm;exact A.ret cM
 refine bW bk<|A.skip<|A.seq<|et [(3,nK g.mZ k0 (kA eS) [] p7 (PY eS zeroValue234)),(4,aN (dZ eS ((az g.mZ k0).getD [])))] [2,3,21] [(25,bC eS ((az g.mZ k0).getD [])),(26,Y (((az g.mZ k0).getD []).length:Int)),(27,Y 0)] [99] []<|A.block<|avJ 25 rfl λfu=>?_
 obtain⟨gU,gV,gK,gL,hm⟩:=hJ hm;refine avD (l:=((az g.mZ k0).getD [])) (gC:=0) (B:=gU) (K:=gV) hm (λa1=>λe6=>[(1,.c7 (bM .i64 (c9 .i64) iC)),(7,.own 68),(8,Y ((az iC k0).getD (0:Int))),(25,bC eS ((az g.mZ k0).getD [])),(26,Y (((az g.mZ k0).getD []).length:Int)),(27,Y a1)]) (λa1=>λe6=>[(68,.slice 3 1 (ar aB e6) 0 false)]) ?_ ?_ ?_
 ·exact jx [.ad 7 68 3 1] []
 ·rintro a1 aK cI e6 gM cr hm;rw[gK]at hm;refine aW [] [] [(28,.d ((a1:Int)<(((az g.mZ k0).getD []).length:Int)))]<|A.seq<|bX (hv cr)<|A.skip ?_
  obtain⟨dK,iH,hm⟩:=jd hm;refine A.J (J:=dK) (r:=r) (λi6=>[(1,.c7 (bM .i64 (c9 .i64) iC)),(7,.own 68),(8,Y ((az iC k0).getD (0:Int))),(25,bC eS ((az g.mZ k0).getD [])),(26,Y (((az g.mZ k0).getD []).length:Int)),(27,Y a1)]) (λi6=>[(68,.slice 3 1 (ar aB i6) 0 false)]) ?_ ?_
  ·refine A.block<|et [(0,c8 (ix eS (fS cr))),(2,.al 109)] [28] [(11,.ptr 109 0)] [] [(109,.cells 237 (yD aK))] ?_
   refine aW [(3,nK iC aK.fV (c9 .i64) (0:Int) o4 (tD (k:=.i64) zeroValue3))] [] [(12,Y ((az iC aK.fV).getD (0:Int))),(13,.bool ((az iC aK.fV).isSome))]<|avM [(1,.c7 (bM .i64 (c9 .i64) iC)),(7,.own 68),(8,Y ((az iC k0).getD (0:Int))),(25,bC eS ((az g.mZ k0).getD [])),(26,Y (((az g.mZ k0).getD []).length:Int)),(27,Y a1),(11,.ptr 109 0),(46,.bool (((az iC aK.fV).isSome)&&(decide (aG (aK.kF+((az iC aK.fV).getD (0:Int)))=((az iC k0).getD (0:Int))))))] [(68,.slice 3 1 (ar aB e6) 0 false),(109,.cells 237 (yD aK))] (λhk=>?_) ?_
   ·rcases j6 ((az iC aK.fV).isSome)with bK|bK
    ·exact bl [(1,aN (cK bK)),(8,aN (mE (q:=decide (aG (aK.kF+((az iC aK.fV).getD (0:Int)))=((az iC k0).getD (0:Int)))) bK))] _ _ hk
    exact bl [(1,aN (cK bK)),(8,aN (pa (q:=decide (aG (aK.kF+((az iC aK.fV).getD (0:Int)))=((az iC k0).getD (0:Int)))) bK))] _ _ hk
   rcases cg hm with⟨cq,hm⟩|⟨cq,hm⟩
   ·refine bX cq ?_;obtain⟨cv,h1,hm⟩:=bo hm;exact jl [(4,l3 140 (ap aB (bytes:=8) (by decide) h1))] [7,11,46] [(7,.own 140)] [68,109] [(140,.slice 3 1 (ar aB cv) 0 false)]<|Exists.intro cv (And.intro hm (jx [.kz 140 68] []))
   exact bW cq<|A.skip<|cF e6 hm
  rintro i6 hm;rw[iH]at hm;exact dF [(0,aN (hg cr fu))] [27] [(27,Y ((a1+1:Nat):Int))]<|cF i6 hm
 rintro a1 e6 gM fv hm;rw[gL]at hm;refine aW [] [] [(28,.d ((a1:Int)<(((az g.mZ k0).getD []).length:Int)))]<|A.seq<|bW (ht fv)<|A.exit<|aW [] [1,7,8,25,26,27,28] [(6,.own 68)]<|A.ret ?_
 obtain rfl:=jN hm;exact avC bN [.cT [68]] rfl (by kernel_rfl)
def aqS{t:bz}{hV:Int}{iQ:Int}{r:(cO)}(hm:FA t hV iQ=some r):dR prog 112 [] [.agg (cn t),Y hV,Y iQ] (bC aB r):=by
 refine dN func112 rfl rfl ?_;unfold FA at hm;refine bl [(0,.al 96)] [(1,Y hV),(2,Y iQ),(3,.ptr 96 0)] [(96,.cells 28 (cn t))]<|A.seq ?_
 obtain⟨dK,iH,hm⟩:=jd hm;refine A.J (J:=dK) (r:=r) (λfx=>[(1,Y hV),(2,Y iQ),(3,.ptr 96 0),(19,.bool fx)]) (λfx=>[(96,.cells 28 (cn t))]) ?_ ?_
 ·obtain⟨aD,h1,hm⟩:=bo hm;rcases cg hm with⟨bk,hm⟩|⟨bk,hm⟩
  ·exact dF [(1,ch (Oj h1) L2),(3,aN (cK bk))] [] [(19,.bool true)]<|cF true hm
  exact dF [(1,ch (Oj h1) L2),(3,aN (cK bk))] [] [(19,.d (hV=iQ))]<|cF (decide (hV=iQ)) hm
 rintro fx hm;rw[iH]at hm;rcases cg hm with⟨bK,hm⟩|⟨bK,hm⟩
 ·refine bX bK<|bl [] [(6,.c6)] [] ?_
  cases hm;exact A.ret cM
 refine bW bK<|A.skip ?_
 obtain⟨bB,D,hm⟩:=bo hm;refine et [(1,ch (Yb D) U7),(2,.al 64)] [3,19] [(7,.ptr 64 0)] [96] [(64,.c 210 [.c7 (bM .i64 (kA eS) bB.mZ),.c7 (bM .i64 (kA eS) bB.w9)])] ?_;obtain⟨cm,aq,hm⟩:=bo hm;refine aW [(3,ch (XY aq) Uf)] [] [(8,.c7 (bM .i64 (c9 .i64) cm))]<|aW [] [] [(9,.c6)]<|A.seq<|aW [] [1] [(10,Y hV)]<|A.block ?_
 obtain⟨k9,hp,lu,hm⟩:=mM hm;refine avN (F:=k9) hm (λ(e6,A5)=>[(2,Y iQ),(7,.ptr 64 0),(8,.c7 (bM .i64 (c9 .i64) cm)),(9,.own 84),(10,Y A5)]) (λ(e6,A5)=>[(64,.c 210 [.c7 (bM .i64 (kA eS) bB.mZ),.c7 (bM .i64 (kA eS) bB.w9)]),(84,.slice 3 1 (ar aB e6) 0 false)]) ?_ ?_
 ·exact jx [.ad 9 84 3 1] []
 rintro cI ⟨e6,A5⟩ hm;rw[lu]at hm;refine A.seq<|aW [] [] [(29,.bool (!decide (A5=iQ)))] ?_
 rcases cg hm with⟨cq,hm⟩|⟨cq,hm⟩
 ·refine bX cq<|A.skip<|A.seq<|A.block ?_
  obtain⟨bZ,aZ,hm⟩:=bo hm;refine aW [(3,ch (aoO aZ) aju)] [10,29] [(11,bC aB bZ)]<|A.seq<|aW [(1,aN (dZ aB bZ))] [] [(42,.d ((bZ.length:Int)=(0:Int)))] ?_
  rcases cg hm with⟨en,hm⟩|⟨en,hm⟩
  ·refine bX en<|bl [] [(6,.c6)] [] ?_
   cases hm;exact A.ret cM
  refine bW en<|A.skip ?_
  obtain⟨dJ,bV,hm⟩:=bo hm;obtain⟨cv,dU,hm⟩:=bo hm;refine jl [(2,c8 (ix aB bV)),(5,l3 107 (ap aB (bytes:=8) (by decide) dU))] [9,11,42] [(9,.own 107)] [84] [(107,.slice 3 1 (ar aB cv) 0 false)] ?_;obtain⟨eo,eR,hm⟩:=bo hm;exact dF [(2,aN (dZ aB cv)),(4,c8 (ix aB eR)),(5,hf 107 0 (ix aB eR))] [] [(10,Y eo)]<|Exists.intro (cv,eo) (And.intro hm (jx [.kz 107 84] []))
 refine bW cq<|A.exit<|et [] [2,7,8,9,10,29] [(6,.own 84)] [64] []<|A.ret ?_
 obtain rfl:=jN hm;exact avC bN [.cT [84]] rfl (by kernel_rfl)
end
section
open Go List
set_option maxRecDepth 100000
set_option linter.all false
noncomputable section
def F3: Option bz:=
 nB ((5:Int)-(1:Int)).toNat (1:Int) (λ(a1:Int) (cI:(AU)→Option _) (b1:(AU))=>aM (iP b1 ([(ez.mk (a1:Int) true)]:AU)) λ(cv:AU)=>cI cv) (λ(a1:Int) (b1:(AU))=>eE ([(gQ.mk (1:Int) (2:Int) (2:Int)),(gQ.mk (1:Int) (3:Int) (3:Int)),(gQ.mk (1:Int) (4:Int) (3:Int)),(gQ.mk (2:Int) (3:Int) (2:Int)),(gQ.mk (2:Int) (4:Int) (2:Int))]:List gQ) 0 (λ(cf:Int) (e2:gQ) (gn:(zA)→Option _) (cU:(zA))=>aM (iP cU ([(dy.mk e2.fk e2.KV e2.rB e2.rB (0:Int))]:zA)) λ(fB:zA)=>gn fB) (λ(cU:(zA))=>some (bz.mk b1 cU)) []) []
def Aw: j9:=
 aM (F3) λ(aD:bz)=>Cd aD (1:Int) ([(3:Int),(4:Int)]:cO) λ(bB:g2×Int×Int)=>aM (F3) λ(cm:bz)=>aM (x8 cm (1:Int) ([(3:Int),(4:Int)]:cO) ([(cu.mk ([(2:Int),(3:Int),(4:Int)]:cO) (1:Int)),(cu.mk ([(3:Int)]:cO) (2:Int)),(cu.mk ([(4:Int)]:cO) (2:Int))]:wz)) λ(bZ:Int×Int)=>some ((decide (bB.2.2=0))&&((decide (bZ.2=0))&&((decide (bB.2.1=6))&&((decide (bZ.1=5))&&(decide (1<(bB.1.Links.length:Int)))))))
end
end
section
open Go List
set_option maxRecDepth 100000
set_option linter.all false
noncomputable section
def FW(l:wz):j9:=
 iV (λ(cI:(Int×Int)→Option _) (gN,ct)=>bif ((decide (ct<(l.length:Int)))&&(decide (gN<2000)))then aM (du l ct) λ(dJ:cu)=>cI (aG (gN+(dJ.bx.length:Int)),aG (ct+1))else some (decide (gN≤1000))) ((l.length:Int),(0:Int))
def F2(ei:dL)(l:wz):Option ((wz)×dL):=
 aM (iP ([]:wz) l) λ(cv:wz)=>bif decide ((cv.length:Int)=(0:Int))then aM (uJ ei (1:Int) (5:Int)) λ(aD:Int×dL)=>aM (uJ aD.2 (0:Int) (3:Int)) λ(bB:Int×dL)=>some (([(cu.mk ([aD.1]:cO) bB.1)]:wz),bB.2)else aM (oJ ei (cv.length:Int)) λ(cm:Int×dL)=>aM (du cv cm.1) λ(dJ:cu)=>aM (iP ([]:cO) dJ.bx) λ(fB:cO)=>aM (jC cv cm.1 (cu.mk fB dJ.Value)) λ(hC:wz)=>jn (λ(aj:(wz)×(cO)×Int)=>match aj with|(e6,b1,cU)=>some (e6,(dL.mk b1 cU))) λdK=>aM (oJ cm.2 (4:Int)) λ(bZ:Int×dL)=>bif decide (bZ.1=0)then aM (du hC cm.1) λ(eo:cu)=>aM (wJ bZ.2 ([(-1:Int),(1:Int),(2:Int),aG (0-eo.Value)]:cO)) λ(gJ:Int×dL)=>aM (jC hC cm.1 (cu.mk eo.bx (aG (eo.Value+gJ.1)))) λ(jZ:wz)=>dK (jZ,gJ.2.L,gJ.2.At)else bif decide (bZ.1=1)then aM (du hC cm.1) λ(oN:cu)=>aM (wg oN.bx (0:Int) (aG (Int.tdiv (oN.bx.length:Int) (2:Int)))) λ(tY:cO)=>aM (jC hC cm.1 (cu.mk tY oN.Value)) λ(Jf:wz)=>dK (Jf,bZ.2.L,bZ.2.At)else bif decide (bZ.1=2)then aM (du hC cm.1) λ(mN:cu)=>aM (uJ bZ.2 (0:Int) (9:Int)) λ(eG:Int×dL)=>aM (iP mN.bx ([eG.1]:cO)) λ(AA:cO)=>aM (jC hC cm.1 (cu.mk AA mN.Value)) λ(FN:wz)=>dK (FN,eG.2.L,eG.2.At)else aM (du hC (0:Int)) λ(rI:cu)=>aM (iP hC ([rI]:wz)) λ(Jg:wz)=>dK (Jg,bZ.2.L,bZ.2.At)
def FL(ei:dL)(p:bz)(root:Int):Option ((wz)×dL):=
 nB ((3:Int)-(0:Int)).toNat (0:Int) (λ(a1:Int) (cI:((wz)×(cO)×Int)→Option _) (e6,b1,cU)=>eE p.bx 0 (λ(cf:Int) (e2:ez) (gn:((cO)×(cO)×Int)→Option _) (cv,dH,cH)=>jn (λ(aj:(cO)×(cO)×Int)=>match aj with|(fB,gb,nW)=>gn (fB,gb,nW)) λdK=>jn (λ(aj:Bool×(cO)×Int)=>match aj with|(fx,nC,q8)=>bif fx then aM (iP cv ([e2.cS]:cO)) λ(hC:cO)=>dK (hC,nC,q8)else dK (cv,nC,q8)) λgv=>(bif !decide (e2.cS=root)then aM (oJ (dL.mk dH cH) (2:Int)) λ(aD:Int×dL)=>gv (decide (aD.1=0),aD.2.L,aD.2.At)else gv (false,dH,cH))) (λ(aj:(cO)×(cO)×Int)=>match aj with|(cv,dH,cH)=>aM (uJ (dL.mk dH cH) (1:Int) (3:Int)) λ(bB:Int×dL)=>aM (iP e6 ([(cu.mk cv bB.1)]:wz)) λ(jZ:wz)=>cI (jZ,bB.2.L,bB.2.At)) ([],b1,cU)) (λ(a1:Int) (aj:(wz)×(cO)×Int)=>match aj with|(e6,b1,cU)=>some (e6,(dL.mk b1 cU))) ([],ei.L,ei.At)
end
end
section
open Go Go.Proofs.Tryz List
set_option maxRecDepth 100000
set_option linter.all false
def Yq{r:bz}(hm:F3=some r):dR prog 69 [] [] (.agg (cn r)):=by
 refine dN func69 rfl rfl ?_;unfold F3 at hm;refine bl [(0,.al 48)] [(0,.ptr 48 0)] [(48,.c 28 [.c6,.c6])]<|et [(0,.al 51)] [] [(1,.ptr 51 0)] [] [(51,.c 28 [.c6,.c6])]<|A.seq<|aW [] [] [(2,Y 1)]<|A.block ?_
 obtain⟨gU,gV,gK,gL,hm⟩:=yF hm;refine av6 (hi:=(5:Int)) (B:=gU) (K:=gV) hm rfl (λa1=>λb1=>[(0,.ptr 48 0),(1,.ptr 51 0),(2,Y a1)]) (λa1=>λb1=>[(48,.c 28 [.c6,.c6]),(51,.c 28 [.own 60,.c6]),(60,.slice 31 2 (ar eD b1) 0 false)]) ?_ ?_ ?_
 ·exact jx [.ac 51 60 31 2 0] []
 ·rintro a1 cI b1 gM cr hm;rw[gK]at hm;refine A.seq<|aW [] [] [(6,.d ((a1:Int)≤(4:Int)))] ?_
  refine avH rfl (anY cr)<|A.skip<|A.seq<|A.block ?_
  obtain⟨cv,h1,hm⟩:=bo hm;exact jl [(5,l3 123 (ap eD (bytes:=16) (by decide) h1))] [6] [] [51,60] [(51,.c 28 [.own 123,.c6]),(123,.slice 31 2 (ar eD cv) 0 false)]<|dF [(1,aN (ze (by omega) cr (by decide)))] [2] [(2,Y (a1+1:Int))]<|Exists.intro cv (And.intro hm (jx [.kz 123 60] []))
 rintro a1 b1 gM fv hm;rw[gL]at hm;refine A.seq<|aW [] [] [(6,.d ((a1:Int)≤(4:Int)))] ?_
 refine avG rfl (alR fv)<|A.exit<|A.seq<|aW [(0,sM (Ej (n:=3) A9 underlying179 sizeOf3)),(1,sM (Ej (n:=3) A9 underlying179 sizeOf3)),(2,sM (Ej (n:=3) A9 underlying179 sizeOf3)),(3,sM (Ej (n:=3) A9 underlying179 sizeOf3)),(4,sM (Ej (n:=3) A9 underlying179 sizeOf3)),(6,aN (dZ JS ([(gQ.mk (1:Int) (2:Int) (2:Int)),(gQ.mk (1:Int) (3:Int) (3:Int)),(gQ.mk (1:Int) (4:Int) (3:Int)),(gQ.mk (2:Int) (3:Int) (2:Int)),(gQ.mk (2:Int) (4:Int) (2:Int))]:List gQ)))] [2,6] [(21,.bf true (ar JS ([(gQ.mk (1:Int) (2:Int) (2:Int)),(gQ.mk (1:Int) (3:Int) (3:Int)),(gQ.mk (1:Int) (4:Int) (3:Int)),(gQ.mk (2:Int) (3:Int) (2:Int)),(gQ.mk (2:Int) (4:Int) (2:Int))]:List gQ))),(22,Y (([(gQ.mk (1:Int) (2:Int) (2:Int)),(gQ.mk (1:Int) (3:Int) (3:Int)),(gQ.mk (1:Int) (4:Int) (3:Int)),(gQ.mk (2:Int) (3:Int) (2:Int)),(gQ.mk (2:Int) (4:Int) (2:Int))]:List gQ).length:Int)),(23,Y 0)]<|A.block<|avJ 21 rfl λeO=>?_
 obtain⟨k8,jm,ll,lz,hm⟩:=hJ hm;refine avD (l:=([(gQ.mk (1:Int) (2:Int) (2:Int)),(gQ.mk (1:Int) (3:Int) (3:Int)),(gQ.mk (1:Int) (4:Int) (3:Int)),(gQ.mk (2:Int) (3:Int) (2:Int)),(gQ.mk (2:Int) (4:Int) (2:Int))]:List gQ)) (gC:=0) (B:=k8) (K:=jm) hm (λcf=>λcU=>[(0,.ptr 48 0),(1,.ptr 51 0),(21,.bf true (ar JS ([(gQ.mk (1:Int) (2:Int) (2:Int)),(gQ.mk (1:Int) (3:Int) (3:Int)),(gQ.mk (1:Int) (4:Int) (3:Int)),(gQ.mk (2:Int) (3:Int) (2:Int)),(gQ.mk (2:Int) (4:Int) (2:Int))]:List gQ))),(22,Y (([(gQ.mk (1:Int) (2:Int) (2:Int)),(gQ.mk (1:Int) (3:Int) (3:Int)),(gQ.mk (1:Int) (4:Int) (3:Int)),(gQ.mk (2:Int) (3:Int) (2:Int)),(gQ.mk (2:Int) (4:Int) (2:Int))]:List gQ).length:Int)),(23,Y cf)]) (λcf=>λcU=>[(48,.c 28 [.c6,.c6]),(51,.c 28 [.own 60,.own 85]),(60,.slice 31 2 (ar eD b1) 0 false),(85,.slice 62 5 (ar fe cU) 0 false)]) ?_ ?_ ?_
 ·exact jx [.ac 51 85 62 5 1] []
 ·rintro cf e2 gn cU jb eW hm;rw[ll]at hm;refine aW [] [] [(24,.d ((cf:Int)<(([(gQ.mk (1:Int) (2:Int) (2:Int)),(gQ.mk (1:Int) (3:Int) (3:Int)),(gQ.mk (1:Int) (4:Int) (3:Int)),(gQ.mk (2:Int) (3:Int) (2:Int)),(gQ.mk (2:Int) (4:Int) (2:Int))]:List gQ).length:Int)))]<|A.seq<|bX (hv eW)<|A.skip<|A.seq<|A.block<|et [(0,c8 (ix JS (fS eW))),(2,.al 172)] [24] [(4,.ptr 172 0)] [] [(172,.c 179 [Y e2.fk,Y e2.KV,Y e2.rB])] ?_
  obtain⟨fB,D,hm⟩:=bo hm;exact jl [(2,vH underlying179 sizeOf3),(4,vH underlying179 sizeOf3),(6,vH underlying179 sizeOf3),(8,vH underlying179 sizeOf3),(12,l3 124 (ap fe (bytes:=40) (by decide) D))] [4] [] [51,85,172] [(51,.c 28 [.own 60,.own 124]),(124,.slice 62 5 (ar fe fB) 0 false)]<|dF [(0,aN (hg eW eO))] [23] [(23,Y ((cf+1:Nat):Int))]<|Exists.intro fB (And.intro hm (jx [.kz 124 85] []))
 rintro cf cU jb jE hm;rw[lz]at hm;refine aW [] [] [(24,.d ((cf:Int)<(([(gQ.mk (1:Int) (2:Int) (2:Int)),(gQ.mk (1:Int) (3:Int) (3:Int)),(gQ.mk (1:Int) (4:Int) (3:Int)),(gQ.mk (2:Int) (3:Int) (2:Int)),(gQ.mk (2:Int) (4:Int) (2:Int))]:List gQ).length:Int)))]<|A.seq<|bW (ht jE)<|A.exit<|et [] [1,21,22,23,24] [] [48,51] [(48,.c 28 [.own 60,.own 85])]<|A.ret ?_
 obtain rfl:=jN hm;exact avC bN [.cT [60,85]] rfl (by kernel_rfl)
def Ov{r:Bool}(hm:Aw=some r):dR prog 18 [] [] (.bool r):=by
 refine dN func18 rfl rfl ?_;unfold Aw at hm;refine bl [] [] [] ?_;obtain⟨aD,h1,hm⟩:=bo hm;refine awx bN 2 [3,4,5,6,7,8,9,10] [] [(0,ch (Yq h1) Ww)] (X3 hm) Wv (by kernel_rfl) (by kernel_rfl) (by kernel_rfl) (by rintro _ _ ⟨rfl,_,_,rfl⟩;exact⟨rfl,rfl⟩) ?_;rintro _ _ ⟨rfl,bB,hm,rfl⟩
 try dsimp only at hm
 refine⟨[(7,.al 133)],[(1,.ptr 133 0),(2,Y bB.2.1),(3,Y bB.2.2)],[(133,.cells 36 (mG bB.1))],by kernel_rfl,?_⟩;obtain⟨cm,D,hm⟩:=bo hm;obtain⟨bZ,aq,hm⟩:=bo hm;refine bl [(0,ch (Yq D) Ww),(9,ch (N9 aq) Mt)] [(1,.ptr 133 0),(2,Y bB.2.1),(3,Y bB.2.2),(4,Y bZ.1),(5,Y bZ.2)] [(133,.cells 36 (mG bB.1))]<|avM [(0,.bool ((decide (bB.2.2=0))&&((decide (bZ.2=0))&&((decide (bB.2.1=6))&&((decide (bZ.1=5))&&(decide (1<(bB.1.Links.length:Int))))))))] [] (λhk=>?_) ?_
 ·rcases j6 (decide (bB.2.2=0))with bk|bk
  ·rcases j6 (decide (bZ.2=0))with bK|bK
   ·rcases j6 (decide (bB.2.1=6))with cq|cq
    ·rcases j6 (decide (bZ.1=5))with en|en
     ·exact bl [(2,aN (cK bk)),(6,aN (cK bK)),(10,aN (cK cq)),(14,aN (cK en)),(17,aN (dZ eY bB.1.Links)),(20,aN ((((mE (q:=decide (1<(bB.1.Links.length:Int))) en).trans (mE (q:=((decide (bZ.1=5))&&(decide (1<(bB.1.Links.length:Int))))) cq)).trans (mE (q:=((decide (bB.2.1=6))&&((decide (bZ.1=5))&&(decide (1<(bB.1.Links.length:Int)))))) bK)).trans (mE (q:=((decide (bZ.2=0))&&((decide (bB.2.1=6))&&((decide (bZ.1=5))&&(decide (1<(bB.1.Links.length:Int))))))) bk)))] _ _ hk
     exact bl [(2,aN (cK bk)),(6,aN (cK bK)),(10,aN (cK cq)),(14,aN (cK en)),(20,aN ((((pa (q:=decide (1<(bB.1.Links.length:Int))) en).trans (mE (q:=((decide (bZ.1=5))&&(decide (1<(bB.1.Links.length:Int))))) cq)).trans (mE (q:=((decide (bB.2.1=6))&&((decide (bZ.1=5))&&(decide (1<(bB.1.Links.length:Int)))))) bK)).trans (mE (q:=((decide (bZ.2=0))&&((decide (bB.2.1=6))&&((decide (bZ.1=5))&&(decide (1<(bB.1.Links.length:Int))))))) bk)))] _ _ hk
    exact bl [(2,aN (cK bk)),(6,aN (cK bK)),(10,aN (cK cq)),(20,aN (((pa (q:=((decide (bZ.1=5))&&(decide (1<(bB.1.Links.length:Int))))) cq).trans (mE (q:=((decide (bB.2.1=6))&&((decide (bZ.1=5))&&(decide (1<(bB.1.Links.length:Int)))))) bK)).trans (mE (q:=((decide (bZ.2=0))&&((decide (bB.2.1=6))&&((decide (bZ.1=5))&&(decide (1<(bB.1.Links.length:Int))))))) bk)))] _ _ hk
   exact bl [(2,aN (cK bk)),(6,aN (cK bK)),(20,aN ((pa (q:=((decide (bB.2.1=6))&&((decide (bZ.1=5))&&(decide (1<(bB.1.Links.length:Int)))))) bK).trans (mE (q:=((decide (bZ.2=0))&&((decide (bB.2.1=6))&&((decide (bZ.1=5))&&(decide (1<(bB.1.Links.length:Int))))))) bk)))] _ _ hk
  exact bl [(2,aN (cK bk)),(20,aN (pa (q:=((decide (bZ.2=0))&&((decide (bB.2.1=6))&&((decide (bZ.1=5))&&(decide (1<(bB.1.Links.length:Int))))))) bk))] _ _ hk
 cases hm;exact A.ret cM
end
section
open Go Go.Proofs.Tryz List
set_option maxRecDepth 100000
set_option linter.all false
def arJ{l:wz}{r:Bool}(hm:FW l=some r):dR prog 50 [] [bC cQ l] (.bool r):=by
 refine dN func50 rfl rfl ?_;unfold FW at hm;refine bl [] [(0,bC cQ l)] []<|aW [(1,aN (dZ cQ l))] [] [(3,Y l.length)]<|A.seq<|aW [] [] [(4,Y 0)]<|A.block ?_
 obtain⟨k9,hp,lu,hm⟩:=mM hm;refine avN (F:=k9) hm (λ(gN,ct)=>[(0,bC cQ l),(3,Y gN),(4,Y ct)]) (λ(gN,ct)=>[]) ?_ ?_
 ·exact fN
 rintro cI ⟨gN,ct⟩ hm;rw[lu]at hm;refine A.seq<|avM [(0,bC cQ l),(3,Y gN),(4,Y ct),(14,.bool ((decide (ct<(l.length:Int)))&&(decide (gN<2000))))] [] (λhk=>?_) ?_
 ·rcases j6 (decide (ct<(l.length:Int)))with bk|bk
  ·exact bl [(2,aN (dZ cQ l)),(4,aN (cK bk)),(7,aN (mE (q:=decide (gN<2000)) bk))] _ _ hk
  exact bl [(2,aN (dZ cQ l)),(4,aN (cK bk)),(7,aN (pa (q:=decide (gN<2000)) bk))] _ _ hk
 rcases cg hm with⟨bK,hm⟩|⟨bK,hm⟩
 ·refine bX bK<|A.skip<|A.seq<|A.block ?_
  obtain⟨dJ,h1,hm⟩:=bo hm;exact dF [(3,c8 (ix cQ h1)),(6,aN (dZ aB dJ.bx))] [3,14] [(3,Y (aG (gN+(dJ.bx.length:Int))))]<|dF [] [4] [(4,Y (aG (ct+1)))]<|cF (aG (gN+(dJ.bx.length:Int)),aG (ct+1)) hm
 refine bW bK<|A.exit<|bl [] [(2,.d (gN≤1000))] [] ?_
 cases hm;exact A.ret cM
def aq2{ei:dL}{p:bz}{root:Int}{r:(wz)×dL}(hm:FL ei p root=some r):eT prog 58 [(1,.cells 103 (hO ei))] [.ptr 1 0,.agg (cn p),Y root] (λa aH=>a=bC cQ r.1∧aH=[(1,.cells 103 (hO r.2))]):=by
 refine dN func58 rfl rfl ?_;unfold FL at hm;refine bl [(0,.al 40)] [(0,.ptr 1 0),(2,Y root),(4,.ptr 40 0)] [(1,.cells 103 (hO ei)),(40,.cells 28 (cn p))]<|aW [] [] [(7,.c6)]<|A.seq<|aW [] [] [(8,Y 0)]<|A.block ?_
 obtain⟨gU,gV,gK,gL,hm⟩:=yF hm;refine av6 (hi:=(3:Int)) (B:=gU) (K:=gV) hm rfl (λa1=>λ(e6,b1,cU)=>[(0,.ptr 1 0),(2,Y root),(4,.ptr 40 0),(7,.own 45),(8,Y a1)]) (λa1=>λ(e6,b1,cU)=>[(1,.c 103 [bC aB b1,Y cU]),(40,.cells 28 (cn p)),(45,.slice 120 2 (ar cQ e6) 0 false)]) ?_ ?_ ?_
 ·exact jx [.ad 7 45 120 2] []
 ·rintro a1 cI ⟨e6,b1,cU⟩ gM cr hm;rw[gK]at hm;refine A.seq<|aW [] [] [(13,.d ((a1:Int)<(3:Int)))] ?_
  refine avH rfl (decide_eq_true cr)<|A.skip<|A.seq<|A.block<|aW [] [13] [(9,.c6)]<|A.seq<|aW [(2,aN (dZ eD p.bx))] [] [(17,bC eD p.bx),(18,Y p.bx.length),(19,Y 0)]<|A.block<|avJ 17 rfl λeO=>?_
  obtain⟨k8,jm,ll,lz,hm⟩:=hJ hm;refine avD (l:=p.bx) (gC:=0) (B:=k8) (K:=jm) hm (λcf=>λ(cv,dH,cH)=>[(0,.ptr 1 0),(2,Y root),(4,.ptr 40 0),(7,.own 45),(8,Y a1),(9,.own 67),(17,bC eD p.bx),(18,Y p.bx.length),(19,Y cf)]) (λcf=>λ(cv,dH,cH)=>[(1,.c 103 [bC aB dH,Y cH]),(40,.cells 28 (cn p)),(45,.slice 120 2 (ar cQ e6) 0 false),(67,.slice 3 1 (ar aB cv) 0 false)]) ?_ ?_ ?_
  ·exact jx [.ad 9 67 3 1] []
  ·rintro cf e2 gn ⟨cv,dH,cH⟩ jb eW hm;rw[ll]at hm;refine aW [] [] [(20,.d ((cf:Int)<p.bx.length))]<|A.seq<|bX (hv eW)<|A.skip ?_
   obtain⟨dK,iH,hm⟩:=jd hm;refine A.J (J:=dK) (r:=r) (λ(fB,gb,nW)=>[(0,.ptr 1 0),(2,Y root),(4,.ptr 40 0),(7,.own 45),(8,Y a1),(9,.own 67),(17,bC eD p.bx),(18,Y p.bx.length),(19,Y cf)]) (λ(fB,gb,nW)=>[(1,.c 103 [bC aB gb,Y nW]),(40,.cells 28 (cn p)),(45,.slice 120 2 (ar cQ e6) 0 false),(67,.slice 3 1 (ar aB fB) 0 false)]) ?_ ?_
   ·refine A.block<|et [(0,c8 (ix eD (fS eW))),(2,.al 103)] [20] [(11,.ptr 103 0)] [] [(103,.cells 31 (o7 e2))] ?_
    obtain⟨gv,jt,hm⟩:=jd hm;refine A.J (J:=gv) (r:=r) (λ(fx,nC,q8)=>[(0,.ptr 1 0),(2,Y root),(4,.ptr 40 0),(7,.own 45),(8,Y a1),(9,.own 67),(11,.ptr 103 0),(17,bC eD p.bx),(18,Y p.bx.length),(19,Y cf),(31,.bool fx)]) (λ(fx,nC,q8)=>[(1,.c 103 [bC aB nC,Y q8]),(40,.cells 28 (cn p)),(45,.slice 120 2 (ar cQ e6) 0 false),(67,.slice 3 1 (ar aB cv) 0 false),(103,.cells 31 (o7 e2))]) ?_ ?_
    ·rcases cg hm with⟨bk,hm⟩|⟨bk,hm⟩
     ·obtain⟨aD,h1,hm⟩:=bo hm;exact jl [(4,aN (cK bk)),(6,fq [] (rF h1) r9)] [] [(31,.d (aD.1=0))] [1] [(1,.cells 103 (hO aD.2))]<|cF (decide (aD.1=0),aD.2.L,aD.2.At) hm
     exact dF [(4,aN (cK bk))] [] [(31,.bool false)]<|cF (false,dH,cH) hm
    rintro⟨fx,nC,q8⟩ hm;rw[jt]at hm;rcases cg hm with⟨bK,hm⟩|⟨bK,hm⟩
    ·refine bX bK ?_;obtain⟨hC,D,hm⟩:=bo hm;exact jl [(4,l3 146 (ap aB (bytes:=8) (by decide) D))] [9,11,31] [(9,.own 146)] [67,103] [(146,.slice 3 1 (ar aB hC) 0 false)]<|Exists.intro (hC,nC,q8) (And.intro hm (jx [.kz 146 67] []))
    exact bW bK<|A.skip<|cF (cv,nC,q8) hm
   rintro⟨fB,gb,nW⟩ hm;rw[iH]at hm;exact dF [(0,aN (hg eW eO))] [19] [(19,Y ((cf+1:Nat):Int))]<|cF (fB,gb,nW) hm
  rintro cf ⟨cv,dH,cH⟩ jb jE hm;rw[lz]at hm;refine aW [] [] [(20,.d ((cf:Int)<p.bx.length))]<|A.seq<|bW (ht jE)<|A.exit<|avF (ek:=[(0,.ptr 1 0),(2,Y root),(4,.ptr 40 0),(7,.own 45),(8,Y a1),(9,bC aB cv),(17,bC eD p.bx),(18,Y p.bx.length),(19,Y cf),(20,.d ((cf:Int)<p.bx.length))]) (σ2:=[(1,.c 103 [bC aB dH,Y cH]),(40,.cells 28 (cn p)),(45,.slice 120 2 (ar cQ e6) 0 false)]) (jx [.cT [67]] [9]) ?_
  obtain⟨bB,aq,hm⟩:=bo hm;obtain⟨jZ,aZ,hm⟩:=bo hm;exact AW [(3,fq [] (zJ aq) Bp),(6,l3 121 (ap cQ (bytes:=32) (by decide) aZ))] [(0,.ptr 1 0),(2,Y root),(4,.ptr 40 0),(7,.own 121),(8,Y a1)] [(1,.cells 103 (hO bB.2)),(40,.cells 28 (cn p)),(121,.slice 120 2 (ar cQ jZ) 0 false)]<|dF [(1,aN (ze (by omega) cr (by decide)))] [8] [(8,Y (a1+1:Int))]<|Exists.intro (jZ,bB.2.L,bB.2.At) (And.intro hm (jx [.kz 121 45] []))
 rintro a1 ⟨e6,b1,cU⟩ gM fv hm;rw[gL]at hm;refine A.seq<|aW [] [] [(13,.d ((a1:Int)<(3:Int)))] ?_
 refine avG rfl (zP fv)<|A.exit<|et [] [0,2,4,7,8,13] [(6,.own 45)] [40] []<|A.ret ?_
 obtain rfl:=jN hm;exact avC bN [.cT [45]] rfl (by kernel_rfl)
end
section
set_option linter.all false
open Go List
def LQ{sz:Nat}(bJ:0<sz)(Z vs:dQ):Oz sz sz Z vs=vs:=by
 unfold Oz;apply List.ext_getElem?;intro j;rw[List.getElem?_mapIdx];have:=Nat.mod_lt j bJ;cases vs[j]? with
 |none=>rfl
 |some v=>
  simp only[Option.map_some,Option.some.injEq];rw[if_neg (by omega)]
section
variable {G:cR}{σ:ag}{o:Oper}{ev:Operand→W}
def K7{cx:fO}{I:bG}{β:Nat→Value}{w:World}(av:cz G cx I β σ w){d T sz e:Nat}{xs:List (List W)}{dk:Option (j4×Nat)}(bJ:0<sz)(af:σ.get d=some (.iF T sz xs sz e dk))(aX:β d≠.nilFunc):
  ∃b aV arr vs,β d=.slice (some ⟨b,0,none⟩) xs.length aV∧xs.length≤aV∧aV≤maxLen∧w.heap[b]?=some (.cells arr T (0,0))∧arr.size=aV*sz∧ds I xs.flatten vs∧(∀e∈xs,e.length=sz)∧je β vs (arr.toList.take (xs.length*sz)) dk∧(∀o:Nat,I b o=none)∧Place cx b∧∃Z,β e=.tuple Z:=by
 have an:=av.c4 d _ af;simp only[bb,aX,false_or]at an;obtain⟨b,aV,arr,Z,vs,ak,ax,aO,aL,bg,bI,b7,⟨cD,dz,dT⟩,fG,tq⟩:=an;rw[LQ bJ]at dT;exact⟨b,aV,arr,vs,ak,ax,aO,aL,bg,cD,dz,dT,fG,tq,Z,bI⟩
def je.cell{β:Nat→Value}{Z zs:dQ}{p t:Nat}(h:je β Z zs (some (some p,t))):zs[p]?=some (β t)∧p<Z.length∧β t≠.nilFunc:=by
 obtain⟨h1,D,rfl⟩:=h;exact⟨by rw[List.getElem?_set,if_pos rfl,if_pos h1],h1,D⟩
def awZ{T d p t bp sz e be iU k:Nat}{cT:Bool}{xs rows:List (List W)}{x:Operand}(bJ:0<sz)(h:o.op=.load T x)(u:ev x=.ptr d p)(af:σ.get d=some (.iF bp sz xs sz e (some (some p,t))))(b5:σ.get t=some (.slice be iU rows k cT))(aT:dS G.P T 1 false):
  Yields G o ev σ [] [d,t] (.own t):=
 .pure λaH cx I β w bn c3 av hop=>by
  have h1:=hop x (by simp[h,Op.operands]);rw[u]at h1
  simp only[aC]at h1;obtain⟨b,h1,D⟩:=h1;have iI:β d≠.nilFunc:=λe=>by rw[e]at h1;cases h1
  obtain⟨aS,aV,arr,vs,ak,ax,aO,aL,bg,bI,b7,cD,dz,dT,_⟩:=K7 av bJ (by rw[c3 d (by simp)];exact af) iI;have oR:aS=b:=by rw[ak]at h1;simpa [cb]using h1
  subst oR;obtain⟨dc,dg,gx⟩:=cD.cell;have nP:arr[p]?=some (β t):=by
   rw[getElem?_take]at dc;split at dc
   ·simpa using dc
   ·cases dc
  have oS:∀j,j<1→∃v,[β t][j]?=some v∧w.cell? ⟨aS,p+j,none⟩=some v:=λj aY=>by
   have:j=0:=by omega
   subst this;exact⟨β t,rfl,by simp[World.cell?,aL,nP]⟩
  have aJ:=CF aT (vs:=[β t]) oS (λ_=>by omega);refine⟨β t,by simp[execOp,h,D,Instr.loadAt,Instr.sureAddr,aJ],?_⟩;simp only[aC,true_and];have an:=av.c4 t _ (by rw[c3 t (by simp)];exact b5);simp only[bb,gx,false_or]at an;rcases an with⟨q,_⟩|⟨b,aV,arr,q,_⟩<;>rw[q]<;>rfl
def YQ{arr:dQ}{p m:Nat}(aF:p<m)(hm:m≤arr.length)(v:Value):(jq arr p [v]).take m=(arr.take m).set p v:=by
 apply List.ext_getElem?;intro i;rw[getElem?_take,List.getElem?_set,getElem?_take];simp only[jq,length_singleton];by_cases fM:i<m
 ·rw[if_pos fM,if_pos fM];by_cases mm:p=i
  ·subst mm;rw[if_pos rfl,if_pos (by simp;omega),List.append_assoc,List.getElem?_append_right (by simp;omega),length_take,Nat.min_eq_left (by omega)];simp
  ·rw[if_neg mm];by_cases bS:i<p
   ·rw[List.append_assoc,List.getElem?_append_left (by simp;omega),getElem?_take,if_pos bS]
   ·rw[List.getElem?_append_right (by simp;omega),getElem?_drop];congr 1;simp only[length_append,length_take,length_singleton];omega
 ·rw[if_neg fM,if_neg fM];by_cases mm:p=i
  ·omega
  ·rw[if_neg mm]
def Sq{v:Value}(h:i1 v=true):v.oneCell'=true∧v.cells=#[v]:=by
 cases v<;>simp[i1]at h<;>exact⟨rfl,rfl⟩
def axJ{T d e j p bp sz be iU k:Nat}{cT:Bool}{xs rows:List (List W)}{x y:Operand}(bJ:0<sz)(h:o.op=.store T x y)(u:ev x=.ptr d p)(ai:ev y=.own j)(aY:σ.get j=some (.slice be iU rows k cT))(af:σ.get d=some (.slice bp sz xs 0 false))(aF:p<xs.length*sz)(aT:dS G.P T 1 false)
  (he:σ.get e=none) (n9:G.ids.contains e=false) (iD:σ.clean [e].contains=true) :
  i2 G o ev σ [d,e,j] [e] (λr aH=>r=.undef∧aH=(e,.cL [])::(d,.iF bp sz xs sz e (some (some p,j)))::σ.minus [d]):=by
 intro cx I β w bn av hop;have h1:=hop x (by simp[h,Op.operands]);rw[u]at h1
 have aq:=hop y (by simp[h,Op.operands]);rw[ai]at aq
 simp only[aC]at h1 aq;obtain⟨b,h1,D⟩:=h1;obtain⟨aq,sD⟩:=aq;have iI:β d≠.nilFunc:=λe=>by rw[e]at h1;cases h1
 have cG:=av.c4 d _ af;simp only[bb,iI,false_or]at cG;rcases cG with⟨q,rfl,_⟩|⟨aS,aV,arr,ak,ax,aO,aL,bg,bI,b7,cD,dz,dT,fG⟩
 ·simp at aF
 have oR:aS=b:=by rw[ak]at h1;simpa [cb]using h1
 subst oR;have zh:e∉G.ids:=by simpa using n9
 have ml:(σ.get d).isSome:=by rw[af];rfl
 have tO:(σ.get j).isSome:=by rw[aY];rfl
 have jY:d≠e:=λcC=>by subst cC;rw[he]at af;cases af
 have Xm:j≠e:=λcC=>by subst cC;rw[he]at aY;cases aY
 have NG:β j≠.nilFunc:=λe=>by rw[aq,e]at sD;simp[i1]at sD
 have nr:(β j).oneCell'=true∧(β j).cells=#[β j]:=Sq (by rw[←aq];exact sD);have qw:xs.length*sz≤arr.size:=by rw[bg];exact Nat.mul_le_mul_right sz ax
 have oa:=Fs (P:=G.P) aL [β j] (off:=p) (by simp;omega) (λv aa=>by rw[List.mem_singleton.1 aa];exact nr.1);have eV:(execOp bn o).run G.P w=.ok .skip (w.setRow aS (jq arr.toList p [β j]).toArray):=by
  simp[execOp,h,D,aq,Instr.storeAt,Instr.sureAddr,storeVar,aT.size,nr.2,oa]
 rw[eV];have hk:g1 w (w.setRow aS (jq arr.toList p [β j]).toArray) aS:=g1.setRow w aS _;have dY:∀y,y≠e→hy β e (.tuple #[]) y=β y:=λy ai=>iu β _ ai;have lH:hy β e (.tuple #[]) e=.tuple #[]:=gX _ _ _
 have nL:∀y,y∉[d,e]→ag.get ((e,.cL [])::(d,.iF bp sz xs sz e (some (some p,j)))::σ.minus [d]) y=σ.get y:=λy ai=>by
  simp only[mem_cons,not_mem_nil,or_false,not_or]at ai;rw[r8,if_neg (Ne.symm ai.2),if_neg (Ne.symm ai.1),if_neg (by simp[ai.1])]
 have mL:∀y,y∈[d,e]→∀o,ag.get ((e,.cL [])::(d,.iF bp sz xs sz e (some (some p,j)))::σ.minus [d]) y=some o→(y=d∧o=.iF bp sz xs sz e (some (some p,j)))∨(y=e∧o=.cL []):=λy ai o an=>by
  rw[r8]at an;split at an
  ·rename_i cC;exact .inr ⟨cC.symm,(Option.some.inj an).symm⟩
  ·rename_i hh;split at an
   ·rename_i cC;exact .inl ⟨cC.symm,(Option.some.inj an).symm⟩
   ·rename_i hp;simp only[mem_cons,not_mem_nil,or_false]at ai;rcases ai with rfl|rfl
    ·exact absurd rfl hp
    ·exact absurd rfl hh
 have ve:∀y,y∈[d,e]→y=d∨y=e:=λy ai=>by simpa using ai
 have Ba:∀c,c∉dA (Value.tuple #[]):=λc ah=>by rw[pW]at ah;cases ah
 refine⟨.undef,_,I,hy β e (.tuple #[]),⟨rfl,rfl⟩,by simp[aC,bm],?_,cV.refl I,λy ai=>dY y (by simpa using ai),λy ai=>nL y (by simp only[mem_cons,not_mem_nil,or_false,not_or]at ai ⊢;exact⟨ai.1,ai.2.1⟩)⟩;refine av.redo (M:=[d,e]) (news:=[e]) (b:=aS) hk (λo=>?_) (λy ai Z cC=>?_) fG (λy ai=>nL y ai) (λy ai=>dY y (by simpa using ai)) (λy ai=>?_) (λy o _ g5=>(avI iD y o g5).2) (λy ai o g5=>?_) (λy ai eg c ah=>?_) (λy ai z hz mW fc eg c ah gh=>?_)
 ·cases o with
  |none=>exact av.tK aL
  |some o=>exact dT o (by omega)
 ·exact av.ee d y ml Z (λe=>ai (by simp[e])) aS (kL h1) cC
 ·simp only[List.mem_singleton]at ai;subst ai;exact⟨by simp,zh⟩
 ·rcases mL y ai o g5 with⟨rfl,rfl⟩|⟨rfl,rfl⟩
  ·have aa:(arr.toList.take (xs.length*sz)).length=xs.length*sz:=by rw[length_take];simp;omega
   simp only[bb,dY y jY,lH];refine .inr ⟨aS,aV,_,#[],arr.toList.take (xs.length*sz),ak,ax,aO,setRow_heap w aS arr _ bp _ aL,by simp only[jq,size_toArray,length_append,length_take,length_drop,length_singleton,Array.length_toList];omega,rfl,λh=>by omega,⟨bI,b7,?_⟩,λo=>dT o (by omega),fG⟩;rw[LQ bJ];refine⟨by rw[aa];exact aF,by rw[dY j Xm];exact NG,?_⟩;rw[dY j Xm];exact YQ aF (by simpa using qw) _
  ·simp only[bb,lH];exact .inr ⟨#[],rfl,rfl⟩
 ·rcases ve y ai with rfl|rfl
  ·rw[dY y jY]at ah;exact⟨y,by simp,ml,ah⟩
  ·rw[lH]at ah;exact absurd ah (Ba c)
 ·rcases ve y ai with rfl|rfl
  ·rcases ve z hz with rfl|rfl
   ·exact mW rfl
   ·rw[lH]at gh;exact absurd gh (Ba c)
  ·rw[lH]at ah;exact absurd ah (Ba c)
def axF{T d e j p t bp sz be iU k:Nat}{cT:Bool}{xs rows:List (List W)}{x y:Operand}(bJ:0<sz)(h:o.op=.store T x y)(u:ev x=.ptr d p)(ai:ev y=.own j)(aY:σ.get j=some (.slice be iU rows k cT))(af:σ.get d=some (.iF bp sz xs sz e (some (some p,t))))(aT:dS G.P T 1 false):
  i2 G o ev σ [d,j] [] (λr aH=>r=.undef∧aH=(d,.iF bp sz xs sz e (some (some p,j)))::σ.minus [d]):=by
 intro cx I β w bn av hop;have h1:=hop x (by simp[h,Op.operands]);rw[u]at h1
 have aq:=hop y (by simp[h,Op.operands]);rw[ai]at aq
 simp only[aC]at h1 aq;obtain⟨b,h1,D⟩:=h1;obtain⟨aq,sD⟩:=aq;have iI:β d≠.nilFunc:=λe=>by rw[e]at h1;cases h1
 obtain⟨aS,aV,arr,vs,ak,ax,aO,aL,bg,bI,b7,cD,dz,dT,Z,fG⟩:=K7 av bJ af iI;have oR:aS=b:=by rw[ak]at h1;simpa [cb]using h1
 subst oR;have ml:(σ.get d).isSome:=by rw[af];rfl
 have NG:β j≠.nilFunc:=λe=>by rw[aq,e]at sD;simp[i1]at sD
 have nr:(β j).oneCell'=true∧(β j).cells=#[β j]:=Sq (by rw[←aq];exact sD);have qw:xs.length*sz≤arr.size:=by rw[bg];exact Nat.mul_le_mul_right sz ax
 obtain⟨dc,dg,gx⟩:=cD;have atZ:vs.length=xs.length*sz:=by
  have:=congrArg List.length gx;rw[length_set,length_take]at this;simp at this;omega
 have oa:=Fs (P:=G.P) aL [β j] (off:=p) (by simp;omega) (λv aa=>by rw[List.mem_singleton.1 aa];exact nr.1);have eV:(execOp bn o).run G.P w=.ok .skip (w.setRow aS (jq arr.toList p [β j]).toArray):=by
  simp[execOp,h,D,aq,Instr.storeAt,Instr.sureAddr,storeVar,aT.size,nr.2,oa]
 rw[eV];have hk:g1 w (w.setRow aS (jq arr.toList p [β j]).toArray) aS:=g1.setRow w aS _
 have E4:∀y,ag.get ((d,.iF bp sz xs sz e (some (some p,j)))::σ.minus [d]) y=if d=y then some (.iF bp sz xs sz e (some (some p,j)))else σ.get y:=λy=>by
  rw[avA,avK];by_cases ai:d=y
  ·rw[if_pos ai,if_pos ai]
  ·rw[if_neg ai,if_neg ai,if_neg (by simp[Ne.symm ai])]
 have nL:∀y,y∉[d]→ag.get ((d,.iF bp sz xs sz e (some (some p,j)))::σ.minus [d]) y=σ.get y:=λy ai=>by
  rw[E4,if_neg λe=>ai (by simp[e])]
 refine⟨.undef,_,I,β,⟨rfl,rfl⟩,by simp[aC,bm],?_,cV.refl I,λy ai=>rfl,λy ai=>nL y (by simp only[mem_cons,not_mem_nil,or_false,not_or]at ai ⊢;exact ai.1)⟩;refine av.redo (M:=[d]) (news:=[]) (b:=aS) hk (λo=>?_) (λy ai Z cC=>?_) dT (λy ai=>nL y ai) (λy ai=>rfl) (λy ai=>by cases ai) (λy o _ g5=>(avI (awe σ) y o g5).2) (λy ai o g5=>?_) (λy ai eg c ah=>?_) (λy ai z hz mW fc eg c ah gh=>?_)
 ·cases o with
  |none=>exact av.tK aL
  |some o=>exact dz o
 ·exact av.ee d y ml Z (λe=>ai (by simp[e])) aS (kL h1) cC
 ·simp only[List.mem_singleton]at ai;subst ai;rw[E4,if_pos rfl]at g5;cases g5;simp only[bb];refine .inr ⟨aS,aV,_,Z,vs,ak,ax,aO,setRow_heap w aS arr _ bp _ aL,by simp only[jq,size_toArray,length_append,length_take,length_drop,length_singleton,Array.length_toList];omega,fG,λh=>by omega,⟨bI,b7,?_⟩,dz,dT⟩;rw[LQ bJ];refine⟨dc,NG,?_⟩;rw[YQ (by omega) (by simpa using qw),gx,List.set_set]
 ·simp only[List.mem_singleton]at ai;subst ai;exact⟨y,by simp,ml,ah⟩
 ·simp only[List.mem_singleton]at ai hz;exact absurd (ai.trans hz.symm) mW
end
def awj{G:cR}{env:au}{σ:ag}{d e p t bp sz be iU k:Nat}{xs rows:List (List W)}(kU:List (List W))(bJ:0<sz)(af:σ.get d=some (.iF bp sz xs sz e (some (some p,t))))(b5:σ.get t=some (.slice be iU rows k true))
  (bA:kU.flatten=xs.flatten.set p (.bf false rows)) (aJ:kU.length=xs.length) (hz:∀e∈kU,e.length=sz):cB G env σ env ((d,.slice bp sz kU 0 false)::σ.minus [d]):=λcx I β a w h b3=>by
 have ml:(σ.get d).isSome:=by rw[af];rfl
 have E4:∀y,ag.get ((d,.slice bp sz kU 0 false)::σ.minus [d]) y=if d=y then some (.slice bp sz kU 0 false)else σ.get y:=λy=>by
  rw[avA,avK];by_cases ai:d=y
  ·rw[if_pos ai,if_pos ai]
  ·rw[if_neg ai,if_neg ai,if_neg (by simp[Ne.symm ai])]
 refine⟨I,β,?_,b3⟩;refine h.swap (d:=d) af (by rw[E4,if_pos rfl]) (λx u=>by rw[E4,if_neg (Ne.symm u)]) λan=>?_;by_cases aX:β d=.nilFunc
 ·simp only[bb];exact .inl aX
 obtain⟨aS,aV,arr,vs,ak,ax,aO,aL,bg,bI,b7,cD,dz,dT,_⟩:=K7 h bJ af aX;obtain⟨dc,dg,gx⟩:=cD;have aI:aC I β (.own t) (β t):=by
  simp only[aC,true_and];have an:=h.c4 t _ b5;simp only[bb,dg,false_or]at an;rcases an with⟨q,_⟩|⟨b,aV,arr,q,_⟩<;>rw[q]<;>rfl
 have ah:bm I (.bf false rows) (β t):=by
  have:=h.slice b5 aI;simpa only[aC]using this
 simp only[bb];refine .inr (.inr ⟨aS,aV,arr,by rw[aJ];exact ak,by rw[aJ];exact ax,aO,aL,bg,?_,hz,Nat.zero_le _,(λh=>by cases h),(λo _=>dz o),dT⟩);rw[bA,aJ,gx];exact Q3 ah p bI
def Sr{α:Type}{e:kC α}{sz z:Nat}(he:∀x,(e.enc x).length=sz)(hz:z<sz){v:W}:∀{l:List α} {i:Nat} {x y:α},l[i]?=some x→e.enc y=(e.enc x).set z v→(ar e (l.set i y)).flatten=(ar e l).flatten.set (i*sz+z) v
 |[],i,x,y,h,_=>by simp at h
 |a::r,0,x,y,h,ai=>by
  simp at h;subst h;simp only[ar,set_cons_zero,map_cons,flatten_cons,Nat.zero_mul,Nat.zero_add];rw[List.set_append_left _ _ (by rw[he];exact hz),ai]
 |a::r,i+1,x,y,h,ai=>by
  have bu:=Sr (l:=r) (i:=i) he hz (by simpa using h) ai;simp only[ar,set_cons_succ,map_cons,flatten_cons]at bu ⊢;rw[bu,List.set_append_right _ _ (by rw[he,Nat.succ_mul];omega),he];congr 2;rw[Nat.succ_mul];omega
section
variable {P:Program}
def J2(bp e:Nat)(ids:dI)(op:Op)(env:au)(σ:ag):Option (dw×di):=match op with
 |.store T x y=>(match env.dx x with
  |some (.ptr d p)=>(match env.dx y with
   |some (.own j)=>(match σ.get j with
    |some (.slice _ _ _ _ _)=>(match σ.get d with
     |some (.slice lU sz xs 0 false)=>bif Nat.beq T bp&&Nat.ble 1 sz&&(σ.get e).isNone&&!ids.contains e&&σ.clean [e].contains then
       some (.e [d,e,j] [e] .undef ((e,.cL [])::(d,.iF lU sz xs sz e (some (some p,j)))::σ.minus [d]),([.ptr 0 p],[(0,.slice 0 sz xs 0 false)]))else none
     |_=>none)
    |_=>none)
   |_=>none)
  |_=>none)
 |_=>none
def ag8{bp e p sz:Nat}{xs:List (List W)}(aT:dS P bp 1 false)(aF:p<xs.length*sz){o:Oper}{N:Nat}{ids:dI}{env:au}{σ:ag}{s:dw}{bc:di}
  (h:J2 bp e ids o.op env σ=some (s,bc)) (he:bc=([.ptr 0 p],[(0,.slice 0 sz xs 0 false)])):gj ⟨P,N,ids⟩ o env σ s:=by
 cases an:o.op<;>rw[an]at h
 case store T x y=>
  simp only[J2]at h;split at h
  ·rename_i d tc u;split at h
   ·rename_i j ai;split at h
    ·rename_i oq xO eF cn cT aY;split at h
     ·rename_i lU ao8 c2 af;generalize ah:(Nat.beq T bp&&_&&_&&_&&_)=eU at h;cases eU with
      |false=>cases h
      |true=>
       simp only[Bool.and_eq_true,Bool.not_eq_true']at ah;obtain⟨⟨⟨⟨bk,bK⟩,en⟩,fK⟩,hj⟩:=ah;have:=Nat.eq_of_beq_eq_true bk;subst this;have bK:=Nat.le_of_ble_eq_true bK;cases h;simp only[Prod.mk.injEq,List.cons.injEq,W.ptr.injEq,cE.slice.injEq,and_true,true_and]at he;obtain⟨rfl,rfl,rfl⟩:=he;exact⟨axJ bK an (avz u) (avz ai) aY af aF aT (by simpa using en) fK hj,by simp only[all_cons,all_nil,fK];rfl⟩
     ·cases h
    ·cases h
   ·cases h
  ·cases h
 all_goals (simp only[J2]at h;cases h)
def fc{bp:Nat}(e:Nat){p sz:Nat}{xs:List (List W)}(aT:dS P bp 1 false)(aF:p<xs.length*sz):Hint P:=
 .gs true ([.ptr 0 p],[(0,.slice 0 sz xs 0 false)]) (J2 bp e) λ_ _ _ _ _ _ _ h he=>ag8 aT aF h he
def Jd(bp:Nat)(op:Op)(env:au)(σ:ag):Option (dw×di):=match op with
 |.load T x=>(match env.dx x with
  |some (.ptr d p)=>(match σ.get d with
   |some (.iF _ sz _ lZ _ (some (some q,t)))=>(match σ.get t with
    |some (.slice _ _ _ _ _)=>bif Nat.beq T bp&&Nat.ble 1 sz&&Nat.beq lZ sz then some (.y [d,t] (.own t),([.ptr 0 p,.ptr 0 q],[]))else none
    |_=>none)
   |_=>none)
  |_=>none)
 |_=>none
def ag9{bp p:Nat}(aT:dS P bp 1 false){o:Oper}{N:Nat}{ids:dI}{env:au}{σ:ag}{s:dw}{bc:di}
  (h:Jd bp o.op env σ=some (s,bc)) (he:bc=([.ptr 0 p,.ptr 0 p],[])):gj ⟨P,N,ids⟩ o env σ s:=by
 cases an:o.op<;>rw[an]at h
 case load T x=>
  simp only[Jd]at h;split at h
  ·rename_i d tc u;split at h
   ·rename_i lU sz xs lZ e q t af;split at h
    ·rename_i oq xO eF cn cT b5;generalize ah:(Nat.beq T bp&&_&&_)=eU at h;cases eU with
     |false=>cases h
     |true=>
      simp only[Bool.and_eq_true]at ah;obtain⟨⟨bk,bK⟩,cq⟩:=ah;have:=Nat.eq_of_beq_eq_true bk;subst this;have:=Nat.eq_of_beq_eq_true cq;subst this;have bK:=Nat.le_of_ble_eq_true bK;cases h;simp only[Prod.mk.injEq,List.cons.injEq,W.ptr.injEq,and_true,true_and]at he;obtain⟨rfl,rfl⟩:=he;exact awZ bK an (avz u) af b5 aT
    ·cases h
   ·cases h
  ·cases h
 all_goals (simp only[Jd]at h;cases h)
def fv{bp:Nat}(p:Nat)(aT:dS P bp 1 false):Hint P:=.gs false ([.ptr 0 p,.ptr 0 p],[]) (λ_=>Jd bp) λ_ _ _ _ _ _ _ h he=>ag9 aT h he
def J3(bp:Nat)(op:Op)(env:au)(σ:ag):Option (dw×di):=match op with
 |.store T x y=>(match env.dx x with
  |some (.ptr d p)=>(match env.dx y with
   |some (.own j)=>(match σ.get j with
    |some (.slice _ _ _ _ _)=>(match σ.get d with
     |some (.iF lU sz xs lZ e (some (some q,_)))=>bif Nat.beq T bp&&Nat.ble 1 sz&&Nat.beq lZ sz then
       some (.e [d,j] [] .undef ((d,.iF lU sz xs sz e (some (some p,j)))::σ.minus [d]),([.ptr 0 p,.ptr 0 q],[]))else none
     |_=>none)
    |_=>none)
   |_=>none)
  |_=>none)
 |_=>none
def aha{bp p:Nat}(aT:dS P bp 1 false){o:Oper}{N:Nat}{ids:dI}{env:au}{σ:ag}{s:dw}{bc:di}
  (h:J3 bp o.op env σ=some (s,bc)) (he:bc=([.ptr 0 p,.ptr 0 p],[])):gj ⟨P,N,ids⟩ o env σ s:=by
 cases an:o.op<;>rw[an]at h
 case store T x y=>
  simp only[J3]at h;split at h
  ·rename_i d tc u;split at h
   ·rename_i j ai;split at h
    ·rename_i oq xO eF cn cT aY;split at h
     ·rename_i lU ao8 c2 lZ e q t af;generalize ah:(Nat.beq T bp&&_&&_)=eU at h;cases eU with
      |false=>cases h
      |true=>
       simp only[Bool.and_eq_true]at ah;obtain⟨⟨bk,bK⟩,cq⟩:=ah;have:=Nat.eq_of_beq_eq_true bk;subst this;have:=Nat.eq_of_beq_eq_true cq;subst this;have bK:=Nat.le_of_ble_eq_true bK;cases h;simp only[Prod.mk.injEq,List.cons.injEq,W.ptr.injEq,and_true,true_and]at he;obtain⟨rfl,rfl⟩:=he;exact⟨axF bK an (avz u) (avz ai) aY af aT,by simp⟩
     ·cases h
    ·cases h
   ·cases h
  ·cases h
 all_goals (simp only[J3]at h;cases h)
def eg{bp:Nat}(p:Nat)(aT:dS P bp 1 false):Hint P:=.gs true ([.ptr 0 p,.ptr 0 p],[]) (λ_=>J3 bp) λ_ _ _ _ _ _ _ h he=>aha aT h he
end
end
section
set_option linter.all false
open Go Go.Proofs.Tryz List
def SR{α:Type}{l:List α}{i:Int}{x:α}(h:du l i=some x):l[i.toNat]?=some x:=by
 unfold du at h;split at h
 ·exact h
 ·cases h
def ZK{ei:dL}{l:wz}{r:(wz)×dL}(hm:F2 ei l=some r):eT prog 56 [(1,.cells 103 [.bf false (ar aB ei.L),.int .i64 ei.At])] [.ptr 1 0,.bf false (ar cQ l)] (λa aH=>a=.bf false (ar cQ r.1)∧aH=[(1,.cells 103 [.bf false (ar aB r.2.L),.int .i64 r.2.At])]):=by
 refine dN func56 rfl rfl ?_;unfold F2 at hm;refine avB bN [] [] [(0,.ptr 1 0),(1,.bf false (ar cQ l))] [(1,.cells 103 [.bf false (ar aB ei.L),.int .i64 ei.At])] (by kernel_rfl) ?_;obtain⟨cv,h1,hm⟩:=bo hm;refine avB bN [] [(0,.al 56007),(2,l3 56509 (ap cQ (bytes:=32) (by decide) h1))] [(0,.ptr 1 0),(5,.own 56509)] [(1,.cells 103 [.bf false (ar aB ei.L),.int .i64 ei.At]),(56509,.slice 120 2 (ar cQ cv) 0 false)] (by kernel_rfl) ?_;refine A.seq ?_;refine avB bN [] [(1,aN (dZ cQ cv))] [(0,.ptr 1 0),(5,.own 56509),(12,.bool (decide ((cv.length:Int)=(0:Int))))] [(1,.cells 103 [.bf false (ar aB ei.L),.int .i64 ei.At]),(56509,.slice 120 2 (ar cQ cv) 0 false)] (by kernel_rfl) ?_;rcases cg hm with⟨bk,hm⟩|⟨bk,hm⟩
 ·skip
  refine avH rfl bk ?_;obtain⟨aD,D,hm⟩:=bo hm;obtain⟨bB,aq,hm⟩:=bo hm;refine avB bN [] [(1,fq [] (zJ D) Bp),(4,fq [] (zJ aq) Bp)] [(4,.bf true (ar cQ ([(cu.mk ([aD.1]:cO) bB.1)]:wz)))] [(1,.cells 103 [.bf false (ar aB bB.2.L),.int .i64 bB.2.At])] (by kernel_rfl) ?_;refine A.ret ?_;obtain rfl:=jN hm;exact avC bN [] rfl (by kernel_rfl)
 refine avG rfl bk ?_;refine A.skip ?_;show aP _ _ _ _ _;obtain⟨cm,aZ,hm⟩:=bo hm;obtain⟨dJ,bV,hm⟩:=bo hm;refine avB bN [] [(3,aN (dZ cQ cv)),(4,fq [] (rF aZ) r9),(5,c8 (ix cQ bV))] [(0,.ptr 1 0),(5,.own 56509),(6,.ptr 56509 (cm.1.toNat*2))] [(1,.cells 103 [.bf false (ar aB cm.2.L),.int .i64 cm.2.At]),(56509,.slice 120 2 (ar cQ cv) 0 false)] (by kernel_rfl) ?_;obtain⟨fB,dU,hm⟩:=bo hm;obtain⟨hC,eR,hm⟩:=bo hm;have MQ:=SR bV;have oW:cm.1.toNat*2<(ar cQ cv).length*2:=by rw[oM];have:=(List.getElem?_eq_some_iff.1 MQ).1;omega
 have oT:∀(q:cO) (r:wz),jC cv cm.1 (cu.mk q dJ.Value)=some r→(ar cQ r).flatten=(ar cQ cv).flatten.set (cm.1.toNat*2) (.bf false (ar aB q))∧(ar cQ r).length=(ar cQ cv).length∧∀e∈ar cQ r,e.length=2:=λq r aI=>by
  unfold jC at aI;split at aI
  ·cases aI;refine⟨Sr (e:=cQ) (sz:=2) (z:=0) (λ_=>rfl) (by decide) MQ rfl,by simp[ar],λe he=>?_⟩;obtain⟨x,_,rfl⟩:=List.mem_map.1 he;rfl
  ·cases aI
 refine avB bN [] [(1,.al 56027),(5,hf 56509 0 (ix cQ bV)),(6,l3 56532 (ap aB (bytes:=8) (by decide) dU)),(9,fc 910000100 Bz oW)] [(0,.ptr 1 0),(5,.own 56509),(6,.ptr 56509 (cm.1.toNat*2))] [(1,.cells 103 [.bf false (ar aB cm.2.L),.int .i64 cm.2.At]),(56509,.iF 120 2 (ar cQ cv) 2 910000100 (some (some (cm.1.toNat*2),56532))),(910000100,.cL []),(56532,.slice 3 1 (ar aB fB) 0 false)] (by kernel_rfl) ?_;obtain⟨dK,iH,hm⟩:=jd hm;refine A.J (J:=dK) (r:=r) (λaj=>match aj with|(e6,b1,cU)=>[(5,.own 104)]) (λaj=>match aj with|(e6,b1,cU)=>[(1,.cells 103 [.bf false (ar aB b1),.int .i64 cU]),(104,.slice 120 2 (ar cQ e6) 0 false)]) ?_ ?_
 ·skip
  obtain⟨bZ,jS,hm⟩:=bo hm;refine avB bN [] [(1,fq [] (rF jS) r9)] [(0,.ptr 1 0),(5,.own 56509),(6,.ptr 56509 (cm.1.toNat*2)),(36,.int .i64 bZ.1)] [(1,.cells 103 [.bf false (ar aB bZ.2.L),.int .i64 bZ.2.At]),(56509,.iF 120 2 (ar cQ cv) 2 910000100 (some (some (cm.1.toNat*2),56532))),(910000100,.cL []),(56532,.slice 3 1 (ar aB fB) 0 false)] (by kernel_rfl) ?_;refine A.block ?_;refine avB bN [] [] [(0,.ptr 1 0),(5,.own 56509),(6,.ptr 56509 (cm.1.toNat*2)),(36,.int .i64 bZ.1),(43,.bool (decide (bZ.1=(0:Int))))] [(1,.cells 103 [.bf false (ar aB bZ.2.L),.int .i64 bZ.2.At]),(56509,.iF 120 2 (ar cQ cv) 2 910000100 (some (some (cm.1.toNat*2),56532))),(910000100,.cL []),(56532,.slice 3 1 (ar aB fB) 0 false)] (by kernel_rfl) ?_;rcases cg hm with⟨bK,hm⟩|⟨bK,hm⟩
  ·skip
   refine avH rfl bK ?_;refine avF (ek:=[(0,.ptr 1 0),(5,.own 56509),(6,.ptr 56509 (cm.1.toNat*2))]) (σ2:=[(1,.cells 103 [.bf false (ar aB bZ.2.L),.int .i64 bZ.2.At]),(56509,.iF 120 2 (ar cQ cv) 2 910000100 (some (some (cm.1.toNat*2),56532))),(910000100,.cL []),(56532,.slice 3 1 (ar aB fB) (ar aB fB).length true)]) (cB.go [.cT [56532]] [] (by kernel_rfl)) ?_;refine avF (awj (d:=56509) (e:=910000100) (t:=56532) (sz:=2) (ar cQ hC) (by decide) rfl rfl (oT _ _ eR).1 (oT _ _ eR).2.1 (oT _ _ eR).2.2) ?_;obtain⟨eo,iy,hm⟩:=bo hm;obtain⟨gJ,oQ,hm⟩:=bo hm;obtain⟨jZ,sC,hm⟩:=bo hm;refine A.R bN [] [(3,hf 56509 1 (ix cQ iy)),(8,hf 56509 1 (ix cQ iy)),(11,fq [] (EM oQ) Et),(15,o0 56509 (st cQ (off:=1) (ca:=[.int .i64 (aG (eo.Value+gJ.1))]) iy sC rfl) (pY iy).1.1)] [(5,.own 56509)] [(1,.cells 103 [.bf false (ar aB gJ.2.L),.int .i64 gJ.2.At]),(56509,.slice 120 2 (ar cQ jZ) 0 false)] (by kernel_rfl) ?_;exact Exists.intro (jZ,gJ.2.L,gJ.2.At) (And.intro hm (cB.go [.kz 56509 104] [] (by kernel_rfl)))
  refine avG rfl bK ?_;refine avB bN [] [] [(0,.ptr 1 0),(5,.own 56509),(6,.ptr 56509 (cm.1.toNat*2)),(36,.int .i64 bZ.1),(60,.bool (decide (bZ.1=(1:Int))))] [(1,.cells 103 [.bf false (ar aB bZ.2.L),.int .i64 bZ.2.At]),(56509,.iF 120 2 (ar cQ cv) 2 910000100 (some (some (cm.1.toNat*2),56532))),(910000100,.cL []),(56532,.slice 3 1 (ar aB fB) 0 false)] (by kernel_rfl) ?_;rcases cg hm with⟨cq,hm⟩|⟨cq,hm⟩
  ·skip
   refine avH rfl cq ?_;refine avF (ek:=[(0,.ptr 1 0),(5,.own 56509),(6,.ptr 56509 (cm.1.toNat*2))]) (σ2:=[(1,.cells 103 [.bf false (ar aB bZ.2.L),.int .i64 bZ.2.At]),(56509,.iF 120 2 (ar cQ cv) 2 910000100 (some (some (cm.1.toNat*2),56532))),(910000100,.cL []),(56532,.slice 3 1 (ar aB fB) (ar aB fB).length true)]) (cB.go [.cT [56532]] [] (by kernel_rfl)) ?_;refine avF (awj (d:=56509) (e:=910000100) (t:=56532) (sz:=2) (ar cQ hC) (by decide) rfl rfl (oT _ _ eR).1 (oT _ _ eR).2.1 (oT _ _ eR).2.2) ?_;obtain⟨oN,qt,hm⟩:=bo hm;obtain⟨tY,pZ,hm⟩:=bo hm;obtain⟨Jf,wR,hm⟩:=bo hm;refine A.R bN [] [(4,hf 56509 0 (ix cQ qt)),(8,hf 56509 0 (ix cQ qt)),(9,aN (dZ aB oN.bx)),(10,.qr (2:Int) (by decide)),(11,jh (sl aB pZ)),(14,o0 56509 (st cQ (off:=0) (ca:=[.bf false (ar aB tY)]) qt wR rfl) (pY qt).1.1)] [(5,.own 56509)] [(1,.cells 103 [.bf false (ar aB bZ.2.L),.int .i64 bZ.2.At]),(56509,.slice 120 2 (ar cQ Jf) 0 false)] (by kernel_rfl) ?_;exact Exists.intro (Jf,bZ.2.L,bZ.2.At) (And.intro hm (cB.go [.kz 56509 104] [] (by kernel_rfl)))
  refine avG rfl cq ?_;refine avB bN [] [] [(0,.ptr 1 0),(5,.own 56509),(6,.ptr 56509 (cm.1.toNat*2)),(76,.bool (decide (bZ.1=(2:Int))))] [(1,.cells 103 [.bf false (ar aB bZ.2.L),.int .i64 bZ.2.At]),(56509,.iF 120 2 (ar cQ cv) 2 910000100 (some (some (cm.1.toNat*2),56532))),(910000100,.cL []),(56532,.slice 3 1 (ar aB fB) 0 false)] (by kernel_rfl) ?_;rcases cg hm with⟨en,hm⟩|⟨en,hm⟩
  ·skip
   refine avH rfl en ?_;obtain⟨mN,vC,hm⟩:=bo hm;obtain⟨eG,wS,hm⟩:=bo hm;obtain⟨AA,wT,hm⟩:=bo hm;obtain⟨FN,wU,hm⟩:=bo hm;have Xd:mN=cu.mk fB dJ.Value:=by
    unfold jC at eR;split at eR
    ·cases eR;have:=SR vC;rw[List.getElem?_set,if_pos rfl,if_pos (List.getElem?_eq_some_iff.1 MQ).1]at this;exact(Option.some.inj this).symm
    ·cases eR
   have alU:iP fB ([eG.1]:cO)=some AA:=by rw[Xd]at wT;exact wT
   have MR:jC cv cm.1 (cu.mk AA dJ.Value)=some FN:=by
    rw[Xd]at wU;unfold jC at eR wU ⊢;split at eR
    ·rename_i U;cases eR;rw[length_set,if_pos U,List.set_set]at wU;rw[if_pos U];exact wU
    ·cases eR
   refine A.R bN [] [(4,fv (cm.1.toNat*2) Bz),(6,fq [] (zJ wS) Bp),(8,l3 56586 (ap aB (bytes:=8) (by decide) alU)),(11,eg (cm.1.toNat*2) Bz)] [(5,.own 56509)] [(1,.cells 103 [.bf false (ar aB eG.2.L),.int .i64 eG.2.At]),(56509,.iF 120 2 (ar cQ cv) 2 910000100 (some (some (cm.1.toNat*2),56586))),(910000100,.cL []),(56586,.slice 3 1 (ar aB AA) 0 false)] (by kernel_rfl) ?_;exact Exists.intro (FN,eG.2.L,eG.2.At) (And.intro hm ((cB.go (ek:=[(5,.own 56509)]) (σ2:=[(1,.cells 103 [.bf false (ar aB eG.2.L),.int .i64 eG.2.At]),(56509,.iF 120 2 (ar cQ cv) 2 910000100 (some (some (cm.1.toNat*2),56586))),(910000100,.cL []),(56586,.slice 3 1 (ar aB AA) (ar aB AA).length true)]) [.cT [56586]] [] (by kernel_rfl)).trans ((awj (d:=56509) (e:=910000100) (t:=56586) (sz:=2) (ar cQ FN) (by decide) rfl rfl (oT _ _ MR).1 (oT _ _ MR).2.1 (oT _ _ MR).2.2).trans (cB.go [.kz 56509 104] [] (by kernel_rfl)))))
  refine avG rfl en ?_;refine avF (ek:=[(0,.ptr 1 0),(5,.own 56509),(6,.ptr 56509 (cm.1.toNat*2))]) (σ2:=[(1,.cells 103 [.bf false (ar aB bZ.2.L),.int .i64 bZ.2.At]),(56509,.iF 120 2 (ar cQ cv) 2 910000100 (some (some (cm.1.toNat*2),56532))),(910000100,.cL []),(56532,.slice 3 1 (ar aB fB) (ar aB fB).length true)]) (cB.go [.cT [56532]] [] (by kernel_rfl)) ?_;refine avF (awj (d:=56509) (e:=910000100) (t:=56532) (sz:=2) (ar cQ hC) (by decide) rfl rfl (oT _ _ eR).1 (oT _ _ eR).2.1 (oT _ _ eR).2.2) ?_;obtain⟨rI,yd,hm⟩:=bo hm;obtain⟨Jg,vD,hm⟩:=bo hm;refine A.R bN [] [(2,c8 (ix cQ yd)),(3,hf 56509 0 (ix cQ yd)),(5,l3 145 (ap cQ (bytes:=32) (by decide) vD))] [(5,.own 145)] [(1,.cells 103 [.bf false (ar aB bZ.2.L),.int .i64 bZ.2.At]),(145,.slice 120 2 (ar cQ Jg) 0 false)] (by kernel_rfl) ?_;exact Exists.intro (Jg,bZ.2.L,bZ.2.At) (And.intro hm (cB.go [.kz 145 104] [] (by kernel_rfl)))
 rintro⟨e6,b1,cU⟩ hm;rw[iH]at hm;refine avB bN [] [] [(4,.own 104)] [(1,.cells 103 [.bf false (ar aB b1),.int .i64 cU]),(104,.slice 120 2 (ar cQ e6) 0 false)] (by kernel_rfl) ?_;refine A.ret ?_;obtain rfl:=jN hm;exact avC bN [.cT [104]] rfl (by kernel_rfl)
end
section
set_option linter.all false
open Go Go.Proofs.Tryz Go.RowKit Go.Shelf List
attribute [local go_sem] Oper.semAt_some
set_option maxRecDepth 100000
def rV(m:List (bO×Bool)):W:=.e7 175 [.gq [.c7 (jA (qd eY) ih m)]]
def adO(m:List (bO×Bool)):dR prog 114 [] [.c7 (jA (qd eY) ih m)] (rV m):=by
 refine dN func114 rfl rfl ?_;refine avB bN [] [(0,.al 910000000)] [(1,.ptr 910000000 0)] [(910000000,.cells 152 [.c7 (jA (qd eY) ih m)])] (by kernel_rfl) ?_;refine avF (awg (T:=152) (cs:=[.c7 (jA (qd eY) ih m)]) 1 910000000 rfl rfl rfl) ?_;refine avB bN [] [(0,E3)] [(2,rV m)] [] (by kernel_rfl) ?_;refine A.ret ?_;exact avC bN [] rfl (by kernel_rfl)
def Ed(x:bO):Value:=.agg #[.int .i64 x.br,.int .i64 x.bh]
def Ee(x:bO):jc:=#[Ed x]
variable {I:bG}{m:List (bO×Bool)}
def acZ{es:ia}(h:fm I (jA (qd eY) ih m) es.toList):es.size=m.length∧∀(i:Nat) (e:MapEntry),es[i]?=some e→∃q,m[i]?=some q∧e.key=Ed q.1∧e.val=.bool q.2:=by
 have aJ:∀(m:List (bO×Bool)) (l:nc),fm I (jA (qd eY) ih m) l→l.length=m.length:=by
  intro m;induction m with
  |nil=>intro l h;simp[jA,fm]at h;simp[h]
  |cons p r bu=>
   intro l h;simp only[jA,map_cons,fm]at h;obtain⟨e,gD,rfl,_,_,aZ⟩:=h;simp[bu _ (by simpa [jA]using aZ)]
 have Z:es.size=m.length:=by rw[←aJ m es.toList h,Array.length_toList]
 refine⟨Z,λi e he=>?_⟩;have bS:i<es.size:=(Array.getElem?_eq_some_iff.1 he).1;have hm:m[i]?=some m[i]:=List.getElem?_eq_getElem (by omega);obtain⟨ak,ax⟩:=Gs h (i:=i) (a:=qd eY (m[i]'(by omega)).1) (c:=ih (m[i]'(by omega)).2) (e:=e) (by simp[jA,hm]) (by simpa using he);refine⟨_,hm,?_,by simpa [bm,ih]using ax⟩;simp only[qd,bm]at ak;obtain⟨vs,aK,e2⟩:=ak;have:=(HU I _ _).1 e2;rw[aK];unfold Ed;congr 1;apply Array.toList_inj.1;rw[this];rfl
set_option maxHeartbeats 2000000 in
def adP(F:Fence)(n:Nat)(eR:F.fn 175)(ch:F.round=none)(aX:1≤n)(l qO qP b clock:Nat)(es:ia)(m:List (bO×Bool))(iG:fm I (jA (qd eY) ih m) es.toList)(c1:km es clock)(J:x2→World→Prop)
  (hZ:∀pre x aU,J pre aU→pre.length<m.length→YieldAt F (n-1) prog l (Ee x) aU λe W'=>e=.returned (.bool true)∧J (pre++[x]) W'∧KeepsWalks aU W')
  (aU:World) (ho:zw aU.heap.size J) (hm:aU.cell? ⟨qO,qP,none⟩=some (.map (some b))) (U:aU.heap[b]?=some (.map es clock)) (bJ:J [] aU) :
  CallsIn F n prog 175 #[.func (.yield l) #[] #[],.pointer (some ⟨qO,qP,none⟩)] aU λe W'=>(∃v,e=.returned v)∧∃e3:x2,e3.Perm (m.map Prod.fst)∧J e3 W':=by
 obtain⟨k2,Bq⟩:=acZ iG;have rM:b<aU.heap.size:=(Array.getElem?_eq_some_iff.1 U).1;refine callsIn_of_wp func175 rfl eR ?_ ch;simp only[Tryz.ntmps175,size_toArray,length_cons,length_nil,Nat.reduceAdd,Nat.reduceSub,Array.replicate_succ,Array.replicate_zero,push_toArray,append_toArray,nil_append,cons_append]
 gi_wp2_with (first
  |(gi_at_range;refine Ow rfl _ 152 84 4 rfl underlying152 b clock es rfl U ?_)
  |gi_in)
 go_frame
 gi_loopw [3] (λ_ wr=>∃(seen:pE) (p:dI),wr.heap[aU.heap.size]?=some (.mapIter (some b) clock seen clock)∧wr.heap[b]?=some (.map es clock)∧y5 es m seen p∧J ((j1 m p).map Prod.fst) wr)
  (λ_ wr=>match wr.heap[aU.heap.size]? with|some (.mapIter _ _ seen _)=>es.size-seen.size|_=>0)
 case atStart=>
  exact⟨#[],[],World.alloc_heap_new aU _,(Below.heap_alloc aU _ b rM).trans U,⟨nodup_nil,rfl,by simp,by simp⟩,ho [] aU _ none bJ (World.grownBy_alloc aU _ none) (Nat.le_refl _) (λr e=>by cases e)⟩
 case round=>
  obtain⟨seen,p,aI,E1,fo,ye⟩:=hrel
  gi_wp2_with (first
   |(gi_at_next;refine Ou rfl _ rfl b aU.heap.size clock seen es rfl aI E1 c1 ?_ ?_)
   |gi_in)
  ·intro zY
   gi_wp2
   go_end0
   exact⟨⟨_,rfl⟩,_,(fo.done k2 (by rw[zY];rfl)).map _,ye⟩
  ·intro e he iL z2 q0 eg j5 eO Cn;obtain⟨i,dc,dg,gx,mh,B9⟩:=fo.step k2 c1.1 (Array.mem_toList_iff.2 he);obtain⟨q,ak,ax,aO⟩:=Bq i e dc;have jt:J ((j1 m p).map Prod.fst) iL:=ho _ wr iL (some aU.heap.size) ye z2 q0 (λr e=>by cases e;exact⟨Nat.le_refl _,_,aI,rfl⟩);have al3:=ho _ iL (iL.alloc (.cells #[.int .i64 q.1.br,.int .i64 q.1.bh] 84)) none jt (World.grownBy_alloc iL _ none) (Nat.le_refl _) (λr e=>by cases e);have anq:=(Below.heap_alloc iL (.cells #[.int .i64 q.1.br,.int .i64 q.1.bh] 84) _ (Array.getElem?_eq_some_iff.1 j5).1).trans j5;have amm:=(Below.heap_alloc iL (.cells #[.int .i64 q.1.br,.int .i64 q.1.bh] 84) _ (Array.getElem?_eq_some_iff.1 eO).1).trans eO;obtain⟨fn,tmps,assign,body,ai,c3⟩:=hZ _ q.1 _ al3 (by rw[length_map,Ky fo.lt];exact B9);rw[ax,aO]at Cn ⊢;simp only[Ee,Ed]at ai Cn ⊢;clear eg
   gi_wp2
   refine c3.mono ?_;rintro dj K6 ⟨rfl,ox,sS⟩
   gi_wp2
   have yw:=sS.same _ _ anq rfl
   go_roundw
   case rel=>exact⟨_,p++[i],yw,sS.same _ _ amm rfl,mh,by rw[P5 ak,List.map_append];exact ox⟩
   case measure=>
    rw[yw,aI];have:=fo.sz;simp only[Array.size_push];omega
variable {E T k x5:Nat}{P:Program}
def ac0(aT:kO P T E k x5)(w:World)(ty fE:Nat)(v:Value)(n:Nat)(xs:dQ)(pG:w.ownsRow fE E k v n xs)(ad:Addr)(c:Nat)(us:dQ)(aJ:us.length=k)(kr:∀j x,us[j]?=some x→w.cell? (ad.add j)=some x)(nr:∀x∈us,x.oneCell'=true)(ec:x5≤4096)(dY:(n+1)*x5≤140737488355328)(j3:n+1≤140737488355328)(hb:fE≤w.heap.size):
  ∃dM w',(Builtin.append_ #[T,T] ty #[v,.slice (some ad) 1 c]).run P w=.ok dM w'∧w'.ownsRow fE E k dM (n+1) (xs++us)∧w.grownBy w' v.ownBlock∧w.drawn≤w'.drawn:=by
 obtain⟨i,z,hB,ji,hN,nv,tT⟩:=aT.info;have hm:n+1≤maxLen:=by simp only[maxLen];omega
 obtain⟨dM,w',eV,hw,ha,mJ⟩:=run_append_own (P:=P) w fE T ty E i z k x5 aT.gT hB ji hN nv tT aT.pos v n xs pG ad 1 c us (by rw[aJ,Nat.one_mul]) kr nr hm dY hb;refine⟨dM,w',eV,hw,ha,?_⟩;rcases pG.2 with⟨rfl,bJ⟩|⟨g,aV,ov,rfl,_,bw,Xu,vG,qw,aki⟩
 ·have:=run_append_nil (P:=P) w T ty E i z aT.gT hB ji ad 1 c us (by rw[hN,aJ,Nat.one_mul]) kr (by omega) (by omega) (by rw[nv];omega);rw[eV]at this;cases this;exact Nat.le_succ _
 ·by_cases oA:n+1≤aV
  ·have:=run_append_room (P:=P) w T ty E i aT.gT hB g n aV ov bw ad 1 c us (by rw[hN,aJ,Nat.one_mul]) kr nr oA (by rw[hN,qw,aJ];have:=Nat.mul_le_mul_right k oA;rw[Nat.add_mul,Nat.one_mul]at this;exact this);rw[eV]at this;cases this;exact Nat.le_refl _
  ·have qz:(ov.toList.take (n*k)).length=n*k:=by
    rw[length_take,Array.length_toList,qw];exact Nat.min_eq_left (Nat.mul_le_mul_right k Xu)
   have holds:∀j x,(ov.toList.take (n*k))[j]?=some x→w.cell? ((⟨g,0,none⟩:Addr).add j)=some x:=λj x aa=>by
    rw[mx];rw[getElem?_take]at aa;split at aa
    ·simp only[World.cell?,bw,Nat.zero_add];simpa using aa
    ·cases aa
   have:=run_append_grow (P:=P) w T ty E i z aT.gT hB ji ⟨g,0,none⟩ n aV _ (by rw[hN];exact qz) holds ad 1 c us (by rw[hN,aJ,Nat.one_mul]) kr (by omega) (by simp only[maxLen]at hm;omega) (growslice_fits (by omega) (by rw[nv];exact dY));rw[eV]at this;cases this;exact Nat.le_succ _
def aq8{F:Fence}{n:Nat}{ops:mg}{Q:Exit→Act→World→Prop}{o:Oper}{iT:List Oper}{a:Act}{w:World}(aT:kO P T E k x5)(bw:o.guard=none)(s x:Operand)(hop:o.op=Op.call {callee:=Callee.builtin Builtin.append,args:=#[s,x],argTypes:=#[T,T]})
  (fE:Nat) (v:Value) (m:Nat) (xs:dQ) (Z:a.eval s=v) (pG:w.ownsRow fE E k v m xs) (ad:Addr) (c:Nat) (us:dQ) (u:a.eval x=.slice (some ad) 1 c) (aJ:us.length=k) (hu:∀j x,us[j]?=some x→w.cell? (ad.add j)=some x) (ES:∀x∈us,x.oneCell'=true) (ec:x5≤4096) (dY:(m+1)*x5≤140737488355328) (j3:m+1≤140737488355328) (hb:fE≤w.heap.size)
  (g4:∀dM w',w'.ownsRow fE E k dM (m+1) (xs++us)→w.grownBy w' v.ownBlock→w.drawn≤w'.drawn→wpListIn F n P ops Q iT (a.put o.dst dM) w'):wpListIn F n P ops Q (o::iT) a w:=by
 refine wpListIn_plain bw λK yf=>?_;obtain⟨dM,w',eV,hw,ha,mJ⟩:=ac0 aT w o.type fE v m xs pG ad c us aJ hu ES ec dY j3 hb;unfold Oper.wpIn;refine⟨?_,?_⟩
 ·simp[Oper.about,hop,resolve,Target.leads,Sem.run_pure]
 ·rw[Oper.semAt_plain F _ _ (by rw[hop];intro c gh;cases gh)];simp[execOp,hop,resolve,invoke,builtin,Z,u,eV,Result.andThen];exact yf _ _ (g4 dM w' hw ha mJ)
structure Ep(w:World)(pre:List bO)(aU:World):Prop where
 below:Below w.heap.size w aU
 drawn:w.drawn≤aU.drawn
 box:∃v,aU.heap[w.heap.size]?=some (.cells #[v] 34 (0,0))∧aU.ownsRow (w.heap.size+1) 84 2 v pre.length (pre.map s0).flatten
set_option maxHeartbeats 4000000 in
def abm(F:Fence)(n:Nat)(bV:F.fn 196)(ch:F.round=none)(aX:3≤n)(g:Nat)(lb:jc)(EV:F.fn g)(EK:∀args w,(callFunc g args).run prog w=.ok (.enter g args) w)(N:Nat)(sI:N*16≤140737488355328)(S:x2→Prop)(w:World)
    (Ff:∀(l:Nat) (J:x2→World→Prop) (aU:World),Below w.heap.size w aU→zw aU.heap.size J→(∀pre x ng,J pre ng→pre.length<N→YieldAt F (n-1-1) prog l (Ee x) ng λe W'=>e=.returned (.bool true)∧J (pre++[x]) W'∧KeepsWalks ng W')→J [] aU→
      CallsIn F (n-1) prog g (#[.func (.yield l) #[] #[]]++lb) aU λe W'=>(∃v,e=.returned v)∧∃full,S full∧J full W') :
    CallsIn F n prog 196 #[.slice none 0 0,.func (.func g) #[] lb] w λe W'=>∃v e3,e=.returned v∧S e3∧W'.ownsRow (w.heap.size+1) 84 2 v e3.length (e3.map s0).flatten∧Below w.heap.size w W'∧w.drawn≤W'.drawn:=by
  have h1:1≤n:=by omega
  refine callsIn_of_wp_marks func196 rfl bV ?_ ch;simp only[Tryz.ntmps196,size_toArray,length_cons,length_nil,Nat.reduceAdd,Nat.reduceSub,Array.replicate_succ,Array.replicate_zero,push_toArray,append_toArray,nil_append,cons_append]
  gi_wp2
  have sL:(w.alloc (Obj.cells #[Value.slice none 0 0] 34)).heap[w.heap.size]?=some (.cells #[Value.slice none 0 0] 34 (0,0)):=World.alloc_heap_new w _;have zU:Ep w [] (w.alloc (Obj.cells #[Value.slice none 0 0] 34)):=⟨(Below.refl _ w).alloc (Nat.le_refl _) _,Nat.le_refl _,_,sL,rfl,.inl ⟨rfl,rfl⟩⟩;have k2:(w.alloc (Obj.cells #[Value.slice none 0 0] 34)).heap.size=w.heap.size+1:=by simp
  generalize w.alloc (Obj.cells #[Value.slice none 0 0] 34)=hP at zU k2 ⊢;clear sL
  have hs:∀(s:x2) (aU W':World) (row:j4),Ep w s aU→aU.grownBy W' row→aU.drawn≤W'.drawn→(∀r,row=some r→hP.heap.size≤r∧∃o:Obj,aU.heap[r]?=some o∧o.isCells=false)→Ep w s W':=λs aU W' row h bw af aI=>by
    obtain⟨v,ak,ax⟩:=h.box;refine⟨h.below.grown bw h.below.size λk e=>by have:=(aI k e).1;omega,Nat.le_trans h.drawn af,v,(bw.block _ (Array.getElem?_eq_some_iff.1 ak).1 λe=>by have:=(aI _ e.symm).1;omega).trans ak,yN ax bw λr e=>?_⟩;obtain⟨_,o,aO,aL⟩:=aI r e;exact⟨o,aO,λc cC=>by rw[cC]at aL;cases aL⟩
  refine Ra ch h1 (gf:=g) (lb:=lb) rfl EV EK (encs:=Ee) N S (λ_=>rfl) (Ep w) hs zU (λl J aU lP ho hZ zV=>Ff l J aU ?below ho hZ zV)
    (λpre x gW aU=>Ep w pre aU∧∃p,aU.heap[p]?=some (.cells #[.int .i64 x.br,.int .i64 x.bh] 84 (0,0))∧gW={tmps:=#[.slice none 0 0,.func (.func g) #[] lb,.pointer (some ⟨w.heap.size,0,none⟩),undef,.slice none 0 0,.pointer (some ⟨p,0,none⟩),.func (.func g) #[] lb,.agg #[.int .i64 x.br,.int .i64 x.bh],undef,undef,undef,undef,undef],defers:=[]}) ?MP ?assign ?body ?done
  case below=>exact zU.below.trans (lP.mono (by omega))
  case MP=>
    rintro pre x gW aU l o hT aJ ⟨hi,p,aF,rfl⟩ an IE;exact⟨hs _ _ _ (some l) hi (grownBy_putObj' aU l hT) (Nat.le_refl _) (λr e=>by cases e;exact⟨aJ,o,an,IE⟩),p,(World.putObj_heap_other λe=>by rw[e]at aF;rw[aF]at an;cases an;cases IE).trans aF,rfl⟩
  case assign=>
    rintro l pre x aU K ef g4;simp only[Ee,Ed]
    gi_wp2
    exact g4 _ _ ⟨hs _ _ _ none ef (World.grownBy_alloc aU _ none) (Nat.le_refl _) (λr e=>by cases e),aU.heap.size,World.alloc_heap_new aU _,rfl⟩ ((Below.refl _ aU).alloc (Nat.le_refl _) _)
  case body=>
    rintro l pre x gW aU eH ⟨ef,p,aF,rfl⟩;have as4:aU.cell? ⟨p,0,none⟩=some (.int .i64 x.br):=by simp[World.cell?,aF]
    have as5:aU.cell? ⟨p,1,none⟩=some (.int .i64 x.bh):=by simp[World.cell?,aF]
    obtain⟨v,ak,ax⟩:=ef.box;have rM:w.heap.size<aU.heap.size:=(Array.getElem?_eq_some_iff.1 ak).1;have kX:aU.cell? ⟨w.heap.size,0,none⟩=some v:=by simp[World.cell?,ak]
    have bP:(aU.alloc (.cells #[.int .i64 x.br,.int .i64 x.bh] 84)).ownsRow (w.heap.size+1) 84 2 v pre.length (pre.map s0).flatten:=yN ax (World.grownBy_alloc aU _ none) λr e=>by cases e
    have Nq:∀j aR,[Value.int .i64 x.br,Value.int .i64 x.bh][j]?=some aR→(aU.alloc (.cells #[.int .i64 x.br,.int .i64 x.bh] 84)).cell? ((⟨aU.heap.size,0,none⟩:Addr).add j)=some aR:=by
      have:=World.alloc_heap_new aU (.cells #[.int .i64 x.br,.int .i64 x.bh] 84);intro j aR aY;rw[mx];simp only[World.cell?];rw[this]
      match j,aY with
      |0,aY=>simpa using aY
      |1,aY=>simpa using aY
      |n+2,aY=>simp at aY
    gi_wp2_with (first
      |(gi_at_builtin;refine aq8 UP rfl _ _ rfl (w.heap.size+1) v pre.length (pre.map s0).flatten rfl bP ⟨aU.heap.size,0,none⟩ 1 [.int .i64 x.br,.int .i64 x.bh] rfl rfl Nq (by simp[Value.oneCell']) (by decide) (by omega) (by omega) (by simp;omega) ?_;intro dM me Fc z6 Ns
        obtain⟨hY,nh,rfl⟩:∃hY nh,dM=.slice (some ⟨hY,0,none⟩) (pre.length+1) nh:=by
           rcases Fc.2 with⟨_,bJ⟩|⟨hY,nh,_,b3,_⟩
           · exact absurd bJ (by omega)
           · exact⟨hY,nh,b3⟩
        have qZ:∀(k:Nat) (o:Obj),aU.heap[k]?=some o→(∀c,o≠.cells c 84 (0,0))→me.heap[k]?=some o:=λk o hk an=>by
           have uQ:=(Below.heap_alloc aU (.cells #[.int .i64 x.br,.int .i64 x.bh] 84) k (Array.getElem?_eq_some_iff.1 hk).1).trans hk;refine(z6.block k (Array.getElem?_eq_some_iff.1 uQ).1 λe=>?_).trans uQ;rcases bP.2 with⟨b3,_⟩|⟨hY,nh,EI,b3,_,ER,_⟩
           · rw[b3]at e;cases e
           · rw[b3]at e;cases e
             rw[ER]at uQ;exact an EI (Option.some.inj uQ).symm
        have w2:me.heap[w.heap.size]?=some (.cells #[v] 34 (0,0)):=qZ _ _ ak λc e=>by cases e
        have ams:me.cell? ⟨w.heap.size,0,none⟩=some v:=by simp[World.cell?,w2]
        have amH:me.frozen? ⟨w.heap.size,0,none⟩=false:=by simp[World.frozen?,w2]
        go_frame)
      |gi_in)
    have p0:Below w.heap.size w me:=(ef.below.alloc (by omega) (.cells #[.int .i64 x.br,.int .i64 x.bh] 84)).grown z6 (by have:=ef.below.size;simp;omega) λk e=>by
      rcases bP.2 with⟨b3,_⟩|⟨hY,nh,EI,b3,ER,_⟩
      · rw[b3]at e;cases e
      · rw[b3]at e;cases e;simp only;omega
    have wZ:aU.heap.size≤me.heap.size:=by have:=z6.size;simp at this;omega
    refine⟨λk o uQ ym hk an=>(heap_setCell_other me _ k _ (by simp only;omega)).trans (qZ k o hk λc e=>by rw[e]at an;cases an),⟨p0.grown (grownBy_setCell' me _ _) p0.size λk e=>by cases e;exact Nat.le_refl _,Nat.le_trans ef.drawn Ns,_,heap_setCell_same me w.heap.size 0 #[v] _ _ w2,?_⟩,(show KeepsWalks aU me from⟨wZ,λk o hk an=>qZ k o hk λc e=>by rw[e]at an;cases an⟩).trans (KeepsWalks.setCell me _ _)⟩;have:=yN Fc (grownBy_setCell' me w.heap.size (.slice (some ⟨hY,0,none⟩) (pre.length+1) nh)) λr e=>by cases e;exact⟨_,w2,λc e=>by cases e⟩
    rw[show[Value.int .i64 x.br,Value.int .i64 x.bh]=s0 x from rfl]at this;simpa using this
  case done=>
    rintro full dD aU fo fs ef zS;obtain⟨v,ak,ax⟩:=ef.box;have kX:aU.cell? ⟨w.heap.size,0,none⟩=some v:=by simp[World.cell?,ak]
    gi_wp2
    refine⟨by simp,.inl ⟨_,_,rfl,run_takeDeferred zS,?_⟩⟩;have EW:=hs _ _ _ (some dD) ef (grownBy_putObj' aU dD (.deferred none)) (Nat.le_refl _) λr e=>by cases e;exact⟨fs,_,zS,rfl⟩
    have bP:=yN ax (grownBy_putObj' aU dD (.deferred none)) λr e=>by cases e;exact⟨_,zS,λc e=>by cases e⟩
    exact⟨_,results_tmp rfl _ _ _,v,full,rfl,fo,by simpa using bP,EW.below,EW.drawn⟩
def ahb(m:List (bO×Bool))(eH:m.length*16≤140737488355328)(d:Nat):eT prog 196 [] [.c6,rV m] (λa aH=>∃e3:x2,e3.Perm (m.map Prod.fst)∧a=.own d∧aH=[(d,.slice 84 2 (ar eY e3) 0 false)]):=by
 intro cx w I β vs av aI;simp only[b8,aC,rV,bm,ds]at aI;obtain⟨YA,aqu,rfl,rfl,h0,aqv,rfl,⟨Pn,rfl,aR,us,aK,⟨b,o,rfl,i4⟩,rfl⟩,rfl⟩:=aI;have:Pn=#[.pointer (some ⟨b,o,none⟩)]:=Array.toList_inj.1 (by simpa using aK);subst this;simp only[l1,bm]at i4;obtain⟨⟨aR,ef,r,es,clock,rfl,sH,iG,c1⟩,-⟩:=i4;have oS:=av.good _ _ _ ef;obtain⟨hA,lY,E9,NL⟩:=av.iB _ _ sH;obtain⟨rfl,rfl⟩:=CY NL;have yx:r<w.heap.size:=(Array.getElem?_eq_some_iff.1 E9).1;refine Calls.mono (callsIn_wide.1 (abm Fence.wide 3 trivial rfl (Nat.le_refl _) 175 #[.pointer (some ⟨b,o,none⟩)] trivial (enters_of func175 (by kernel_rfl) rfl) m.length eH (λe3=>e3.Perm (m.map Prod.fst)) w λl J aU lP ho hZ zV=>?_)) ?_
 ·exact adP Fence.wide 2 trivial rfl (by decide) l b o r clock es m iG c1 J hZ aU ho ((lP.cell (p:=⟨b,o,none⟩) (World.block_lt_of_cell? w _ oS)).trans oS) ((lP.block r yx).trans E9) zV
 ·rintro e w' ⟨v,e3,rfl,fo,pG,U,af⟩;have fM:∀k,w.heap.size≤k→∀o,I k o=none:=λk hk=>av.jG hk;have aa:=av.qJ (eM:=[d]) (σ2:=[]) (env:=[]) ⟨λ_ _=>rfl,by simp[ag.ids],rfl,rfl,λx u cW n h=>by simp[ag.get]at h⟩
  have fin:∀g,w.heap.size≤g→i1 v=true→(cb v=some g∨dA v=[])→bb cx I (hy (gY β [d]) d v) w' d (.slice 84 2 (ar eY e3) 0 false)→
    ∃dM,Ending.returned v=Ending.returned dM∧∃r aH bq β',(∃e3:x2,e3.Perm (m.map Prod.fst)∧r=W.own d∧aH=[(d,cE.slice 84 2 (ar eY e3) 0 false)])∧aC bq β' r dM∧cz ⟨prog,0,ag.ids []⟩ cx bq β' aH w':=λg bw jh rM cG=>by
   refine⟨_,rfl,.own d,_,I,hy (gY β [d]) d v,⟨e3,fo,rfl,rfl⟩,by simp[aC,gX,jh],?_⟩
   refine aa.turn (d:=d) (b:=g) ⟨λk hk bS=>U.block k bS,U.size,U.tape,U.os,U.output,af⟩ (.inl (Nat.le_trans av.size bw)) (λx u=>by rw[avA,if_neg (Ne.symm u)]) (λx u Z e=>by simp[ag.get]at Z) (cV.refl I) (λ_ _ _=>rfl)
    (λo v aa=>by rw[fM g bw]at aa;cases aa) (fM g bw none) (λx u=>iu _ _ u) (.inl (by simp[ag.ids])) (avY (by simp[gY])) (by rw[gX];exact rM) λbc mD=>?_
   rw[avA,if_pos rfl]at mD;cases mD;exact cG
  rcases pG.2 with⟨rfl,bJ⟩|⟨g,aV,ov,rfl,bw,NC,h1,D,aq,aZ⟩
  ·have:e3=[]:=eq_nil_of_length_eq_zero bJ;subst this;exact fin w.heap.size (Nat.le_refl _) rfl (.inr rfl) (by simp[bb,gX,ar])
  ·refine fin g (by omega) rfl (.inl rfl) ?_;simp only[bb,gX];have vK:(ar eY e3).length=e3.length:=by simp[ar]
   rw[vK];refine .inr (.inr ⟨g,aV,ov,rfl,h1,D,NC,by simpa using aq,?_,?_,by omega,?_,?_,.inl (by have:=av.size;omega)⟩)
   ·rw[aZ];exact(Gb (HU _) _ _).2 rfl
   ·intro e he;obtain⟨x,_,rfl⟩:=List.mem_map.1 he;rfl
   ·intro h;cases h
   ·intro o _;exact fM g (by omega) o
def ac1{S:x2→Prop}(h:eT prog 196 [] [.c6,rV m] (λa aH=>∃e3:x2,S e3∧a=.own 910000000∧aH=[(910000000,.slice 84 2 (ar eY e3) 0 false)])):
  eT prog 174 [] [rV m] (λa aH=>∃e3:x2,S e3∧a=.own 910000000∧aH=[(910000000,.slice 84 2 (ar eY e3) 0 false)]):=by
 refine dN func174 rfl rfl ?_;refine avB bN [] [] [(0,rV m)] [] (by kernel_rfl) ?_;refine A.seq ?_;refine av5 bN 1 [2] [] [(3,rV m),(0,rV m)] [] (by kernel_rfl) (by kernel_rfl) (by kernel_rfl) rfl rfl (awk (dG:=[]) [910000000] rfl rfl rfl rfl rfl ?_ h akF) rfl rfl ?_
 ·rintro r σ2 ⟨e3,h1,rfl,rfl⟩;simp[W.refs,ag.clean,n2]
 rintro b9 aH ⟨σ2,⟨e3,h1,rfl,rfl⟩,rfl⟩;refine⟨[],_,_,rfl,?_⟩;show aP _ _ _ _ _;refine A.ret ?_;refine qc.mono (avC bN [] (R:=.own 910000000) (σ2:=[(910000000,.slice 84 2 (ar eY e3) 0 false)]) rfl (by kernel_rfl)) ?_;rintro a s ⟨rfl,rfl⟩;exact⟨e3,h1,rfl,rfl⟩
def aak{d:Nat}(m:List (bO×Bool))(eH:m.length≤100000){r:x2}(hm:l2 (fC [λx:bO=>x.br,λx:bO=>x.bh]) (m.map Prod.fst)=some r):
  eT prog 113 [] [rV m,.fn 115 []] (λa aH=>a=.own d∧aH=[(d,.slice 84 2 (ar eY r) 0 false)]):=by
 refine pl.at [(910000000,d)] (iW:=[]) (args:=[rV m,.fn 115 []]) (r:=.own 910000000) (σ2:=[(910000000,.slice 84 2 (ar eY r) 0 false)]) ?_;refine dN func113 rfl rfl ?_;refine avB bN [] [] [(0,rV m),(1,.fn 115 [])] [] (by kernel_rfl) ?_;refine A.seq ?_;refine av5 bN 1 [2] [] [(6,rV m),(0,rV m),(1,.fn 115 [])] [] (by kernel_rfl) (by kernel_rfl) (by kernel_rfl) rfl rfl (awk (dG:=[]) [910000000] rfl rfl rfl rfl rfl ?_ (ac1 (ahb m (by omega) 910000000)) akx) rfl rfl ?_
 ·rintro r σ2 ⟨e3,h1,rfl,rfl⟩;simp[W.refs,ag.clean,n2]
 rintro b9 aH ⟨σ2,⟨e3,h1,rfl,rfl⟩,rfl⟩;refine⟨[],_,_,rfl,?_⟩;show aP _ _ _ _ _;have Z:l2 (fC [λx:bO=>x.br,λx:bO=>x.bh]) e3=some r:=aaq hm h1;refine avB bN [] [(2,fq [] (abv (d:=910000000) (T:=84) Z) Ua)] [(5,.own 910000000)] [(910000000,.slice 84 2 (ar eY r) 0 false)] (by kernel_rfl) ?_;refine avB bN [] [] [(4,.own 910000000)] [(910000000,.slice 84 2 (ar eY r) 0 false)] (by kernel_rfl) ?_;refine A.ret ?_;exact avC bN [] (R:=.own 910000000) rfl (by kernel_rfl)
end
section
open Go Go.Proofs.Tryz List
set_option maxRecDepth 100000
set_option linter.all false
def aal:Ek prog 152 84 4 (qd eY) p8:=⟨underlying152,λ_=>rfl,λ_=>rfl,⟨_,underlying84,λ_ _=>rfl⟩,λa b w=>alF (by kernel_rfl) (by kernel_rfl) (ahx a.br b.br a.bh b.bh w),λe a w=>by kernel_rfl,λa b h=>by cases a;cases b;simpa [p8]using h,λa=>by simp[qd,eY,valOf,GR,Instr.sameBits]⟩
def aqo{t:bz}{root:Int}{eL:cO}{r:g2×Int}(hm:FC t root eL=some r):dR prog 54 [] [.agg (cn t),Y root,bC aB eL] (.c5 [.agg (mG r.1),Y r.2]):=by
 refine dN func54 rfl rfl ?_;unfold FC at hm;refine bl [(0,.al 37),(1,.al 33)] [(1,Y root),(2,bC aB eL),(3,.ptr 37 0),(6,.ptr 33 0)] [(37,.cells 28 (cn t)),(33,.c 36 [Y 0,.c6])]<|A.seq ?_
 obtain⟨aD,h1,hm⟩:=bo hm;refine aW [(3,ch (Jo h1) HR)] [] [(8,Y aD)]<|aW [] [] [(21,.bool (!decide (aD=0)))] ?_
 rcases cg hm with⟨bk,hm⟩|⟨bk,hm⟩
 ·refine bX bk<|et [] [1,2,3,8,21] [(7,Y aD)] [37] [] ?_
  cases hm;exact A.ret cM
 refine bW bk<|A.skip<|et [(0,anc 44 84 4)] [8,21] [(9,.dm 44)] [] [(44,.map 84 4 (jA (qd eY) ih []))]<|A.seq<|aW [(1,aN (dZ aB eL))] [2] [(25,bC aB eL),(26,Y eL.length),(27,Y 0)]<|A.block<|avJ 25 rfl λfu=>?_
 obtain⟨gU,gV,gK,gL,hm⟩:=hJ hm;refine avD (l:=eL) (gC:=0) (B:=gU) (K:=gV) hm (λa1=>λb1=>[(1,Y root),(3,.ptr 37 0),(6,.ptr 33 0),(9,.dm 44),(25,bC aB eL),(26,Y eL.length),(27,Y a1)]) (λa1=>λb1=>[(37,.cells 28 (cn t)),(33,.c 36 [Y 0,.c6]),(44,.map 84 4 (jA (qd eY) ih b1))]) ?_ ?_ ?_
 ·exact fN
 ·rintro a1 aK cI b1 gM cr hm;rw[gK]at hm;refine aW [] [] [(28,.d ((a1:Int)<eL.length))]<|A.seq<|bX (hv cr)<|A.skip<|A.seq<|A.block<|aW [(0,c8 (ix aB (fS cr)))] [28] [(11,Y aK)] ?_
  obtain⟨bB,D,hm⟩:=bo hm;refine aW [(3,ch (aqS D) ajF)] [] [(12,bC aB bB)]<|A.seq<|avM [(1,Y root),(3,.ptr 37 0),(6,.ptr 33 0),(9,.dm 44),(25,bC aB eL),(26,Y eL.length),(27,Y a1),(12,bC aB bB),(42,.bool ((!decide (aK=root))&&(decide ((bB.length:Int)=(0:Int)))))] [(37,.cells 28 (cn t)),(33,.c 36 [Y 0,.c6]),(44,.map 84 4 (jA (qd eY) ih b1))] (λhk=>?_) ?_
  ·rcases j6 (!decide (aK=root))with bK|bK
   ·exact bl [(3,aN (cK bK)),(5,aN (dZ aB bB)),(7,aN (mE (q:=decide ((bB.length:Int)=(0:Int))) bK))] _ _ hk
   exact bl [(3,aN (cK bK)),(7,aN (pa (q:=decide ((bB.length:Int)=(0:Int))) bK))] _ _ hk
  rcases cg hm with⟨cq,hm⟩|⟨cq,hm⟩
  ·refine bX cq<|et [] [1,3,9,25,26,27,12,42] [(7,Y 9)] [37,44] [] ?_
   cases hm;exact A.ret cM
  refine bW cq<|A.skip<|aW [] [42] [(13,Y root)]<|aW [(1,aN (dZ aB bB))] [12] [(45,bC aB bB),(46,Y bB.length),(47,Y 0)]<|A.block<|avJ 45 rfl λeO=>?_
  obtain⟨k8,jm,ll,lz,hm⟩:=hJ hm;refine avD (l:=bB) (gC:=0) (B:=k8) (K:=jm) hm (λcf=>λ(sX,cU)=>[(1,Y root),(3,.ptr 37 0),(6,.ptr 33 0),(9,.dm 44),(13,Y sX),(25,bC aB eL),(26,Y eL.length),(27,Y a1),(45,bC aB bB),(46,Y bB.length),(47,Y cf)]) (λcf=>λ(sX,cU)=>[(37,.cells 28 (cn t)),(33,.c 36 [Y 0,.c6]),(44,.map 84 4 (jA (qd eY) ih cU))]) ?_ ?_ ?_
  ·exact fN
  ·rintro cf e2 gn ⟨sX,cU⟩ jb eW hm;rw[ll]at hm;exact aW [] [] [(48,.d ((cf:Int)<bB.length))]<|A.seq<|bX (hv eW)<|A.skip<|A.seq<|A.block<|aW [(0,c8 (ix aB (fS eW)))] [48] [(15,Y e2)]<|et [(4,ana cU (bO.mk sX e2) ih true aal rfl)] [13] [] [44] [(44,.map 84 4 (jA (qd eY) ih (nS p8 cU (bO.mk sX e2) true)))]<|dF [] [15] [(13,Y e2)]<|dF [(0,aN (hg eW eO))] [47] [(47,Y ((cf+1:Nat):Int))]<|cF (e2,nS p8 cU (bO.mk sX e2) true) hm
  rintro cf ⟨sX,cU⟩ jb jE hm;rw[lz]at hm;exact aW [] [] [(48,.d ((cf:Int)<bB.length))]<|A.seq<|bW (ht jE)<|A.exit<|dF [(0,aN (hg cr fu))] [13,27,45,46,47,48] [(27,Y ((a1+1:Nat):Int))]<|cF cU hm
 rintro a1 b1 gM fv hm;rw[gL]at hm;refine aW [] [] [(28,.d ((a1:Int)<eL.length))]<|A.seq<|bW (ht fv)<|A.exit<|avF (ek:=[(1,Y root),(3,.ptr 37 0),(6,.ptr 33 0),(9,.c7 (jA (qd eY) ih b1)),(25,bC aB eL),(26,Y eL.length),(27,Y a1),(28,.d ((a1:Int)<eL.length))]) (σ2:=[(37,.cells 28 (cn t)),(33,.c 36 [Y 0,.c6])]) (jx [.cT [44]] [9]) ?_
 obtain⟨aq,hm⟩:=pX hm;obtain⟨cv,aZ,hm⟩:=bo hm;refine bl [(2,ch (adO b1) ajH),(3,fq [542054001] (aak (d:=542054001) b1 (of_decide_eq_true aq) aZ) ajG)] [(6,.ptr 33 0),(7,Y 0)] [(33,.c 36 [Y root,.own 542054001]),(542054001,.slice 84 2 (ar eY cv) 0 false)]<|A.ret ?_
 obtain rfl:=jN hm;exact avC bN [.cT [542054001]] rfl (by kernel_rfl)
end
section
open Go List
set_option maxRecDepth 100000
set_option linter.all false
noncomputable section
def I6(t:cO)(jR:wz):j9:=
 aM (FW jR) λ(aD:Bool)=>bif !aD then aM (Aw) λ(bB:Bool)=>some bB else aM (Fv t) λ(cm:dL)=>aM (FM cm (8:Int)) λ(bZ:bz×dL)=>aM (oJ bZ.2 (bZ.1.bx.length:Int)) λ(gJ:Int×dL)=>aM (du bZ.1.bx gJ.1) λ(dJ:ez)=>aM (F9 gJ.2 bZ.1 (4:Int)) λ(eG:(cO)×dL)=>aM (Ap bZ.1 dJ.cS eG.1) λ(gR:(wz)×Int)=>bif !decide (gR.2=0)then(bif decide (gR.2=9)then aM (Aw) λ(qI:Bool)=>some qI else some false)else aM (x8 bZ.1 dJ.cS eG.1 gR.1) λ(hL:Int×Int)=>Cd bZ.1 dJ.cS eG.1 λ(fz:g2×Int×Int)=>aM (FC bZ.1 dJ.cS eG.1) λ(lN:g2×Int)=>aM (FK bZ.1 lN.1) λ(h7:Int×Int)=>bif ((!decide (hL.2=0))||((!decide (fz.2.2=0))||((!decide (lN.2=0))||((!decide (h7.2=0))||((decide (fz.2.1<hL.1))||(decide (h7.1<fz.2.1)))))))then some false else eE eG.1 0 (λ(a1:Int) (aK:Int) (cI:Unit→Option _) ()=>aM (F1 bZ.1 dJ.cS aK) λ(o6:Int×Bool)=>bif ((decide (hL.1<o6.1))||(decide (fz.2.1<o6.1)))then some false else cI ()) (λ(aj:Unit)=>match aj with|()=>aM (F2 eG.2 gR.1) λ(s8:(wz)×dL)=>aM (FL s8.2 bZ.1 dJ.cS) λ(uj:(wz)×dL)=>eE ([jR,s8.1,uj.1]:AL) 0 (λ(cf:Int) (e2:wz) (gn:Unit→Option _) ()=>aM (x8 bZ.1 dJ.cS eG.1 e2) λ(v7:Int×Int)=>bif ((decide (v7.2=0))&&(decide (fz.2.1<v7.1)))then some false else gn ()) (λ(aj:Unit)=>match aj with|()=>aM (Aw) λ(LS:Bool)=>some LS) ()) ()
end
end
section
open Go Go.Proofs.Tryz List
set_option maxRecDepth 100000
set_option linter.all false
def aoP{t:cO}{jR:wz}{r:Bool}(hm:I6 t jR=some r):dR prog 11 [] [bC aB t,bC cQ jR] (.bool r):=by
 refine dN func11 rfl rfl ?_;unfold I6 at hm;refine bl [] [(0,bC aB t),(1,bC cQ jR)] []<|A.seq ?_
 obtain⟨aD,h1,hm⟩:=bo hm;refine aW [(1,ch (arJ h1) aln)] [] [(30,.bool (!aD))] ?_;rcases cg hm with⟨bk,hm⟩|⟨bk,hm⟩
 ·refine bX bk ?_;obtain⟨bB,D,hm⟩:=bo hm;refine bl [(0,ch (Ov D) Ms)] [(4,.bool bB)] [] ?_;cases hm;exact A.ret cM
 refine bW bk<|A.skip ?_
 obtain⟨cm,aq,hm⟩:=bo hm;refine et [(1,fq [1] (aqE aq) ale)] [0,30] [(5,.ptr 1 0)] [] [(1,.cells 103 (hO cm))] ?_;obtain⟨bZ,aZ,hm⟩:=bo hm;refine et [(1,fq [25] (aq4 aZ) alf),(2,.al 30)] [] [(6,.ptr 30 0)] [1] [(1,.cells 103 (hO bZ.2)),(25,.slice 62 5 (ar fe bZ.1.Links) 0 false),(30,.c 28 [bC eD bZ.1.bx,.own 25])] ?_;obtain⟨gJ,bV,hm⟩:=bo hm;obtain⟨dJ,dU,hm⟩:=bo hm;refine et [(5,aN (dZ eD bZ.1.bx)),(6,fq [] (rF bV) r9),(7,c8 (ix eD dU))] [] [(7,Y dJ.cS)] [1] [(1,.cells 103 (hO gJ.2))] ?_;obtain⟨eG,eR,hm⟩:=bo hm;refine avB bN [.cT [25]] [(2,fq [] (ZN eR) alg)] [(1,bC cQ jR),(5,.ptr 1 0),(6,.ptr 30 0),(7,Y dJ.cS),(8,bC aB eG.1)] [(1,.cells 103 (hO eG.2)),(25,.slice 62 5 (ar fe bZ.1.Links) (ar fe bZ.1.Links).length true),(30,.c 28 [bC eD bZ.1.bx,.own 25])] (by kernel_rfl) ?_;obtain⟨gR,jS,hm⟩:=bo hm;refine bl [(3,ch (aq1 jS) alk)] [(1,bC cQ jR),(5,.ptr 1 0),(6,.ptr 30 0),(7,Y dJ.cS),(8,bC aB eG.1),(9,bC cQ gR.1),(10,Y gR.2)] [(1,.cells 103 (hO eG.2)),(25,.slice 62 5 (ar fe bZ.1.Links) (ar fe bZ.1.Links).length true),(30,.c 28 [bC eD bZ.1.bx,.own 25])]<|A.seq<|aW [] [] [(57,.bool (!decide (gR.2=0)))] ?_
 rcases cg hm with⟨bK,hm⟩|⟨bK,hm⟩
 ·refine bX bK ?_;rcases cg hm with⟨cq,hm⟩|⟨cq,hm⟩
  ·obtain⟨qI,iy,hm⟩:=bo hm;refine bl [(2,aN (cK cq)),(3,ch (Ov iy) Ms)] [(4,.bool qI)] [] ?_;cases hm;exact A.ret cM
  refine bl [(2,aN (cK cq))] [(4,.bool false)] [] ?_;cases hm;exact A.ret cM
 refine bW bK<|A.skip ?_
 obtain⟨hL,oQ,hm⟩:=bo hm;refine aW [(4,ch (N9 oQ) Mt)] [10,57] [(11,Y hL.1),(12,Y hL.2)]<|awx bN 3 [4,5,6,7,8,9,10,11] [] [] (X3 hm) Wv (by kernel_rfl) (by kernel_rfl) (by kernel_rfl) (by rintro _ _ ⟨rfl,_,_,rfl⟩;exact⟨rfl,rfl⟩) ?_
 rintro _ _ ⟨rfl,fz,hm,rfl⟩
 try dsimp only at hm
 refine⟨[(8,.al 11013)],[(1,bC cQ jR),(5,.ptr 1 0),(6,.ptr 30 0),(7,Y dJ.cS),(8,bC aB eG.1),(9,bC cQ gR.1),(11,Y hL.1),(12,Y hL.2),(14,Y fz.2.1),(15,Y fz.2.2)],[(1,.cells 103 (hO eG.2)),(25,.slice 62 5 (ar fe bZ.1.Links) (ar fe bZ.1.Links).length true),(30,.c 28 [bC eD bZ.1.bx,.own 25])],by kernel_rfl,?_⟩;obtain⟨lN,sC,hm⟩:=bo hm;refine bl [(3,ch (aqo sC) alo),(7,.al 147)] [(1,bC cQ jR),(5,.ptr 1 0),(6,.ptr 30 0),(7,Y dJ.cS),(8,bC aB eG.1),(9,bC cQ gR.1),(11,Y hL.1),(12,Y hL.2),(14,Y fz.2.1),(15,Y fz.2.2),(16,.ptr 147 0),(17,Y lN.2)] [(1,.cells 103 (hO eG.2)),(25,.slice 62 5 (ar fe bZ.1.Links) (ar fe bZ.1.Links).length true),(30,.c 28 [bC eD bZ.1.bx,.own 25]),(147,.cells 36 (mG lN.1))] ?_;obtain⟨h7,qt,hm⟩:=bo hm;refine et [(2,ch (aq6 qt) alh)] [16] [(18,Y h7.1),(19,Y h7.2)] [147] []<|A.seq<|avM [(1,bC cQ jR),(5,.ptr 1 0),(6,.ptr 30 0),(7,Y dJ.cS),(8,bC aB eG.1),(9,bC cQ gR.1),(11,Y hL.1),(14,Y fz.2.1),(115,.bool ((!decide (hL.2=0))||((!decide (fz.2.2=0))||((!decide (lN.2=0))||((!decide (h7.2=0))||((decide (fz.2.1<hL.1))||(decide (h7.1<fz.2.1))))))))] [(1,.cells 103 (hO eG.2)),(25,.slice 62 5 (ar fe bZ.1.Links) (ar fe bZ.1.Links).length true),(30,.c 28 [bC eD bZ.1.bx,.own 25])] (λhk=>?_) ?_
 ·rcases j6 (!decide (hL.2=0))with en|en
  ·exact bl [(2,aN (cK en)),(23,aN (tb (q:=((!decide (fz.2.2=0))||((!decide (lN.2=0))||((!decide (h7.2=0))||((decide (fz.2.1<hL.1))||(decide (h7.1<fz.2.1))))))) en))] _ _ hk
  rcases j6 (!decide (fz.2.2=0))with fK|fK
  ·exact bl [(2,aN (cK en)),(6,aN (cK fK)),(23,aN ((tb (q:=((!decide (lN.2=0))||((!decide (h7.2=0))||((decide (fz.2.1<hL.1))||(decide (h7.1<fz.2.1)))))) fK).trans (mc (q:=((!decide (fz.2.2=0))||((!decide (lN.2=0))||((!decide (h7.2=0))||((decide (fz.2.1<hL.1))||(decide (h7.1<fz.2.1))))))) en)))] _ _ hk
  rcases j6 (!decide (lN.2=0))with hj|hj
  ·exact bl [(2,aN (cK en)),(6,aN (cK fK)),(10,aN (cK hj)),(23,aN (((tb (q:=((!decide (h7.2=0))||((decide (fz.2.1<hL.1))||(decide (h7.1<fz.2.1))))) hj).trans (mc (q:=((!decide (lN.2=0))||((!decide (h7.2=0))||((decide (fz.2.1<hL.1))||(decide (h7.1<fz.2.1)))))) fK)).trans (mc (q:=((!decide (fz.2.2=0))||((!decide (lN.2=0))||((!decide (h7.2=0))||((decide (fz.2.1<hL.1))||(decide (h7.1<fz.2.1))))))) en)))] _ _ hk
  rcases j6 (!decide (h7.2=0))with jU|jU
  ·exact bl [(2,aN (cK en)),(6,aN (cK fK)),(10,aN (cK hj)),(14,aN (cK jU)),(23,aN ((((tb (q:=((decide (fz.2.1<hL.1))||(decide (h7.1<fz.2.1)))) jU).trans (mc (q:=((!decide (h7.2=0))||((decide (fz.2.1<hL.1))||(decide (h7.1<fz.2.1))))) hj)).trans (mc (q:=((!decide (lN.2=0))||((!decide (h7.2=0))||((decide (fz.2.1<hL.1))||(decide (h7.1<fz.2.1)))))) fK)).trans (mc (q:=((!decide (fz.2.2=0))||((!decide (lN.2=0))||((!decide (h7.2=0))||((decide (fz.2.1<hL.1))||(decide (h7.1<fz.2.1))))))) en)))] _ _ hk
  rcases j6 (decide (fz.2.1<hL.1))with lI|lI
  ·exact bl [(2,aN (cK en)),(6,aN (cK fK)),(10,aN (cK hj)),(14,aN (cK jU)),(19,aN (cK lI)),(23,aN (((((tb (q:=decide (h7.1<fz.2.1)) lI).trans (mc (q:=((decide (fz.2.1<hL.1))||(decide (h7.1<fz.2.1)))) jU)).trans (mc (q:=((!decide (h7.2=0))||((decide (fz.2.1<hL.1))||(decide (h7.1<fz.2.1))))) hj)).trans (mc (q:=((!decide (lN.2=0))||((!decide (h7.2=0))||((decide (fz.2.1<hL.1))||(decide (h7.1<fz.2.1)))))) fK)).trans (mc (q:=((!decide (fz.2.2=0))||((!decide (lN.2=0))||((!decide (h7.2=0))||((decide (fz.2.1<hL.1))||(decide (h7.1<fz.2.1))))))) en)))] _ _ hk
  exact bl [(2,aN (cK en)),(6,aN (cK fK)),(10,aN (cK hj)),(14,aN (cK jU)),(19,aN (cK lI)),(23,aN (((((mc (q:=decide (h7.1<fz.2.1)) lI).trans (mc (q:=((decide (fz.2.1<hL.1))||(decide (h7.1<fz.2.1)))) jU)).trans (mc (q:=((!decide (h7.2=0))||((decide (fz.2.1<hL.1))||(decide (h7.1<fz.2.1))))) hj)).trans (mc (q:=((!decide (lN.2=0))||((!decide (h7.2=0))||((decide (fz.2.1<hL.1))||(decide (h7.1<fz.2.1)))))) fK)).trans (mc (q:=((!decide (fz.2.2=0))||((!decide (lN.2=0))||((!decide (h7.2=0))||((decide (fz.2.1<hL.1))||(decide (h7.1<fz.2.1))))))) en)))] _ _ hk
 rcases cg hm with⟨lW,hm⟩|⟨lW,hm⟩
 ·refine bX lW<|bl [] [(4,.bool false)] [] ?_
  cases hm;exact A.ret cM
 refine bW lW<|A.skip<|A.seq<|aW [(1,aN (dZ aB eG.1))] [115] [(116,bC aB eG.1),(117,Y eG.1.length),(118,Y 0)]<|A.block<|avJ 8 rfl λfu=>?_
 obtain⟨gU,gV,gK,gL,hm⟩:=hJ hm;refine avD (l:=eG.1) (gC:=0) (B:=gU) (K:=gV) hm (λa1=>λ()=>[(1,bC cQ jR),(5,.ptr 1 0),(6,.ptr 30 0),(7,Y dJ.cS),(8,bC aB eG.1),(9,bC cQ gR.1),(11,Y hL.1),(14,Y fz.2.1),(116,bC aB eG.1),(117,Y eG.1.length),(118,Y a1)]) (λa1=>λ()=>[(1,.cells 103 (hO eG.2)),(25,.slice 62 5 (ar fe bZ.1.Links) (ar fe bZ.1.Links).length true),(30,.c 28 [bC eD bZ.1.bx,.own 25])]) ?_ ?_ ?_
 ·exact fN
 ·rintro a1 aK cI ⟨⟩ gM cr hm;rw[gK]at hm;refine aW [] [] [(119,.d ((a1:Int)<eG.1.length))]<|A.seq<|bX (hv cr)<|A.skip<|A.seq<|A.block<|aW [(0,c8 (ix aB (fS cr)))] [119] [(21,Y aK)] ?_
  obtain⟨o6,pZ,hm⟩:=bo hm;refine aW [(3,ch (ZJ pZ) alm)] [21] [(22,Y o6.1)]<|avM [(1,bC cQ jR),(5,.ptr 1 0),(6,.ptr 30 0),(7,Y dJ.cS),(8,bC aB eG.1),(9,bC cQ gR.1),(11,Y hL.1),(14,Y fz.2.1),(116,bC aB eG.1),(117,Y eG.1.length),(118,Y a1),(136,.bool ((decide (hL.1<o6.1))||(decide (fz.2.1<o6.1))))] [(1,.cells 103 (hO eG.2)),(25,.slice 62 5 (ar fe bZ.1.Links) (ar fe bZ.1.Links).length true),(30,.c 28 [bC eD bZ.1.bx,.own 25])] (λhk=>?_) ?_
  ·rcases j6 (decide (hL.1<o6.1))with mw|mw
   ·exact bl [(3,aN (cK mw)),(7,aN (tb (q:=decide (fz.2.1<o6.1)) mw))] _ _ hk
   exact bl [(3,aN (cK mw)),(7,aN (mc (q:=decide (fz.2.1<o6.1)) mw))] _ _ hk
  rcases cg hm with⟨uH,hm⟩|⟨uH,hm⟩
  ·refine bX uH<|bl [] [(4,.bool false)] [] ?_
   cases hm;exact A.ret cM
  exact bW uH<|A.skip<|dF [(0,aN (hg cr fu))] [118,136] [(118,Y ((a1+1:Nat):Int))]<|cF () hm
 rintro a1 ⟨⟩ gM fv hm;rw[gL]at hm;refine aW [] [] [(119,.d ((a1:Int)<eG.1.length))]<|A.seq<|bW (ht fv)<|A.exit<|A.seq ?_
 obtain⟨s8,wR,hm⟩:=bo hm;obtain⟨uj,vC,hm⟩:=bo hm;refine et [(3,fq [] (ZK wR) alp),(7,fq [] (aq2 vC) alq),(9,aN (dZ (wN cQ) ([jR,s8.1,uj.1]:AL)))] [1,5,9,11,116,117,118,119] [(148,Y 0),(146,.bf true (ar (wN cQ) ([jR,s8.1,uj.1]:AL))),(147,Y (([jR,s8.1,uj.1]:AL).length:Int))] [1] []<|A.block<|avJ 146 rfl λeO=>?_
 obtain⟨k8,jm,ll,lz,hm⟩:=hJ hm;refine avD (l:=([jR,s8.1,uj.1]:AL)) (gC:=0) (B:=k8) (K:=jm) hm (λcf=>λ()=>[(6,.ptr 30 0),(7,Y dJ.cS),(8,bC aB eG.1),(14,Y fz.2.1),(146,.bf true (ar (wN cQ) ([jR,s8.1,uj.1]:AL))),(147,Y (([jR,s8.1,uj.1]:AL).length:Int)),(148,Y cf)]) (λcf=>λ()=>[(25,.slice 62 5 (ar fe bZ.1.Links) (ar fe bZ.1.Links).length true),(30,.c 28 [bC eD bZ.1.bx,.own 25])]) ?_ ?_ ?_
 ·exact fN
 ·rintro cf e2 gn ⟨⟩ jb eW hm;rw[ll]at hm;refine aW [] [] [(149,.d ((cf:Int)<(([jR,s8.1,uj.1]:AL).length:Int)))]<|A.seq<|bX (hv eW)<|A.skip<|A.seq<|A.block<|aW [(0,c8 (ix (wN cQ) (fS eW)))] [149] [(25,bC cQ e2)] ?_
  obtain⟨v7,wS,hm⟩:=bo hm;refine aW [(4,ch (N9 wS) Mt)] [25] [(26,Y v7.1),(27,Y v7.2)]<|avM [(6,.ptr 30 0),(7,Y dJ.cS),(8,bC aB eG.1),(14,Y fz.2.1),(146,.bf true (ar (wN cQ) ([jR,s8.1,uj.1]:AL))),(147,Y (([jR,s8.1,uj.1]:AL).length:Int)),(148,Y cf),(166,.bool ((decide (v7.2=0))&&(decide (fz.2.1<v7.1))))] [(25,.slice 62 5 (ar fe bZ.1.Links) (ar fe bZ.1.Links).length true),(30,.c 28 [bC eD bZ.1.bx,.own 25])] (λhk=>?_) ?_
  ·rcases j6 (decide (v7.2=0))with qU|qU
   ·exact bl [(2,aN (cK qU)),(6,aN (mE (q:=decide (fz.2.1<v7.1)) qU))] _ _ hk
   exact bl [(2,aN (cK qU)),(6,aN (pa (q:=decide (fz.2.1<v7.1)) qU))] _ _ hk
  rcases cg hm with⟨qV,hm⟩|⟨qV,hm⟩
  ·refine bX qV<|bl [] [(4,.bool false)] [] ?_
   cases hm;exact A.ret cM
  exact bW qV<|A.skip<|dF [(0,aN (hg eW eO))] [148,166] [(148,Y ((cf+1:Nat):Int))]<|cF () hm
 rintro cf ⟨⟩ jb jE hm;rw[lz]at hm;refine aW [] [] [(149,.d ((cf:Int)<(([jR,s8.1,uj.1]:AL).length:Int)))]<|A.seq<|bW (ht jE)<|A.exit ?_
 obtain⟨LS,wT,hm⟩:=bo hm;refine bl [(0,ch (Ov wT) Ms)] [(4,.bool LS)] [] ?_;cases hm;exact A.ret cM
end
section
set_option linter.all false
open Go List
section
variable {α β:Type}
def cZ(a:α)(k:α→Option β):aM (some a) k=k a:=rfl
def akj{c:Bool}{k:Option β}(h:c=true):jF c k=k:=by subst h;rfl
def vX{p:Prop}[Decidable p]{x y:α}:(bif decide p then x else y)=if p then x else y:=by
 by_cases h:p<;>simp[h]
def K8{α σ β:Type}{B:Int→α→(σ→Option β)→σ→Option β}{K:σ→Option β}(f:List α→σ→Option β)(aX:∀s,K s=f [] s)
  (ah:∀(j:Int) x r s b4,(∀dh,b4 dh=f r dh)→B j x b4 s=f (x::r) s):∀(l:List α) (j:Nat) (s:σ),eE l j B K s=f l s
 |[],_,s=>aX s
 |x::r,j,s=>ah j x r s _ λdh=>K8 f aX ah r (j+1) dh
def Ok{β:Type}(o:Option β)(Q:β→Prop):Prop:=∃r,o=some r∧Q r
variable {Q:β→Prop}
def Ok.s{r:β}(h:Q r):Ok (some r) Q:=⟨r,rfl,h⟩
def Ok.aM{α β:Type}{o:Option α}{k:α→Option β}{P:α→Prop}{Q:β→Prop}(h:Ok o P)(hk:∀a,P a→Ok (k a) Q):Ok (aM o k) Q:=by
 obtain⟨a,rfl,aA⟩:=h;exact hk a aA
def Ok.cs{c:Bool}{x y:Option β}(h1:c=true→Ok x Q)(D:c=false→Ok y Q):Ok (bif c then x else y) Q:=by
 cases c
 ·exact D rfl
 ·exact h1 rfl
def Ok.jF{β:Type}{c:Bool}{k:Option β}{Q:β→Prop}(h:c=true)(hk:Ok k Q):Ok (jF c k) Q:=by subst h;exact hk
variable {σ:Type}
def avS{k:σ→Option β}{t:(σ→Option β)→Option β}(R:σ→Prop)(h1:∀s,R s→Ok (k s) Q)(D:∀J,(∀s,R s→Ok (J s) Q)→Ok (t J) Q):Ok (jn k t) Q:=D k h1
variable {o:Option β}
def Ok.mono{D8:β→Prop}(h:Ok o Q)(bP:∀r,Q r→D8 r):Ok o D8:=by
 obtain⟨r,h1,D⟩:=h;exact⟨r,h1,bP r D⟩
def av2{σ β:Type}{B:Int→(σ→Option β)→σ→Option β}{K:Int→σ→Option β}{Q:β→Prop}(I:Int→σ→Prop)(lo hi:Int)
  (ah:∀(i:Int) s b4,lo≤i→i<hi→I i s→(∀dh,I (i+1) dh→Ok (b4 dh) Q)→Ok (B i b4 s) Q) (aX:∀i s,lo≤i→(lo≤hi→i=hi)→I i s→Ok (K i s) Q):∀(n:Nat) (i:Int) (s:σ),n=(hi-i).toNat→lo≤i→(lo≤hi→i≤hi)→I i s→Ok (nB n i B K s) Q
 |0,i,s,ID,h1,D,h=>aX i s h1 (λb0=>by have:=D b0;omega) h
 |n+1,i,s,ID,h1,D,h=>ah i s _ h1 (by omega) h λdh b3=>av2 I lo hi ah aX n (i+1) dh (by omega) (by omega) (λ_=>by omega) b3
def Ok.iter{σ β:Type}{F:(σ→Option β)→σ→Option β}{Q:β→Prop}(I:σ→Prop)(μ:σ→Nat)
  (ah:∀s b4,I s→(∀dh,I dh→μ dh<μ s→Ok (b4 dh) Q)→Ok (F b4 s) Q):∀(n:Nat) (s:σ),I s→μ s<n→Ok (iter F n s) Q
 |0,s,_,h=>by omega
 |n+1,s,h,hm=>ah s _ h λdh b3 mA=>Ok.iter I μ ah n dh b3 (by omega)
def avT{F:(σ→Option β)→σ→Option β}(I:σ→Prop)(μ:σ→Nat){s:σ}(h:I s)(hm:μ s<1099511627776)
  (ah:∀s b4,I s→(∀dh,I dh→μ dh<μ s→Ok (b4 dh) Q)→Ok (F b4 s) Q):Ok (iV F s) Q:=Ok.iter I μ ah fuel s h hm
def Ok.eq{r:β}(h:Ok o (λx=>x=r)):o=some r:=by obtain⟨x,h1,rfl⟩:=h;exact h1
def ahc(p:List α)(x:α)(r:List α):du (p++x::r) (p.length:Int)=some x:=by
 unfold du;rw[if_pos (by omega)];simp
variable {i:Int}{l:List α}
def q4(bJ:0≤i)(h:i<l.length):Ok (du l i) (λx=>x∈l∧l[i.toNat]?=some x):=by
 unfold du;rw[if_pos bJ]
 have:i.toNat<l.length:=by omega
 exact⟨l[i.toNat],List.getElem?_eq_getElem this,List.getElem_mem this,List.getElem?_eq_getElem this⟩
variable {r:List α}
def qD(h:l.length+r.length≤549755813888):iP l r=some (l++r):=by unfold iP;rw[if_pos (by unfold aV;exact h)]
def Hs(h:l.length+r.length≤549755813888):Ok (iP l r) (λm=>m=l++r∧m.length=l.length+r.length):=⟨_,qD h,rfl,by simp⟩
def LI{x:α}(bJ:0≤i)(h:i<l.length):Ok (jC l i x) (λm=>m=l.set i.toNat x∧m.length=l.length):=by
 unfold jC;rw[if_pos ⟨bJ,h⟩];exact⟨_,rfl,rfl,by simp⟩
def Ht{a b:Int}(h:0≤a∧a≤b∧b≤l.length):Ok (wg l a b) (λm=>m=(l.take b.toNat).drop a.toNat∧(m.length:Int)=b-a):=by
 unfold wg;rw[if_pos h];exact⟨_,rfl,rfl,by simp;omega⟩
def uY{B:Int→α→(σ→Option β)→σ→Option β}{K:σ→Option β}(p:α→Bool)(a:Option β)(c1:∀j x b4 s,B j x b4 s=bif p x then a else b4 s)(l:List α)(j:Nat)(s:σ):eE l j B K s=bif l.any p then a else K s:=
 K8 (f:=λl s=>bif l.any p then a else K s) (λs=>rfl) (λj x r s b4 hd=>by
  rw[c1,hd,any_cons];cases p x<;>rfl) l j s
end
section
def xH(n:Int):Bool:=decide (1≤n)&&decide (n≤1000)
def jM(t:bz)(r:Int):Bool:=t.bx.any λx=>decide (x.cS=r)
def zq(r:ez):Bool:=decide (r.cS<1)||decide (99<r.cS)
def r5(l:dy):Bool:=!xH l.lg||!xH l.lp||decide (l.xq<0)||decide (1000<l.xq)
def m4(a b:dy):Bool:=decide (a.A<b.A)||(decide (a.A=b.A)&&decide (a.B<b.B))
def ms{α:Type}(p:α→α→Bool):List α→Bool
 |a::b::r=>p a b&&ms p (b::r)
 |_=>true
def FE(t:bz):Bool:=t.bx.any zq
def vQ(t:bz):Bool:=ms (λa b=>decide (a.cS<b.cS)) t.bx
def FF(t:bz):Bool:=t.Links.any r5
def FG(t:bz):Bool:=t.Links.any λl=>!jM t l.A||!jM t l.B
def FH(t:bz):Bool:=t.Links.any λl=>decide (l.B≤l.A)
def FI(t:bz):Bool:=ms m4 t.Links
def kP(t:bz):Int:=
 bif decide (24<(t.bx.length:Int))||decide (60<(t.Links.length:Int))then 3
 else bif FE t then 2 else bif vQ t then(bif FF t then 2 else bif FG t then 4 else bif FH t then 8 else bif FI t then 0 else 25)else 25
def P6{α σ β:Type}{B:Int→α→(σ→Option β)→σ→Option β}{K:σ→Option β}{L:List α}(p:α→α→Bool)(a:Option β)
  (c1:∀(j:Nat) x y r q s b4,L=q++y::x::r→j=q.length+1→B (j:Int) x b4 s=bif p y x then b4 s else a):∀(r q:List α) (y:α) (s:σ),L=q++y::r→eE r (q.length+1) B K s=bif ms p (y::r)then K s else a
 |[],q,y,s,h=>rfl
 |x::r,q,y,s,h=>by
  simp only[eE];rw[c1 (q.length+1) x y r q s _ h rfl];have:=P6 (B:=B) (K:=K) p a c1 r (q++[y]) x s (by simpa using h);simp only[length_append,length_cons,length_nil]at this;rw[this];simp only[ms];cases p y x<;>rfl
variable {α β σ:Type}{L:List α}{B:Int→α→(σ→Option β)→σ→Option β}{K:σ→Option β}
def Kd(p:α→α→Bool)(a:Option β)
  (c1:∀(j:Nat) x y r q s b4,L=q++y::x::r→j=q.length+1→B (j:Int) x b4 s=bif p y x then b4 s else a) (s:σ):eE (L.drop 1) 1 B K s=bif ms p L then K s else a:=by
 cases L with
 |nil=>rfl
 |cons y r=>exact P6 (B:=B) (K:=K) p a c1 r [] y s rfl
def Rc(p:α→α→Bool)(a:Option β)(bJ:∀x b4 s,B ((0:Nat):Int) x b4 s=b4 s)
  (c1:∀(j:Nat) x y r q s b4,L=q++y::x::r→j=q.length+1→B (j:Int) x b4 s=bif p y x then b4 s else a) (s:σ):eE L 0 B K s=bif ms p L then K s else a:=by
 cases L with
 |nil=>rfl
 |cons y r=>
  simp only[eE];rw[bJ];exact P6 (B:=B) (K:=K) p a c1 r [] y s rfl
variable {j:Nat}
def Dc{y x:α}{r q:List α}(h:L=q++y::x::r)(aY:j=q.length+1)(jv:(L.length:Int)≤9223372036854775807):du L (aG ((j:Int)-1))=some y:=by
 have aJ:q.length+2≤L.length:=by rw[h];simp
 rw[iY (by omega) (by omega),show(j:Int)-1=(q.length:Int)by omega,h,ahc]
def ac2(n:Int):F0 n=some (xH n):=rfl
def SS(t:bz)(r:Int):Az t r=some (jM t r):=by
 unfold Az;refine(uY (λx:ez=>decide (x.cS=r)) (some true) ?_ _ _ _).trans ?_
 ·intros;rfl
 ·unfold jM;cases t.bx.any _<;>rfl
def abn(t:bz):FU t=some (kP t):=by
 unfold FU kP;by_cases eH:(decide (24<(t.bx.length:Int))||decide (60<(t.Links.length:Int)))=true
 ·rw[eH];rfl
 rw[Bool.not_eq_true]at eH;rw[eH];simp only[cond_false];simp only[Bool.or_eq_false_iff,decide_eq_false_iff_not]at eH;refine(uY zq (some 2) ?_ _ _ _).trans ?_
 ·intros;rfl
 unfold FE;cases t.bx.any zq
 case true=>rfl
 simp only[cond_false];refine(Kd (λa b:ez=>decide (a.cS<b.cS)) (some 25) ?_ _).trans ?_
 ·intro j x y r q s b4 h aY;simp only[Dc h aY (by omega),cZ,vX];split<;>split<;>first|rfl|omega
 unfold vQ;cases ms _ t.bx
 case false=>rfl
 simp only[cond_true];refine(uY r5 (some 2) ?_ _ _ _).trans ?_
 ·intro j x b4 s;simp only[jn,ac2,cZ,r5];cases xH x.lg<;>cases xH x.lp<;>simp[vX]<;>(try split)<;>(try split)<;>simp_all<;>omega
 unfold FF;cases t.Links.any r5
 case true=>rfl
 simp only[cond_false];refine(uY (λl=>!jM t l.A||!jM t l.B) (some 4) ?_ _ _ _).trans ?_
 ·intro j x b4 s;simp only[jn,SS,cZ];cases jM t x.A<;>cases jM t x.B<;>rfl
 unfold FG;cases t.Links.any _
 case true=>rfl
 simp only[cond_false];refine(uY (λl=>decide (l.B≤l.A)) (some 8) ?_ _ _ _).trans ?_
 ·intros;rfl
 unfold FH;cases t.Links.any _
 case true=>rfl
 simp only[cond_false];refine(Kd m4 (some 25) ?_ _).trans ?_
 ·intro j x y r q s b4 h aY;have e:(decide (x.A<y.A)||(decide (y.A=x.A)&&decide (x.B≤y.B)))=!m4 y x:=by
   rw[Bool.eq_iff_iff];simp[m4];omega
  simp only[Dc h aY (by omega),cZ];rw[e];cases m4 y x<;>rfl
 unfold FI;cases ms m4 t.Links<;>rfl
def Gl{α σ:Type}{B:Int→α→(σ→jO)→σ→jO}{K:σ→jO}(p:α→Bool)(c1:∀j x b4 s,B j x b4 s=bif p x then some j else b4 s)(g4:∀s,K s=some (-1)):∀(l:List α) (j:Nat) (s:σ),∃r,eE l j B K s=some r∧decide (0≤r)=l.any p
 |[],j,s=>⟨-1,g4 s,rfl⟩
 |x::r,j,s=>by
  simp only[eE,c1,any_cons];cases p x
  ·simpa using Gl p c1 g4 r (j+1) s
  ·exact⟨j,rfl,by simp⟩
def alc(l:AU)(f:ez→j9)(p:ez→Bool)(bA:∀x,f x=some (p x)):EF l f=some (l.any p):=by
 unfold EF Ip;obtain⟨r,h1,D⟩:=Gl (B:=λ(a1:Int) (aK:ez) (cI:Unit→jO) (aj:Unit)=>match aj with|()=>aM (f aK) λ(aD:Bool)=>bif aD then some (a1:Int)else cI ()) (K:=λ(aj:Unit)=>match aj with|()=>some (-1:Int)) p (λj x b4 s=>by simp only[bA,cZ]) (λ_=>rfl) l 0 ();simp only[h1,cZ,D]
def MY(l:zA)(f:dy→j9)(p:dy→Bool)(bA:∀x,f x=some (p x)):zI l f=some (l.any p):=by
 unfold zI Il;obtain⟨r,h1,D⟩:=Gl (B:=λ(a1:Int) (aK:dy) (cI:Unit→jO) (aj:Unit)=>match aj with|()=>aM (f aK) λ(aD:Bool)=>bif aD then some (a1:Int)else cI ()) (K:=λ(aj:Unit)=>match aj with|()=>some (-1:Int)) p (λj x b4 s=>by simp only[bA,cZ]) (λ_=>rfl) l 0 ();simp only[h1,cZ,D]
def jf(x y:Int):Int:=if x<y then -1 else if y<x then 1 else 0
def K9(x y:Int):oK x y=some (jf x y):=by
 unfold oK CG jf;simp only[cZ,decide_true,Bool.not_true,cond_false,vX];split<;>(try split)<;>rfl
variable {x:Int}
def SU{y:Int}:jf x y<0↔x<y:=by unfold jf;split<;>(try split)<;>omega
def xx{y:Int}:jf x y=0↔x=y:=by unfold jf;split<;>(try split)<;>omega
def r2:cO→Int
 |[]=>0
 |x::r=>if x=0 then r2 r else x
def TS(l:cO):tI l=some (r2 l):=by
 unfold tI;refine(K8 (f:=λl _=>some (r2 l)) ?_ ?_ _ _ _)
 ·intros;rfl
 ·intro j x r s b4 hd;simp only[r2,hd];by_cases h:x=0<;>simp[h]
def nT(a b:dy):Int:=r2 [jf a.A b.A,jf a.B b.B]
def YR(a b:dy):Ca a b=some (nT a b):=by
 unfold Ca;simp only[K9,cZ,TS];rfl
def RY(r:ez)(id:Int):CH r id=some (jf r.cS id):=by
 unfold CH;simp only[K9,cZ]
variable {a b:dy}
def Kz:nT a b<0↔m4 a b=true:=by
 have:nT a b<0↔a.A<b.A∨(a.A=b.A∧a.B<b.B):=by
  simp only[nT,r2];split
  ·rename_i h;rw[xx]at h;split
   ·rename_i D;rw[xx]at D;omega
   ·rw[SU];omega
  ·rename_i h;rw[xx]at h;rw[SU];omega
 rw[this];simp[m4]
def KA:nT a b=0↔a.A=b.A∧a.B=b.B:=by
 simp only[nT,r2];split
 ·rename_i h;rw[xx]at h;split
  ·rename_i D;rw[xx]at D;omega
  ·rename_i D;rw[xx]at D ⊢;omega
 ·rename_i h;rw[xx]at h ⊢;omega
def qT{α:Type}[Inhabited α](f:α→Int)(l:List α)(i j:Nat):Nat:=
 if h:i<j then if f (el l ((i+j) / 2:Nat))<0 then qT f l ((i+j) / 2+1) j else qT f l i ((i+j) / 2)else i
 termination_by j-i
 decreasing_by all_goals omega
def ou{α:Type}[Inhabited α](f:α→Int)(l:List α):Nat:=qT f l 0 l.length
def sw{α:Type}[Inhabited α](f:α→Int)(l:List α):Bool:=decide (ou f l<l.length)&&decide (f (el l (ou f l))=0)
variable {f:α→Int}{i:Nat}{l:List α}
def TT[Inhabited α](h:i<j)(bA:f (el l ((i+j) / 2:Nat))<0):qT f l i j=qT f l ((i+j) / 2+1) j:=by
 rw[qT,dif_pos h,if_pos bA]
def TU[Inhabited α](h:i<j)(bA:¬f (el l ((i+j) / 2:Nat))<0):qT f l i j=qT f l i ((i+j) / 2):=by
 rw[qT,dif_pos h,if_neg bA]
def La[Inhabited α](h:j≤i):qT f l i j=i:=by
 rw[qT,dif_neg (by omega)]
def G1[Inhabited α](h:i<l.length):el l i=l[i]:=by
 simp[el,getD_eq_getElem?_getD,h]
def TV[Inhabited α](h:i<l.length):el l i∈l:=by
 rw[G1 h];exact List.getElem_mem h
def Dy[Inhabited α](h:i<l.length):du l (i:Int)=some (el l i):=by
 unfold du;rw[if_pos (by omega),G1 h];simp[h]
def SV(h:i+j≤4611686018427387904):aG (Int.fdiv (IntKind.wrap .u64 (aG ((i:Int)+(j:Int)))) (2 ^ min (1:Int).toNat 64))=(((i+j) / 2:Nat):Int):=by
 have aK:aG ((i:Int)+(j:Int))=((i+j:Nat):Int):=by rw[iY (by omega) (by omega)];simp
 have e2:IntKind.wrap .u64 ((i+j:Nat):Int)=((i+j:Nat):Int):=adg (by omega) (by omega);rw[aK,e2];have dj:(2:Int) ^ min (1:Int).toNat 64=2:=rfl;rw[dj,Int.fdiv_eq_ediv_of_nonneg _ (by omega)];rw[iY (by omega) (by omega)];simp
def SX[Inhabited α]{F:((Int×Int)→Option (Int×Bool))→(Int×Int)→Option (Int×Bool)}(l:List α)(f:α→Int)(aJ:l.length≤1000000)
  (lq:∀(i j:Nat) b4,j≤l.length→F b4 ((i:Int),(j:Int))=if h:i<j then(if f (el l ((i+j) / 2:Nat))<0 then b4 ((((i+j) / 2+1:Nat):Int),(j:Int))else b4 ((i:Int),(((i+j) / 2:Nat):Int)))else some ((i:Int),decide (i<l.length)&&decide (f (el l i)=0))) :
  iV F ((0:Int),(l.length:Int))=some ((ou f l:Int),sw f l):=by
 refine Ok.eq (avT (I:=λs=>∃i j:Nat,s=((i:Int),(j:Int))∧i≤j∧j≤l.length∧qT f l i j=ou f l) (μ:=λs=>(s.2-s.1).toNat) ⟨0,l.length,rfl,by omega,by omega,rfl⟩ ?_ ?_)
 ·show((l.length:Int)-0).toNat<_;omega
 ·rintro s b4 ⟨i,j,rfl,h1,D,aq⟩ hz;rw[lq i j b4 D];split
  ·rename_i jg;split
   ·rename_i bA;exact hz _ ⟨_,_,rfl,by omega,D,by rw[←aq,TT jg bA]⟩ (by show((j:Int)-_).toNat<((j:Int)-i).toNat;omega)
   ·rename_i bA;exact hz _ ⟨_,_,rfl,by omega,by omega,by rw[←aq,TU jg bA]⟩ (by show((((i+j) / 2:Nat):Int)-i).toNat<((j:Int)-i).toNat;omega)
  ·rename_i jg;have:ou f l=i:=by rw[←aq,La (by omega)]
   exact⟨_,rfl,by simp only[sw,this]⟩
def Wh(l:AU)(x:Int)(c:ez→Int→jO)(f:ez→Int)(aJ:l.length≤1000000)(ah:∀r,c r x=some (f r)):BV l x c=some ((ou f l:Int),sw f l):=by
 unfold BV;refine SX l f aJ λi j b4 aY=>?_;by_cases jg:i<j
 ·rw[dif_pos jg];simp only[SV (i:=i) (j:=j) (by omega),Dy (show(i+j) / 2<l.length by omega),cZ,ah,vX];rw[if_pos (by omega),iY (by omega) (by omega)];rfl
 ·rw[dif_neg jg];simp only[vX];rw[if_neg (by omega)];by_cases hi:i<l.length
  ·rw[if_pos (by omega),Dy hi];simp only[cZ,ah];simp[hi]
  ·rw[if_neg (by omega)];simp[hi]
def ak6(l:zA)(x:dy)(c:dy→dy→jO)(f:dy→Int)(aJ:l.length≤1000000)(ah:∀r,c r x=some (f r)):EH l x c=some ((ou f l:Int),sw f l):=by
 unfold EH;refine SX l f aJ λi j b4 aY=>?_;by_cases jg:i<j
 ·rw[dif_pos jg];simp only[SV (i:=i) (j:=j) (by omega),Dy (show(i+j) / 2<l.length by omega),cZ,ah,vX];rw[if_pos (by omega),iY (by omega) (by omega)];rfl
 ·rw[dif_neg jg];simp only[vX];rw[if_neg (by omega)];by_cases hi:i<l.length
  ·rw[if_pos (by omega),Dy hi];simp only[cZ,ah];simp[hi]
  ·rw[if_neg (by omega)];simp[hi]
def ac3[Inhabited α](hm:∀a b:Nat,a≤b→b<l.length→f (el l a)≤f (el l b)):∀(n i j:Nat),j-i≤n→i≤j→j≤l.length→(∀m:Nat,m<i→f (el l m)<0)→(∀m:Nat,j≤m→m<l.length→0≤f (el l m))→
  qT f l i j≤l.length∧(∀m:Nat,m<qT f l i j→f (el l m)<0)∧(∀m:Nat,qT f l i j≤m→m<l.length→0≤f (el l m)):=by
 intro n;induction n with
 |zero=>
  intro i j aX jg aY h1 D;rw[La (by omega)];exact⟨by omega,h1,λm mA=>D m (by omega)⟩
 |succ n bu=>
  intro i j aX jg aY h1 D;by_cases h:i<j
  ·by_cases bA:f (el l ((i+j) / 2:Nat))<0
   ·rw[TT h bA];refine bu _ _ (by omega) (by omega) aY (λm mA=>?_) D;have:=hm m ((i+j) / 2) (by omega) (by omega);omega
   ·rw[TU h bA];refine bu _ _ (by omega) (by omega) (by omega) h1 (λm mA vK=>?_);have:=hm ((i+j) / 2) m mA vK;omega
  ·rw[La (by omega)];exact⟨by omega,h1,λm mA=>D m (by omega)⟩
def acj[Inhabited α](hm:∀a b:Nat,a≤b→b<l.length→f (el l a)≤f (el l b)):
  ou f l≤l.length∧(∀m:Nat,m<ou f l→f (el l m)<0)∧(∀m:Nat,ou f l≤m→m<l.length→0≤f (el l m)):=
 ac3 hm l.length 0 l.length (by omega) (by omega) (by omega) (λm h=>by omega) (λm h1 D=>by omega)
def SY[Inhabited α](hm:∀a b:Nat,a≤b→b<l.length→f (el l a)≤f (el l b)):sw f l=true↔∃x∈l,f x=0:=by
 obtain⟨h1,D,aq⟩:=acj hm;simp only[sw,Bool.and_eq_true,decide_eq_true_eq];constructor
 ·rintro⟨ak,ax⟩;exact⟨_,TV ak,ax⟩
 ·rintro⟨x,u,bA⟩;obtain⟨m,vJ,rfl⟩:=List.getElem_of_mem u;rw[←G1 vJ]at bA;have hle:ou f l≤m:=by
   by_cases q:m<ou f l
   ·have:=D m q;omega
   ·omega
  have bS:ou f l<l.length:=by omega
  have:=aq _ (Nat.le_refl _) bS;have:=hm _ _ hle vJ;exact⟨bS,by omega⟩
def Yi[Inhabited α](h:l.Pairwise (λa b=>f a≤f b)):∀a b:Nat,a≤b→b<l.length→f (el l a)≤f (el l b):=by
 intro a b hs U;rcases Nat.lt_or_eq_of_le hs with hs|rfl
 ·have:=pairwise_iff_getElem.1 h a b (by omega) U hs
  rwa [G1 (by omega),G1 U]
 ·exact Int.le_refl _
def F4{α:Type}{p:α→α→Bool}(b5:∀a b c,p a b=true→p b c=true→p a c=true):∀{l:List α},ms p l=true→l.Pairwise (λa b=>p a b=true)
 |[],_=>Pairwise.nil
 |[x],_=>by simp
 |a::b::r,h=>by
  simp only[ms,Bool.and_eq_true]at h;have bu:=F4 b5 h.2;rw[pairwise_cons];refine⟨λz hz=>?_,bu⟩;rcases mem_cons.1 hz with rfl|hz
  ·exact h.1
  ·exact b5 _ _ _ h.1 ((pairwise_cons.1 bu).1 z hz)
def Av{α:Type}{p:α→α→Bool}:∀{l:List α},l.Pairwise (λa b=>p a b=true)→ms p l=true
 |[],_=>rfl
 |[x],_=>rfl
 |a::b::r,h=>by
  rw[pairwise_cons]at h;simp only[ms,Bool.and_eq_true];exact⟨h.1 b (by simp),Av h.2⟩
variable {t:bz}
def TW(h:vQ t=true):t.bx.Pairwise (λa b=>a.cS<b.cS):=by
 have:=F4 (p:=λa b:ez=>decide (a.cS<b.cS)) (λa b c h1 D=>by simp at h1 D ⊢;omega) h;exact this.imp (λh=>by simpa using h)
def adQ(h:vQ t=true)(id:Int):∀a b:Nat,a≤b→b<t.bx.length→jf (el t.bx a).cS id≤jf (el t.bx b).cS id:=
 Yi (f:=λr:ez=>jf r.cS id) ((TW h).imp (λ{a b} h=>by unfold jf;split<;>(try split)<;>(try split)<;>(try split)<;>omega))
def MK(t:bz)(id:Int):Bool:=!sw (λr=>jf r.cS id) t.bx
def SZ(h:vQ t=true)(id:Int):MK t id=!jM t id:=by
 simp only[MK,jM];congr 1;rw[Bool.eq_iff_iff,SY (adQ h id)];simp[xx]
def Gf(t:bz):yb t=some (kP t):=by
 unfold yb kP;by_cases eH:(decide (24<(t.bx.length:Int))||decide (60<(t.Links.length:Int)))=true
 ·rw[eH];rfl
 rw[Bool.not_eq_true]at eH;rw[eH];simp only[cond_false];simp only[Bool.or_eq_false_iff,decide_eq_false_iff_not]at eH;rw[alc t.bx _ zq (λx=>by simp only[I7,yB,cZ,zq];congr 1;rw[Bool.eq_iff_iff];simp)];simp only[cZ];unfold FE;cases t.bx.any zq
 case true=>rfl
 simp only[cond_false];refine(Rc (λa b:ez=>decide (a.cS<b.cS)) (some 25) ?_ ?_ _).trans ?_
 ·intros;rfl
 ·intro j x y r q s b4 h aY;simp only[jn,Dc h aY (by omega),cZ,vX];rw[if_pos (by omega)];split<;>split<;>first|rfl|omega
 cases c1:vQ t
 case false=>unfold vQ at c1;rw[c1];rfl
 have ET:=c1;unfold vQ at ET;rw[ET];simp only[cond_true]
 rw[MY t.Links FB r5 (λx=>by
  simp only[FB,yB,cZ,r5,xH];simp only[vX,Bool.not_and,Bool.cond_eq_ite,Bool.or_eq_true,Bool.not_eq_true',decide_eq_false_iff_not];split
  ·congr 1;symm;rw[Bool.eq_iff_iff];simp;omega
  ·split
   ·congr 1;symm;rw[Bool.eq_iff_iff];simp;omega
   ·congr 1;rw[Bool.eq_iff_iff];simp;omega)]
 simp only[cZ];unfold FF;cases t.Links.any r5
 case true=>rfl
 simp only[cond_false]
 have hu:∀id,Cb id t=some (!jM t id):=λid=>by
  unfold Cb;rw[Wh t.bx id _ (λr=>jf r.cS id) (by omega) (λr=>RY r id)];simp only[cZ];rw[←SZ c1];rfl
 rw[MY t.Links _ (λl=>!jM t l.A||!jM t l.B) (λx=>by
  simp only[I8,hu,cZ];cases jM t x.A<;>rfl)]
 simp only[cZ];unfold FG;cases t.Links.any _
 case true=>rfl
 simp only[cond_false];rw[MY t.Links I9 (λl=>decide (l.B≤l.A)) (λx=>rfl)];simp only[cZ];unfold FH;cases t.Links.any _
 case true=>rfl
 simp only[cond_false];refine(Rc m4 (some 25) ?_ ?_ _).trans ?_
 ·intros;rfl
 ·intro j x y r q s b4 h aY;simp only[jn,Dc h aY (by omega),cZ,YR,vX];rw[if_pos (by omega)];cases bS:m4 y x
  ·have:¬nT y x<0:=by rw[Kz,bS];simp
   rw[if_pos (by omega)];rfl
  ·have:=Kz.2 bS;rw[if_neg (by omega)];rfl
 unfold FI;cases ms m4 t.Links<;>rfl
end
section
def KL(l:cO)(n:Int):wF l n=some (decide (n∈l)):=by
 unfold wF IV;obtain⟨r,h1,D⟩:=Gl (B:=λ(a1:Int) (aK:Int) (cI:Unit→jO) (aj:Unit)=>match aj with|()=>bif decide (n=aK)then some (a1:Int)else cI ()) (K:=λ(aj:Unit)=>match aj with|()=>some (-1:Int)) (λx=>decide (n=x)) (λj x b4 s=>rfl) (λ_=>rfl) l 0 ();simp only[h1,cZ,D];congr 1;rw[Bool.eq_iff_iff];simp
def JT(a b:bO):p8 a b=true↔a=b:=by
 cases a;cases b;simp[p8]
def Ke{α pg β:Type}{B:Int→α→(List pg→Option β)→List pg→Option β}{K:List pg→Option β}(p:α→Bool)(f:α→pg):
  ∀(l:List α) (j:Nat) (s:List pg),(∀(j:Nat) x b4 s,x∈l→s.length<1000000→B j x b4 s=bif p x then b4 (s++[f x])else b4 s)→l.length+s.length≤1000000→eE l j B K s=K (s++(l.filter p).map f)
 |[],j,s,_,_=>by simp[eE]
 |x::r,j,s,c1,h=>by
  simp only[length_cons]at h;simp only[eE];rw[c1 j x _ s (by simp) (by omega)];have ET:∀(j:Nat) y b4 s,y∈r→s.length<1000000→B j y b4 s=bif p y then b4 (s++[f y])else b4 s:=λj y b4 s ai=>c1 j y b4 s (by simp[ai])
  cases aF:p x
  ·rw[cond_false,Ke p f r (j+1) s ET (by omega),filter_cons_of_neg (by simp[aF])]
  ·rw[cond_true,Ke p f r (j+1) (s++[f x]) ET (by simp;omega),filter_cons_of_pos aF];simp
variable {α:Type}
def ML{s:List α}{x:α}(h:s.length<1000000):iP s [x]=some (s++[x]):=qD (by simp;omega)
variable {x:Int}
def abo{l:cO}:x∈fW l↔x∈l:=(yE l).mem_iff
structure ff(t:bz):Prop where
 ug:t.bx.length≤24
 nl:t.Links.length≤60
 Fu:∀r∈t.bx,1≤r.cS∧r.cS≤99
 rE:t.bx.Pairwise (λa b=>a.cS<b.cS)
 Ox:∀l∈t.Links,r5 l=false
 ends:∀l∈t.Links,jM t l.A=true∧jM t l.B=true
 lt:∀l∈t.Links,l.A<l.B
 Er:t.Links.Pairwise (λa b=>m4 a b=true)
def abp(a b c:dy)(h1:m4 a b=true)(D:m4 b c=true):m4 a c=true:=by
 simp[m4]at *;omega
def pV{l:List α}{p:α→Bool}:l.any p=false↔∀x∈l,p x=false:=by
 rw[List.any_eq_false];simp
variable {t:bz}
def rW:kP t=0↔ff t:=by
 unfold kP;constructor
 ·intro h;by_cases h1:(decide (24<(t.bx.length:Int))||decide (60<(t.Links.length:Int)))=true
  ·rw[h1]at h;cases h
  simp only[Bool.not_eq_true]at h1;rw[h1,cond_false]at h;cases D:FE t<;>rw[D]at h<;>first|cases h;done|skip
  cases aq:vQ t<;>rw[aq]at h<;>first|cases h;done|skip
  cases aZ:FF t<;>rw[aZ]at h<;>first|cases h;done|skip
  cases bV:FG t<;>rw[bV]at h<;>first|cases h;done|skip
  cases dU:FH t<;>rw[dU]at h<;>first|cases h;done|skip
  cases eR:FI t<;>rw[eR]at h<;>first|cases h;done|skip
  simp only[Bool.or_eq_false_iff,decide_eq_false_iff_not]at h1;refine⟨by omega,by omega,λr aI=>?_,TW aq,pV.1 aZ,λl aJ=>?_,λl aJ=>?_,F4 abp eR⟩
  ·have:=pV.1 D r aI;simp[zq]at this;omega
  ·have:=pV.1 bV l aJ;simpa using this
  ·have:=pV.1 dU l aJ;simpa using this
 ·intro h;have h1:(decide (24<(t.bx.length:Int))||decide (60<(t.Links.length:Int)))=false:=by
   have:=h.ug;have:=h.nl;simp;omega
  have D:FE t=false:=pV.2 λr aI=>by have:=h.Fu r aI;simp[zq];omega
  have aq:vQ t=true:=Av (h.rE.imp λh=>by simpa using h);have aZ:FF t=false:=pV.2 h.Ox;have bV:FG t=false:=pV.2 λl aJ=>by have:=h.ends l aJ;simp[this]
  have dU:FH t=false:=pV.2 λl aJ=>by have:=h.lt l aJ;simp;omega
  have eR:FI t=true:=Av h.Er;rw[h1,D,aq,aZ,bV,dU,eR];rfl
def Re(t:bz):CB t=some (decide (kP t=0)):=by
 unfold CB;rw[Gf];rfl
variable {r:Int}
def Gz:jM t r=true↔∃x∈t.bx,x.cS=r:=by simp[jM]
def S0(t:bz)(r:Int):yC t r=some (decide (kP t=0)&&jM t r):=by
 unfold yC;simp only[abn,SS,cZ];cases decide (kP t=0)<;>rfl
def Mh(t:bz)(r:Int):ez×Bool:=if sw (λx:ez=>jf x.cS r) t.bx then(el t.bx (ou (λx:ez=>jf x.cS r) t.bx),true)else(ez.mk 0 false,false)
def ack(t:bz)(r:Int)(aJ:t.bx.length≤1000000):FD t r=some (Mh t r):=by
 unfold FD Mh;rw[Wh t.bx r _ (λx=>jf x.cS r) aJ (λx=>RY x r)];simp only[cZ];cases h:sw (λx:ez=>jf x.cS r) t.bx
 ·rfl
 ·have D:ou (λx:ez=>jf x.cS r) t.bx<t.bx.length:=by
   simp only[sw,Bool.and_eq_true,decide_eq_true_eq]at h;exact h.1
  simp only[Bool.not_true,cond_false,Dy D,cZ,if_true]
def adR(h:ff t)(r:Int):sw (λx:ez=>jf x.cS r) t.bx=jM t r:=by
 have:=SZ (t:=t) (Av (h.rE.imp λh=>by simpa using h)) r;simpa [MK]using this
def Lb(t:bz)(r:Int)(aJ:t.bx.length≤1000000):Aq t r=some (decide (kP t=0)&&jM t r):=by
 unfold Aq;simp only[ack t r aJ,Re,cZ];by_cases h:kP t=0
 ·simp only[h,decide_true,cond_true,Bool.true_and,Mh,adR (rW.1 h)];cases jM t r<;>rfl
 ·simp[h]
def ahd(h:ff t){a b:dy}(aA:a∈t.Links)(U:b∈t.Links)(eZ:a.A=b.A)(c1:a.B=b.B):a=b:=by
 obtain⟨i,hi,rfl⟩:=List.getElem_of_mem aA;obtain⟨j,aY,rfl⟩:=List.getElem_of_mem U;have:=pairwise_iff_getElem.1 h.Er;rcases Nat.lt_trichotomy i j with q|q|q
 ·have:=this i j hi aY q;simp[m4]at this;omega
 ·subst q;rfl
 ·have:=this j i aY hi q;simp[m4]at this;omega
def kZ(l:dy)(a b:Int):Bool:=(decide (l.A=a)&&decide (l.B=b))||(decide (l.B=a)&&decide (l.A=b))
def px(a b:Int)(l:dy):Int×Bool:=(bif decide (l.A=a)&&decide (l.B=b)then l.lg else l.lp,true)
def mR(t:bz)(a b:Int):Int×Bool:=match t.Links.find? (λl=>kZ l a b)with|some l=>px a b l|none=>(0,false)
def wq(t:bz)(a b:Int):Bool:=t.Links.any λl=>kZ l a b
variable {a b:Int}
def qs(h:ff t){l:dy}(hm:l∈t.Links)(he:kZ l a b=true):mR t a b=px a b l:=by
 unfold mR;cases bA:t.Links.find? (λl=>kZ l a b)with
 |none=>exact absurd he (List.find?_eq_none.1 bA l hm)
 |some x=>
  have u:=List.mem_of_find?_eq_some bA;have aF:=List.find?_some bA;have h1:=h.lt _ hm;have D:=h.lt _ u;simp[kZ]at he aF;rw[ahd h u hm (by omega) (by omega)]
def adS(h:ff t)(v:dy):∀a b:Nat,a≤b→b<t.Links.length→nT (el t.Links a) v≤nT (el t.Links b) v:=by
 refine Yi (f:=λl:dy=>nT l v) (h.Er.imp λ{a b} hs=>?_)
 have cq:∀x y:Int,jf x y = -1∨jf x y=0∨jf x y=1:=λx y=>by
  unfold jf;split
  ·exact .inl rfl
  ·split
   ·exact .inr (.inr rfl)
   ·exact .inr (.inl rfl)
 have:∀x y:dy,nT x y = -1∨nT x y=0∨nT x y=1:=λx y=>by
  have ak:=cq x.A y.A;have ax:=cq x.B y.B;simp only[nT,r2];generalize jf x.A y.A=p at *;generalize jf x.B y.B=q at *;by_cases h1:p=0
  ·by_cases D:q=0<;>simp[h1,D];omega
  ·simp[h1];omega
 have h1:=@Kz a v;have D:=@Kz b v;have aq:=@KA a v;have aZ:=@KA b v;have ak:=this a v;have ax:=this b v;simp[m4]at hs h1 D;omega
def RZ(t:bz)(a b:Int)(aJ:t.Links.length≤1000000):CI t a b=some (if kP t=0 then mR t a b else(0,false)):=by
 unfold CI;simp only[Re,cZ];by_cases h:kP t=0
 ·have aa:=rW.1 h;simp only[h,decide_true,Bool.not_true,cond_false,if_true];generalize Fj:dy.mk (if b<a then b else a) (if b>a then b else a) 0 0 0=v;rw[ak6 t.Links v _ (λx=>nT x v) aJ (λx=>YR x v)];simp only[cZ];have eZ:v.A=if b<a then b else a:=by rw[←Fj]
  have c1:v.B=if b>a then b else a:=by rw[←Fj]
  cases aT:sw (λx:dy=>nT x v) t.Links
  ·simp only[Bool.not_false,cond_true];congr 1;unfold mR;cases bA:t.Links.find? (λl=>kZ l a b)with
   |none=>rfl
   |some x=>
    exfalso;have u:=List.mem_of_find?_eq_some bA;have aF:=List.find?_some bA;have D:=h
    have:=(SY (f:=λx:dy=>nT x v) (adS aa v)).2 ⟨x,u,by
     rw[KA,eZ,c1];have:=aa.lt _ u;simp[kZ]at aF;split<;>split<;>omega⟩
    rw[aT]at this;cases this
  ·simp only[sw,Bool.and_eq_true,decide_eq_true_eq]at aT;obtain⟨ak,ax⟩:=aT;rw[KA,eZ,c1]at ax;have hm:=TV ak;simp only[Bool.not_true,cond_false,Dy ak,cZ];have bS:=aa.lt _ hm
   have e:kZ (el t.Links (ou (λx:dy=>nT x v) t.Links)) a b=true:=by
    simp[kZ];by_cases aO:b<a<;>by_cases aL:b>a<;>simp only[aO,aL,if_true,if_false]at ax<;>omega
   rw[qs aa hm e];unfold px;by_cases hs:a<b
   ·have:decide (a<b)=true:=by simpa using hs
    rw[this,cond_true]
    have:(decide ((el t.Links (ou (λx:dy=>nT x v) t.Links)).A=a)&&decide ((el t.Links (ou (λx:dy=>nT x v) t.Links)).B=b))=true:=by
     simp;by_cases aO:b<a<;>by_cases aL:b>a<;>simp only[aO,aL,if_true,if_false]at ax<;>omega
    rw[this];rfl
   ·have:decide (a<b)=false:=by simpa using hs
    rw[this,cond_false]
    have:(decide ((el t.Links (ou (λx:dy=>nT x v) t.Links)).A=a)&&decide ((el t.Links (ou (λx:dy=>nT x v) t.Links)).B=b))=false:=by
     simp;by_cases aO:b<a<;>by_cases aL:b>a<;>simp only[aO,aL,if_true,if_false]at ax<;>omega
    rw[this];rfl
 ·simp[h]
def ids(t:bz):cO:=t.bx.map (·.cS)
def LJ(h:ff t):(ids t).Pairwise (·<·):=pairwise_map.2 h.rE
def sY:r∈ids t↔jM t r=true:=by rw[Gz];simp[ids]
def sZ:wq t a b=true↔∃l∈t.Links,(l.A=a∧l.B=b)∨(l.B=a∧l.A=b):=by
 simp[wq,kZ]
def acm(h:wq t a b=true):wq t b a=true:=by
 rw[sZ]at h ⊢;obtain⟨l,aJ,h⟩:=h;exact⟨l,aJ,by omega⟩
def Lc(aa:ff t)(h:wq t a b=true):b∈ids t:=by
 rw[sZ]at h;obtain⟨l,aJ,h⟩:=h;have:=aa.ends l aJ;rcases h with⟨h1,D⟩|⟨h1,D⟩<;>rw[sY,←D]
 ·exact this.2
 ·exact this.1
def DZ(t:bz)(r:Int):cO:=(ids t).filter λx=>wq t r x
def R1(aa:ff t)(r:Int):(DZ t r).Pairwise (·<·):=(LJ aa).sublist filter_sublist
def QB(aa:ff t):x∈DZ t r↔wq t r x=true:=by
 unfold DZ;rw[List.mem_filter]
 exact⟨λh=>h.2,λh=>⟨Lc aa h,h⟩⟩
def Dz(r:Int)(l:dy):jO:=if r=l.A then some l.B else if r=l.B then some l.A else none
def aab(aa:ff t)(r:Int):(t.Links.filterMap (Dz r)).Nodup:=by
 have key:∀l:zA,(∀x∈l,x.A<x.B)→l.Pairwise (λa b=>m4 a b=true)→(l.filterMap (Dz r)).Nodup:=by
  intro l;induction l with
  |nil=>intros;simp
  |cons x l bu=>
   intro h1 D;rw[pairwise_cons]at D;have bu:=bu (λy ai=>h1 y (by simp[ai])) D.2;cases u:Dz r x with
   |none=>rw[filterMap_cons_none u];exact bu
   |some y=>
    rw[filterMap_cons_some u,nodup_cons];refine⟨λhm=>?_,bu⟩;obtain⟨z,hz,IU⟩:=List.mem_filterMap.1 hm;have aq:=D.1 z hz;have aZ:=h1 x (by simp);have bV:=h1 z (by simp[hz]);unfold Dz at u IU;simp[m4]at aq;split at u<;>split at IU<;>(try split at u)<;>(try split at IU)<;>simp at u IU<;>omega
 exact key _ aa.lt aa.Er
end
section
def avX{α σ β:Type}{B:Int→α→(σ→Option β)→σ→Option β}{K:σ→Option β}{Q:β→Prop}(I:List α→σ→Prop){L:List α}
  (ah:∀(p:List α) x r s b4,L=p++x::r→I p s→(∀dh,I (p++[x]) dh→Ok (b4 dh) Q)→Ok (B (p.length:Int) x b4 s) Q) (s:σ) (h:I [] s) (aX:∀s,I L s→Ok (K s) Q):Ok (Go.Proofs.YtmnbolcmepihlaaGreat.eE L 0 B K s) Q:=by
 have key:∀(l p:List α) (s:σ),L=p++l→I p s→Ok (Go.Proofs.YtmnbolcmepihlaaGreat.eE l p.length B K s) Q:=by
  intro l;induction l with
  |nil=>intro p s aY h;exact aX s (by rw[aY,append_nil];exact h)
  |cons x r bu=>
   intro p s aY h;refine ah p x r s _ aY h λdh b3=>?_;have:=bu (p++[x]) dh (by simp[aY]) b3
   rwa [length_append]at this
 exact key L [] s rfl h
def PF{a b:cO}(h:a.Nodup)(Z:∀x∈a,x∈b):a.length≤b.length:=by
 induction a generalizing b with
 |nil=>simp
 |cons x a bu=>
  rw[nodup_cons]at h;have u:=Z x (by simp);have:=bu (b:=b.erase x) h.2 λy ai=>(List.mem_erase_of_ne (λe=>h.1 (by rw[←e];exact ai))).2 (Z y (by simp[ai]));rw[length_erase_of_mem u]at this;have:=length_pos_of_mem u;simp only[length_cons];omega
def Dr{t:bz}(aa:ff t):(ids t).length≤24:=by have:=aa.ug;simpa [ids]using this
end
section
def lK{α:Type}(l:List (Int×α))(n m:Int)(b:α):az (bH l n b) m=if m=n then some b else az l m:=by
 induction l with
 |nil=>
  simp only[bH,az,List.find?];by_cases h:n=m
  ·simp[h]
  ·simp[h,Ne.symm h]
 |cons p r bu=>
  simp only[bH];by_cases h1:p.1=n
  ·rw[if_pos h1];simp only[az,List.find?]at bu ⊢;by_cases D:n=m
   ·simp[D]
   ·have:p.1≠m:=by omega
    simp[D,this,Ne.symm D]
  ·rw[if_neg h1];simp only[az,List.find?]at bu ⊢;by_cases D:p.1=m
   ·have:m≠n:=by omega
    simp[D,this]
   ·simp[D];exact bu
def acn{α:Type}{l:List (Int×α)}{n:Int}{b:α}(h:az l n=none):(bH l n b).length=l.length+1:=by
 induction l with
 |nil=>rfl
 |cons p r bu=>
  simp only[az,List.find?]at h;by_cases h1:p.1=n
  ·simp[h1]at h
  ·simp only[bH,if_neg h1,length_cons];rw[bu (by simpa [az,h1]using h)]
end
end
section
set_option linter.all false
open Go List
section
def jP(t:dL):Prop:=0≤t.At∧t.At≤t.L.length∧t.L.length≤2000
def TY(n:Int):aG n≤9223372036854775807∧-9223372036854775808≤aG n:=by
 unfold aG;rw[IntKind.wrap_i64];omega
def akk(l:cO):Ok (Fv l) jP:=by
 unfold Fv;refine Ok.aM (Ht ⟨by omega,?_,?_⟩) λm hm=>Ok.s ⟨by simp,by simp,?_⟩
 ·split<;>omega
 ·split<;>omega
 ·have:=hm.2;simp only;split at this<;>omega
variable {t:dL}
def akl(h:jP t):Ok (EO t) (λp=>jP p.2):=by
 obtain⟨bJ,h1,D⟩:=h;unfold EO;refine Ok.cs (λ_=>Ok.s ⟨bJ,h1,D⟩) λah=>?_;simp at ah;have e:aG (t.At+1)=t.At+1:=iY (by omega) (by omega);rw[e,iY (by omega) (by omega)];refine Ok.aM (q4 (by omega) (by omega)) λa _=>Ok.s ⟨?_,?_,D⟩<;>show _<;>simp<;>omega
def akm{x n:Int}(aX:n≤9223372036854775807):Ok (Fw x n) (λr=>0≤r∧(1≤n→r<n)∧(n<1→r=0)):=by
 unfold Fw;refine Ok.cs (λh=>Ok.s ?_) λh=>?_
 ·simp at h;omega
 have h:1≤n:=by simpa using h
 have h1:Int.tmod x n<n:=Int.tmod_lt_of_pos _ (by omega);have D : -n<Int.tmod x n:=Int.lt_tmod_of_pos _ (by omega);refine Ok.jF (by simp;omega) ?_;refine avS (λr=>0≤r∧r<n) (λs Z=>Ok.s ⟨Z.1,λ_=>Z.2,by omega⟩) λJ ho=>?_;refine Ok.cs (λah=>ho _ ?_) λah=>ho _ ?_
 ·simp at ah;rw[iY (by omega) (by omega)];omega
 ·simp at ah;omega
def sB{n:Int}(h:jP t)(aX:n≤9223372036854775807):Ok (oJ t n) (λp=>(0≤p.1∧(1≤n→p.1<n)∧(n<1→p.1=0))∧jP p.2):=by
 unfold oJ;exact Ok.aM (akl h) λp aF=>Ok.aM (akm aX) λr aI=>Ok.s ⟨aI,aF⟩
def AX{low high:Int}(h:jP t):Ok (uJ t low high) (λp=>(-2305843009213693952≤low→low≤high→high<2305843009213693952→low≤p.1∧p.1≤high)∧jP p.2):=by
 unfold uJ;refine Ok.aM (sB h (TY _).1) λp aF=>Ok.s ⟨λh1 D aq=>?_,aF.2⟩;obtain⟨⟨ak,ax,_⟩,_⟩:=aF;rw[iY (n:=high-low) (by omega) (by omega),iY (n:=high-low+1) (by omega) (by omega)]at ax;show low≤aG (low+p.1)∧aG (low+p.1)≤high;rw[iY (by omega) (by omega)];omega
def G2{l:cO}(h:jP t)(bJ:1≤l.length)(h1:l.length≤1000000):Ok (wJ t l) (λp=>p.1∈l∧jP p.2):=by
 unfold wJ;refine Ok.aM (sB h (by omega)) λp aF=>?_;exact Ok.aM (q4 aF.1.1 (aF.1.2.1 (by omega))) λa aA=>Ok.s ⟨aA.1,aF.2⟩
def rq:cO→Int→cO
 |[],x=>[x]
 |y::r,x=>if y<x then y::rq r x else if y=x then y::r else x::y::r
def P7:∀{l:cO} {x y:Int},y∈rq l x↔y=x∨y∈l
 |[],x,y=>by simp[rq]
 |z::r,x,y=>by
  rw[rq];split
  ·rw[mem_cons,P7,mem_cons];constructor
   ·rintro(h|h|h)<;>simp[h]
   ·rintro(h|h|h)<;>simp[h]
  ·split
   ·rename_i h;subst h;simp
   ·simp
def S1:∀{l:cO} {x:Int},l.Pairwise (·<·)→(rq l x).Pairwise (·<·)
 |[],x,_=>by simp[rq]
 |z::r,x,h=>by
  rw[rq];rw[pairwise_cons]at h;split
  ·rw[pairwise_cons];refine⟨λy ai=>?_,S1 h.2⟩;rcases P7.1 ai with rfl|ai
   ·assumption
   ·exact h.1 y ai
  ·split
   ·exact pairwise_cons.2 h
   ·rw[pairwise_cons];refine⟨λy ai=>?_,pairwise_cons.2 h⟩;rcases mem_cons.1 ai with rfl|ai
    ·omega
    ·have:=h.1 y ai;omega
def R2:∀(l:cO) (x:Int),(rq l x).length≤l.length+1
 |[],x=>by simp[rq]
 |z::r,x=>by
  rw[rq];have:=R2 r x;split
  ·simp;omega
  ·split<;>simp
def S2:∀(p r:cO) (x:Int),(∀y∈p,y<x)→(∀y∈r.head?,x≤y)→rq (p++r) x=if r.head?=some x then p++r else p++x::r
 |[],r,x,_,h=>by
  cases r with
  |nil=>simp[rq]
  |cons y r=>
   have:=h y (by simp);simp only[nil_append,rq,if_neg (show ¬y<x by omega),head?_cons,Option.some.injEq]
 |z::p,r,x,aF,h=>by
  have:=aF z (by simp);rw[cons_append,rq,if_pos this,S2 p r x (λy ai=>aF y (by simp[ai])) h];split<;>rfl
def akn(l:cO)(x:Int)(aJ:l.length≤100000):Fx l x=some (rq l x):=by
 unfold Fx;refine Ok.eq (avT (λk:Int=>0≤k∧k≤l.length∧∀y∈l.take k.toNat,y<x) (λk:Int=>((l.length:Int)-k).toNat) ⟨by omega,by omega,by simp⟩ (by omega) ?_);rintro k b4 ⟨bJ,h1,D⟩ hd;refine avS (λv:Bool=>(v=true↔∃y∈(l.drop k.toNat).head?,y<x)) ?_ ?_
 ·intro v aa;refine Ok.cs (λh=>?_) λh=>?_
  ·obtain⟨y,ai,p6⟩:=aa.1 h;have bS:k.toNat<l.length:=by
    cases af:l.drop k.toNat with
    |nil=>rw[af]at ai;simp at ai
    |cons z r=>have:=congrArg List.length af;simp at this;omega
   rw[iY (by omega) (by omega)];refine hd _ ⟨by omega,by omega,λz hz=>?_⟩ (by omega);rw[show(k+1).toNat=k.toNat+1 by omega,take_succ]at hz;rcases List.mem_append.1 hz with hz|hz
   ·exact D z hz
   ·rw[head?_drop]at ai;have e:l[k.toNat]?=some z:=by simpa using hz
    have e2:l[k.toNat]?=some y:=ai;rw[e]at e2;cases e2;exact p6
  ·have ys:∀y∈(l.drop k.toNat).head?,x≤y:=λy ai=>by
    have:¬y<x:=λb0=>by rw[aa.2 ⟨y,ai,b0⟩]at h;cases h
    omega
   have key:=S2 (l.take k.toNat) (l.drop k.toNat) x D ys;rw[take_append_drop]at key;refine avS (λv:Bool=>(v=true↔(l.drop k.toNat).head?=some x)) ?_ ?_
   ·intro gz Fj;refine Ok.cs (λD=>Ok.s ?_) λD=>?_
    ·rw[key,if_pos (Fj.1 D)]
    ·have cA:¬(l.drop k.toNat).head?=some x:=λb0=>by rw[Fj.2 b0]at D;cases D
     rw[if_neg cA]at key;refine Ok.aM (Ht ⟨by omega,by omega,by omega⟩) λq6 ak=>?_;refine Ok.aM (Hs (by simp;omega)) λku ax=>?_;refine Ok.aM (Ht ⟨by omega,by omega,by omega⟩) λOd aO=>?_;refine Ok.aM (Hs (by simp at ax aO ak ⊢;omega)) λat7 aL=>Ok.s ?_;rw[aL.1,aO.1,ax.1,ak.1,key];simp
   ·intro J ho;refine Ok.cs (λah=>?_) λah=>ho _ ?_
    ·simp at ah;refine Ok.aM (q4 bJ ah) λe he=>ho _ ?_;rw[head?_drop,he.2];simp
    ·simp at ah;rw[drop_of_length_le (by omega)];simp
 ·intro J ho;refine Ok.cs (λah=>?_) λah=>ho _ ?_
  ·simp at ah;refine Ok.aM (q4 bJ ah) λe he=>ho _ ?_;rw[head?_drop,he.2];simp
  ·simp at ah;rw[drop_of_length_le (by omega)];simp
end
section
def R3{α σ β:Type}{B:Int→α→(σ→Option β)→σ→Option β}{K:σ→Option β}{L:List α}(I:List α→σ→Prop)(f:List α→List α→Option β)(aX:∀s,I L s→K s=f L [])
  (ah:∀p x r s b4,p++x::r=L→I p s→(∀dh,I (p++[x]) dh→b4 dh=f (p++[x]) r)→B (p.length:Int) x b4 s=f p (x::r)):∀(l p:List α) (s:σ),p++l=L→I p s→eE l p.length B K s=f p l
 |[],p,s,h,hi=>by rw[append_nil]at h;subst h;exact aX s hi
 |x::r,p,s,h,hi=>ah p x r s _ h hi λdh Z=>by
   have:=R3 (B:=B) (K:=K) I f aX ah r (p++[x]) dh (by simpa using h) Z;rw[length_append]at this;exact this
def we(n:Int):Bool:=decide (1≤n)&&decide (n≤99)
end
section
def zu(h:bO):Bool:=!we h.br||!we h.bh
def qh(a b:bO):Bool:=decide (a.br<b.br)||(decide (a.br=b.br)&&decide (a.bh<b.bh))
def DA(a b:bO):Bool:=decide (b.bh=a.bh)
def vj(root:Int):x2→x2→Bool
 |_,[]=>false
 |p,x::r=>(p.any (DA x)||decide (x.bh=root))||vj root (p++[x]) r
inductive nY(root:Int)(L:List bO):Int→Prop
 |root:nY root L root
 |step (h:bO):h∈L→nY root L h.br→nY root L h.bh
noncomputable def wH(t:g2):Int:=
 bif !we t.h9||t.Links.any zu then 2 else bif ms qh t.Links then(bif vj t.h9 [] t.Links then 8 else @ite Int (∀h∈t.Links,nY t.h9 t.Links h.br) (Classical.propDecidable _) 0 10)else 25
def r6(f:Int→Bool)(L:x2):Nat:=(L.filter λh=>!f h.bh).length
variable {f:Int→Bool}
def S3{g:Int→Bool}(h:∀x,f x=true→g x=true)(L:x2):r6 g L≤r6 f L:=by
 unfold r6;induction L with
 |nil=>simp
 |cons a r bu=>
  simp only[filter_cons];cases bA:f a.bh
  ·cases bw:g a.bh<;>simp<;>omega
  ·rw[h _ bA];simpa using bu
def Ss{f g:Int→Bool}(h:∀x,f x=true→g x=true){a:bO}:∀{L:x2},a∈L→f a.bh=false→g a.bh=true→r6 g L<r6 f L
 |[],aA,_,_=>by cases aA
 |b::r,aA,h1,D=>by
  have hle:=S3 h r;unfold r6 at *;simp only[filter_cons];rcases mem_cons.1 aA with rfl|aA
  ·rw[h1,D];simp;omega
  ·have bu:=Ss h aA h1 D;unfold r6 at bu;cases bA:f b.bh
   ·cases bw:g b.bh<;>simp<;>omega
   ·rw[h _ bA];simpa using bu
structure D9(root:Int)(L:List bO)(f:Int→Bool):Prop where
 rt:f root=true
 sub:∀x,f x=true→nY root L x
structure vm(root:Int)(L:List bO)(f0:Int→Bool)(p:List bO)(g:Bool)(f:Int→Bool):Prop where
 Gk:D9 root L f
 up:∀x,f0 x=true→f x=true
 no:g=false→(∀x,f x=f0 x)∧∀h∈p,f h.br=true→f h.bh=true
 yes:g=true→r6 f L<r6 f0 L
variable {L:x2}{root:Int}
def awF(h:D9 root L f):vm root L f [] false f:=⟨h,λ_=>id,λ_=>⟨λ_=>rfl,by simp⟩,λh=>by cases h⟩
variable {f0:Int→Bool}{g:Bool}{h:bO}{p:x2}
def vm.add{rK:Int→Bool}(j:vm root L f0 p g f)(hm:h∈L)(h1:f h.br=true)(D:f h.bh=false)(bA:∀y,rK y=(decide (y=h.bh)||f y)):vm root L f0 (p++[h]) true rK:=by
 have up:∀x,f x=true→rK x=true:=λx u=>by rw[bA,u];simp
 have aJ:r6 rK L<r6 f L:=Ss up hm D (by rw[bA];simp);refine⟨⟨up _ j.Gk.rt,λx u=>?_⟩,λx u=>up x (j.up x u),λh=>(by cases h),λ_=>?_⟩
 ·rw[bA,Bool.or_eq_true,decide_eq_true_eq]at u;rcases u with rfl|u
  ·exact .step h hm (j.Gk.sub _ h1)
  ·exact j.Gk.sub x u
 ·have:=S3 j.up L;omega
def vm.pass(j:vm root L f0 p g f)(aX:f h.br=false∨f h.bh=true):vm root L f0 (p++[h]) g f:=by
 refine⟨j.Gk,j.up,λbw=>⟨(j.no bw).1,λx u bA=>?_⟩,j.yes⟩;rcases List.mem_append.1 u with u|u
 ·exact(j.no bw).2 x u bA
 ·simp at u;subst u
  rcases aX with aX|aX
  ·rw[aX]at bA;cases bA
  ·exact aX
def D9.done(h:D9 root L f)(ah:∀x∈L,f x.br=true→f x.bh=true)(x:Int):f x=true↔nY root L x:=by
 refine⟨h.sub x,λaI=>?_⟩;induction aI with
 |root=>exact h.rt
 |step y ai _ bu=>exact ah y ai bu
def aco(f:Int→Bool)(L:x2):r6 f L≤L.length:=length_filter_le _ _
def lQ(m:List (Int×Bool))(x:Int):Bool:=(az m x).getD false
def GA(m:List (Int×Bool))(n x:Int):lQ (bH m n true) x=(decide (x=n)||lQ m x):=by
 unfold lQ;rw[lK];by_cases h:x=n<;>simp[h]
def aac(t:g2)(aJ:t.Links.length≤1000000):Ok (Fo t) (λm=>∀x,lQ m x=true↔nY t.h9 t.Links x):=by
 unfold Fo;refine avT (λaj:Bool×List (Int×Bool)=>D9 t.h9 t.Links (lQ aj.2)∧(aj.1=false→∀x∈t.Links,lQ aj.2 x.br=true→lQ aj.2 x.bh=true)) (λaj=>2*r6 (lQ aj.2) t.Links+if aj.1 then 1 else 0) ?_ ?_ ?_
 ·refine⟨⟨?_,λx u=>?_⟩,λh=>by cases h⟩
  ·show lQ (bH [] t.h9 true) t.h9=true;rw[GA];simp
  ·have u:lQ (bH [] t.h9 true) x=true:=u;rw[GA]at u;simp[lQ,az]at u;subst u;exact .root
 ·have:=aco (lQ (bH [] t.h9 true)) t.Links;show 2*r6 (lQ (bH [] t.h9 true)) t.Links+1<_;omega
 ·rintro⟨g,m⟩ b4 ⟨h1,D⟩ hd;refine Ok.cs (λbw=>?_) (λbw=>Ok.s (h1.done (D bw)));refine avX (L:=t.Links) (λp (aj:Bool×List (Int×Bool))=>vm t.h9 t.Links (lQ m) p aj.1 (lQ aj.2)) (λp x r s gn jv ef sJ=>?_) (false,m) (awF h1) (λs Z=>?_)
  ·obtain⟨dg,m2⟩:=s;unfold jn;have hm:x∈t.Links:=by rw[jv];simp
   refine Ok.cs (λah=>sJ _ ?_) (λah=>sJ _ ?_)
   ·simp only[Bool.and_eq_true,Bool.not_eq_true']at ah;exact ef.add hm ah.1 ah.2 (λy=>GA m2 x.bh y)
   ·refine ef.pass ?_
    change (lQ m2 x.br&&!lQ m2 x.bh)=false at ah
    revert ah;cases lQ m2 x.br<;>cases lQ m2 x.bh<;>simp
  ·obtain⟨dg,m2⟩:=s;refine hd (dg,m2) ⟨Z.Gk,λz2=>(Z.no z2).2⟩ ?_;cases dg
   ·have e:lQ m2=lQ m:=funext (Z.no rfl).1;have bw:g=true:=bw;subst bw;simp[e]
   ·have:=Z.yes rfl;have bw:g=true:=bw;subst bw;simp;omega
def acp{a b c d:Int}:decide ((0:Int)≤r2 [jf a b,jf c d])=!(decide (a<b)||(decide (a=b)&&decide (c<d))):=by
 by_cases h1:a<b
 ·have e:jf a b = -1:=by unfold jf;rw[if_pos h1]
  simp[e,r2,h1]
 ·by_cases D:a=b
  ·subst D;have e:jf a a=0:=xx.2 rfl;by_cases aq:c<d
   ·have e2:jf c d = -1:=by unfold jf;rw[if_pos aq]
    simp[e,e2,r2,aq]
   ·by_cases aZ:d<c
    ·have e2:jf c d=1:=by unfold jf;rw[if_neg aq,if_pos aZ]
     simp[e,e2,r2,aq]
    ·have e2:jf c d=0:=by unfold jf;rw[if_neg aq,if_neg aZ]
     simp[e,e2,r2,aq]
  ·have aq:b<a:=by omega
   have e:jf a b=1:=by unfold jf;rw[if_neg h1,if_pos aq]
   simp[e,r2,h1,D]
def YL(t:g2)(aJ:t.Links.length≤1000000):Ce t=some (wH t):=by
 unfold Ce Cc;simp only[cZ];unfold wH;show(bif !we t.h9 then _ else _)=_;cases we t.h9
 ·rfl
 simp only[Bool.not_true,cond_false,Bool.false_or]
 refine(uY zu (some 2) (λj x b4 s=>by
  unfold zu we jn;cases decide (1≤x.br)&&decide (x.br≤99)<;>rfl) _ _ _).trans ?_
 cases t.Links.any zu
 ·simp only[cond_false]
  refine(Kd qh (some 25) (λj x y r q s b4 jv aY=>by
   simp only[Dc jv aY (by omega),cZ,K9,TS,acp];show(bif !qh y x then _ else _)=_;cases qh y x<;>rfl) _).trans ?_
  cases ms qh t.Links
  ·rfl
  ·simp only[cond_true];refine(R3 (L:=t.Links) (λp m=>∀x,lQ m x=true↔x=t.h9∨∃h∈p,h.bh=x) (λp l=>bif vj t.h9 p l then some 8 else some (@ite Int (∀h∈t.Links,nY t.h9 t.Links h.br) (Classical.propDecidable _) 0 10)) (λs _=>?_) (λp x r s b4 h hi hd=>?_) t.Links [] _ rfl ?_).trans ?_
   ·obtain⟨m,h1,D⟩:=aac t aJ;simp only[h1,cZ,vj,cond_false];refine(uY (λx:bO=>!lQ m x.br) (some 10) (by intros;rfl) _ _ _).trans ?_;by_cases kH:∀h∈t.Links,nY t.h9 t.Links h.br
    ·rw[if_pos kH,pV.2 (λx u=>by rw[(D x.br).2 (kH x u)];rfl)];rfl
    ·rw[if_neg kH]
     have:t.Links.any (λx:bO=>!lQ m x.br)=true:=by
      refine Classical.byContradiction λaX=>kH λh b0=>(D h.br).1 ?_;have:=pV.1 (Bool.not_eq_true _▸aX) h b0;simpa using this
     rw[this];rfl
   ·show(bif lQ s x.bh then _ else _)=_;rw[vj];have e:(p.any (DA x)||decide (x.bh=t.h9))=lQ s x.bh:=by
     rw[Bool.eq_iff_iff,Bool.or_eq_true,List.any_eq_true,hi,decide_eq_true_eq];constructor
     ·rintro(⟨a,aA,Z⟩|h)
      ·exact .inr ⟨a,aA,by simpa [DA]using Z⟩
      ·exact .inl h
     ·rintro(h|⟨a,aA,Z⟩)
      ·exact .inr h
      ·exact .inl ⟨a,aA,by simpa [DA]using Z⟩
    rw[e];cases lQ s x.bh
    ·refine hd _ λy=>?_;rw[GA,Bool.or_eq_true,decide_eq_true_eq,hi];constructor
     ·rintro(h|h|⟨a,aA,h⟩)
      ·exact .inr ⟨x,by simp,h.symm⟩
      ·exact .inl h
      ·exact .inr ⟨a,by simp[aA],h⟩
     ·rintro(h|⟨a,aA,h⟩)
      ·exact .inr (.inl h)
      ·rcases List.mem_append.1 aA with aA|aA
       ·exact .inr (.inr ⟨a,aA,h⟩)
       ·simp at aA;rw[aA]at h;exact .inl h.symm
    ·rfl
   ·intro x;rw[GA];simp[lQ,az]
   ·cases vj t.h9 [] t.Links<;>rfl
 ·rfl
structure K5(t:g2):Prop where
 rt:1≤t.h9∧t.h9≤99
 JY:∀h∈t.Links,(1≤h.br∧h.br≤99)∧1≤h.bh∧h.bh≤99
 rE:t.Links.Pairwise λa b=>qh a b=true
 dup:t.Links.Pairwise λa b=>a.bh≠b.bh
 aon:∀h∈t.Links,h.bh≠t.h9
 OK:∀h∈t.Links,nY t.h9 t.Links h.br
def abq(a b c:bO)(h1:qh a b=true)(D:qh b c=true):qh a c=true:=by
 simp[qh]at *;omega
def P8{root:Int}:∀{l p:x2},vj root p l=false↔(∀a∈p,∀b∈l,a.bh≠b.bh)∧(∀b∈l,b.bh≠root)∧l.Pairwise λa b=>a.bh≠b.bh
 |[],p=>by simp[vj]
 |x::r,p=>by
  rw[vj,Bool.or_eq_false_iff,Bool.or_eq_false_iff,P8,pV,pairwise_cons];constructor
  ·rintro⟨⟨h1,bJ⟩,D,aZ,aq⟩;refine⟨λa aA b U=>?_,λb U=>?_,λb U=>D x (by simp) b U,aq⟩
   ·rcases mem_cons.1 U with rfl|U
    ·have:=h1 a aA;simpa [DA]using this
    ·exact D a (by simp[aA]) b U
   ·rcases mem_cons.1 U with rfl|U
    ·simpa using bJ
    ·exact aZ b U
  ·rintro⟨h1,aZ,D,aq⟩;refine⟨⟨λa aA=>by simpa [DA]using h1 a aA x (by simp),by simpa using aZ x (by simp)⟩,λa aA b U=>?_,λb U=>aZ b (by simp[U]),aq⟩;rcases List.mem_append.1 aA with aA|aA
   ·exact h1 a aA b (by simp[U])
   ·simp at aA;subst aA;exact D b U
def Ld{n:Int}:we n=true↔1≤n∧n≤99:=by simp[we]
def R4:zu h=false↔(1≤h.br∧h.br≤99)∧1≤h.bh∧h.bh≤99:=by
 simp[zu,Ld]
variable {t:g2}
def TZ:wH t=0↔K5 t:=by
 unfold wH;constructor
 ·intro h;cases h1:we t.h9 with
  |false=>simp[h1]at h
  |true=>
  cases D:t.Links.any zu with
  |true=>simp[h1,D]at h
  |false=>
  cases aq:ms qh t.Links with
  |false=>simp[h1,D,aq]at h
  |true=>
  cases aZ:vj t.h9 [] t.Links with
  |true=>simp[h1,D,aq,aZ]at h
  |false=>
  by_cases bV:∀h∈t.Links,nY t.h9 t.Links h.br
  ·obtain⟨d1,d2,d3⟩:=P8.1 aZ;exact⟨Ld.1 h1,λx u=>R4.1 (pV.1 D x u),F4 abq aq,d3,d2,bV⟩
  ·simp only[h1,D,aq,aZ,if_neg bV]at h;cases h
 ·intro h;have h1:we t.h9=true:=Ld.2 h.rt;have D:t.Links.any zu=false:=pV.2 λx u=>R4.2 (h.JY x u);have aq:ms qh t.Links=true:=Av h.rE;have aZ:vj t.h9 [] t.Links=false:=P8.2 ⟨by simp,h.aon,h.dup⟩;simp only[h1,D,aq,aZ,if_pos h.OK];rfl
noncomputable def zv(t:g2):cO:=if wH t=0 then fW (t.h9::t.Links.map (·.bh))else[]
def adU(h:K5 t){x:Int}:x∈zv t↔x=t.h9∨∃h∈t.Links,h.bh=x:=by
 unfold zv;rw[if_pos (TZ.2 h),abo];simp
def aad(t:g2)(aJ:t.Links.length≤100000):Fp t=some (zv t):=by
 unfold Fp zv;simp only[YL t (by omega),cZ];by_cases h:wH t=0
 ·simp only[h,decide_true,Bool.not_true,cond_false,if_true];refine(Ke (λ_:bO=>true) (λx:bO=>x.bh) t.Links 0 [t.h9] (λj x b4 s u Z=>by rw[ML Z];rfl) (by simp;omega)).trans ?_;rw[show t.Links.filter (λ_:bO=>true)=t.Links from List.filter_eq_self.2 λ_ _=>rfl];simp only[cons_append,nil_append,jF];rw[decide_eq_true (by simp;omega)];rfl
 ·simp[h]
end
section
structure ZE(g:bz)(mI:Int):Prop where
 v:ff g
 n:1≤g.bx.length∧(g.bx.length:Int)≤mI
 c:∀r∈g.bx,r.KD=true
 i:∀r∈g.bx,r.cS≤5*mI
def Ki(n:Nat):Nat→Nat
 |0=>0
 |a+1=>Ki n a+(n-1-a)
def T0:∀n,n≤9→∀a,a≤n→Ki n a≤36:=by decide
structure uF(n:Nat)(M:List (List Bool)):Prop where
 len:M.length=n
 row:∀r∈M,r.length=n
 up:∀(a b:Nat) (r:rT),M[a]?=some r→r[b]?=some true→a<b
def uF.set{n:Nat}{M:jV}(h:uF n M){a b:Nat}{r:rT}(aI:M[a]?=some r)(hs:a<b)(U:b<n):uF n (M.set a (r.set b true)):=by
 obtain⟨h1,D,aq⟩:=h;have hm:r∈M:=List.mem_of_getElem? aI;refine⟨by simpa using h1,λq bP=>?_,λi j q bP aY=>?_⟩
 ·rcases List.mem_or_eq_of_mem_set bP with bP|rfl
  ·exact D q bP
  ·simpa using D r hm
 ·rw[List.getElem?_set]at bP;by_cases hi:a=i
  ·subst hi;have bS:a<M.length:=(List.getElem?_eq_some_iff.1 aI).1;simp only[if_true,bS,Option.some.injEq]at bP;subst bP;rw[List.getElem?_set]at aY;by_cases amp:b=j
   ·omega
   ·rw[if_neg amp]at aY;exact aq a j r aI aY
  ·rw[if_neg hi]at bP;exact aq i j q bP aY
variable {M:jV}{i:Int}
def T1{n:Nat}(h:uF n M)(bJ:0≤i)(hi:i<n):Ok (du M i) (λr=>M[i.toNat]?=some r∧r.length=n):=by
 refine(q4 bJ (by rw[h.len];exact hi)).mono λr aI=>⟨aI.2,h.row r aI.1⟩
def R5{n:Nat}(h:uF n M){j:Int}{pg:Type}{Q:pg→Prop}(k:rT→rT→Option pg)(bJ:0≤i)(jg:i<j)(aY:j<n)(hk:∀r ha,uF n (List.set M i.toNat ha)→Ok (k r ha) Q):
  Ok (aM (du M i) λe=>aM (du e j) λ_=>aM (jC e j true) λl=>k e l) Q:=by
 refine Ok.aM (T1 h bJ (by omega)) λr aI=>Ok.aM (q4 (by omega) (by rw[aI.2];omega)) λ_ _=>?_;refine Ok.aM (LI (by omega) (by rw[aI.2];omega)) λl aJ=>hk r l ?_;rw[aJ.1];exact h.set aI.1 (by omega) (by omega)
structure qR(R:List ez)(ls:List dy)(a b:Nat):Prop where
 at_:∀l∈ls,∃i j x y,i<j∧R[i]?=some x∧R[j]?=some y∧l.A=x.cS∧l.B=y.cS∧(i<a∨i=a∧j<b)
 ok:∀l∈ls,r5 l=false
 rE:ls.Pairwise λx y=>m4 x y=true
 len:ls.length≤Ki R.length a+(b-(a+1))
variable {x:ez}
def Mi{R:AU}(h:R.Pairwise λa b=>a.cS<b.cS){i j:Nat}{y:ez}(u:R[i]?=some x)(ai:R[j]?=some y)(jg:i<j):x.cS<y.cS:=by
 obtain⟨h1,rfl⟩:=List.getElem?_eq_some_iff.1 u;obtain⟨D,rfl⟩:=List.getElem?_eq_some_iff.1 ai;exact pairwise_iff_getElem.1 h i j h1 D jg
variable {a b:Nat}{ls:zA}
def qR.add{R:AU}(h:qR R ls a b)(c3:R.Pairwise λa b=>a.cS<b.cS){l:dy}{y:ez}(hs:a<b)(u:R[a]?=some x)(ai:R[b]?=some y)(eZ:l.A=x.cS)(c1:l.B=y.cS)(aJ:r5 l=false):qR R (ls++[l]) a (b+1):=by
 refine⟨λm hm=>?_,λm hm=>?_,?_,?_⟩
 ·rcases List.mem_append.1 hm with hm|hm
  ·obtain⟨i,j,x,y,h1,D,aq,aZ,bV,dU⟩:=h.at_ m hm;exact⟨i,j,x,y,h1,D,aq,aZ,bV,by omega⟩
  ·simp at hm;subst hm
   exact⟨a,b,x,y,hs,u,ai,eZ,c1,by omega⟩
 ·rcases List.mem_append.1 hm with hm|hm
  ·exact h.ok m hm
  ·simp at hm;subst hm;exact aJ
 ·refine pairwise_append.2 ⟨h.rE,by simp,λm hm q bP=>?_⟩;simp at bP;subst bP
  obtain⟨i,j,aqW,aq3,h1,D,aq,aZ,bV,dU⟩:=h.at_ m hm;simp only[m4,Bool.or_eq_true,Bool.and_eq_true,decide_eq_true_eq];rcases dU with dU|⟨rfl,dU⟩
  ·have:=Mi c3 D u dU;left;omega
  ·rw[u]at D;cases D
   have:=Mi c3 aq ai dU;right;omega
 ·have:=h.len;simp;omega
def qR.skip{R:AU}(h:qR R ls a b):qR R ls a (b+1):=
 ⟨λm hm=>by
  obtain⟨i,j,x,y,h1,D,aq,aZ,bV,dU⟩:=h.at_ m hm;exact⟨i,j,x,y,h1,D,aq,aZ,bV,by omega⟩,h.ok,h.rE,by have:=h.len;omega⟩
def qR.next{R:AU}(h:qR R ls a b)(U:b=R.length):qR R ls (a+1) 0:=
 ⟨λm hm=>by
  obtain⟨i,j,x,y,h1,D,aq,aZ,bV,dU⟩:=h.at_ m hm;exact⟨i,j,x,y,h1,D,aq,aZ,bV,by omega⟩,h.ok,h.rE,by have:=h.len;simp only[Ki];omega⟩
def ZS{t:dL}{mI:Int}(h:jP t)(hm:1≤mI∧mI≤9):Ok (FM t mI) (λp=>ZE p.1 mI∧jP p.2):=by
 unfold FM;refine Ok.aM (AX h) λp aF=>?_;obtain⟨n,t1⟩:=p;obtain⟨aX,b5⟩:=aF;have aX:1≤n∧n≤mI:=aX (by omega) (by omega) (by omega);have b5:jP t1:=b5;refine Ok.jF (by simp;omega) ?_;refine av2 (λj (aj:Int×AU×cO×Int)=>(0≤aj.1∧aj.1≤5*j)∧(aj.2.1.length:Int)=j∧aj.2.1.Pairwise (λa b=>a.cS<b.cS)∧(∀r∈aj.2.1,(1≤r.cS∧r.cS≤aj.1)∧r.KD=true)∧jP (dL.mk aj.2.2.1 aj.2.2.2)) 0 n ?_ ?_ _ _ _ rfl (by omega) (by omega) ⟨by simp,by simp,by simp,by simp,b5⟩
 ·rintro j ⟨id,m,L,A⟩ b4 h1 D ⟨⟨oc,l6⟩,l7,i3,mX,w5⟩ hd;simp only at oc l6 l7 i3 mX;refine Ok.aM (G2 w5 (by simp) (by simp)) λq bP=>?_;obtain⟨bP,Fe⟩:=bP;have U:1≤q.1∧q.1≤5:=by
   simp only[mem_cons,not_mem_nil,or_false]at bP;omega
  rw[iY (by omega) (by omega)];refine Ok.aM (Hs (by simp;omega)) λm2 ax=>hd _ ⟨⟨by simp only;omega,by simp only;omega⟩,?_,?_,?_,Fe⟩
  ·have:=ax.2;simp at this ⊢;omega
  ·simp only[ax.1];refine pairwise_append.2 ⟨i3,by simp,λa aA b eO=>?_⟩;simp at eO;subst eO
   have:=(mX a aA).1;simp only;omega
  ·simp only[ax.1];intro r aI;rcases List.mem_append.1 aI with aI|aI
   ·have:=mX r aI;exact⟨⟨this.1.1,by have:=this.1.2;omega⟩,this.2⟩
   ·simp at aI;subst aI;exact⟨⟨by simp only;omega,by simp only;omega⟩,rfl⟩
 rintro j ⟨id,R,L,A⟩ h1 D ⟨⟨oc,l6⟩,l7,i3,mX,w5⟩;have aY:j=n:=D (by omega);subst aY;simp only at oc l6 l7 i3 mX;have sI:R.length=j.toNat:=by omega
 refine Ok.jF (by simp;omega) (Ok.jF (by simp;omega) ?_);refine av2 (λi (M:jV)=>M.length=j.toNat∧∀(k:Nat),(k:Int)<i→M[k]?=some (List.replicate j.toNat false)) 0 j ?_ ?_ _ _ _ (by simp;omega) (by omega) (by omega) ⟨by simp,λk hk=>by omega⟩
 ·rintro i M b4 ak ax ⟨aK,e2⟩ hd;refine Ok.jF (by simp;omega) (Ok.aM (q4 ak (by omega)) λ_ _=>hd _ ⟨by simpa using aK,λk hk=>?_⟩);rw[List.getElem?_set];by_cases vI:i.toNat=k
  ·rw[if_pos vI,if_pos (by omega)]
  ·rw[if_neg vI];exact e2 k (by omega)
 rintro i M ak ax ⟨aK,e2⟩;have hi:i=j:=ax (by omega);subst hi;have sH:uF i.toNat M:=by
  have kH:∀(a:Nat) r,M[a]?=some r→r=List.replicate i.toNat false:=λa r aI=>by
   have bS:a<M.length:=(List.getElem?_eq_some_iff.1 aI).1;rw[e2 a (by omega)]at aI;exact(Option.some.inj aI).symm
  refine⟨aK,λr aI=>?_,λa b r aI U=>?_⟩
  ·obtain⟨a,aA⟩:=List.getElem?_of_mem aI;rw[kH a r aA];simp
  ·rw[kH a r aI]at U;have:=List.mem_of_getElem? U;simp at this
 clear aK e2;refine Ok.jF (by simp;omega) ?_;refine av2 (λk (aj:cO×Int×jV)=>jP (dL.mk aj.1 aj.2.1)∧uF i.toNat aj.2.2) 1 i ?_ ?_ _ _ _ rfl (by omega) (by omega) ⟨w5,sH⟩
 ·rintro k ⟨Zz,Zq,Qp⟩ b4 gy cn ⟨aK,e2⟩ hd;refine avS (λaj:jV×cO×Int=>jP (dL.mk aj.2.1 aj.2.2)∧uF i.toNat aj.1) (λs Z=>hd _ Z) λJ ho=>?_;refine Ok.aM (sB aK (by omega)) λv aa=>Ok.cs (λ_=>?_) λ_=>ho _ ⟨aa.2,e2⟩;refine Ok.aM (sB aa.2 (by omega)) λaR hu=>?_;exact R5 e2 (λ_ l=>J (List.set Qp aR.1.toNat l,aR.2.L,aR.2.At)) hu.1.1 (hu.1.2.1 (by omega)) (by omega) λr ha j5=>ho _ ⟨hu.2,j5⟩
 rintro k ⟨Zz,Zq,Qp⟩ gy cn ⟨aK,e2⟩;refine Ok.aM (sB aK (TY _).1) λv aa=>?_;rw[iY (n:=i+2) (by omega) (by omega)]at aa;have IP:=aa.1.2.1 (by omega);refine avT (λaj:Int×cO×Int×jV=>(0≤aj.1∧aj.1≤11)∧jP (dL.mk aj.2.1 aj.2.2.1)∧uF i.toNat aj.2.2.2) (λaj=>aj.1.toNat) ⟨⟨aa.1.1,by simp only;omega⟩,aa.2,e2⟩ (by simp only;omega) ?_;rintro⟨c,ar5,arM,Qq⟩ b4 ⟨⟨kX,bk⟩,dj,fF⟩ hd;simp only at kX bk;refine Ok.cs (λah=>?_) λah=>?_
 ·have ah:0<c:=by simpa using ah
  refine avS (λaj:jV×cO×Int=>jP (dL.mk aj.2.1 aj.2.2)∧uF i.toNat aj.1) (λs Z=>?_) λJ ho=>?_
  ·rw[iY (n:=c-1) (by omega) (by omega)];exact hd _ ⟨⟨by simp only;omega,by simp only;omega⟩,Z.1,Z.2⟩ (by simp only;omega)
  ·refine Ok.aM (sB dj (by omega)) λa aA=>Ok.aM (sB aA.2 (by omega)) λb U=>?_;have Cj:=aA.1.2.1 (by omega);have fu:=U.1.2.1 (by omega);have W5:=aA.1.1;have sL:=U.1.1
   refine Ok.cs (λcA=>?_) λ_=>ho _ ⟨U.2,fF⟩;have cA:a.1≠b.1:=by simpa using cA
   refine R5 fF (λ_ l=>J (List.set Qq _ l,b.2.L,b.2.At)) (by split<;>omega) (by split<;>split<;>omega) (by split<;>omega) λr ha j5=>ho _ ⟨U.2,j5⟩
 clear hd e2 sH aa IP aK;refine Ok.aM (sB dj (by omega)) λw av=>?_;have W2:Qq.length=i.toNat:=fF.len;refine Ok.jF (by simp;omega) ?_;refine av2 (λa (aj:zA×cO×Int)=>qR R aj.1 a.toNat 0∧jP (dL.mk aj.2.1 aj.2.2)) 0 i ?_ ?_ _ _ _ (by rw[W2];omega) (by omega) (by omega) ⟨⟨by simp,by simp,by simp,by simp⟩,av.2⟩
 ·rintro a ⟨ls,ZA,Zr⟩ b4 a0 iM ⟨g3,jy⟩ hd;refine Ok.jF (by simp;omega) ?_;refine av2 (λb (aj:zA×cO×Int)=>qR R aj.1 a.toNat b.toNat∧jP (dL.mk aj.2.1 aj.2.2)) 0 i ?_ ?_ _ _ _ (by rw[W2];omega) (by omega) (by omega) ⟨g3,jy⟩
  ·rintro b ⟨ls,Qo,Qi⟩ gn vo ec ⟨ow,B2⟩ sJ;have ow:qR R ls a.toNat b.toNat:=ow;have B2:jP (dL.mk Qo Qi):=B2;have NT:qR R ls a.toNat (b+1).toNat:=by rw[show(b+1).toNat=b.toNat+1 by omega];exact ow.skip
   refine avS (λaj:cO×Int×zA=>jP (dL.mk aj.1 aj.2.1)∧qR R aj.2.2 a.toNat (b+1).toNat) (λs Z=>sJ _ ⟨Z.2,Z.1⟩) λkV ox=>?_;refine Ok.aM (T1 fF a0 (by omega)) λrow i4=>Ok.aM (q4 vo (by rw[i4.2];omega)) λc ah=>?_;cases c with
   |false=>exact ox _ ⟨B2,NT⟩
   |true=>
    have hs:a.toNat<b.toNat:=fF.up _ _ _ i4.1 ah.2;simp only[Bool.not_true,cond_false];refine Ok.aM (q4 a0 (by omega)) λx u=>Ok.aM (q4 vo (by omega)) λy ai=>Ok.aM (G2 B2 (by simp) (by simp)) λwI Np=>?_;have p1:0≤wI.1∧wI.1≤1000:=by
     have:=Np.1;simp only[mem_cons,not_mem_nil,or_false]at this;omega
    have eH:ls.length≤36+9:=by
     have:=ow.len;have:=T0 R.length (by omega) a.toNat (by omega);omega
    refine avS (λaj:cO×Int×Int×Int=>jP (dL.mk aj.1 aj.2.1)∧(1≤aj.2.2.1∧aj.2.2.1≤1000)∧1≤aj.2.2.2∧aj.2.2.2≤1000) (λs Z=>?_) λD3 It=>?_
    ·obtain⟨ar6,arN,ca,asQ⟩:=s;obtain⟨dV,eu,s3⟩:=Z;simp only at eu s3;refine Ok.aM (Hs (by simp;omega)) λaue ax=>ox _ ⟨dV,?_⟩;rw[ax.1,show(b+1).toNat=b.toNat+1 by omega];refine ow.add i3 hs u.2 ai.2 rfl rfl ?_;simp only[r5,xH];simp;omega
    ·refine Ok.cs (λ_=>?_) λ_=>It _ ⟨Np.2,by simp only;omega,by simp only;omega⟩;refine Ok.aM (AX Np.2) λhw sV=>Ok.aM (G2 sV.2 (by simp) (by simp)) λde pH=>Ok.aM (AX pH.2) λha j5=>Ok.aM (G2 j5.2 (by simp) (by simp)) λew pI=>It _ ⟨pI.2,?_,?_⟩
     ·have h1:=sV.1 (by omega) (by omega) (by omega);have D:=pH.1
      simp only[mem_cons,not_mem_nil,or_false]at D ⊢;omega
     ·have h1:=sV.1 (by omega) (by omega) (by omega);have D:=pH.1;have aq:=j5.1 (by omega) (by omega) (by omega);have aZ:=pI.1
      simp only[mem_cons,not_mem_nil,or_false]at D aZ ⊢;omega
  ·rintro b ⟨ls,Qo,Qi⟩ vo ec ⟨ow,B2⟩;have U:b=i:=ec (by omega);subst U;refine hd _ ⟨?_,B2⟩;rw[show(a+1).toNat=a.toNat+1 by omega];exact ow.next (by omega)
 ·rintro a ⟨ls,ZA,Zr⟩ a0 iM ⟨g3,jy⟩;have aA:a=i:=iM (by omega);subst aA;have g3:qR R ls a.toNat 0:=g3;have eH:ls.length≤36:=by
   have:=g3.len;have:=T0 R.length (by omega) a.toNat (by omega);omega
  refine Ok.s ⟨⟨⟨?_,?_,λr aI=>?_,i3,g3.ok,λl aJ=>?_,λl aJ=>?_,g3.rE⟩,⟨?_,?_⟩,λr aI=>(mX r aI).2,λr aI=>?_⟩,jy⟩
  ·show R.length≤24;omega
  ·show ls.length≤60;omega
  ·have:=(mX r aI).1;omega
  ·obtain⟨i,j,x,y,ak,ax,aO,aL,bg,_⟩:=g3.at_ l aJ;exact⟨Gz.2 ⟨x,List.mem_of_getElem? ax,aL.symm⟩,Gz.2 ⟨y,List.mem_of_getElem? aO,bg.symm⟩⟩
  ·obtain⟨i,j,x,y,ak,ax,aO,aL,bg,_⟩:=g3.at_ l aJ;have:=Mi i3 ax aO ak;omega
  ·show 1≤R.length;omega
  ·show(R.length:Int)≤mI;omega
  ·have:=(mX r aI).1;omega
end
section
variable {g:bz}{t:dL}
def YS{pg:Type}{Q:pg→Prop}{k:Int×dL→ez→Option pg}(h:jP t)(bw:1≤g.bx.length∧g.bx.length≤1000)(hk:∀p r,jP p.2→r∈g.bx→r.cS∈ids g→Ok (k p r) Q):
  Ok (aM (oJ t (g.bx.length:Int)) λp=>aM (du g.bx p.1) λr=>k p r) Q:=
 Ok.aM (sB h (by omega)) λp aF=>Ok.aM (q4 aF.1.1 (aF.1.2.1 (by omega))) λr aI=>hk p r aF.2 aI.1 (List.mem_map.2 ⟨r,aI.1,rfl⟩)
def acq{n:Int}(h:jP t)(bw:g.bx.length≤1000)(aX:0≤n∧n≤1000):Ok (F9 t g n) (λp=>(p.1.Pairwise (·<·)∧(∀x∈p.1,x∈ids g)∧(p.1.length:Int)≤n)∧jP p.2):=by
 unfold F9;rw[iY (by omega) (by omega)];refine Ok.aM (sB h (by omega)) λq bP=>?_;have XB:=bP.1.2.1 (by omega);refine avT (λaj:cO×Int×cO×Int=>(aj.1.Pairwise (·<·)∧(∀x∈aj.1,x∈ids g)∧(aj.1.length:Int)+aj.2.1≤n∧0≤aj.2.1)∧jP (dL.mk aj.2.2.1 aj.2.2.2)) (λaj=>aj.2.1.toNat) ⟨⟨by simp,by simp,by simp;omega,bP.1.1⟩,bP.2⟩ (by simp only;omega) ?_;rintro⟨cw,i,L,A⟩ b4 ⟨⟨h1,D,aq,aZ⟩,bV⟩ hd;simp only at h1 D aq aZ;refine Ok.cs (λah=>?_) λah=>Ok.s ⟨⟨h1,D,by simp only;omega⟩,bV⟩;simp only[Bool.and_eq_true,decide_eq_true_eq]at ah;refine YS bV (by omega) λp r aF aI sR=>?_;rw[akn _ _ (by omega),cZ,iY (by omega) (by omega)];have:=R2 cw r.cS;refine hd _ ⟨⟨S1 h1,λx u=>?_,by simp only;omega,by simp only;omega⟩,aF⟩ (by simp only;omega);rcases P7.1 u with rfl|u
 ·exact sR
 ·exact D x u
end
end
end Go.Proofs.YtmnbolcmepihlaaGreat
