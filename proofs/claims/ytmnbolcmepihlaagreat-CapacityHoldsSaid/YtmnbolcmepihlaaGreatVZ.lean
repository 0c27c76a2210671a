/- gw iD of h7 of aR program. bM bN cu cg bz cv in ck. -/
import Derived.Test.YtmnbolcmepihlaaGreatVT
namespace Go.Proofs.YtmnbolcmepihlaaGreat
open Go Go.Proofs.Tryz
set_option maxRecDepth 100000
set_option linter.all false
variable {t:b0}
theorem ajz{d:dQ}{r:Int}(hm:Co t d=some r):ef prog 151 [] [.agg (dN t),.agg (qd d)] (ag r):=by
 refine eu func151 rfl rfl ?_;unfold Co at hm;refine bn [(0,.al 151002),(1,.al 151003)] [(2,.ptr 151002 0),(3,.ptr 151003 0)] [(151002,.cells 28 (dN t)),(151003,.cells 52 (qd d))]<|A.seq<|br [(2,aZ (ew bq d.ia))] [] [(11,.bool (decide (6<(d.ia.length:Int))))] ?_
 rcases cZ hm with⟨bk,hm⟩|⟨bk,hm⟩
 ·refine cM bk<|bn [] [(4,ag 3)] [] ?_
  cases hm;exact A.ret cC
 refine cL bk<|A.skip<|A.seq<|br [] [11] [(5,ag 1)]<|A.block<|A.En 3 1 rfl rfl rfl λfZ=>?_
 obtain⟨hA,hB,hE,hq,hm⟩:=iF hm;refine A.iS (l:=d.ia) (hn:=1) (B:=hA) (K:=hB) hm (λbp=>λav=>match av with|()=>[(2,.ptr 151002 0),(3,.ptr 151003 0),(5,ag (bp:Int))]) (λbp=>λav=>match av with|()=>[(151002,.cells 28 (dN t)),(151003,.cells 52 (qd d))]) ?_ ?_ ?_
 ·exact hK
 ·rintro bp aA dh ⟨⟩ hF cI hm;rw[hE]at hm;refine A.seq<|br [(3,aZ (ew bq d.ia))] [] [(16,.bool (decide ((bp:Int)<(d.ia.length:Int))))] ?_
  refine cM (ih cI)<|A.skip<|A.seq<|A.block ?_
  obtain⟨ej,h1,hm⟩:=bI hm;refine br [(4,eg (ix bq h1)),(9,eg (ix bq (hN cI)))] [16] [(30,.bool (decide (aA≤ej)))] ?_;rcases cZ hm with⟨bZ,hm⟩|⟨bZ,hm⟩
  ·refine cM bZ<|bn [] [(4,ag 25)] [] ?_
   cases hm;exact A.ret cC
  exact cL bZ<|A.skip<|fq [(1,aZ (hV cI fZ))] [5,30] [(5,ag ((bp+1:Nat):Int))]<|ek () hm
 rintro bp ⟨⟩ hF gO hm;rw[hq]at hm;refine A.seq<|br [(3,aZ (ew bq d.ia))] [] [(16,.bool (decide ((bp:Int)<(d.ia.length:Int))))] ?_
 refine cL (h8 gO)<|A.exit<|A.seq ?_
 obtain⟨eU,D,hm⟩:=bI hm;refine eV [(2,.al 151033),(5,qP 151536 (ap bq (bytes:=8) (by decide) D)),(6,aZ (ew bq eU))] [5,16] [(36,.own 151536),(37,ag (eU.length:Int)),(38,ag 0)] [] [(151536,.slice 3 1 (aD bq eU) 0 false)]<|A.block<|A.Jd 36 rfl rfl λfG=>?_
 obtain⟨ni,jS,nx,nz,hm⟩:=iF hm;refine A.iS (l:=eU) (hn:=0) (B:=ni) (K:=jS) hm (λdd=>λav=>match av with|()=>[(2,.ptr 151002 0),(3,.ptr 151003 0),(36,.own 151536),(37,ag (eU.length:Int)),(38,ag (dd:Int))]) (λdd=>λav=>match av with|()=>[(151002,.cells 28 (dN t)),(151003,.cells 52 (qd d)),(151536,.slice 3 1 (aD bq eU) 0 false)]) ?_ ?_ ?_
 ·exact hK
 ·rintro dd e2 jM ⟨⟩ jo gb hm;rw[nx]at hm;refine br [] [] [(39,.bool (decide ((dd:Int)<(eU.length:Int))))]<|A.seq<|cM (ih gb)<|A.skip<|A.seq<|A.block<|br [(0,eg (ix bq (hN gb))),(1,kz 151536 0 (ix bq (hN gb)))] [39] [(7,ag e2)] ?_
  obtain⟨a8,ak,hm⟩:=bI hm;refine br [(2,cE (Ta ak) QS)] [7] [(45,.bool (!a8))] ?_;rcases cZ hm with⟨c1,hm⟩|⟨c1,hm⟩
  ·refine cM c1<|bn [] [(4,ag 4)] [] ?_
   cases hm;exact A.ret cC
  exact cL c1<|A.skip<|fq [(0,aZ (hV gb fG))] [38,45] [(38,ag ((dd+1:Nat):Int))]<|ek () hm
 rintro dd ⟨⟩ jo kg hm;rw[nz]at hm;refine br [] [] [(39,.bool (decide ((dd:Int)<(eU.length:Int))))]<|A.seq<|cL (h8 kg)<|A.exit<|A.seq<|A.mid [(54,.bool ((decide (d.hM<1))||(decide (1000<d.hM))))] [] (λhk=>?_) ?_
 ·rcases mx (decide (d.hM<1))with fu|fu
  ·exact bn [(3,aZ (c9 fu)),(7,aZ (uG (q:=decide (1000<d.hM)) fu))] _ _ hk
  exact bn [(3,aZ (c9 fu)),(7,aZ (sx (q:=decide (1000<d.hM)) fu))] _ _ hk
 rcases cZ hm with⟨gl,hm⟩|⟨gl,hm⟩
 ·refine cM gl<|bn [] [(4,ag 2)] [] ?_
  cases hm;exact A.ret cC
 refine cL gl<|A.skip<|bn [] [(4,ag 0)] [] ?_
 cases hm;exact A.ret cC
theorem Kx{gh:List dQ}{r:Int}(hm:xB t gh=some r):ef prog 83 [] [.agg (dN t),bm hI gh] (ag r):=by
 refine eu func83 rfl rfl ?_;unfold xB at hm;refine bn [(0,.al 83002)] [(1,bm hI gh),(2,.ptr 83002 0)] [(83002,.cells 28 (dN t))]<|A.seq ?_
 obtain⟨a8,h1,hm⟩:=bI hm;refine br [(1,cE (Kv h1) IS)] [] [(10,.bool (!decide (a8=0)))] ?_;rcases cZ hm with⟨bk,hm⟩|⟨bk,hm⟩
 ·refine cM bk<|bn [] [(4,ag 1)] [] ?_
  cases hm;exact A.ret cC
 refine cL bk<|A.skip<|A.seq<|br [(1,aZ (ew hI gh))] [10] [(13,.bool (decide (12<(gh.length:Int))))] ?_
 rcases cZ hm with⟨bZ,hm⟩|⟨bZ,hm⟩
 ·refine cM bZ<|bn [] [(4,ag 3)] [] ?_
  cases hm;exact A.ret cC
 refine cL bZ<|A.skip<|A.seq<|br [(1,aZ (ew hI gh))] [1,13] [(14,bm hI gh),(15,ag (gh.length:Int)),(16,ag 0)]<|A.block<|A.jx 14 rfl λfZ=>?_
 obtain⟨hA,hB,hE,hq,hm⟩:=iF hm;refine A.iS (l:=gh) (hn:=0) (B:=hA) (K:=hB) hm (λbp=>λav=>match av with|()=>[(2,.ptr 83002 0),(14,bm hI gh),(15,ag (gh.length:Int)),(16,ag (bp:Int))]) (λbp=>λav=>match av with|()=>[(83002,.cells 28 (dN t))]) ?_ ?_ ?_
 ·exact hK
 ·rintro bp aA dh ⟨⟩ hF cI hm;rw[hE]at hm;refine br [] [] [(17,.bool (decide ((bp:Int)<(gh.length:Int))))]<|A.seq<|cM (ih cI)<|A.skip<|A.seq<|A.block<|eV [(0,eg (ix hI (hN cI))),(2,.al 83006)] [17] [(6,.ptr 83006 0)] [] [(83006,.cells 52 (qd aA))] ?_
  obtain⟨bt,D,hm⟩:=bI hm;refine eV [(2,cE (ajz D) aeB)] [6] [(7,ag bt)] [83006] []<|br [] [] [(24,.bool (!decide (bt=0)))] ?_
  rcases cZ hm with⟨c1,hm⟩|⟨c1,hm⟩
  ·refine cM c1<|bn [] [(4,ag bt)] [] ?_
   cases hm;exact A.ret cC
  exact cL c1<|A.skip<|fq [(0,aZ (hV cI fZ))] [16,7,24] [(16,ag ((bp+1:Nat):Int))]<|ek () hm
 rintro bp ⟨⟩ hF gO hm;rw[hq]at hm;refine br [] [] [(17,.bool (decide ((bp:Int)<(gh.length:Int))))]<|A.seq<|cL (h8 gO)<|A.exit<|bn [] [(4,ag 0)] [] ?_
 cases hm;exact A.ret cC
theorem Ub:kR prog 126 84 3 (ei b1) c2:=⟨underlying126,λ_=>rfl,λ_=>rfl,⟨_,underlying84,λ_ _=>rfl⟩,λa b w=>BI (by kernel_rfl) (by kernel_rfl) (DG a.bg b.bg a.aQ b.aQ w),λe a w=>by kernel_rfl,λa b h=>by cases a;cases b;simpa [c2]using h,λa=>by simp[ei,b1,valOf,uy,Instr.sameBits]⟩
theorem S2{r:(List (bh×Int))}(hm:zc t=some r):gi prog 84 [] [.agg (dN t)] (λa az=>a=.dm 500008400∧az=[(500008400,.map 84 3 (dz (ei b1) (c5 .i64) r))]):=by
 refine eu func84 rfl rfl ?_;unfold zc at hm;refine bn [(0,.al 84001)] [(1,.ptr 84001 0)] [(84001,.cells 28 (dN t))]<|eV [(0,J1 84006 84 3)] [] [(3,.dm 84006)] [] [(84006,.map 84 3 (dz (ei b1) (c5 .i64) []))]<|A.seq<|eV [(2,aZ (ew eW t.Links))] [1] [(8,bm eW t.Links),(9,ag (t.Links.length:Int)),(10,ag 0)] [84001] []<|A.block<|A.jx 8 rfl λfZ=>?_
 obtain⟨hA,hB,hE,hq,hm⟩:=iF hm;refine A.iS (l:=t.Links) (hn:=0) (B:=hA) (K:=hB) hm (λbp=>λcc=>[(3,.dm 84006),(8,bm eW t.Links),(9,ag (t.Links.length:Int)),(10,ag (bp:Int))]) (λbp=>λcc=>[(84006,.map 84 3 (dz (ei b1) (c5 .i64) cc))]) ?_ ?_ ?_
 ·exact hK
 ·rintro bp aA dh cc hF cI hm;rw[hE]at hm;exact br [] [] [(11,.bool (decide ((bp:Int)<(t.Links.length:Int))))]<|A.seq<|cM (ih cI)<|A.skip<|A.seq<|A.block<|eV [(0,eg (ix eW (hN cI))),(2,.al 84005)] [11] [(5,.ptr 84005 0)] [] [(84005,.cells 62 (gK aA))]<|lg [(16,Sh cc (bh.mk aA.A aA.B) (c5 .i64) aA.kY Ub rfl),(17,Sh (ga c2 cc (bh.mk aA.A aA.B) aA.kY) (bh.mk aA.B aA.A) (c5 .i64) aA.kY Ub rfl)] [5] [] [84006,84005] [(84006,.map 84 3 (dz (ei b1) (c5 .i64) (ga c2 (ga c2 cc (bh.mk aA.A aA.B) aA.kY) (bh.mk aA.B aA.A) aA.kY)))]<|fq [(0,aZ (hV cI fZ))] [10] [(10,ag ((bp+1:Nat):Int))]<|ek (ga c2 (ga c2 cc (bh.mk aA.A aA.B) aA.kY) (bh.mk aA.B aA.A) aA.kY) hm
 rintro bp cc hF gO hm;rw[hq]at hm;refine br [] [] [(11,.bool (decide ((bp:Int)<(t.Links.length:Int))))]<|A.seq<|cL (h8 gO)<|A.exit<|br [] [3,8,9,10,11] [(2,.dm 84006)]<|A.ret ?_
 obtain rfl:=nP hm;exact A.fin cm [.kV 84006 500008400] rfl (by kernel_rfl)
variable {r:(List bL)}
theorem aib{eN:List bL}{BD:bL→Option Bool}{wI:Nat}{yE:List U}(HV:dk prog wI)(HW:∀(jc:bL) (q:Bool),BD jc=some q→ef prog wI [] ([.agg (pn jc)]++yE) (.bool q))(hm:BE eN BD=some r):gi prog 152 [(508015200,.slice 175 3 (aD eo eN) 0 false)] [.own 508015200,.gp wI yE] (λa az=>a=.own 500015200∧az=[(500015200,.slice 175 3 (aD eo r) 0 false)]):=by
 refine eu func152 rfl rfl ?_;unfold BE at hm;refine bn [] [(0,.own 508015200),(1,.gp wI yE)] [(508015200,.slice 175 3 (aD eo eN) 0 false)] ?_;obtain⟨a8,h1,hm⟩:=bI hm;refine br [(2,hle [508015200] (aic (nV:=HV) (nU:=HW) h1) aeM)] [] [(5,ag a8)]<|A.seq<|br [] [] [(12,.bool (decide (a8=(-1:Int))))] ?_
 rcases cZ hm with⟨bk,hm⟩|⟨bk,hm⟩
 ·refine cM bk<|br [] [0,1,5,12] [(4,.own 508015200)]<|A.ret ?_
  obtain rfl:=nP hm;exact A.fin cm [.rn 508015200 500015200] rfl (by kernel_rfl)
 refine cL bk<|A.skip<|A.seq<|br [] [12] [(6,ag (bK (a8+1)))]<|A.block ?_
 obtain⟨lJ,hG,lU,hm⟩:=qY hm;refine A.q7 (F:=lJ) hm (λav=>match av with|(mI,cr,fN)=>[(0,.own 600152000),(1,.gp wI yE),(5,ag cr),(6,ag fN)]) (λav=>match av with|(mI,cr,fN)=>[(600152000,.slice 175 3 (aD eo mI) 0 false)]) ?_ ?_
 ·exact b8.go [.rn 508015200 600152000] [] (by kernel_rfl)
 rintro dh ⟨mI,cr,fN⟩ hm;rw[lU]at hm;refine A.seq<|br [(2,aZ (ew eo mI))] [] [(19,.bool (decide (fN<(mI.length:Int))))] ?_
 rcases cZ hm with⟨bZ,hm⟩|⟨bZ,hm⟩
 ·refine cM bZ<|A.skip ?_
  obtain⟨fD,kr,hm⟩:=lu hm;refine A.J (J:=fD) (r:=r) (λav=>match av with|(AO,zF)=>[(0,.own 600152000),(1,.gp wI yE),(5,ag zF),(6,ag fN)]) (λav=>match av with|(AO,zF)=>[(600152000,.slice 175 3 (aD eo AO) 0 false)]) ?_ ?_
  ·refine A.block ?_;obtain⟨ej,D,hm⟩:=bI hm;refine eV [(2,eg (ix eo D)),(3,kz 600152000 0 (ix eo D)),(4,.al 152007)] [19] [(7,.ptr 152007 0)] [] [(152007,.cells 175 (pn ej))] ?_;obtain⟨bt,ak,hm⟩:=bI hm;refine br [(2,n3 (HW _ _ ak) HV)] [] [(29,.bool (!bt))] ?_;rcases cZ hm with⟨c1,hm⟩|⟨c1,hm⟩
   ·refine cM c1 ?_;obtain⟨hS,bc,hm⟩:=bI hm;obtain⟨eU,bX,hm⟩:=bI hm;exact eV [(3,eg (ix eo bc)),(4,zB 600152000 (eY eo (off:=0) (ca:=(pn ej)) bc bX rfl) (Gs bc).1.1)] [7,29] [] [600152000,152007] [(600152000,.slice 175 3 (aD eo eU) 0 false)]<|fq [] [5] [(5,ag (bK (cr+1)))]<|ek (eU,bK (cr+1)) hm
   exact cL c1<|A.skip<|ek (mI,cr) hm
  rintro⟨AO,zF⟩ hm;rw[kr]at hm;exact fq [] [6] [(6,ag (bK (fN+1)))]<|ek (AO,zF,bK (fN+1)) hm
 refine cL bZ<|A.exit ?_
 obtain⟨dV,hm⟩:=pT hm;have dV:=of_decide_eq_true dV;refine A.seq (A.afu (T:=111) 0 5 36 37 38 175 3 600152000 (zr:=eo.enc (bL.mk (bh.mk (0:Int) (0:Int)) (0:Int))) ⟨rfl,rfl,rfl⟩ ⟨rfl,rfl,rfl⟩ ⟨rfl,rfl,rfl⟩ ⟨rfl,rfl,rfl⟩ ⟨Nat.le_of_ble_eq_true rfl,Nat.le_of_ble_eq_true rfl,Nat.le_of_ble_eq_true rfl⟩ (by decide) Il zeroValue175 (by decide) (λI=>by show b9 I [ag (((bL.mk (bh.mk (0:Int) (0:Int)) (0:Int)).Hop).bg),ag (((bL.mk (bh.mk (0:Int) (0:Int)) (0:Int)).Hop).aQ),ag ((bL.mk (bh.mk (0:Int) (0:Int)) (0:Int)).gr)] _;simp only[b9,aO];exact⟨_,_,rfl,rfl,⟨_,_,rfl,rfl,⟨_,_,rfl,rfl,rfl⟩⟩⟩) rfl rfl rfl rfl (aee eo dV) ⟨rfl,rfl,rfl⟩ (abP eo mI cr.toNat (bL.mk (bh.mk (0:Int) (0:Int)) (0:Int))) ?_);show aY _ _ _ [(0,.own 600152000),(1,.gp wI yE),(5,ag cr),(6,ag fN),(19,.bool (decide (fN<(mI.length:Int))))] [(600152000,.slice 175 3 (aD eo (mI.take cr.toNat++List.replicate (mI.length-cr.toNat) (bL.mk (bh.mk (0:Int) (0:Int)) (0:Int)))) 0 false)];obtain⟨nJ,fF,hm⟩:=bI hm;refine bn [(2,agu 152541 Il (sl eo fF))] [(4,.own 152541)] [(152541,.slice 175 3 (aD eo nJ) 0 false)]<|A.ret ?_
 obtain rfl:=nP hm;exact A.fin cm [.kV 152541 500015200] rfl (by kernel_rfl)
theorem VF:kR prog 126 84 3 (ei b1) c2:=⟨underlying126,λ_=>rfl,λ_=>rfl,⟨_,underlying84,λ_ _=>rfl⟩,λa b w=>BI (by kernel_rfl) (by kernel_rfl) (DG a.bg b.bg a.aQ b.aQ w),λe a w=>by kernel_rfl,λa b h=>by cases a;cases b;simpa [c2]using h,λa=>by simp[ei,b1,valOf,uy,Instr.sameBits]⟩
theorem aiE{a:bL}{l7:List (bh×Int)}{yY:Int}{r:Bool}(hm:EG a l7 yY=some r):ef prog 153 [] [.agg (pn a),.fP [.de (dz (ei b1) (c5 .i64) l7)],.fP [ag yY]] (.bool r):=by
 refine eu func153 rfl rfl ?_;unfold EG at hm;refine bn [(0,.al 153003)] [(1,.fP [.de (dz (ei b1) (c5 .i64) l7)]),(2,.fP [ag yY]),(3,.ptr 153003 0)] [(153003,.cells 175 (pn a))]<|bn [(3,IN l7 a.Hop (c5 .i64) (0:Int) VF (Hg (k:=.i64) zeroValue3))] [(4,.bool (decide (((c3 c2 l7 a.Hop).getD (0:Int))<yY)))] [] ?_
 cases hm;exact A.ret cC
variable {j4:List (bh×Int)}{jk:Int}
theorem SR(hm:y9 j4 t jk=some r):gi prog 85 [] [.de (dz (ei b1) (c5 .i64) j4),.agg (dN t),ag jk] (λa az=>a=.own 500008500∧az=[(500008500,.slice 175 3 (aD eo r) 0 false)]):=by
 refine eu func85 rfl rfl ?_;unfold y9 at hm;refine bn [(0,.al 85003),(1,.al 85004),(2,.al 85005)] [(3,.ptr 85003 0),(4,.ptr 85004 0),(5,.ptr 85005 0)] [(85003,.cells 126 [.de (dz (ei b1) (c5 .i64) j4)]),(85004,.cells 28 (dN t)),(85005,.cells 3 [ag jk])]<|A.weak ((b8.go (dx:=[(3,.ptr 85003 0),(4,.ptr 85004 0),(5,.ptr 85005 0)]) (σ2:=[(85003,.cells 126 [.de (dz (ei b1) (c5 .i64) j4)]),(85004,.cells 28 (dN t)),(85005,.cells 3 [ag jk])]) [.sc 85003 []] [] (by kernel_rfl)).trans (b8.KC (T:=126) (cs:=[.de (dz (ei b1) (c5 .i64) j4)]) 3 85003 (by kernel_rfl) (by kernel_rfl) (by kernel_rfl)))<|A.weak ((b8.go (dx:=[(4,.ptr 85004 0),(5,.ptr 85005 0),(3,.fP [.de (dz (ei b1) (c5 .i64) j4)])]) (σ2:=[(85004,.cells 28 (dN t)),(85005,.cells 3 [ag jk])]) [.sc 85005 []] [] (by kernel_rfl)).trans (b8.KC (T:=3) (cs:=[ag jk]) 5 85005 (by kernel_rfl) (by kernel_rfl) (by kernel_rfl))) ?_
 obtain⟨a8,h1,hm⟩:=bI hm;obtain⟨bt,D,hm⟩:=bI hm;refine bn [(1,gN [500006400] (als h1) afn),(2,R2),(3,gN [500015200] (sQ.at [(508015200,500006400)] (aib (wI:=153) (yE:=[.fP [.de (dz (ei b1) (c5 .i64) j4)],.fP [ag jk]]) (HV:=aeD) (HW:=λ_ _ h=>aiE h) D)) aeC)] [(6,.own 500015200)] [(500015200,.slice 175 3 (aD eo bt) 0 false)]<|A.ret ?_
 obtain rfl:=nP hm;exact A.fin cm [.kV 500015200 500008500] rfl (by kernel_rfl)
theorem F1:kR prog 126 84 3 (ei b1) c2:=⟨underlying126,λ_=>rfl,λ_=>rfl,⟨_,underlying84,λ_ _=>rfl⟩,λa b w=>BI (by kernel_rfl) (by kernel_rfl) (DG a.bg b.bg a.aQ b.aQ w),λe a w=>by kernel_rfl,λa b h=>by cases a;cases b;simpa [c2]using h,λa=>by simp[ei,b1,valOf,uy,Instr.sameBits]⟩
theorem Kj{hc:c0}{r:Bool×(List (bh×Int))}(hm:qH j4 hc jk=some r):gi prog 86 [(540000860,.map 84 3 (dz (ei b1) (c5 .i64) j4))] [.dm 540000860,.agg (kj hc),ag jk] (λa az=>a=.bool r.1∧az=[(540000860,.map 84 3 (dz (ei b1) (c5 .i64) r.2))]):=by
 refine eu func86 rfl rfl ?_;unfold qH at hm;refine bn [(0,.al 86004)] [(0,.dm 540000860),(2,ag jk),(4,.ptr 86004 0)] [(540000860,.map 84 3 (dz (ei b1) (c5 .i64) j4)),(86004,.cells 36 (kj hc))]<|br [] [] [(7,.bool true)]<|A.seq<|eV [(2,aZ (ew b1 hc.Links))] [4] [(11,bm b1 hc.Links),(12,ag (hc.Links.length:Int)),(13,ag 0)] [86004] []<|A.block<|A.jx 11 rfl λfZ=>?_
 obtain⟨hA,hB,hE,hq,hm⟩:=iF hm;refine A.iS (l:=hc.Links) (hn:=0) (B:=hA) (K:=hB) hm (λbp=>λav=>match av with|(th,cc)=>[(0,.dm 540000860),(2,ag jk),(7,.bool th),(11,bm b1 hc.Links),(12,ag (hc.Links.length:Int)),(13,ag (bp:Int))]) (λbp=>λav=>match av with|(th,cc)=>[(540000860,.map 84 3 (dz (ei b1) (c5 .i64) cc))]) ?_ ?_ ?_
 ·exact hK
 ·rintro bp aA dh ⟨th,cc⟩ hF cI hm;rw[hE]at hm;refine br [] [] [(14,.bool (decide ((bp:Int)<(hc.Links.length:Int))))]<|A.seq<|cM (ih cI)<|A.skip<|A.seq<|A.block<|eV [(0,eg (ix b1 (hN cI))),(2,.al 86009)] [14] [(9,.ptr 86009 0)] [] [(86009,.cells 84 (k8 aA))]<|A.DZ (d:=540000860) rfl λy4 Jj=>?_
  obtain⟨h1,hm⟩:=pT hm;refine bn [(2,IN cc aA (c5 .i64) (0:Int) F1 (Hg (k:=.i64) zeroValue3)),(5,QL cc aA (c5 .i64) ((c3 c2 cc aA).getD (0:Int)) F1 (Ol h1)),(7,QM y4 Jj cc aA (c5 .i64) (bK (((c3 c2 cc aA).getD (0:Int))-jk)) F1 rfl h1)] [(0,.dm 540000860),(2,ag jk),(7,.bool th),(11,bm b1 hc.Links),(12,ag (hc.Links.length:Int)),(13,ag (bp:Int)),(9,.ptr 86009 0)] [(540000860,.map 84 3 (dz (ei b1) (c5 .i64) (ga c2 cc aA (bK (((c3 c2 cc aA).getD (0:Int))-jk))))),(86009,.cells 84 (k8 aA))] ?_;rcases cZ hm with⟨bk,hm⟩|⟨bk,hm⟩
  ·exact lg [(1,aZ (c9 bk)),(4,ahg (ga c2 cc aA (bK (((c3 c2 cc aA).getD (0:Int))-jk))) aA (c5 .i64) (0:Int) F1 (Hg (k:=.i64) zeroValue3))] [7,9] [(7,.bool (decide (0≤((c3 c2 (ga c2 cc aA (bK (((c3 c2 cc aA).getD (0:Int))-jk))) aA).getD (0:Int)))))] [86009] []<|fq [(0,aZ (hV cI fZ))] [13] [(13,ag ((bp+1:Nat):Int))]<|ek (decide (0≤((c3 c2 (ga c2 cc aA (bK (((c3 c2 cc aA).getD (0:Int))-jk))) aA).getD (0:Int))),ga c2 cc aA (bK (((c3 c2 cc aA).getD (0:Int))-jk))) hm
  exact lg [(1,aZ (c9 bk))] [7,9] [(7,.bool false)] [86009] []<|fq [(0,aZ (hV cI fZ))] [13] [(13,ag ((bp+1:Nat):Int))]<|ek (false,ga c2 cc aA (bK (((c3 c2 cc aA).getD (0:Int))-jk))) hm
 rintro bp ⟨th,cc⟩ hF gO hm;rw[hq]at hm;refine br [] [] [(14,.bool (decide ((bp:Int)<(hc.Links.length:Int))))]<|A.seq<|cL (h8 gO)<|A.exit<|br [] [0,2,7,11,12,13,14] [(6,.bool th)] ?_
 cases hm;exact A.ret cC
theorem Fi{cN:c0}{r:Bool}(hm:zg cN=some r):ef prog 87 [] [.agg (kj cN)] (.bool r):=by
 refine eu func87 rfl rfl ?_;unfold zg at hm;refine bn [(0,.al 87001)] [(1,.ptr 87001 0)] [(87001,.cells 36 (kj cN))]<|A.mid [(2,.bool ((decide (cN.er=0))&&(decide ((cN.Links.length:Int)=(0:Int)))))] [] (λhk=>?_) ?_
 ·rcases mx (decide (cN.er=0))with bk|bk
  ·exact bn [(3,aZ (c9 bk)),(6,aZ (ew b1 cN.Links)),(9,aZ (wU (q:=decide ((cN.Links.length:Int)=(0:Int))) bk))] _ _ hk
  exact bn [(3,aZ (c9 bk)),(9,aZ (wV (q:=decide ((cN.Links.length:Int)=(0:Int))) bk))] _ _ hk
 cases hm;exact A.ret cC
end Go.Proofs.YtmnbolcmepihlaaGreat
