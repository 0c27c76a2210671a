/- The walks of cE of the program. No condition but bf aM stand in each. -/
import Derived.Test.YtmnbolcmepihlaaGreatVT
namespace Go.Proofs.YtmnbolcmepihlaaGreat
open Go Go.Proofs.Tryz
set_option maxRecDepth 100000
set_option linter.all false
variable {t:ai}
theorem wj{d:aN}{r:Int}(hm:jH t d=some r):RO prog 151 [] [.agg (k2 t),.agg (k8 d)] (i6 r):=by
 refine aZ func151 rfl rfl ?_;unfold jH at hm;refine qS [(0,.al 151002),(1,.al 151003)] [(2,.ptr 151002 0),(3,.ptr 151003 0)] [(151002,.cells 28 (k2 t)),(151003,.cells 52 (k8 d))]<|A.seq<|qDs [(2,hto (lnE ak d.aV))] [] [(11,.bool (decide (6<(d.aV.length:Int))))] ?_
 rcases aA hm with⟨c1,hm⟩|⟨c1,hm⟩
 ·refine qT c1<|qS [] [(4,i6 3)] [] ?_
  cases hm;exact A.ret qE
 refine qF c1<|A.skip<|A.seq<|qDs [] [11] [(5,i6 1)]<|A.block<|A.bC 3 1 rfl rfl rfl λhb1=>?_
 obtain⟨B1,K1,hB1,hK1,hm⟩:=bh hm;refine A.lpI (l:=d.aV) (j0:=1) (B:=B1) (K:=K1) hm (λj1=>λ()=>[(2,.ptr 151002 0),(3,.ptr 151003 0),(5,i6 (j1:Int))]) (λj1=>λ()=>[(151002,.cells 28 (k2 t)),(151003,.cells 52 (k8 d))]) ?_ ?_ ?_
 ·exact qW
 ·rintro j1 e1 Z1 ⟨⟩ hj1 hx1 hm;rw[hB1]at hm;refine A.seq<|qDs [(3,hto (lnE ak d.aV))] [] [(16,.bool (decide ((j1:Int)<(d.aV.length:Int))))] ?_
  refine qT (ltT hx1)<|A.skip<|A.seq<|A.block ?_
  obtain⟨e_1,h1,hm⟩:=aa hm;refine qDs [(4,hix (ix ak h1)),(9,hix (ix ak (bu hx1)))] [16] [(30,.bool (decide (e1≤e_1)))] ?_;rcases aA hm with⟨c2,hm⟩|⟨c2,hm⟩
  ·refine qT c2<|qS [] [(4,i6 25)] [] ?_
   cases hm;exact A.ret qE
  exact qF c2<|A.skip<|qGs [(1,hto (inc hx1 hb1))] [5,30] [(5,i6 ((j1+1:Nat):Int))]<|qX () hm
 rintro j1 ⟨⟩ hj1 hl1 hm;rw[hK1]at hm;refine A.seq<|qDs [(3,hto (lnE ak d.aV))] [] [(16,.bool (decide ((j1:Int)<(d.aV.length:Int))))] ?_
 refine qF (ltF hl1)<|A.exit<|A.seq ?_
 obtain⟨l_1,h2,hm⟩:=aa hm;refine qD [(2,.al 151033),(5,hap 151536 (ap ak (bytes:=8) (by decide) h2)),(6,hto (lnE ak l_1))] [5,16] [(36,.own 151536),(37,i6 (l_1.length:Int)),(38,i6 0)] [] [(151536,.slice 3 1 (ml ak l_1) 0 false)]<|A.block<|A.bW 36 rfl rfl λhb2=>?_
 obtain⟨B2,K2,hB2,hK2,hm⟩:=bh hm;refine A.lpI (l:=l_1) (j0:=0) (B:=B2) (K:=K2) hm (λj2=>λ()=>[(2,.ptr 151002 0),(3,.ptr 151003 0),(36,.own 151536),(37,i6 (l_1.length:Int)),(38,i6 (j2:Int))]) (λj2=>λ()=>[(151002,.cells 28 (k2 t)),(151003,.cells 52 (k8 d)),(151536,.slice 3 1 (ml ak l_1) 0 false)]) ?_ ?_ ?_
 ·exact qW
 ·rintro j2 e2 Z2 ⟨⟩ hj2 hx2 hm;rw[hB2]at hm;refine qDs [] [] [(39,.bool (decide ((j2:Int)<(l_1.length:Int))))]<|A.seq<|qT (ltT hx2)<|A.skip<|A.seq<|A.block<|qDs [(0,hix (ix ak (bu hx2))),(1,hlo 151536 0 (ix ak (bu hx2)))] [39] [(7,i6 e2)] ?_
  obtain⟨aq,h3,hm⟩:=aa hm;refine qDs [(2,hro (rJ h3) apo)] [7] [(45,.bool (!aq))] ?_;rcases aA hm with⟨c3,hm⟩|⟨c3,hm⟩
  ·refine qT c3<|qS [] [(4,i6 4)] [] ?_
   cases hm;exact A.ret qE
  exact qF c3<|A.skip<|qGs [(0,hto (inc hx2 hb2))] [38,45] [(38,i6 ((j2+1:Nat):Int))]<|qX () hm
 rintro j2 ⟨⟩ hj2 hl2 hm;rw[hK2]at hm;refine qDs [] [] [(39,.bool (decide ((j2:Int)<(l_1.length:Int))))]<|A.seq<|qF (ltF hl2)<|A.exit<|A.seq<|A.mid [(54,.bool ((decide (d.bM<1))||(decide (1000<d.bM))))] [] (λhk=>?_) ?_
 ·rcases tf (decide (d.bM<1))with c4|c4
  ·exact qS [(3,hto (bE c4)),(7,hto (orT (q:=decide (1000<d.bM)) c4))] _ _ hk
  exact qS [(3,hto (bE c4)),(7,hto (orF (q:=decide (1000<d.bM)) c4))] _ _ hk
 rcases aA hm with⟨c5,hm⟩|⟨c5,hm⟩
 ·refine qT c5<|qS [] [(4,i6 2)] [] ?_
  cases hm;exact A.ret qE
 refine qF c5<|A.skip<|qS [] [(4,i6 0)] [] ?_
 cases hm;exact A.ret qE
theorem jP{aP:List aN}{r:Int}(hm:ga t aP=some r):RO prog 83 [] [.agg (k2 t),lf bH aP] (i6 r):=by
 refine aZ func83 rfl rfl ?_;unfold ga at hm;refine qS [(0,.al 83002)] [(1,lf bH aP),(2,.ptr 83002 0)] [(83002,.cells 28 (k2 t))]<|A.seq ?_
 obtain⟨aq,h1,hm⟩:=aa hm;refine qDs [(1,hro (mU h1) aie)] [] [(10,.bool (!decide (aq=0)))] ?_;rcases aA hm with⟨c1,hm⟩|⟨c1,hm⟩
 ·refine qT c1<|qS [] [(4,i6 1)] [] ?_
  cases hm;exact A.ret qE
 refine qF c1<|A.skip<|A.seq<|qDs [(1,hto (lnE bH aP))] [10] [(13,.bool (decide (12<(aP.length:Int))))] ?_
 rcases aA hm with⟨c2,hm⟩|⟨c2,hm⟩
 ·refine qT c2<|qS [] [(4,i6 3)] [] ?_
  cases hm;exact A.ret qE
 refine qF c2<|A.skip<|A.seq<|qDs [(1,hto (lnE bH aP))] [1,13] [(14,lf bH aP),(15,i6 (aP.length:Int)),(16,i6 0)]<|A.block<|A.bS 14 rfl λhb1=>?_
 obtain⟨B1,K1,hB1,hK1,hm⟩:=bh hm;refine A.lpI (l:=aP) (j0:=0) (B:=B1) (K:=K1) hm (λj1=>λ()=>[(2,.ptr 83002 0),(14,lf bH aP),(15,i6 (aP.length:Int)),(16,i6 (j1:Int))]) (λj1=>λ()=>[(83002,.cells 28 (k2 t))]) ?_ ?_ ?_
 ·exact qW
 ·rintro j1 e1 Z1 ⟨⟩ hj1 hx1 hm;rw[hB1]at hm;refine qDs [] [] [(17,.bool (decide ((j1:Int)<(aP.length:Int))))]<|A.seq<|qT (ltT hx1)<|A.skip<|A.seq<|A.block<|qD [(0,hix (ix bH (bu hx1))),(2,.al 83006)] [17] [(6,.ptr 83006 0)] [] [(83006,.cells 52 (k8 e1))] ?_
  obtain⟨aF,h2,hm⟩:=aa hm;refine qD [(2,hro (wj h2) asj)] [6] [(7,i6 aF)] [83006] []<|qDs [] [] [(24,.bool (!decide (aF=0)))] ?_
  rcases aA hm with⟨c3,hm⟩|⟨c3,hm⟩
  ·refine qT c3<|qS [] [(4,i6 aF)] [] ?_
   cases hm;exact A.ret qE
  exact qF c3<|A.skip<|qGs [(0,hto (inc hx1 hb1))] [16,7,24] [(16,i6 ((j1+1:Nat):Int))]<|qX () hm
 rintro j1 ⟨⟩ hj1 hl1 hm;rw[hK1]at hm;refine qDs [] [] [(17,.bool (decide ((j1:Int)<(aP.length:Int))))]<|A.seq<|qF (ltF hl1)<|A.exit<|qS [] [(4,i6 0)] [] ?_
 cases hm;exact A.ret qE
theorem aad:jE prog 126 84 3 (kv aJ) bA:=⟨underlying126,λ_=>rfl,λ_=>rfl,⟨_,underlying84,λ_ _=>rfl⟩,λa b w=>eqK (by kernel_rfl) (by kernel_rfl) (zH a.aD b.aD a.To b.To w),λe a w=>by kernel_rfl,λa b h=>by cases a;cases b;simpa [bA]using h,λa=>by simp[kv,aJ,valOf,pz,Instr.sameBits]⟩
theorem mX{r:(List (az×Int))}(hm:gB t=some r):b9 prog 84 [] [.agg (k2 t)] (λa σ'=>a=.bX 500008400∧σ'=[(500008400,.map 84 3 (bG (kv aJ) (vI .i64) r))]):=by
 refine aZ func84 rfl rfl ?_;unfold gB at hm;refine qS [(0,.al 84001)] [(1,.ptr 84001 0)] [(84001,.cells 28 (k2 t))]<|qD [(0,hmm 84006 84 3)] [] [(3,.bX 84006)] [] [(84006,.map 84 3 (bG (kv aJ) (vI .i64) []))]<|A.seq<|qD [(2,hto (lnE bD t.Links))] [1] [(8,lf bD t.Links),(9,i6 (t.Links.length:Int)),(10,i6 0)] [84001] []<|A.block<|A.bS 8 rfl λhb1=>?_
 obtain⟨B1,K1,hB1,hK1,hm⟩:=bh hm;refine A.lpI (l:=t.Links) (j0:=0) (B:=B1) (K:=K1) hm (λj1=>λm_1=>[(3,.bX 84006),(8,lf bD t.Links),(9,i6 (t.Links.length:Int)),(10,i6 (j1:Int))]) (λj1=>λm_1=>[(84006,.map 84 3 (bG (kv aJ) (vI .i64) m_1))]) ?_ ?_ ?_
 ·exact qW
 ·rintro j1 e1 Z1 m_1 hj1 hx1 hm;rw[hB1]at hm;exact qDs [] [] [(11,.bool (decide ((j1:Int)<(t.Links.length:Int))))]<|A.seq<|qT (ltT hx1)<|A.skip<|A.seq<|A.block<|qD [(0,hix (ix bD (bu hx1))),(2,.al 84005)] [11] [(5,.ptr 84005 0)] [] [(84005,.cells 62 (k1 e1))]<|qG [(16,hmK m_1 (az.mk e1.A e1.B) (vI .i64) e1.dZ aad rfl),(17,hmK (er bA m_1 (az.mk e1.A e1.B) e1.dZ) (az.mk e1.B e1.A) (vI .i64) e1.dZ aad rfl)] [5] [] [84006,84005] [(84006,.map 84 3 (bG (kv aJ) (vI .i64) (er bA (er bA m_1 (az.mk e1.A e1.B) e1.dZ) (az.mk e1.B e1.A) e1.dZ)))]<|qGs [(0,hto (inc hx1 hb1))] [10] [(10,i6 ((j1+1:Nat):Int))]<|qX (er bA (er bA m_1 (az.mk e1.A e1.B) e1.dZ) (az.mk e1.B e1.A) e1.dZ) hm
 rintro j1 m_1 hj1 hl1 hm;rw[hK1]at hm;refine qDs [] [] [(11,.bool (decide ((j1:Int)<(t.Links.length:Int))))]<|A.seq<|qF (ltF hl1)<|A.exit<|qDs [] [3,8,9,10,11] [(2,.bX 84006)]<|A.ret ?_
 obtain rfl:=some_inj hm;exact A.fin W0 [.sw 84006 500008400] rfl (by kernel_rfl)
variable {r:(List ah)}
theorem k9{sa0:List ah}{del:ah→Option Bool}{tr:Nat}{vM:List AV}(afm:aO prog tr)(afn:∀(y0:ah) (q:Bool),del y0=some q→RO prog tr [] ([.agg (k4 y0)]++vM) (.bool q))(hm:dH sa0 del=some r):b9 prog 152 [(508015200,.slice 175 3 (ml aH sa0) 0 false)] [.own 508015200,.cfn tr vM] (λa σ'=>a=.own 500015200∧σ'=[(500015200,.slice 175 3 (ml aH r) 0 false)]):=by
 refine aZ func152 rfl rfl ?_;unfold dH at hm;refine qS [] [(0,.own 508015200),(1,.cfn tr vM)] [(508015200,.slice 175 3 (ml aH sa0) 0 false)] ?_;obtain⟨aq,h1,hm⟩:=aa hm;refine qDs [(2,hle [508015200] (lN (f_k:=afm) (f_f:=afn) h1) asu)] [] [(5,i6 aq)]<|A.seq<|qDs [] [] [(12,.bool (decide (aq=(-1:Int))))] ?_
 rcases aA hm with⟨c1,hm⟩|⟨c1,hm⟩
 ·refine qT c1<|qDs [] [0,1,5,12] [(4,.own 508015200)]<|A.ret ?_
  obtain rfl:=some_inj hm;exact A.fin W0 [.rn 508015200 500015200] rfl (by kernel_rfl)
 refine qF c1<|A.skip<|A.seq<|qDs [] [12] [(6,i6 (w64 (aq+1)))]<|A.block ?_
 obtain⟨F1,n1,hF1,hm⟩:=fW hm;refine A.lpW (F:=F1) hm (λ(mq,i_1,j_1)=>[(0,.own 600152000),(1,.cfn tr vM),(5,i6 i_1),(6,i6 j_1)]) (λ(mq,i_1,j_1)=>[(600152000,.slice 175 3 (ml aH mq) 0 false)]) ?_ ?_
 ·exact aU.go [.rn 508015200 600152000] [] (by kernel_rfl)
 rintro Z1 ⟨mq,i_1,j_1⟩ hm;rw[hF1]at hm;refine A.seq<|qDs [(2,hto (lnE aH mq))] [] [(19,.bool (decide (j_1<(mq.length:Int))))] ?_
 rcases aA hm with⟨c2,hm⟩|⟨c2,hm⟩
 ·refine qT c2<|A.skip ?_
  obtain⟨J1,hJ1,hm⟩:=cO hm;refine A.J (J:=J1) (r:=r) (λ(aaS,i_2)=>[(0,.own 600152000),(1,.cfn tr vM),(5,i6 i_2),(6,i6 j_1)]) (λ(aaS,i_2)=>[(600152000,.slice 175 3 (ml aH aaS) 0 false)]) ?_ ?_
  ·refine A.block ?_;obtain⟨e_1,h2,hm⟩:=aa hm;refine qD [(2,hix (ix aH h2)),(3,hlo 600152000 0 (ix aH h2)),(4,.al 152007)] [19] [(7,.ptr 152007 0)] [] [(152007,.cells 175 (k4 e_1))] ?_;obtain⟨aF,h3,hm⟩:=aa hm;refine qDs [(2,hrf (afn _ _ h3) afm)] [] [(29,.bool (!aF))] ?_;rcases aA hm with⟨c3,hm⟩|⟨c3,hm⟩
   ·refine qT c3 ?_;obtain⟨e_2,h4,hm⟩:=aa hm;obtain⟨l_1,h5,hm⟩:=aa hm;exact qD [(3,hix (ix aH h4)),(4,hso 600152000 (st aH (off:=0) (ca:=(k4 e_1)) h4 h5 rfl) (oA h4).1.1)] [7,29] [] [600152000,152007] [(600152000,.slice 175 3 (ml aH l_1) 0 false)]<|qGs [] [5] [(5,i6 (w64 (i_1+1)))]<|qX (l_1,w64 (i_1+1)) hm
   exact qF c3<|A.skip<|qX (mq,i_1) hm
  rintro⟨aaS,i_2⟩ hm;rw[hJ1]at hm;exact qGs [] [6] [(6,i6 (w64 (j_1+1)))]<|qX (aaS,i_2,w64 (j_1+1)) hm
 refine qF c2<|A.exit ?_
 obtain⟨h6,hm⟩:=eE hm;have h6:=of_decide_eq_true h6;refine A.seq (A.clr (T:=111) 0 5 36 37 38 175 3 600152000 (zr:=aH.enc (ah.mk (az.mk (0:Int) (0:Int)) (0:Int))) ⟨rfl,rfl,rfl⟩ ⟨rfl,rfl,rfl⟩ ⟨rfl,rfl,rfl⟩ ⟨rfl,rfl,rfl⟩ ⟨Nat.le_of_ble_eq_true rfl,Nat.le_of_ble_eq_true rfl,Nat.le_of_ble_eq_true rfl⟩ (by decide) aeB zeroValue175 (by decide) (λI=>by show aS I [i6 (((ah.mk (az.mk (0:Int) (0:Int)) (0:Int)).Hop).aD),i6 (((ah.mk (az.mk (0:Int) (0:Int)) (0:Int)).Hop).To),i6 ((ah.mk (az.mk (0:Int) (0:Int)) (0:Int)).dx)] _;simp only[aS,aB];exact⟨_,_,rfl,rfl,⟨_,_,rfl,rfl,⟨_,_,rfl,rfl,rfl⟩⟩⟩) rfl rfl rfl rfl (aru aH h6) ⟨rfl,rfl,rfl⟩ (an8 aH mq i_1.toNat (ah.mk (az.mk (0:Int) (0:Int)) (0:Int))) ?_);show af _ _ _ [(0,.own 600152000),(1,.cfn tr vM),(5,i6 i_1),(6,i6 j_1),(19,.bool (decide (j_1<(mq.length:Int))))] [(600152000,.slice 175 3 (ml aH (mq.take i_1.toNat++List.replicate (mq.length-i_1.toNat) (ah.mk (az.mk (0:Int) (0:Int)) (0:Int)))) 0 false)];obtain⟨l_2,h7,hm⟩:=aa hm;refine qS [(2,hcB 152541 aeB (sl aH h7))] [(4,.own 152541)] [(152541,.slice 175 3 (ml aH l_2) 0 false)]<|A.ret ?_
 obtain rfl:=some_inj hm;exact A.fin W0 [.sw 152541 500015200] rfl (by kernel_rfl)
theorem adP:jE prog 126 84 3 (kv aJ) bA:=⟨underlying126,λ_=>rfl,λ_=>rfl,⟨_,underlying84,λ_ _=>rfl⟩,λa b w=>eqK (by kernel_rfl) (by kernel_rfl) (zH a.aD b.aD a.To b.To w),λe a w=>by kernel_rfl,λa b h=>by cases a;cases b;simpa [bA]using h,λa=>by simp[kv,aJ,valOf,pz,Instr.sameBits]⟩
theorem rE{a:ah}{c_0:List (az×Int)}{c_1:Int}{r:Bool}(hm:iq a c_0 c_1=some r):RO prog 153 [] [.agg (k4 a),.cV [.mpf (bG (kv aJ) (vI .i64) c_0)],.cV [i6 c_1]] (.bool r):=by
 refine aZ func153 rfl rfl ?_;unfold iq at hm;refine qS [(0,.al 153003)] [(1,.cV [.mpf (bG (kv aJ) (vI .i64) c_0)]),(2,.cV [i6 c_1]),(3,.ptr 153003 0)] [(153003,.cells 175 (k4 a))]<|qS [(3,ah9 c_0 a.Hop (vI .i64) (0:Int) adP (zI (k:=.i64) zeroValue3))] [(4,.bool (decide (((bZ bA c_0 a.Hop).getD (0:Int))<c_1)))] [] ?_
 cases hm;exact A.ret qE
variable {fu:Int}{ra0:List (az×Int)}
theorem jI(hm:ff ra0 t fu=some r):b9 prog 85 [] [.mpf (bG (kv aJ) (vI .i64) ra0),.agg (k2 t),i6 fu] (λa σ'=>a=.own 500008500∧σ'=[(500008500,.slice 175 3 (ml aH r) 0 false)]):=by
 refine aZ func85 rfl rfl ?_;unfold ff at hm;refine qS [(0,.al 85003),(1,.al 85004),(2,.al 85005)] [(3,.ptr 85003 0),(4,.ptr 85004 0),(5,.ptr 85005 0)] [(85003,.cells 126 [.mpf (bG (kv aJ) (vI .i64) ra0)]),(85004,.cells 28 (k2 t)),(85005,.cells 3 [i6 fu])]<|A.weak ((aU.go (bT:=[(3,.ptr 85003 0),(4,.ptr 85004 0),(5,.ptr 85005 0)]) (σ2:=[(85003,.cells 126 [.mpf (bG (kv aJ) (vI .i64) ra0)]),(85004,.cells 28 (k2 t)),(85005,.cells 3 [i6 fu])]) [.sc 85003 []] [] (by kernel_rfl)).trans (aU.lp (T:=126) (cs:=[.mpf (bG (kv aJ) (vI .i64) ra0)]) 3 85003 (by kernel_rfl) (by kernel_rfl) (by kernel_rfl)))<|A.weak ((aU.go (bT:=[(4,.ptr 85004 0),(5,.ptr 85005 0),(3,.cV [.mpf (bG (kv aJ) (vI .i64) ra0)])]) (σ2:=[(85004,.cells 28 (k2 t)),(85005,.cells 3 [i6 fu])]) [.sc 85005 []] [] (by kernel_rfl)).trans (aU.lp (T:=3) (cs:=[i6 fu]) 5 85005 (by kernel_rfl) (by kernel_rfl) (by kernel_rfl))) ?_
 obtain⟨aq,h1,hm⟩:=aa hm;obtain⟨aF,h2,hm⟩:=aa hm;refine qS [(1,hdc [500006400] (abU h1) ck64),(2,hcf),(3,hdc [500015200] (SC.at [(508015200,500006400)] (k9 (tr:=153) (vM:=[.cV [.mpf (bG (kv aJ) (vI .i64) ra0)],.cV [i6 fu]]) (afm:=asm) (afn:=λ_ _ h=>rE h) h2)) asl)] [(6,.own 500015200)] [(500015200,.slice 175 3 (ml aH aF) 0 false)]<|A.ret ?_
 obtain rfl:=some_inj hm;exact A.fin W0 [.sw 500015200 500008500] rfl (by kernel_rfl)
theorem rV:jE prog 126 84 3 (kv aJ) bA:=⟨underlying126,λ_=>rfl,λ_=>rfl,⟨_,underlying84,λ_ _=>rfl⟩,λa b w=>eqK (by kernel_rfl) (by kernel_rfl) (zH a.aD b.aD a.To b.To w),λe a w=>by kernel_rfl,λa b h=>by cases a;cases b;simpa [bA]using h,λa=>by simp[kv,aJ,valOf,pz,Instr.sameBits]⟩
theorem gU{xa1:aT}{r:Bool×(List (az×Int))}(hm:cI ra0 xa1 fu=some r):b9 prog 86 [(540000860,.map 84 3 (bG (kv aJ) (vI .i64) ra0))] [.bX 540000860,.agg (k6 xa1),i6 fu] (λa σ'=>a=.bool r.1∧σ'=[(540000860,.map 84 3 (bG (kv aJ) (vI .i64) r.2))]):=by
 refine aZ func86 rfl rfl ?_;unfold cI at hm;refine qS [(0,.al 86004)] [(0,.bX 540000860),(2,i6 fu),(4,.ptr 86004 0)] [(540000860,.map 84 3 (bG (kv aJ) (vI .i64) ra0)),(86004,.cells 36 (k6 xa1))]<|qDs [] [] [(7,.bool true)]<|A.seq<|qD [(2,hto (lnE aJ xa1.Links))] [4] [(11,lf aJ xa1.Links),(12,i6 (xa1.Links.length:Int)),(13,i6 0)] [86004] []<|A.block<|A.bS 11 rfl λhb1=>?_
 obtain⟨B1,K1,hB1,hK1,hm⟩:=bh hm;refine A.lpI (l:=xa1.Links) (j0:=0) (B:=B1) (K:=K1) hm (λj1=>λ(oh,m_1)=>[(0,.bX 540000860),(2,i6 fu),(7,.bool oh),(11,lf aJ xa1.Links),(12,i6 (xa1.Links.length:Int)),(13,i6 (j1:Int))]) (λj1=>λ(oh,m_1)=>[(540000860,.map 84 3 (bG (kv aJ) (vI .i64) m_1))]) ?_ ?_ ?_
 ·exact qW
 ·rintro j1 e1 Z1 ⟨oh,m_1⟩ hj1 hx1 hm;rw[hB1]at hm;refine qDs [] [] [(14,.bool (decide ((j1:Int)<(xa1.Links.length:Int))))]<|A.seq<|qT (ltT hx1)<|A.skip<|A.seq<|A.block<|qD [(0,hix (ix aJ (bu hx1))),(2,.al 86009)] [14] [(9,.ptr 86009 0)] [] [(86009,.cells 84 (k3 e1))]<|A.ahU (d:=540000860) rfl λes1 ck1=>?_
  obtain⟨h1,hm⟩:=eE hm;refine qS [(2,ah9 m_1 e1 (vI .i64) (0:Int) rV (zI (k:=.i64) zeroValue3)),(5,hmeK m_1 e1 (vI .i64) ((bZ bA m_1 e1).getD (0:Int)) rV (aoG h1)),(7,hesK es1 ck1 m_1 e1 (vI .i64) (w64 (((bZ bA m_1 e1).getD (0:Int))-fu)) rV rfl h1)] [(0,.bX 540000860),(2,i6 fu),(7,.bool oh),(11,lf aJ xa1.Links),(12,i6 (xa1.Links.length:Int)),(13,i6 (j1:Int)),(9,.ptr 86009 0)] [(540000860,.map 84 3 (bG (kv aJ) (vI .i64) (er bA m_1 e1 (w64 (((bZ bA m_1 e1).getD (0:Int))-fu))))),(86009,.cells 84 (k3 e1))] ?_;rcases aA hm with⟨c1,hm⟩|⟨c1,hm⟩
  ·exact qG [(1,hto (bE c1)),(4,hlK (er bA m_1 e1 (w64 (((bZ bA m_1 e1).getD (0:Int))-fu))) e1 (vI .i64) (0:Int) rV (zI (k:=.i64) zeroValue3))] [7,9] [(7,.bool (decide (0≤((bZ bA (er bA m_1 e1 (w64 (((bZ bA m_1 e1).getD (0:Int))-fu))) e1).getD (0:Int)))))] [86009] []<|qGs [(0,hto (inc hx1 hb1))] [13] [(13,i6 ((j1+1:Nat):Int))]<|qX (decide (0≤((bZ bA (er bA m_1 e1 (w64 (((bZ bA m_1 e1).getD (0:Int))-fu))) e1).getD (0:Int))),er bA m_1 e1 (w64 (((bZ bA m_1 e1).getD (0:Int))-fu))) hm
  exact qG [(1,hto (bE c1))] [7,9] [(7,.bool false)] [86009] []<|qGs [(0,hto (inc hx1 hb1))] [13] [(13,i6 ((j1+1:Nat):Int))]<|qX (false,er bA m_1 e1 (w64 (((bZ bA m_1 e1).getD (0:Int))-fu))) hm
 rintro j1 ⟨oh,m_1⟩ hj1 hl1 hm;rw[hK1]at hm;refine qDs [] [] [(14,.bool (decide ((j1:Int)<(xa1.Links.length:Int))))]<|A.seq<|qF (ltF hl1)<|A.exit<|qDs [] [0,2,7,11,12,13,14] [(6,.bool oh)] ?_
 cases hm;exact A.ret qE
theorem kK{xa0:aT}{r:Bool}(hm:ja xa0=some r):RO prog 87 [] [.agg (k6 xa0)] (.bool r):=by
 refine aZ func87 rfl rfl ?_;unfold ja at hm;refine qS [(0,.al 87001)] [(1,.ptr 87001 0)] [(87001,.cells 36 (k6 xa0))]<|A.mid [(2,.bool ((decide (xa0.bw=0))&&(decide ((xa0.Links.length:Int)=(0:Int)))))] [] (λhk=>?_) ?_
 ·rcases tf (decide (xa0.bw=0))with c1|c1
  ·exact qS [(3,hto (bE c1)),(6,hto (lnE aJ xa0.Links)),(9,hto (oF (q:=decide ((xa0.Links.length:Int)=(0:Int))) c1))] _ _ hk
  exact qS [(3,hto (bE c1)),(9,hto (oG (q:=decide ((xa0.Links.length:Int)=(0:Int))) c1))] _ _ hk
 cases hm;exact A.ret qE
end Go.Proofs.YtmnbolcmepihlaaGreat
