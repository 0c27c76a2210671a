/- gw iD of h7 of aR program. bM bN cu cg bz cv in ck. -/
import Derived.Test.YtmnbolcmepihlaaGreatV4
import Derived.Test.YtmnbolcmepihlaaGreatSO
namespace Go.Proofs.YtmnbolcmepihlaaGreat
open Go Go.Proofs.Tryz
set_option maxRecDepth 100000
set_option linter.all false
variable {cN:Int}{r:Bool}
theorem Kt(hm:BN cN=some r):ef prog 186 [] [ag cN] (.bool r):=by
 refine eu func186 rfl rfl ?_;unfold BN at hm;refine bn [] [(0,ag cN)] []<|bn [] [(2,.bool (!decide (cN=cN)))] [] ?_
 cases hm;exact A.ret cC
theorem ak5{y:Int}(hm:Cx cN y=some r):ef prog 185 [] [ag cN,ag y] (.bool r):=by
 refine eu func185 rfl rfl ?_;unfold Cx at hm;refine bn [] [(0,ag cN),(1,ag y)] [] ?_;obtain⟨a8,h1,hm⟩:=bI hm;rcases cZ hm with⟨bk,hm⟩|⟨bk,hm⟩
 ·obtain⟨bt,D,hm⟩:=bI hm;rcases cZ hm with⟨bZ,hm⟩|⟨bZ,hm⟩
  ·refine bn [(1,cE (xC h1) yI),(2,aZ (c9 bk)),(4,cE (xC D) yI),(7,aZ (c9 bZ))] [(4,.bool true)] [] ?_;cases hm;exact A.ret cC
  refine bn [(1,cE (xC h1) yI),(2,aZ (c9 bk)),(4,cE (xC D) yI),(7,aZ (c9 bZ))] [(4,.bool (decide (cN<y)))] [] ?_;cases hm;exact A.ret cC
 refine bn [(1,cE (xC h1) yI),(2,aZ (c9 bk))] [(4,.bool (decide (cN<y)))] [] ?_;cases hm;exact A.ret cC
theorem aii{cN:List Int}{target:Int}{r:Int×Bool}(hm:BH cN target=some r):ef prog 157 [] [bm bq cN,ag target] (.cD [ag r.1,.bool r.2]):=by
 refine eu func157 rfl rfl ?_;unfold BH at hm;refine bn [] [(0,bm bq cN),(1,ag target)] []<|br [(1,aZ (ew bq cN))] [] [(6,ag (cN.length:Int))]<|br [] [] [(7,ag 0),(8,ag (cN.length:Int))]<|A.seq<|A.block ?_
 obtain⟨lJ,hG,lU,hm⟩:=qY hm;refine A.q7 (F:=lJ) hm (λav=>match av with|(cr,fN)=>[(0,bm bq cN),(1,ag target),(6,ag (cN.length:Int)),(7,ag cr),(8,ag fN)]) (λav=>match av with|(cr,fN)=>[]) ?_ ?_
 ·exact hK
 rintro dh ⟨cr,fN⟩ hm;rw[lU]at hm;refine A.seq<|br [] [] [(15,.bool (decide (cr<fN)))] ?_
 rcases cZ hm with⟨bk,hm⟩|⟨bk,hm⟩
 ·refine cM bk<|A.skip<|A.block<|br [(4,.sh (1:Int) (by decide))] [15] [(9,ag (bK (Int.fdiv (IntKind.wrap .u64 (bK (cr+fN))) (2 ^ min (1:Int).toNat 64))))] ?_
  obtain⟨ej,h1,hm⟩:=bI hm;obtain⟨a8,D,hm⟩:=bI hm;refine br [(2,eg (ix bq h1)),(5,cE (ak5 D) aeN)] [] [(27,.bool a8)] ?_;rcases cZ hm with⟨bZ,hm⟩|⟨bZ,hm⟩
  ·exact cM bZ<|fq [] [7,9,27] [(7,ag (bK ((bK (Int.fdiv (IntKind.wrap .u64 (bK (cr+fN))) (2 ^ min (1:Int).toNat 64)))+(1:Int))))]<|ek (bK ((bK (Int.fdiv (IntKind.wrap .u64 (bK (cr+fN))) (2 ^ min (1:Int).toNat 64)))+(1:Int)),fN) hm
  exact cL bZ<|fq [] [8,9,27] [(8,ag (bK (Int.fdiv (IntKind.wrap .u64 (bK (cr+fN))) (2 ^ min (1:Int).toNat 64))))]<|ek (cr,bK (Int.fdiv (IntKind.wrap .u64 (bK (cr+fN))) (2 ^ min (1:Int).toNat 64))) hm
 refine cL bk<|A.exit ?_
 rcases cZ hm with⟨c1,hm⟩|⟨c1,hm⟩
 ·obtain⟨hS,ak,hm⟩:=bI hm;rcases cZ hm with⟨fu,hm⟩|⟨fu,hm⟩
  ·refine bn [(4,aZ (c9 c1)),(7,eg (ix bq ak)),(11,aZ (c9 fu))] [(4,ag cr),(5,.bool true)] [] ?_;cases hm;exact A.ret cC
  obtain⟨bt,bc,hm⟩:=bI hm;rcases cZ hm with⟨gl,hm⟩|⟨gl,hm⟩
  ·obtain⟨c7,bX,hm⟩:=bI hm;refine bn [(4,aZ (c9 c1)),(7,eg (ix bq ak)),(11,aZ (c9 fu)),(14,eg (ix bq ak)),(16,cE (Kt bc) Ib),(17,aZ (c9 gl)),(19,cE (Kt bX) Ib)] [(4,ag cr),(5,.bool c7)] [] ?_;cases hm;exact A.ret cC
  refine bn [(4,aZ (c9 c1)),(7,eg (ix bq ak)),(11,aZ (c9 fu)),(14,eg (ix bq ak)),(16,cE (Kt bc) Ib),(17,aZ (c9 gl))] [(4,ag cr),(5,.bool false)] [] ?_;cases hm;exact A.ret cC
 refine bn [(4,aZ (c9 c1))] [(4,ag cr),(5,.bool false)] [] ?_;cases hm;exact A.ret cC
theorem ED{n:Int}(hm:y7 n=some r):ef prog 142 [] [ag n] (.bool r):=by
 refine eu func142 rfl rfl ?_;unfold y7 at hm;refine bn [] [(0,ag n)] []<|A.mid [(2,.bool ((decide (1≤n))&&(decide (n≤99))))] [] (λhk=>?_) ?_
 ·rcases mx (decide (1≤n))with bk|bk
  ·exact bn [(2,aZ (c9 bk)),(6,aZ (wU (q:=decide (n≤99)) bk))] _ _ hk
  exact bn [(2,aZ (c9 bk)),(6,aZ (wV (q:=decide (n≤99)) bk))] _ _ hk
 cases hm;exact A.ret cC
variable {t:c0}
theorem aiW{r:(List (Int×Bool))}(hm:BP t=some r):ef prog 143 [] [.agg (kj t)] (.de (dy .i64 ir r)):=by
 refine eu func143 rfl rfl ?_;unfold BP at hm;refine bn [(0,.al 143001)] [(1,.ptr 143001 0)] [(143001,.cells 36 (kj t))]<|eV [(0,.al 143007),(3,vL (sr (k:=.i64) (enc:=ir) [] t.er true rfl))] [] [(3,.dm 143007)] [] [(143007,.map 3 4 (dy .i64 ir (c6 [] t.er true)))]<|A.seq<|br [] [] [(4,.bool true)]<|A.block ?_
 obtain⟨lJ,hG,lU,hm⟩:=qY hm;refine A.q7 (F:=lJ) hm (λav=>match av with|(Aa,cc)=>[(1,.ptr 143001 0),(3,.dm 143007),(4,.bool Aa)]) (λav=>match av with|(Aa,cc)=>[(143001,.cells 36 (kj t)),(143007,.map 3 4 (dy .i64 ir cc))]) ?_ ?_
 ·exact hK
 rintro dh ⟨Aa,cc⟩ hm;rw[lU]at hm;refine A.seq<|br [] [] [(11,.bool Aa)] ?_
 rcases cZ hm with⟨bk,hm⟩|⟨bk,hm⟩
 ·refine cM bk<|A.skip<|A.block<|br [] [4,11] [(4,.bool false)]<|br [(2,aZ (ew b1 t.Links))] [] [(13,bm b1 t.Links),(14,ag (t.Links.length:Int)),(15,ag 0)]<|A.block<|A.jx 13 rfl λfG=>?_
  obtain⟨ni,jS,nx,nz,hm⟩:=iF hm;refine A.iS (l:=t.Links) (hn:=0) (B:=ni) (K:=jS) hm (λdd=>λav=>match av with|(sj,dZ)=>[(1,.ptr 143001 0),(3,.dm 143007),(4,.bool sj),(13,bm b1 t.Links),(14,ag (t.Links.length:Int)),(15,ag (dd:Int))]) (λdd=>λav=>match av with|(sj,dZ)=>[(143001,.cells 36 (kj t)),(143007,.map 3 4 (dy .i64 ir dZ))]) ?_ ?_ ?_
  ·exact hK
  ·rintro dd e2 jM ⟨sj,dZ⟩ jo gb hm;rw[nx]at hm;refine br [] [] [(16,.bool (decide ((dd:Int)<(t.Links.length:Int))))]<|A.seq<|cM (ih gb)<|A.skip ?_
   obtain⟨fD,kr,hm⟩:=lu hm;refine A.J (J:=fD) (r:=r) (λav=>match av with|(Ab,g3)=>[(1,.ptr 143001 0),(3,.dm 143007),(4,.bool Ab),(13,bm b1 t.Links),(14,ag (t.Links.length:Int)),(15,ag (dd:Int))]) (λav=>match av with|(Ab,g3)=>[(143001,.cells 36 (kj t)),(143007,.map 3 4 (dy .i64 ir g3))]) ?_ ?_
   ·refine A.block<|eV [(0,eg (ix b1 (hN gb))),(2,.al 143006)] [16] [(6,.ptr 143006 0)] [] [(143006,.cells 84 (k8 e2))] ?_
    refine A.mid [(1,.ptr 143001 0),(3,.dm 143007),(4,.bool sj),(13,bm b1 t.Links),(14,ag (t.Links.length:Int)),(15,ag (dd:Int)),(6,.ptr 143006 0),(29,.bool (((bT dZ e2.bg).getD false)&&(!((bT dZ e2.aQ).getD false))))] [(143001,.cells 36 (kj t)),(143007,.map 3 4 (dy .i64 ir dZ)),(143006,.cells 84 (k8 e2))] (λhk=>?_) ?_
    ·rcases mx ((bT dZ e2.bg).getD false)with bZ|bZ
     ·exact bn [(3,vH (lk (E:=4) (k:=.i64) (enc:=ir) dZ e2.bg false (λw=>⟨_,zeroValue4 w,λI=>by simp[aO,c5,ir]⟩))),(4,aZ (c9 bZ)),(8,vH (lk (E:=4) (k:=.i64) (enc:=ir) dZ e2.aQ false (λw=>⟨_,zeroValue4 w,λI=>by simp[aO,c5,ir]⟩))),(10,aZ (wU (q:=!((bT dZ e2.aQ).getD false)) bZ))] _ _ hk
     exact bn [(3,vH (lk (E:=4) (k:=.i64) (enc:=ir) dZ e2.bg false (λw=>⟨_,zeroValue4 w,λI=>by simp[aO,c5,ir]⟩))),(4,aZ (c9 bZ)),(10,aZ (wV (q:=!((bT dZ e2.aQ).getD false)) bZ))] _ _ hk
    rcases cZ hm with⟨c1,hm⟩|⟨c1,hm⟩
    ·exact cM c1<|lg [(3,vL (sr (k:=.i64) (enc:=ir) dZ e2.aQ true rfl))] [4,6,29] [(4,.bool true)] [143007,143006] [(143007,.map 3 4 (dy .i64 ir (c6 dZ e2.aQ true)))]<|ek (true,c6 dZ e2.aQ true) hm
    exact cL c1<|A.skip<|ek (sj,dZ) hm
   rintro⟨Ab,g3⟩ hm;rw[kr]at hm;exact fq [(0,aZ (hV gb fG))] [15] [(15,ag ((dd+1:Nat):Int))]<|ek (Ab,g3) hm
  rintro dd ⟨sj,dZ⟩ jo kg hm;rw[nz]at hm;exact br [] [] [(16,.bool (decide ((dd:Int)<(t.Links.length:Int))))]<|A.seq<|cL (h8 kg)<|A.exit<|ek (sj,dZ) hm
 refine cL bk<|A.exit<|eV [] [1,3,4,11] [(2,.dm 143007)] [143001] []<|A.ret ?_
 obtain rfl:=nP hm;exact A.fin cm [.cU [143007]] rfl (by kernel_rfl)
theorem Ki{r:Int}(hm:xy t=some r):ef prog 72 [] [.agg (kj t)] (ag r):=by
 refine eu func72 rfl rfl ?_;unfold xy at hm;refine bn [(0,.al 72001)] [(1,.ptr 72001 0)] [(72001,.cells 36 (kj t))]<|A.seq ?_
 obtain⟨a8,h1,hm⟩:=bI hm;refine br [(2,cE (ED h1) Hq)] [] [(17,.bool (!a8))] ?_;rcases cZ hm with⟨bk,hm⟩|⟨bk,hm⟩
 ·refine cM bk<|bn [] [(2,ag 2)] [] ?_
  cases hm;exact A.ret cC
 refine cL bk<|A.skip<|A.seq<|br [(2,aZ (ew b1 t.Links))] [17] [(19,bm b1 t.Links),(20,ag (t.Links.length:Int)),(21,ag 0)]<|A.block<|A.jx 19 rfl λfZ=>?_
 obtain⟨hA,hB,hE,hq,hm⟩:=iF hm;refine A.iS (l:=t.Links) (hn:=0) (B:=hA) (K:=hB) hm (λbp=>λav=>match av with|()=>[(1,.ptr 72001 0),(19,bm b1 t.Links),(20,ag (t.Links.length:Int)),(21,ag (bp:Int))]) (λbp=>λav=>match av with|()=>[(72001,.cells 36 (kj t))]) ?_ ?_ ?_
 ·exact hK
 ·rintro bp aA dh ⟨⟩ hF cI hm;rw[hE]at hm;refine br [] [] [(22,.bool (decide ((bp:Int)<(t.Links.length:Int))))]<|A.seq<|cM (ih cI)<|A.skip<|A.seq<|A.block<|eV [(0,eg (ix b1 (hN cI))),(2,.al 72004)] [22] [(4,.ptr 72004 0)] [] [(72004,.cells 84 (k8 aA))] ?_
  obtain⟨fD,kr,hm⟩:=lu hm;refine A.J (J:=fD) (r:=r) (λjL=>[(1,.ptr 72001 0),(19,bm b1 t.Links),(20,ag (t.Links.length:Int)),(21,ag (bp:Int)),(34,.bool jL)]) (λjL=>[(72001,.cells 36 (kj t))]) ?_ ?_
  ·obtain⟨bt,D,hm⟩:=bI hm;rcases cZ hm with⟨bZ,hm⟩|⟨bZ,hm⟩
   ·exact lg [(2,cE (ED D) Hq),(4,aZ (c9 bZ))] [4] [(34,.bool true)] [72004] []<|ek true hm
   obtain⟨c7,ak,hm⟩:=bI hm;exact lg [(2,cE (ED D) Hq),(4,aZ (c9 bZ)),(7,cE (ED ak) Hq)] [4] [(34,.bool (!c7))] [72004] []<|ek (!c7) hm
  rintro jL hm;rw[kr]at hm;rcases cZ hm with⟨c1,hm⟩|⟨c1,hm⟩
  ·refine cM c1<|bn [] [(2,ag 2)] [] ?_
   cases hm;exact A.ret cC
  exact cL c1<|A.skip<|fq [(0,aZ (hV cI fZ))] [21,34] [(21,ag ((bp+1:Nat):Int))]<|ek () hm
 rintro bp ⟨⟩ hF gO hm;rw[hq]at hm;refine br [] [] [(22,.bool (decide ((bp:Int)<(t.Links.length:Int))))]<|A.seq<|cL (h8 gO)<|A.exit<|A.seq<|br [] [19,20,21,22] [(5,ag 1)]<|A.block<|A.En 1 1 rfl rfl rfl λfG=>?_
 obtain⟨ni,jS,nx,nz,hm⟩:=iF hm;refine A.iS (l:=t.Links) (hn:=1) (B:=ni) (K:=jS) hm (λdd=>λav=>match av with|()=>[(1,.ptr 72001 0),(5,ag (dd:Int))]) (λdd=>λav=>match av with|()=>[(72001,.cells 36 (kj t))]) ?_ ?_ ?_
 ·exact hK
 ·rintro dd e2 jM ⟨⟩ jo gb hm;rw[nx]at hm;refine A.seq<|br [(3,aZ (ew b1 t.Links))] [] [(40,.bool (decide ((dd:Int)<(t.Links.length:Int))))] ?_
  refine cM (ih gb)<|A.skip<|A.seq<|A.block ?_
  obtain⟨ej,bc,hm⟩:=bI hm;refine eV [(4,eg (ix b1 bc)),(9,eg (ix b1 (hN gb))),(11,.al 72006),(12,.al 72007)] [40] [(6,.ptr 72006 0),(7,.ptr 72007 0)] [] [(72006,.cells 84 (k8 ej)),(72007,.cells 84 (k8 e2))] ?_;obtain⟨fl,bX,hm⟩:=bI hm;obtain⟨fE,dV,hm⟩:=bI hm;obtain⟨et,fF,hm⟩:=bI hm;refine eV [(4,cE (rQ bX) sw),(9,cE (rQ dV) sw),(11,cE (CA fF) Dz)] [6,7] [(66,.bool (decide (0≤et)))] [72006,72007] [] ?_;rcases cZ hm with⟨fu,hm⟩|⟨fu,hm⟩
  ·refine cM fu<|bn [] [(2,ag 25)] [] ?_
   cases hm;exact A.ret cC
  exact cL fu<|A.skip<|fq [(1,aZ (hV gb fG))] [5,66] [(5,ag ((dd+1:Nat):Int))]<|ek () hm
 rintro dd ⟨⟩ jo kg hm;rw[nz]at hm;refine A.seq<|br [(3,aZ (ew b1 t.Links))] [] [(40,.bool (decide ((dd:Int)<(t.Links.length:Int))))] ?_
 refine cL (h8 kg)<|A.exit<|eV [(0,.al 72067),(3,vL (sr (k:=.i64) (enc:=ir) [] t.er true rfl))] [5,40] [(8,.dm 72067)] [] [(72067,.map 3 4 (dy .i64 ir (c6 [] t.er true)))]<|A.seq<|br [(2,aZ (ew b1 t.Links))] [] [(72,bm b1 t.Links),(73,ag (t.Links.length:Int)),(74,ag 0)]<|A.block<|A.jx 72 rfl λvB=>?_
 obtain⟨tT,tV,uf,ug,hm⟩:=iF hm;refine A.iS (l:=t.Links) (hn:=0) (B:=tT) (K:=tV) hm (λgJ=>λcc=>[(1,.ptr 72001 0),(8,.dm 72067),(72,bm b1 t.Links),(73,ag (t.Links.length:Int)),(74,ag (gJ:Int))]) (λgJ=>λcc=>[(72001,.cells 36 (kj t)),(72067,.map 3 4 (dy .i64 ir cc))]) ?_ ?_ ?_
 ·exact hK
 ·rintro gJ b6 o0 cc qQ lF hm;rw[uf]at hm;refine br [] [] [(75,.bool (decide ((gJ:Int)<(t.Links.length:Int))))]<|A.seq<|cM (ih lF)<|A.skip<|A.seq<|A.block<|eV [(0,eg (ix b1 (hN lF))),(2,.al 72010)] [75] [(10,.ptr 72010 0)] [] [(72010,.cells 84 (k8 b6))]<|A.seq<|br [(3,vH (lk (E:=4) (k:=.i64) (enc:=ir) cc b6.aQ false (λw=>⟨_,zeroValue4 w,λI=>by simp[aO,c5,ir]⟩)))] [] [(81,.bool ((bT cc b6.aQ).getD false))] ?_
  rcases cZ hm with⟨gl,hm⟩|⟨gl,hm⟩
  ·refine cM gl<|bn [] [(2,ag 8)] [] ?_
   cases hm;exact A.ret cC
  exact cL gl<|A.skip<|lg [(3,vL (sr (k:=.i64) (enc:=ir) cc b6.aQ true rfl))] [10,81] [] [72067,72010] [(72067,.map 3 4 (dy .i64 ir (c6 cc b6.aQ true)))]<|fq [(0,aZ (hV lF vB))] [74] [(74,ag ((gJ+1:Nat):Int))]<|ek (c6 cc b6.aQ true) hm
 rintro gJ cc qQ n1 hm;rw[ug]at hm;refine br [] [] [(75,.bool (decide ((gJ:Int)<(t.Links.length:Int))))]<|A.seq<|cL (h8 n1)<|A.exit ?_
 obtain⟨gW,jm,hm⟩:=bI hm;refine eV [(1,cE (aiW jm) aey)] [8,72,73,74,75] [(11,.de (dy .i64 ir gW))] [72067] []<|A.seq<|eV [(2,aZ (ew b1 t.Links))] [1] [(89,bm b1 t.Links),(90,ag (t.Links.length:Int)),(91,ag 0)] [72001] []<|A.block<|A.jx 89 rfl λJK=>?_
 obtain⟨Hu,Hv,JC,JF,hm⟩:=iF hm;refine A.iS (l:=t.Links) (hn:=0) (B:=Hu) (K:=Hv) hm (λmH=>λav=>match av with|()=>[(11,.de (dy .i64 ir gW)),(89,bm b1 t.Links),(90,ag (t.Links.length:Int)),(91,ag (mH:Int))]) (λmH=>λav=>match av with|()=>[]) ?_ ?_ ?_
 ·exact hK
 ·rintro mH cQ vi ⟨⟩ JT pg hm;rw[JC]at hm;refine br [] [] [(92,.bool (decide ((mH:Int)<(t.Links.length:Int))))]<|A.seq<|cM (ih pg)<|A.skip<|A.seq<|A.block<|eV [(0,eg (ix b1 (hN pg))),(2,.al 72013)] [92] [(13,.ptr 72013 0)] [] [(72013,.cells 84 (k8 cQ))]<|eV [(3,zo gW cQ.bg ir false Ow (alo zeroValue4))] [13] [(99,.bool (!((bT gW cQ.bg).getD false)))] [72013] [] ?_
  rcases cZ hm with⟨it,hm⟩|⟨it,hm⟩
  ·refine cM it<|bn [] [(2,ag 10)] [] ?_
   cases hm;exact A.ret cC
  exact cL it<|A.skip<|fq [(0,aZ (hV pg JK))] [91,99] [(91,ag ((mH+1:Nat):Int))]<|ek () hm
 rintro mH ⟨⟩ JT ER hm;rw[JF]at hm;refine br [] [] [(92,.bool (decide ((mH:Int)<(t.Links.length:Int))))]<|A.seq<|cL (h8 ER)<|A.exit<|bn [] [(2,ag 0)] [] ?_
 cases hm;exact A.ret cC
theorem aiX{r:(List Int)}(hm:BQ t=some r):ef prog 75 [] [.agg (kj t)] (bm bq r):=by
 refine eu func75 rfl rfl ?_;unfold BQ at hm;refine bn [(0,.al 75001)] [(1,.ptr 75001 0)] [(75001,.cells 36 (kj t))]<|A.seq ?_
 obtain⟨a8,h1,hm⟩:=bI hm;refine br [(1,cE (Ki h1) IT)] [] [(8,.bool (!decide (a8=0)))] ?_;rcases cZ hm with⟨bk,hm⟩|⟨bk,hm⟩
 ·refine cM bk<|bn [] [(2,.cV)] [] ?_
  cases hm;exact A.ret cC
 refine cL bk<|A.skip<|eV [(2,.al 75011)] [8] [(3,.own 75011)] [] [(75011,.slice 3 1 (aD bq ([t.er]:List Int)) 0 false)]<|A.seq<|eV [(2,aZ (ew b1 t.Links))] [1] [(13,bm b1 t.Links),(14,ag (t.Links.length:Int)),(15,ag 0)] [75001] []<|A.block<|A.jx 13 rfl λfZ=>?_
 obtain⟨hA,hB,hE,hq,hm⟩:=iF hm;refine A.iS (l:=t.Links) (hn:=0) (B:=hA) (K:=hB) hm (λbp=>λfI=>[(3,.own 600075003),(13,bm b1 t.Links),(14,ag (t.Links.length:Int)),(15,ag (bp:Int))]) (λbp=>λfI=>[(600075003,.slice 3 1 (aD bq fI) 0 false)]) ?_ ?_ ?_
 ·exact b8.go [.kV 75011 600075003] [] (by kernel_rfl)
 ·rintro bp aA dh fI hF cI hm;rw[hE]at hm;refine br [] [] [(16,.bool (decide ((bp:Int)<(t.Links.length:Int))))]<|A.seq<|cM (ih cI)<|A.skip<|A.seq<|A.block<|eV [(0,eg (ix b1 (hN cI))),(2,.al 75005)] [16] [(5,.ptr 75005 0)] [] [(75005,.cells 84 (k8 aA))] ?_
  obtain⟨eU,D,hm⟩:=bI hm;exact lg [(4,qP 75523 (ap bq (bytes:=8) (by decide) D))] [3,5] [(3,.own 75523)] [600075003,75005] [(75523,.slice 3 1 (aD bq eU) 0 false)]<|fq [(0,aZ (hV cI fZ))] [15] [(15,ag ((bp+1:Nat):Int))]<|Exists.intro eU (And.intro hm (b8.go [.kV 75523 600075003] [] (by kernel_rfl)))
 rintro bp fI hF gO hm;rw[hq]at hm;refine br [] [] [(16,.bool (decide ((bp:Int)<(t.Links.length:Int))))]<|A.seq<|cL (h8 gO)<|A.exit ?_
 obtain⟨ak,hm⟩:=pT hm;refine bn [(1,gN [] (Np (d:=600075003) (T:=3) fI (of_decide_eq_true ak)) PX)] [(3,.own 600075003)] [(600075003,.slice 3 1 (aD bq (kZ fI)) 0 false)]<|br [] [3] [(2,.own 600075003)]<|A.ret ?_
 obtain rfl:=nP hm;exact A.fin cm [.cU [600075003]] rfl (by kernel_rfl)
end Go.Proofs.YtmnbolcmepihlaaGreat
