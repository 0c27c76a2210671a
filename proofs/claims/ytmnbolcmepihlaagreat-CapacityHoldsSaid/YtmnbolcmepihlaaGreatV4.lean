/- gw iD of h7 of aR program. bM bN cu cg bz cv in ck. -/
import Derived.Test.YtmnbolcmepihlaaGreatDA
namespace Go.Proofs.YtmnbolcmepihlaaGreat
open Go Go.Proofs.Tryz
set_option maxRecDepth 100000
set_option linter.all false
variable {cN:Int}{r:Bool}
theorem xC(hm:uc cN=some r):ef prog 164 [] [ag cN] (.bool r):=by
 refine eu func164 rfl rfl ?_;unfold uc at hm;refine bn [] [(0,ag cN)] []<|bn [] [(2,.bool (!decide (cN=cN)))] [] ?_
 cases hm;exact A.ret cC
theorem rQ{y:Int}{r:Int}(hm:nt cN y=some r):ef prog 106 [] [ag cN,ag y] (ag r):=by
 refine eu func106 rfl rfl ?_;unfold nt at hm;refine bn [] [(0,ag cN),(1,ag y)] [] ?_;obtain⟨a8,h1,hm⟩:=bI hm;refine br [(1,cE (xC h1) yI)] [] [(5,.bool a8)] ?_;obtain⟨bt,D,hm⟩:=bI hm;refine br [(1,cE (xC D) yI)] [] [(6,.bool bt)]<|A.seq<|br [] [5] [(11,.bool a8)] ?_
 rcases cZ hm with⟨bk,hm⟩|⟨bk,hm⟩
 ·refine cM bk<|A.seq<|bn [] [(12,.bool bt)] [] ?_
  rcases cZ hm with⟨bZ,hm⟩|⟨bZ,hm⟩
  ·refine cM bZ<|bn [] [(4,ag 0)] [] ?_
   cases hm;exact A.ret cC
  refine cL bZ<|A.skip<|bn [] [(4,ag (-1))] [] ?_
  cases hm;exact A.ret cC
 refine cL bk<|A.skip<|A.seq<|br [] [6,11] [(13,.bool bt)] ?_
 rcases cZ hm with⟨c1,hm⟩|⟨c1,hm⟩
 ·refine cM c1<|bn [] [(4,ag 1)] [] ?_
  cases hm;exact A.ret cC
 refine cL c1<|A.skip<|A.seq<|br [] [13] [(16,.bool (decide (cN<y)))] ?_
 rcases cZ hm with⟨fu,hm⟩|⟨fu,hm⟩
 ·refine cM fu<|bn [] [(4,ag (-1))] [] ?_
  cases hm;exact A.ret cC
 refine cL fu<|A.skip<|A.seq<|bn [] [(19,.bool (decide (y<cN)))] [] ?_
 rcases cZ hm with⟨gl,hm⟩|⟨gl,hm⟩
 ·refine cM gl<|bn [] [(4,ag 1)] [] ?_
  cases hm;exact A.ret cC
 refine cL gl<|A.skip<|bn [] [(4,ag 0)] [] ?_
 cases hm;exact A.ret cC
theorem CA{fR:List Int}{r:Int}(hm:qL fR=some r):ef prog 126 [] [bm bq fR] (ag r):=by
 refine eu func126 rfl rfl ?_;unfold qL at hm;refine bn [] [(0,bm bq fR)] []<|br [] [] [(3,ag 0)]<|A.seq<|br [(1,aZ (ew bq fR))] [0] [(6,bm bq fR),(7,ag (fR.length:Int)),(8,ag 0)]<|A.block<|A.jx 6 rfl λfZ=>?_
 obtain⟨hA,hB,hE,hq,hm⟩:=iF hm;refine A.iS (l:=fR) (hn:=0) (B:=hA) (K:=hB) hm (λbp=>λav=>match av with|()=>[(3,ag 0),(6,bm bq fR),(7,ag (fR.length:Int)),(8,ag (bp:Int))]) (λbp=>λav=>match av with|()=>[]) ?_ ?_ ?_
 ·exact hK
 ·rintro bp aA dh ⟨⟩ hF cI hm;rw[hE]at hm;refine br [] [] [(9,.bool (decide ((bp:Int)<(fR.length:Int))))]<|A.seq<|cM (ih cI)<|A.skip<|A.seq<|A.block<|br [(0,eg (ix bq (hN cI)))] [9] [(5,ag aA)]<|br [] [] [(14,.bool (!decide (aA=0)))] ?_
  rcases cZ hm with⟨bk,hm⟩|⟨bk,hm⟩
  ·refine cM bk<|bn [] [(2,ag aA)] [] ?_
   cases hm;exact A.ret cC
  exact cL bk<|A.skip<|fq [(0,aZ (hV cI fZ))] [8,5,14] [(8,ag ((bp+1:Nat):Int))]<|ek () hm
 rintro bp ⟨⟩ hF gO hm;rw[hq]at hm;refine br [] [] [(9,.bool (decide ((bp:Int)<(fR.length:Int))))]<|A.seq<|cL (h8 gO)<|A.exit<|bn [] [(2,ag 0)] [] ?_
 cases hm;exact A.ret cC
variable {pq:Nat}{rj:List U}
theorem afQ{cN:List c8}{target:c8}{rO:c8→c8→Option Int}(wG:dk prog pq)(wH:∀(jc:c8) (sM:c8) (q:Int),rO jc sM=some q→ef prog pq [] ([.agg (gK jc),.agg (gK sM)]++rj) (ag q)){r:Int×Bool}(hm:BB cN target rO=some r):ef prog 130 [] [bm eW cN,.agg (gK target),.gp pq rj] (.cD [ag r.1,.bool r.2]):=by
 refine eu func130 rfl rfl ?_;unfold BB at hm;refine bn [(0,.al 130004)] [(0,bm eW cN),(2,.gp pq rj),(4,.ptr 130004 0)] [(130004,.cells 62 (gK target))]<|br [(1,aZ (ew eW cN))] [] [(8,ag (cN.length:Int))]<|br [] [] [(9,ag 0),(10,ag (cN.length:Int))]<|A.seq<|A.block ?_
 obtain⟨lJ,hG,lU,hm⟩:=qY hm;refine A.q7 (F:=lJ) hm (λav=>match av with|(cr,fN)=>[(0,bm eW cN),(2,.gp pq rj),(4,.ptr 130004 0),(8,ag (cN.length:Int)),(9,ag cr),(10,ag fN)]) (λav=>match av with|(cr,fN)=>[(130004,.cells 62 (gK target))]) ?_ ?_
 ·exact hK
 rintro dh ⟨cr,fN⟩ hm;rw[lU]at hm;refine A.seq<|br [] [] [(17,.bool (decide (cr<fN)))] ?_
 rcases cZ hm with⟨bk,hm⟩|⟨bk,hm⟩
 ·refine cM bk<|A.skip<|A.block<|br [(4,.sh (1:Int) (by decide))] [17] [(11,ag (bK (Int.fdiv (IntKind.wrap .u64 (bK (cr+fN))) (2 ^ min (1:Int).toNat 64))))] ?_
  obtain⟨ej,h1,hm⟩:=bI hm;obtain⟨a8,D,hm⟩:=bI hm;refine br [(3,eg (ix eW h1)),(6,n3 (wH _ _ _ D) wG)] [] [(31,.bool (decide (a8<0)))] ?_;rcases cZ hm with⟨bZ,hm⟩|⟨bZ,hm⟩
  ·exact cM bZ<|fq [] [9,11,31] [(9,ag (bK ((bK (Int.fdiv (IntKind.wrap .u64 (bK (cr+fN))) (2 ^ min (1:Int).toNat 64)))+(1:Int))))]<|ek (bK ((bK (Int.fdiv (IntKind.wrap .u64 (bK (cr+fN))) (2 ^ min (1:Int).toNat 64)))+(1:Int)),fN) hm
  exact cL bZ<|fq [] [10,11,31] [(10,ag (bK (Int.fdiv (IntKind.wrap .u64 (bK (cr+fN))) (2 ^ min (1:Int).toNat 64))))]<|ek (cr,bK (Int.fdiv (IntKind.wrap .u64 (bK (cr+fN))) (2 ^ min (1:Int).toNat 64))) hm
 refine cL bk<|A.exit ?_
 rcases cZ hm with⟨c1,hm⟩|⟨c1,hm⟩
 ·obtain⟨hS,ak,hm⟩:=bI hm;obtain⟨bt,bc,hm⟩:=bI hm;refine bn [(4,aZ (c9 c1)),(8,eg (ix eW ak)),(11,n3 (wH _ _ _ bc) wG)] [(6,ag cr),(7,.bool (decide (bt=0)))] [] ?_;cases hm;exact A.ret cC
 refine bn [(4,aZ (c9 c1))] [(6,ag cr),(7,.bool false)] [] ?_;cases hm;exact A.ret cC
theorem RF{cN:List eC}{target:Int}{rO:eC→Int→Option Int}(wG:dk prog pq)(wH:∀(jc:eC) (sM:Int) (q:Int),rO jc sM=some q→ef prog pq [] ([.agg (sk jc),ag sM]++rj) (ag q)){r:Int×Bool}(hm:yV cN target rO=some r):ef prog 136 [] [bm fK cN,ag target,.gp pq rj] (.cD [ag r.1,.bool r.2]):=by
 refine eu func136 rfl rfl ?_;unfold yV at hm;refine bn [] [(0,bm fK cN),(1,ag target),(2,.gp pq rj)] []<|br [(1,aZ (ew fK cN))] [] [(8,ag (cN.length:Int))]<|br [] [] [(9,ag 0),(10,ag (cN.length:Int))]<|A.seq<|A.block ?_
 obtain⟨lJ,hG,lU,hm⟩:=qY hm;refine A.q7 (F:=lJ) hm (λav=>match av with|(cr,fN)=>[(0,bm fK cN),(1,ag target),(2,.gp pq rj),(8,ag (cN.length:Int)),(9,ag cr),(10,ag fN)]) (λav=>match av with|(cr,fN)=>[]) ?_ ?_
 ·exact hK
 rintro dh ⟨cr,fN⟩ hm;rw[lU]at hm;refine A.seq<|br [] [] [(17,.bool (decide (cr<fN)))] ?_
 rcases cZ hm with⟨bk,hm⟩|⟨bk,hm⟩
 ·refine cM bk<|A.skip<|A.block<|br [(4,.sh (1:Int) (by decide))] [17] [(11,ag (bK (Int.fdiv (IntKind.wrap .u64 (bK (cr+fN))) (2 ^ min (1:Int).toNat 64))))] ?_
  obtain⟨ej,h1,hm⟩:=bI hm;obtain⟨a8,D,hm⟩:=bI hm;refine br [(3,eg (ix fK h1)),(6,n3 (wH _ _ _ D) wG)] [] [(31,.bool (decide (a8<0)))] ?_;rcases cZ hm with⟨bZ,hm⟩|⟨bZ,hm⟩
  ·exact cM bZ<|fq [] [9,11,31] [(9,ag (bK ((bK (Int.fdiv (IntKind.wrap .u64 (bK (cr+fN))) (2 ^ min (1:Int).toNat 64)))+(1:Int))))]<|ek (bK ((bK (Int.fdiv (IntKind.wrap .u64 (bK (cr+fN))) (2 ^ min (1:Int).toNat 64)))+(1:Int)),fN) hm
  exact cL bZ<|fq [] [10,11,31] [(10,ag (bK (Int.fdiv (IntKind.wrap .u64 (bK (cr+fN))) (2 ^ min (1:Int).toNat 64))))]<|ek (cr,bK (Int.fdiv (IntKind.wrap .u64 (bK (cr+fN))) (2 ^ min (1:Int).toNat 64))) hm
 refine cL bk<|A.exit ?_
 rcases cZ hm with⟨c1,hm⟩|⟨c1,hm⟩
 ·obtain⟨hS,ak,hm⟩:=bI hm;obtain⟨bt,bc,hm⟩:=bI hm;refine bn [(4,aZ (c9 c1)),(8,eg (ix fK ak)),(11,n3 (wH _ _ _ bc) wG)] [(6,ag cr),(7,.bool (decide (bt=0)))] [] ?_;cases hm;exact A.ret cC
 refine bn [(4,aZ (c9 c1))] [(6,ag cr),(7,.bool false)] [] ?_;cases hm;exact A.ret cC
variable {eN:List Int}
theorem aiD{v:Int}{r:Int}(hm:EF eN v=some r):ef prog 146 [] [bm bq eN,ag v] (ag r):=by
 refine eu func146 rfl rfl ?_;unfold EF at hm;refine bn [] [(0,bm bq eN),(1,ag v)] []<|A.seq<|br [(1,aZ (ew bq eN))] [] [(7,ag (eN.length:Int)),(8,ag 0)]<|A.block<|A.jx 0 rfl λfZ=>?_
 obtain⟨hA,hB,hE,hq,hm⟩:=iF hm;refine A.iS (l:=eN) (hn:=0) (B:=hA) (K:=hB) hm (λbp=>λav=>match av with|()=>[(0,bm bq eN),(1,ag v),(7,ag (eN.length:Int)),(8,ag (bp:Int))]) (λbp=>λav=>match av with|()=>[]) ?_ ?_ ?_
 ·exact hK
 ·rintro bp aA dh ⟨⟩ hF cI hm;rw[hE]at hm;refine br [] [] [(9,.bool (decide ((bp:Int)<(eN.length:Int))))]<|A.seq<|cM (ih cI)<|A.skip<|A.seq<|A.block<|br [] [9] [(5,ag (bp:Int))]<|br [(3,eg (ix bq (hN cI)))] [] [(16,.bool (decide (v=aA)))] ?_
  rcases cZ hm with⟨bk,hm⟩|⟨bk,hm⟩
  ·refine cM bk<|bn [] [(4,ag (bp:Int))] [] ?_
   cases hm;exact A.ret cC
  exact cL bk<|A.skip<|fq [(0,aZ (hV cI fZ))] [8,5,16] [(8,ag ((bp+1:Nat):Int))]<|ek () hm
 rintro bp ⟨⟩ hF gO hm;rw[hq]at hm;refine br [] [] [(9,.bool (decide ((bp:Int)<(eN.length:Int))))]<|A.seq<|cL (h8 gO)<|A.exit<|bn [] [(4,ag (-1))] [] ?_
 cases hm;exact A.ret cC
variable {f:eC→Option Bool}{j6:List U}{jl:Nat}
theorem aia{eN:List eC}(nV:dk prog jl)(nU:∀(jc:eC) (q:Bool),f jc=some q→ef prog jl [] ([.agg (sk jc)]++j6) (.bool q)){r:Int}(hm:Et eN f=some r):ef prog 180 [] [bm fK eN,.gp jl j6] (ag r):=by
 refine eu func180 rfl rfl ?_;unfold Et at hm;refine bn [] [(0,bm fK eN),(1,.gp jl j6)] []<|A.seq<|br [(1,aZ (ew fK eN))] [] [(7,ag (eN.length:Int)),(8,ag 0)]<|A.block<|A.jx 0 rfl λfZ=>?_
 obtain⟨hA,hB,hE,hq,hm⟩:=iF hm;refine A.iS (l:=eN) (hn:=0) (B:=hA) (K:=hB) hm (λbp=>λav=>match av with|()=>[(0,bm fK eN),(1,.gp jl j6),(7,ag (eN.length:Int)),(8,ag (bp:Int))]) (λbp=>λav=>match av with|()=>[]) ?_ ?_ ?_
 ·exact hK
 ·rintro bp aA dh ⟨⟩ hF cI hm;rw[hE]at hm;refine br [] [] [(9,.bool (decide ((bp:Int)<(eN.length:Int))))]<|A.seq<|cM (ih cI)<|A.skip<|A.seq<|A.block<|br [] [9] [(5,ag (bp:Int))] ?_
  obtain⟨a8,h1,hm⟩:=bI hm;refine br [(3,eg (ix fK (hN cI))),(5,n3 (nU _ _ h1) nV)] [] [(16,.bool a8)] ?_;rcases cZ hm with⟨bk,hm⟩|⟨bk,hm⟩
  ·refine cM bk<|bn [] [(4,ag (bp:Int))] [] ?_
   cases hm;exact A.ret cC
  exact cL bk<|A.skip<|fq [(0,aZ (hV cI fZ))] [8,5,16] [(8,ag ((bp+1:Nat):Int))]<|ek () hm
 rintro bp ⟨⟩ hF gO hm;rw[hq]at hm;refine br [] [] [(9,.bool (decide ((bp:Int)<(eN.length:Int))))]<|A.seq<|cL (h8 gO)<|A.exit<|bn [] [(4,ag (-1))] [] ?_
 cases hm;exact A.ret cC
theorem aih{eN:List c8}{f:c8→Option Bool}(nV:dk prog jl)(nU:∀(jc:c8) (q:Bool),f jc=some q→ef prog jl [] ([.agg (gK jc)]++j6) (.bool q)){r:Int}(hm:Ev eN f=some r):ef prog 181 [] [bm eW eN,.gp jl j6] (ag r):=by
 refine eu func181 rfl rfl ?_;unfold Ev at hm;refine bn [] [(0,bm eW eN),(1,.gp jl j6)] []<|A.seq<|br [(1,aZ (ew eW eN))] [] [(7,ag (eN.length:Int)),(8,ag 0)]<|A.block<|A.jx 0 rfl λfZ=>?_
 obtain⟨hA,hB,hE,hq,hm⟩:=iF hm;refine A.iS (l:=eN) (hn:=0) (B:=hA) (K:=hB) hm (λbp=>λav=>match av with|()=>[(0,bm eW eN),(1,.gp jl j6),(7,ag (eN.length:Int)),(8,ag (bp:Int))]) (λbp=>λav=>match av with|()=>[]) ?_ ?_ ?_
 ·exact hK
 ·rintro bp aA dh ⟨⟩ hF cI hm;rw[hE]at hm;refine br [] [] [(9,.bool (decide ((bp:Int)<(eN.length:Int))))]<|A.seq<|cM (ih cI)<|A.skip<|A.seq<|A.block<|br [] [9] [(5,ag (bp:Int))] ?_
  obtain⟨a8,h1,hm⟩:=bI hm;refine br [(3,eg (ix eW (hN cI))),(5,n3 (nU _ _ h1) nV)] [] [(16,.bool a8)] ?_;rcases cZ hm with⟨bk,hm⟩|⟨bk,hm⟩
  ·refine cM bk<|bn [] [(4,ag (bp:Int))] [] ?_
   cases hm;exact A.ret cC
  exact cL bk<|A.skip<|fq [(0,aZ (hV cI fZ))] [8,5,16] [(8,ag ((bp+1:Nat):Int))]<|ek () hm
 rintro bp ⟨⟩ hF gO hm;rw[hq]at hm;refine br [] [] [(9,.bool (decide ((bp:Int)<(eN.length:Int))))]<|A.seq<|cL (h8 gO)<|A.exit<|bn [] [(4,ag (-1))] [] ?_
 cases hm;exact A.ret cC
theorem aic{eN:List bL}{f:bL→Option Bool}(nV:dk prog jl)(nU:∀(jc:bL) (q:Bool),f jc=some q→ef prog jl [] ([.agg (pn jc)]++j6) (.bool q)){r:Int}(hm:Eu eN f=some r):ef prog 183 [] [bm eo eN,.gp jl j6] (ag r):=by
 refine eu func183 rfl rfl ?_;unfold Eu at hm;refine bn [] [(0,bm eo eN),(1,.gp jl j6)] []<|A.seq<|br [(1,aZ (ew eo eN))] [] [(7,ag (eN.length:Int)),(8,ag 0)]<|A.block<|A.jx 0 rfl λfZ=>?_
 obtain⟨hA,hB,hE,hq,hm⟩:=iF hm;refine A.iS (l:=eN) (hn:=0) (B:=hA) (K:=hB) hm (λbp=>λav=>match av with|()=>[(0,bm eo eN),(1,.gp jl j6),(7,ag (eN.length:Int)),(8,ag (bp:Int))]) (λbp=>λav=>match av with|()=>[]) ?_ ?_ ?_
 ·exact hK
 ·rintro bp aA dh ⟨⟩ hF cI hm;rw[hE]at hm;refine br [] [] [(9,.bool (decide ((bp:Int)<(eN.length:Int))))]<|A.seq<|cM (ih cI)<|A.skip<|A.seq<|A.block<|br [] [9] [(5,ag (bp:Int))] ?_
  obtain⟨a8,h1,hm⟩:=bI hm;refine br [(3,eg (ix eo (hN cI))),(5,n3 (nU _ _ h1) nV)] [] [(16,.bool a8)] ?_;rcases cZ hm with⟨bk,hm⟩|⟨bk,hm⟩
  ·refine cM bk<|bn [] [(4,ag (bp:Int))] [] ?_
   cases hm;exact A.ret cC
  exact cL bk<|A.skip<|fq [(0,aZ (hV cI fZ))] [8,5,16] [(8,ag ((bp+1:Nat):Int))]<|ek () hm
 rintro bp ⟨⟩ hF gO hm;rw[hq]at hm;refine br [] [] [(9,.bool (decide ((bp:Int)<(eN.length:Int))))]<|A.seq<|cL (h8 gO)<|A.exit<|bn [] [(4,ag (-1))] [] ?_
 cases hm;exact A.ret cC
theorem aiz{v:Int}(hm:BF eN v=some r):ef prog 76 [] [bm bq eN,ag v] (.bool r):=by
 refine eu func76 rfl rfl ?_;unfold BF at hm;refine bn [] [(0,bm bq eN),(1,ag v)] [] ?_;obtain⟨a8,h1,hm⟩:=bI hm;refine bn [(2,cE (aiD h1) aeA)] [(4,.bool (decide (0≤a8)))] [] ?_;cases hm;exact A.ret cC
theorem ah2{eN:List eC}(nV:dk prog jl)(nU:∀(jc:eC) (q:Bool),f jc=some q→ef prog jl [] ([.agg (sk jc)]++j6) (.bool q))(hm:BA eN f=some r):ef prog 132 [] [bm fK eN,.gp jl j6] (.bool r):=by
 refine eu func132 rfl rfl ?_;unfold BA at hm;refine bn [] [(0,bm fK eN),(1,.gp jl j6)] [] ?_;obtain⟨a8,h1,hm⟩:=bI hm;refine bn [(2,cE (aia (nV:=nV) (nU:=nU) h1) aeI)] [(4,.bool (decide (0≤a8)))] [] ?_;cases hm;exact A.ret cC
theorem Js{eN:List c8}{f:c8→Option Bool}(nV:dk prog jl)(nU:∀(jc:c8) (q:Bool),f jc=some q→ef prog jl [] ([.agg (gK jc)]++j6) (.bool q))(hm:xq eN f=some r):ef prog 138 [] [bm eW eN,.gp jl j6] (.bool r):=by
 refine eu func138 rfl rfl ?_;unfold xq at hm;refine bn [] [(0,bm eW eN),(1,.gp jl j6)] [] ?_;obtain⟨a8,h1,hm⟩:=bI hm;refine bn [(2,cE (aih (nV:=nV) (nU:=nU) h1) aeJ)] [(4,.bool (decide (0≤a8)))] [] ?_;cases hm;exact A.ret cC
theorem xA{n:Int}{i1:Int}{kU:Int}(hm:vu n i1 kU=some r):ef prog 134 [] [ag n,ag i1,ag kU] (.bool r):=by
 refine eu func134 rfl rfl ?_;unfold vu at hm;refine bn [] [(0,ag n),(1,ag i1),(2,ag kU)] []<|A.mid [(6,.bool ((decide (i1≤n))&&(decide (n≤kU))))] [] (λhk=>?_) ?_
 ·rcases mx (decide (i1≤n))with bk|bk
  ·exact bn [(3,aZ (c9 bk)),(8,aZ (wU (q:=decide (n≤kU)) bk))] _ _ hk
  exact bn [(3,aZ (c9 bk)),(8,aZ (wV (q:=decide (n≤kU)) bk))] _ _ hk
 cases hm;exact A.ret cC
theorem S0{a:c8}{b:c8}{r:Int}(hm:y5 a b=some r):ef prog 131 [] [.agg (gK a),.agg (gK b)] (ag r):=by
 refine eu func131 rfl rfl ?_;unfold y5 at hm;refine bn [(0,.al 131002),(1,.al 131003)] [(2,.ptr 131002 0),(3,.ptr 131003 0)] [(131002,.cells 62 (gK a)),(131003,.cells 62 (gK b))] ?_;obtain⟨a8,h1,hm⟩:=bI hm;obtain⟨bt,D,hm⟩:=bI hm;obtain⟨c7,ak,hm⟩:=bI hm;refine bn [(4,cE (rQ h1) sw),(9,cE (rQ D) sw),(11,cE (CA ak) Dz)] [(4,ag c7)] [] ?_;cases hm;exact A.ret cC
variable {id:Int}{j4:eC}
theorem S7{r:Int}(hm:zf j4 id=some r):ef prog 137 [] [.agg (sk j4),ag id] (ag r):=by
 refine eu func137 rfl rfl ?_;unfold zf at hm;refine bn [(0,.al 137002)] [(1,ag id),(2,.ptr 137002 0)] [(137002,.cells 31 (sk j4))] ?_;obtain⟨a8,h1,hm⟩:=bI hm;refine bn [(3,cE (rQ h1) sw)] [(4,ag a8)] [] ?_;cases hm;exact A.ret cC
theorem aiZ(hm:Fc j4=some r):ef prog 133 [] [.agg (sk j4)] (.bool r):=by
 refine eu func133 rfl rfl ?_;unfold Fc at hm;refine bn [(0,.al 133001)] [(1,.ptr 133001 0)] [(133001,.cells 31 (sk j4))] ?_;obtain⟨a8,h1,hm⟩:=bI hm;refine bn [(2,cE (xA h1) yH)] [(2,.bool (!a8))] [] ?_;cases hm;exact A.ret cC
variable {l:c8}
theorem ai0(hm:BL l=some r):ef prog 139 [] [.agg (gK l)] (.bool r):=by
 refine eu func139 rfl rfl ?_;unfold BL at hm;refine bn [(0,.al 139001)] [(1,.ptr 139001 0)] [(139001,.cells 62 (gK l))] ?_;obtain⟨a8,h1,hm⟩:=bI hm;rcases cZ hm with⟨bk,hm⟩|⟨bk,hm⟩
 ·refine bn [(2,cE (xA h1) yH),(4,aZ (c9 bk))] [(2,.bool true)] [] ?_;cases hm;exact A.ret cC
 obtain⟨bt,D,hm⟩:=bI hm;rcases cZ hm with⟨bZ,hm⟩|⟨bZ,hm⟩
 ·refine bn [(2,cE (xA h1) yH),(4,aZ (c9 bk)),(7,cE (xA D) yH),(10,aZ (c9 bZ))] [(2,.bool true)] [] ?_;cases hm;exact A.ret cC
 obtain⟨c7,ak,hm⟩:=bI hm;refine bn [(2,cE (xA h1) yH),(4,aZ (c9 bk)),(7,cE (xA D) yH),(10,aZ (c9 bZ)),(13,cE (xA ak) yH)] [(2,.bool (!c7))] [] ?_;cases hm;exact A.ret cC
variable {l7:b0}
theorem Ks(hm:y6 id l7=some r):ef prog 135 [] [ag id,.fP (dN l7)] (.bool r):=by
 refine eu func135 rfl rfl ?_;unfold y6 at hm;refine bn [] [(0,ag id),(1,.fP (dN l7))] [] ?_;obtain⟨a8,h1,hm⟩:=bI hm;refine bn [(3,cE (RF (pq:=137) (rj:=[]) (wG:=PW) (wH:=λ_ _ _ h=>S7 h) h1) PV)] [(5,.bool a8.2)] []<|bn [] [(3,.bool (!a8.2))] [] ?_
 cases hm;exact A.ret cC
theorem ai1(hm:Fe l l7=some r):ef prog 140 [] [.agg (gK l),.fP [.fn 135 [.fP (dN l7)]]] (.bool r):=by
 refine eu func140 rfl rfl ?_;unfold Fe at hm;refine bn [(0,.al 140002)] [(1,.fP [.fn 135 [.fP (dN l7)]]),(2,.ptr 140002 0)] [(140002,.cells 62 (gK l))] ?_;obtain⟨a8,h1,hm⟩:=bI hm;rcases cZ hm with⟨bk,hm⟩|⟨bk,hm⟩
 ·refine bn [(3,hle [] (Ks h1) H9),(4,aZ (c9 bk))] [(3,.bool true)] [] ?_;cases hm;exact A.ret cC
 obtain⟨bt,D,hm⟩:=bI hm;refine bn [(3,hle [] (Ks h1) H9),(4,aZ (c9 bk)),(8,hle [] (Ks D) H9)] [(3,.bool bt)] [] ?_;cases hm;exact A.ret cC
theorem ai2(hm:Ff l=some r):ef prog 141 [] [.agg (gK l)] (.bool r):=by
 refine eu func141 rfl rfl ?_;unfold Ff at hm;refine bn [(0,.al 141001)] [(1,.ptr 141001 0)] [(141001,.cells 62 (gK l))]<|bn [] [(2,.bool (decide (l.B≤l.A)))] [] ?_
 cases hm;exact A.ret cC
variable {t:b0}
theorem Kv{r:Int}(hm:xz t=some r):ef prog 71 [] [.agg (dN t)] (ag r):=by
 refine eu func71 rfl rfl ?_;unfold xz at hm;refine bn [(0,.al 71001)] [(1,.ptr 71001 0)] [(71001,.cells 28 (dN t))]<|A.seq<|A.block<|A.mid [(1,.ptr 71001 0),(6,.bool ((decide (24<(t.dU.length:Int)))||(decide (60<(t.Links.length:Int)))))] [(71001,.cells 28 (dN t))] (λhk=>?_) ?_
 ·rcases mx (decide (24<(t.dU.length:Int)))with bk|bk
  ·exact bn [(2,aZ (ew fK t.dU)),(4,aZ (c9 bk)),(10,aZ (uG (q:=decide (60<(t.Links.length:Int))) bk))] _ _ hk
  exact bn [(2,aZ (ew fK t.dU)),(4,aZ (c9 bk)),(7,aZ (ew eW t.Links)),(10,aZ (sx (q:=decide (60<(t.Links.length:Int))) bk))] _ _ hk
 rcases cZ hm with⟨bZ,hm⟩|⟨bZ,hm⟩
 ·refine cM bZ<|bn [] [(2,ag 3)] [] ?_
  cases hm;exact A.ret cC
 refine cL bZ ?_;obtain⟨a8,h1,hm⟩:=bI hm;refine br [(2,cE (ah2 (jl:=133) (j6:=[]) (nV:=adq) (nU:=λ_ _ h=>aiZ h) h1) adp)] [6] [(17,.bool a8)] ?_;rcases cZ hm with⟨c1,hm⟩|⟨c1,hm⟩
 ·refine cM c1<|bn [] [(2,ag 2)] [] ?_
  cases hm;exact A.ret cC
 refine cL c1<|A.skip<|A.seq<|br [(2,aZ (ew fK t.dU))] [17] [(23,ag (t.dU.length:Int)),(24,ag 0)]<|A.block<|A.En 1 0 rfl rfl rfl λfZ=>?_
 obtain⟨hA,hB,hE,hq,hm⟩:=iF hm;refine A.iS (l:=t.dU) (hn:=0) (B:=hA) (K:=hB) hm (λbp=>λav=>match av with|()=>[(1,.ptr 71001 0),(23,ag (t.dU.length:Int)),(24,ag (bp:Int))]) (λbp=>λav=>match av with|()=>[(71001,.cells 28 (dN t))]) ?_ ?_ ?_
 ·exact hK
 ·rintro bp aA dh ⟨⟩ hF cI hm;rw[hE]at hm;refine br [] [] [(25,.bool (decide ((bp:Int)<(t.dU.length:Int))))]<|A.seq<|cM (ih cI)<|A.skip<|A.seq<|A.block<|br [] [25] [(3,ag (bp:Int))] ?_
  obtain⟨fD,kr,hm⟩:=lu hm;refine A.J (J:=fD) (r:=r) (λjL=>[(1,.ptr 71001 0),(23,ag (t.dU.length:Int)),(24,ag (bp:Int)),(44,.bool jL)]) (λjL=>[(71001,.cells 28 (dN t))]) ?_ ?_
  ·rcases cZ hm with⟨fu,hm⟩|⟨fu,hm⟩
   ·obtain⟨ej,D,hm⟩:=bI hm;exact fq [(2,aZ (c9 fu)),(7,eg (ix fK D)),(13,eg (ix fK (hN cI)))] [3] [(44,.bool (decide (aA.ff≤ej.ff)))]<|ek (decide (aA.ff≤ej.ff)) hm
   exact fq [(2,aZ (c9 fu))] [3] [(44,.bool false)]<|ek false hm
  rintro jL hm;rw[kr]at hm;rcases cZ hm with⟨gl,hm⟩|⟨gl,hm⟩
  ·refine cM gl<|bn [] [(2,ag 25)] [] ?_
   cases hm;exact A.ret cC
  exact cL gl<|A.skip<|fq [(0,aZ (hV cI fZ))] [24,44] [(24,ag ((bp+1:Nat):Int))]<|ek () hm
 rintro bp ⟨⟩ hF gO hm;rw[hq]at hm;refine br [] [] [(25,.bool (decide ((bp:Int)<(t.dU.length:Int))))]<|A.seq<|cL (h8 gO)<|A.exit<|eV [(1,.al 71004)] [23,24,25] [(4,.ptr 71004 0)] [] [(71004,.cells 188 [.fn 135 [.ptr 71001 0]])]<|A.seq<|A.block ?_
 obtain⟨bt,ak,hm⟩:=bI hm;refine br [(2,cE (Js (jl:=139) (j6:=[]) (nV:=adr) (nU:=λ_ _ h=>ai0 h) ak) Ia)] [] [(47,.bool bt)] ?_;rcases cZ hm with⟨it,hm⟩|⟨it,hm⟩
 ·refine cM it<|bn [] [(2,ag 2)] [] ?_
  cases hm;exact A.ret cC
 refine cL it ?_;obtain⟨c7,bc,hm⟩:=bI hm;refine eV [(3,hle [71004,71001] (Js (jl:=140) (j6:=[.fP [.fn 135 [.fP (dN t)]]]) (nV:=ads) (nU:=λ_ _ h=>ai1 h) bc) Ia)] [4,47] [(51,.bool c7)] [71004] [] ?_;rcases cZ hm with⟨ov,hm⟩|⟨ov,hm⟩
 ·refine cM ov<|bn [] [(2,ag 4)] [] ?_
  cases hm;exact A.ret cC
 refine cL ov ?_;obtain⟨fl,bX,hm⟩:=bI hm;refine br [(2,cE (Js (jl:=141) (j6:=[]) (nV:=aex) (nU:=λ_ _ h=>ai2 h) bX) Ia)] [51] [(56,.bool fl)] ?_;rcases cZ hm with⟨ow,hm⟩|⟨ow,hm⟩
 ·refine cM ow<|bn [] [(2,ag 8)] [] ?_
  cases hm;exact A.ret cC
 refine cL ow<|A.skip<|A.seq<|br [(2,aZ (ew eW t.Links))] [56] [(62,ag (t.Links.length:Int)),(63,ag 0)]<|A.block<|A.En 1 1 rfl rfl rfl λfG=>?_
 obtain⟨ni,jS,nx,nz,hm⟩:=iF hm;refine A.iS (l:=t.Links) (hn:=0) (B:=ni) (K:=jS) hm (λdd=>λav=>match av with|()=>[(1,.ptr 71001 0),(62,ag (t.Links.length:Int)),(63,ag (dd:Int))]) (λdd=>λav=>match av with|()=>[(71001,.cells 28 (dN t))]) ?_ ?_ ?_
 ·exact hK
 ·rintro dd e2 jM ⟨⟩ jo gb hm;rw[nx]at hm;refine br [] [] [(64,.bool (decide ((dd:Int)<(t.Links.length:Int))))]<|A.seq<|cM (ih gb)<|A.skip<|A.seq<|A.block<|br [] [64] [(5,ag (dd:Int))] ?_
  obtain⟨jB,rY,hm⟩:=lu hm;refine A.J (J:=jB) (r:=r) (λsK=>[(1,.ptr 71001 0),(62,ag (t.Links.length:Int)),(63,ag (dd:Int)),(82,.bool sK)]) (λsK=>[(71001,.cells 28 (dN t))]) ?_ ?_
  ·rcases cZ hm with⟨rN,hm⟩|⟨rN,hm⟩
   ·obtain⟨hS,dV,hm⟩:=bI hm;obtain⟨fE,fF,hm⟩:=bI hm;exact fq [(2,aZ (c9 rN)),(7,eg (ix eW dV)),(12,eg (ix eW (hN gb))),(14,cE (S0 fF) PU)] [5] [(82,.bool (decide (0≤fE)))]<|ek (decide (0≤fE)) hm
   exact fq [(2,aZ (c9 rN))] [5] [(82,.bool false)]<|ek false hm
  rintro sK hm;rw[rY]at hm;rcases cZ hm with⟨tY,hm⟩|⟨tY,hm⟩
  ·refine cM tY<|bn [] [(2,ag 25)] [] ?_
   cases hm;exact A.ret cC
  exact cL tY<|A.skip<|fq [(0,aZ (hV gb fG))] [63,82] [(63,ag ((dd+1:Nat):Int))]<|ek () hm
 rintro dd ⟨⟩ jo kg hm;rw[nz]at hm;refine br [] [] [(64,.bool (decide ((dd:Int)<(t.Links.length:Int))))]<|A.seq<|cL (h8 kg)<|A.exit<|bn [] [(2,ag 0)] [] ?_
 cases hm;exact A.ret cC
theorem Kw(hm:zb t=some r):ef prog 129 [] [.agg (dN t)] (.bool r):=by
 refine eu func129 rfl rfl ?_;unfold zb at hm;refine bn [(0,.al 129001)] [(1,.ptr 129001 0)] [(129001,.cells 28 (dN t))] ?_;obtain⟨a8,h1,hm⟩:=bI hm;refine bn [(1,cE (Kv h1) IS)] [(2,.bool (decide (a8=0)))] [] ?_;cases hm;exact A.ret cC
variable {oF:Int}
theorem akP{r:eC×Bool}(hm:Cy t oF=some r):ef prog 144 [] [.agg (dN t),ag oF] (.cD [.agg (sk r.1),.bool r.2]):=by
 refine eu func144 rfl rfl ?_;unfold Cy at hm;refine bn [(0,.al 144002),(1,.al 144004)] [(1,ag oF),(2,.ptr 144002 0),(4,.ptr 144004 0)] [(144002,.cells 28 (dN t)),(144004,.cells 31 [ag 0,.bool false])] ?_;obtain⟨a8,h1,hm⟩:=bI hm;refine br [(3,cE (RF (pq:=137) (rj:=[]) (wG:=PW) (wH:=λ_ _ _ h=>S7 h) h1) PV)] [1] [(6,ag a8.1),(7,.bool a8.2)]<|A.seq<|br [] [7] [(16,.bool (!a8.2))] ?_
 rcases cZ hm with⟨bk,hm⟩|⟨bk,hm⟩
 ·refine cM bk<|eV [] [2,6,16] [(5,.bool false)] [144002] [] ?_
  cases hm;exact A.ret cC
 refine cL bk<|A.skip ?_
 obtain⟨ej,D,hm⟩:=bI hm;refine bn [(3,eg (ix fK D))] [(4,.ptr 144004 0),(5,.bool true)] [(144004,.cells 31 (sk ej))] ?_;cases hm;exact A.ret cC
theorem Ta(hm:zD t oF=some r):ef prog 73 [] [.agg (dN t),ag oF] (.bool r):=by
 refine eu func73 rfl rfl ?_;unfold zD at hm;refine bn [(0,.al 73002)] [(1,ag oF),(2,.ptr 73002 0)] [(73002,.cells 28 (dN t))] ?_;obtain⟨a8,h1,hm⟩:=bI hm;refine br [(2,cE (akP h1) aez),(6,.al 73005)] [1] [(6,.bool a8.2)] ?_;obtain⟨bt,D,hm⟩:=bI hm;rcases cZ hm with⟨bk,hm⟩|⟨bk,hm⟩
 ·refine bn [(1,cE (Kw D) H8),(2,aZ (c9 bk))] [(4,.bool a8.2)] [] ?_;cases hm;exact A.ret cC
 refine bn [(1,cE (Kw D) H8),(2,aZ (c9 bk))] [(4,.bool false)] [] ?_;cases hm;exact A.ret cC
theorem akQ{tg:Int}{tK:Int}{r:Int×Bool}(hm:Cz t tg tK=some r):ef prog 70 [] [.agg (dN t),ag tg,ag tK] (.cD [ag r.1,.bool r.2]):=by
 refine eu func70 rfl rfl ?_;unfold Cz at hm;refine bn [(0,.al 70003)] [(1,ag tg),(2,ag tK),(3,.ptr 70003 0)] [(70003,.cells 28 (dN t))]<|A.seq ?_
 obtain⟨a8,h1,hm⟩:=bI hm;refine br [(1,cE (Kw h1) H8)] [] [(12,.bool (!a8))] ?_;rcases cZ hm with⟨bk,hm⟩|⟨bk,hm⟩
 ·refine cM bk<|bn [] [(6,ag 0),(7,.bool false)] [] ?_
  cases hm;exact A.ret cC
 refine cL bk<|A.skip ?_
 obtain⟨bt,D,hm⟩:=bI hm;refine br [(9,cE (afQ (pq:=131) (rj:=[]) (wG:=PU) (wH:=λ_ _ _ h=>S0 h) D) ado)] [12] [(8,ag bt.1),(9,.bool bt.2)]<|A.seq<|A.block<|br [] [9] [(26,.bool (!bt.2))] ?_
 rcases cZ hm with⟨bZ,hm⟩|⟨bZ,hm⟩
 ·refine cM bZ<|bn [] [(6,ag 0),(7,.bool false)] [] ?_
  cases hm;exact A.ret cC
 refine cL bZ<|br [] [1,2,26] [(29,.bool (decide (tg<tK)))] ?_
 rcases cZ hm with⟨c1,hm⟩|⟨c1,hm⟩
 ·refine cM c1 ?_;obtain⟨ej,ak,hm⟩:=bI hm;refine bn [(3,eg (ix eW ak))] [(6,ag ej.qi),(7,.bool true)] [] ?_;cases hm;exact A.ret cC
 refine cL c1<|A.skip ?_
 obtain⟨hS,bc,hm⟩:=bI hm;refine bn [(3,eg (ix eW bc))] [(6,ag hS.qj),(7,.bool true)] [] ?_;cases hm;exact A.ret cC
end Go.Proofs.YtmnbolcmepihlaaGreat
