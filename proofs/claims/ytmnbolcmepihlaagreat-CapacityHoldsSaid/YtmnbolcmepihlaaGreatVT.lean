/- gw iD of h7 of aR program. bM bN cu cg bz cv in ck. -/
import Derived.Test.YtmnbolcmepihlaaGreatVQ
import Derived.Test.YtmnbolcmepihlaaGreatVJ
namespace Go.Proofs.YtmnbolcmepihlaaGreat
open Go Go.Proofs.Tryz
set_option maxRecDepth 100000
set_option linter.all false
theorem aiY{l:List Int}{r:Bool}(hm:BR l=some r):ef prog 74 [] [bm bq l] (.bool r):=by
 refine eu func74 rfl rfl ?_;unfold BR at hm;refine bn [] [(0,bm bq l)] []<|A.seq<|br [] [] [(3,ag 1)]<|A.block<|A.jx 0 rfl λfZ=>?_
 obtain⟨hA,hB,hE,hq,hm⟩:=iF hm;refine A.iS (l:=l) (hn:=1) (B:=hA) (K:=hB) hm (λbp=>λav=>match av with|()=>[(0,bm bq l),(3,ag (bp:Int))]) (λbp=>λav=>match av with|()=>[]) ?_ ?_ ?_
 ·exact hK
 ·rintro bp aA dh ⟨⟩ hF cI hm;rw[hE]at hm;refine A.seq<|br [(2,aZ (ew bq l))] [] [(7,.bool (decide ((bp:Int)<(l.length:Int))))] ?_
  refine cM (ih cI)<|A.skip<|A.seq<|A.block ?_
  obtain⟨ej,h1,hm⟩:=bI hm;refine br [(3,eg (ix bq h1)),(7,eg (ix bq (hN cI)))] [7] [(19,.bool (decide (aA≤ej)))] ?_;rcases cZ hm with⟨bk,hm⟩|⟨bk,hm⟩
  ·refine cM bk<|bn [] [(2,.bool false)] [] ?_
   cases hm;exact A.ret cC
  exact cL bk<|A.skip<|fq [(1,aZ (hV cI fZ))] [3,19] [(3,ag ((bp+1:Nat):Int))]<|ek () hm
 rintro bp ⟨⟩ hF gO hm;rw[hq]at hm;refine A.seq<|br [(2,aZ (ew bq l))] [] [(7,.bool (decide ((bp:Int)<(l.length:Int))))] ?_
 refine cL (h8 gO)<|A.exit<|bn [] [(2,.bool true)] [] ?_
 cases hm;exact A.ret cC
theorem SQ{t:b0}{hc:c0}{nO:List Int}{r:Int}(hm:BS t hc nO=some r):ef prog 20 [] [.agg (dN t),.agg (kj hc),bm bq nO] (ag r):=by
 refine eu func20 rfl rfl ?_;unfold BS at hm;refine bn [(0,.al 20003),(1,.al 20004)] [(2,bm bq nO),(3,.ptr 20003 0),(4,.ptr 20004 0)] [(20003,.cells 28 (dN t)),(20004,.cells 36 (kj hc))]<|A.seq ?_
 obtain⟨a8,h1,hm⟩:=bI hm;refine br [(1,cE (Kv h1) IS)] [] [(19,.bool (!decide (a8=0)))] ?_;rcases cZ hm with⟨bk,hm⟩|⟨bk,hm⟩
 ·refine cM bk<|bn [] [(6,ag 1)] [] ?_
  cases hm;exact A.ret cC
 refine cL bk<|A.skip<|A.seq ?_
 obtain⟨bt,D,hm⟩:=bI hm;refine br [(1,cE (Ki D) IT)] [19] [(7,ag bt)]<|br [] [] [(23,.bool (!decide (bt=0)))] ?_
 rcases cZ hm with⟨bZ,hm⟩|⟨bZ,hm⟩
 ·refine cM bZ<|bn [] [(6,ag bt)] [] ?_
  cases hm;exact A.ret cC
 refine cL bZ<|A.skip<|A.seq ?_
 obtain⟨eU,ak,hm⟩:=bI hm;refine eV [(2,.al 20027),(4,qP 20529 (ap bq (bytes:=8) (by decide) ak)),(5,aZ (ew bq eU))] [7,23] [(29,.own 20529),(30,ag (eU.length:Int)),(31,ag 0)] [] [(20529,.slice 3 1 (aD bq eU) 0 false)]<|A.block<|A.Jd 29 rfl rfl λfZ=>?_
 obtain⟨hA,hB,hE,hq,hm⟩:=iF hm;refine A.iS (l:=eU) (hn:=0) (B:=hA) (K:=hB) hm (λbp=>λav=>match av with|()=>[(2,bm bq nO),(3,.ptr 20003 0),(4,.ptr 20004 0),(29,.own 20529),(30,ag (eU.length:Int)),(31,ag (bp:Int))]) (λbp=>λav=>match av with|()=>[(20003,.cells 28 (dN t)),(20004,.cells 36 (kj hc)),(20529,.slice 3 1 (aD bq eU) 0 false)]) ?_ ?_ ?_
 ·exact hK
 ·rintro bp aA dh ⟨⟩ hF cI hm;rw[hE]at hm;refine br [] [] [(32,.bool (decide ((bp:Int)<(eU.length:Int))))]<|A.seq<|cM (ih cI)<|A.skip<|A.seq<|A.block<|br [(0,eg (ix bq (hN cI))),(1,kz 20529 0 (ix bq (hN cI)))] [32] [(9,ag aA)] ?_
  obtain⟨c7,bc,hm⟩:=bI hm;refine br [(2,cE (Ta bc) QS)] [9] [(38,.bool (!c7))] ?_;rcases cZ hm with⟨c1,hm⟩|⟨c1,hm⟩
  ·refine cM c1<|bn [] [(6,ag 4)] [] ?_
   cases hm;exact A.ret cC
  exact cL c1<|A.skip<|fq [(0,aZ (hV cI fZ))] [31,38] [(31,ag ((bp+1:Nat):Int))]<|ek () hm
 rintro bp ⟨⟩ hF gO hm;rw[hq]at hm;refine br [] [] [(32,.bool (decide ((bp:Int)<(eU.length:Int))))]<|A.seq<|cL (h8 gO)<|A.exit<|A.seq<|eV [(2,aZ (ew b1 hc.Links))] [29,30,31,32] [(41,bm b1 hc.Links),(42,ag (hc.Links.length:Int)),(43,ag 0)] [20529] []<|A.block<|A.jx 41 rfl λfG=>?_
 obtain⟨ni,jS,nx,nz,hm⟩:=iF hm;refine A.iS (l:=hc.Links) (hn:=0) (B:=ni) (K:=jS) hm (λdd=>λav=>match av with|()=>[(2,bm bq nO),(3,.ptr 20003 0),(4,.ptr 20004 0),(41,bm b1 hc.Links),(42,ag (hc.Links.length:Int)),(43,ag (dd:Int))]) (λdd=>λav=>match av with|()=>[(20003,.cells 28 (dN t)),(20004,.cells 36 (kj hc))]) ?_ ?_ ?_
 ·exact hK
 ·rintro dd e2 jM ⟨⟩ jo gb hm;rw[nx]at hm;refine br [] [] [(44,.bool (decide ((dd:Int)<(hc.Links.length:Int))))]<|A.seq<|cM (ih gb)<|A.skip<|A.seq<|A.block<|eV [(0,eg (ix b1 (hN gb))),(2,.al 20011)] [44] [(11,.ptr 20011 0)] [] [(20011,.cells 84 (k8 e2))] ?_
  obtain⟨fl,bX,hm⟩:=bI hm;refine eV [(5,cE (akQ bX) afo)] [11] [(13,.bool fl.2)] [20011] []<|br [] [13] [(57,.bool (!fl.2))] ?_
  rcases cZ hm with⟨fu,hm⟩|⟨fu,hm⟩
  ·refine cM fu<|bn [] [(6,ag 4)] [] ?_
   cases hm;exact A.ret cC
  exact cL fu<|A.skip<|fq [(0,aZ (hV gb fG))] [43,57] [(43,ag ((dd+1:Nat):Int))]<|ek () hm
 rintro dd ⟨⟩ jo kg hm;rw[nz]at hm;refine br [] [] [(44,.bool (decide ((dd:Int)<(hc.Links.length:Int))))]<|A.seq<|cL (h8 kg)<|A.exit<|A.seq ?_
 obtain⟨fE,dV,hm⟩:=bI hm;refine eV [(1,cE (aiY dV) afp)] [3,41,42,43,44] [(61,.bool (!fE))] [20003] [] ?_;rcases cZ hm with⟨gl,hm⟩|⟨gl,hm⟩
 ·refine cM gl<|bn [] [(6,ag 25)] [] ?_
  cases hm;exact A.ret cC
 refine cL gl<|A.skip ?_
 obtain⟨et,fF,hm⟩:=bI hm;refine eV [(1,cE (aiX fF) afq)] [4,61] [(14,bm bq et)] [20004] []<|A.seq<|br [(1,aZ (ew bq nO))] [2] [(64,bm bq nO),(65,ag (nO.length:Int)),(66,ag 0)]<|A.block<|A.jx 64 rfl λvB=>?_
 obtain⟨tT,tV,uf,ug,hm⟩:=iF hm;refine A.iS (l:=nO) (hn:=0) (B:=tT) (K:=tV) hm (λgJ=>λav=>match av with|()=>[(14,bm bq et),(64,bm bq nO),(65,ag (nO.length:Int)),(66,ag (gJ:Int))]) (λgJ=>λav=>match av with|()=>[]) ?_ ?_ ?_
 ·exact hK
 ·rintro gJ b6 o0 ⟨⟩ qQ lF hm;rw[uf]at hm;refine br [] [] [(67,.bool (decide ((gJ:Int)<(nO.length:Int))))]<|A.seq<|cM (ih lF)<|A.skip<|A.seq<|A.block<|br [(0,eg (ix bq (hN lF)))] [67] [(16,ag b6)] ?_
  obtain⟨gW,jm,hm⟩:=bI hm;refine br [(2,cE (aiz jm) afr)] [16] [(73,.bool (!gW))] ?_;rcases cZ hm with⟨it,hm⟩|⟨it,hm⟩
  ·refine cM it<|bn [] [(6,ag 9)] [] ?_
   cases hm;exact A.ret cC
  exact cL it<|A.skip<|fq [(0,aZ (hV lF vB))] [66,73] [(66,ag ((gJ+1:Nat):Int))]<|ek () hm
 rintro gJ ⟨⟩ qQ n1 hm;rw[ug]at hm;refine br [] [] [(67,.bool (decide ((gJ:Int)<(nO.length:Int))))]<|A.seq<|cL (h8 n1)<|A.exit<|bn [] [(6,ag 0)] [] ?_
 cases hm;exact A.ret cC
end Go.Proofs.YtmnbolcmepihlaaGreat
