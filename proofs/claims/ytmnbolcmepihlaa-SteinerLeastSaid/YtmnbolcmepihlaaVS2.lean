/- The gi of cW of the program. No condition but aX aH stand in each. -/
import Derived.Test.YtmnbolcmepihlaaVT
import Derived.Test.YtmnbolcmepihlaaWE
namespace Go.Proofs.Ytmnbolcmepihlaa
open Go Go.Proofs.Try
set_option maxRecDepth 100000
set_option linter.all false
theorem jX{β:Type}{t:az}{root:Int}{receivers:List Int}{K0:(ef×Int×Int)→Option β}{r:β}(hm:eN t root receivers K0=some r):bL prog 8 [] [.agg (k2 t),i6 root,lf aB receivers] (λa σ'=>σ'=[]∧∃x0,K0 x0=some r∧a=.tup [.agg (k7 x0.1),i6 x0.2.1,i6 x0.2.2]):=by
 refine bw func8 rfl rfl ?_
 unfold eN at hm
 refine qS [(0,.al 8003),(1,.al 8006)] [(1,i6 root),(2,lf aB receivers),(3,.ptr 8003 0),(6,.ptr 8006 0)] [(8003,.cells 28 (k2 t)),(8006,.cells 36 [i6 0,.aZ])]<|A.seq ?_
 obtain⟨aq,h1,hm⟩:=ak hm
 refine qDs [(3,hro (lE h1) af4)] [] [(9,i6 aq)]<|qDs [] [] [(18,.bool (!decide (aq=0)))] ?_
 rcases aQ hm with⟨c1,hm⟩|⟨c1,hm⟩
 ·refine qT c1<|qD [] [1,2,3,9,18] [(7,i6 0),(8,i6 aq)] [8003] []<|A.ret<|iP.mono (A.fin W0 [] (R:=.tup [.agg [i6 ((ef.mk (0:Int) []).jx),lf fu ((ef.mk (0:Int) []).Links)],i6 0,i6 aq]) (σ2:=[]) rfl (by kernel_rfl)) ?_
  rintro _ _ ⟨rfl,rfl⟩
  exact⟨rfl,_,hm,rfl⟩
 refine qF c1<|A.skip<|A.seq<|qDs [(1,hto (lnE aB receivers))] [9,18] [(23,.bool (decide (6<(receivers.length:Int))))] ?_
 rcases aQ hm with⟨c2,hm⟩|⟨c2,hm⟩
 ·refine qT c2<|qD [] [1,2,3,23] [(7,i6 0),(8,i6 3)] [8003] []<|A.ret<|iP.mono (A.fin W0 [] (R:=.tup [.agg [i6 ((ef.mk (0:Int) []).jx),lf fu ((ef.mk (0:Int) []).Links)],i6 0,i6 3]) (σ2:=[]) rfl (by kernel_rfl)) ?_
  rintro _ _ ⟨rfl,rfl⟩
  exact⟨rfl,_,hm,rfl⟩
 refine qF c2<|A.skip ?_
 obtain⟨aL,h2,hm⟩:=ak hm
 refine A.RY W0 4 [5,6,7,8,9,10,11] [] [(1,hro (o6 h2) af5)] (o9 hm) ck17 (by kernel_rfl) (by kernel_rfl) (by kernel_rfl) (by rintro _ _ ⟨rfl,_,_,rfl⟩;exact⟨rfl,rfl⟩) ?_
 rintro _ _ ⟨rfl,bM,hm,rfl⟩
 try dsimp only at hm
 refine⟨[],[(1,i6 root),(6,.ptr 8006 0),(10,lf fu bM.1),(11,i6 bM.2.1),(12,.bool bM.2.2)],[(8006,.cells 36 [i6 0,.aZ])],by kernel_rfl,?_⟩
 refine A.seq<|qS [] [(1,i6 root),(6,.ptr 8006 0),(10,lf fu bM.1),(11,i6 bM.2.1),(35,.bool (!bM.2.2))] [(8006,.cells 36 [i6 0,.aZ])] ?_
 rcases aQ hm with⟨c3,hm⟩|⟨c3,hm⟩
 ·refine qT c3<|qDs [] [1,10,11,35] [(7,i6 0),(8,i6 9)]<|A.ret<|iP.mono (A.fin W0 [] (R:=.tup [.agg [i6 ((ef.mk (0:Int) []).jx),lf fu ((ef.mk (0:Int) []).Links)],i6 0,i6 9]) (σ2:=[]) rfl (by kernel_rfl)) ?_
  rintro _ _ ⟨rfl,rfl⟩
  exact⟨rfl,_,hm,rfl⟩
 refine qF c3<|A.skip<|qS [] [(6,.ptr 8006 0),(7,i6 bM.2.1),(8,i6 0)] [(8006,.cells 36 [i6 root,lf fu bM.1])]<|A.ret<|iP.mono (A.fin W0 [] (R:=.tup [.agg [i6 ((ef.mk root bM.1).jx),lf fu ((ef.mk root bM.1).Links)],i6 bM.2.1,i6 0]) (σ2:=[]) rfl (by kernel_rfl)) ?_
 rintro _ _ ⟨rfl,rfl⟩
 exact⟨rfl,_,hm,rfl⟩
end Go.Proofs.Ytmnbolcmepihlaa
