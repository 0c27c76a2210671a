/- The gW of dB of the program. No condition but bk aJ stand in each. -/
import Derived.Test.YtmnbolcmepihlaaGreatVT
import Derived.Test.YtmnbolcmepihlaaGreatWE
namespace Go.Proofs.YtmnbolcmepihlaaGreat
open Go Go.Proofs.Tryz
set_option maxRecDepth 100000
set_option linter.all false
theorem nj{β:Type}{t:aj}{root:Int}{receivers:List Int}{K0:(bV×Int×Int)→Option β}{r:β}(hm:fS t root receivers K0=some r):b8 prog 16 [] [.agg (k2 t),i6 root,lf ai receivers] (λa σ'=>σ'=[]∧∃x0,K0 x0=some r∧a=.tup [.agg (k6 x0.1),i6 x0.2.1,i6 x0.2.2]):=by
 refine aY func16 rfl rfl ?_
 unfold fS at hm
 refine qS [(0,.al 16003),(1,.al 16006)] [(1,i6 root),(2,lf ai receivers),(3,.ptr 16003 0),(6,.ptr 16006 0)] [(16003,.cells 28 (k2 t)),(16006,.cells 36 [i6 0,.bn])]<|A.seq ?_
 obtain⟨az,h1,hm⟩:=aa hm
 refine qDs [(3,hro (oS h1) alv)] [] [(9,i6 az)]<|qDs [] [] [(18,.bool (!decide (az=0)))] ?_
 rcases aB hm with⟨c1,hm⟩|⟨c1,hm⟩
 ·refine qT c1<|qD [] [1,2,3,9,18] [(7,i6 0),(8,i6 az)] [16003] []<|A.ret<|kr.mono (A.fin W0 [] (R:=.tup [.agg [i6 ((bV.mk (0:Int) []).bK),lf br ((bV.mk (0:Int) []).Links)],i6 0,i6 az]) (σ2:=[]) rfl (by kernel_rfl)) ?_
  rintro _ _ ⟨rfl,rfl⟩
  exact⟨rfl,_,hm,rfl⟩
 refine qF c1<|A.skip<|A.seq<|qDs [(1,hto (lnE ai receivers))] [9,18] [(23,.bool (decide (6<(receivers.length:Int))))] ?_
 rcases aB hm with⟨c2,hm⟩|⟨c2,hm⟩
 ·refine qT c2<|qD [] [1,2,3,23] [(7,i6 0),(8,i6 3)] [16003] []<|A.ret<|kr.mono (A.fin W0 [] (R:=.tup [.agg [i6 ((bV.mk (0:Int) []).bK),lf br ((bV.mk (0:Int) []).Links)],i6 0,i6 3]) (σ2:=[]) rfl (by kernel_rfl)) ?_
  rintro _ _ ⟨rfl,rfl⟩
  exact⟨rfl,_,hm,rfl⟩
 refine qF c2<|A.skip ?_
 obtain⟨aD,h2,hm⟩:=aa hm
 refine A.RY W0 4 [5,6,7,8,9,10,11] [] [(1,hro (tM h2) alw)] (tQ hm) ck63 (by kernel_rfl) (by kernel_rfl) (by kernel_rfl) (by rintro _ _ ⟨rfl,_,_,rfl⟩;exact⟨rfl,rfl⟩) ?_
 rintro _ _ ⟨rfl,bt,hm,rfl⟩
 try dsimp only at hm
 refine⟨[],[(1,i6 root),(6,.ptr 16006 0),(10,lf br bt.1),(11,i6 bt.2.1),(12,.bool bt.2.2)],[(16006,.cells 36 [i6 0,.bn])],by kernel_rfl,?_⟩
 refine A.seq<|qS [] [(1,i6 root),(6,.ptr 16006 0),(10,lf br bt.1),(11,i6 bt.2.1),(35,.bool (!bt.2.2))] [(16006,.cells 36 [i6 0,.bn])] ?_
 rcases aB hm with⟨c3,hm⟩|⟨c3,hm⟩
 ·refine qT c3<|qDs [] [1,10,11,35] [(7,i6 0),(8,i6 9)]<|A.ret<|kr.mono (A.fin W0 [] (R:=.tup [.agg [i6 ((bV.mk (0:Int) []).bK),lf br ((bV.mk (0:Int) []).Links)],i6 0,i6 9]) (σ2:=[]) rfl (by kernel_rfl)) ?_
  rintro _ _ ⟨rfl,rfl⟩
  exact⟨rfl,_,hm,rfl⟩
 refine qF c3<|A.skip<|qS [] [(6,.ptr 16006 0),(7,i6 bt.2.1),(8,i6 0)] [(16006,.cells 36 [i6 root,lf br bt.1])]<|A.ret<|kr.mono (A.fin W0 [] (R:=.tup [.agg [i6 ((bV.mk root bt.1).bK),lf br ((bV.mk root bt.1).Links)],i6 bt.2.1,i6 0]) (σ2:=[]) rfl (by kernel_rfl)) ?_
 rintro _ _ ⟨rfl,rfl⟩
 exact⟨rfl,_,hm,rfl⟩
end Go.Proofs.YtmnbolcmepihlaaGreat
