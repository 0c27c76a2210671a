/- The walks of cz of the program. No condition but aX aL stand in each. -/
import Derived.Test.YtmnbolcmepihlaaGreatDLC
import Derived.Test.YtmnbolcmepihlaaGreatVZA
import Derived.Test.YtmnbolcmepihlaaGreatVZB
import Derived.Test.YtmnbolcmepihlaaGreatVN
namespace Go.Proofs.YtmnbolcmepihlaaGreat
open Go Go.Proofs.Tryz
set_option maxRecDepth 100000
set_option linter.all false
theorem pO{r:af}(hm:lT=some r):RO prog 91 [] [] (.agg (k2 r)):=by
 refine aY func91 rfl rfl ?_;unfold lT at hm;refine qS [(0,.al 91000)] [(0,.ptr 91000 0)] [(91000,.cells 28 [.bF,.bF])]<|qD [] [] [] [91000] [(91000,.cells 28 [.lst true (ml aV ([(aW.mk (1:Int) true),(aW.mk (2:Int) true)]:List aW)),.lst true (ml bw ([(aU.mk (1:Int) (2:Int) (1:Int) (1:Int) (5:Int))]:List aU))])] ?_
 cases hm;exact A.ret qE
theorem yW{r:Bool}(hm:jZ=some r):RO prog 27 [] [] (.bool r):=by
 refine aY func27 rfl rfl ?_;unfold jZ at hm;refine qS [] [] []<|qS [] [(1,.lst true (ml dB ([(bf.mk (1:Int) ([(2:Int)]:List Int) (3:Int)),(bf.mk (1:Int) ([(2:Int)]:List Int) (3:Int)),(bf.mk (2:Int) ([(1:Int)]:List Int) (4:Int))]:List bf)))] [] ?_
 obtain⟨az,h1,hm⟩:=aa hm;refine A.RY W0 2 [3,4,5,6,7] [] [(0,hro (pO h1) ah4)] (mN hm) ahZ (by kernel_rfl) (by kernel_rfl) (by kernel_rfl) (by rintro _ _ ⟨rfl,_,_,rfl⟩;exact⟨rfl,rfl⟩) ?_;rintro _ _ ⟨rfl,aH,hm,rfl⟩
 try dsimp only at hm
 refine⟨[],[(1,.lst true (ml dB ([(bf.mk (1:Int) ([(2:Int)]:List Int) (3:Int)),(bf.mk (1:Int) ([(2:Int)]:List Int) (3:Int)),(bf.mk (2:Int) ([(1:Int)]:List Int) (4:Int))]:List bf))),(2,lf cu aH.1),(3,i6 aH.2)],[],by kernel_rfl,?_⟩;refine A.seq<|A.mid [(1,.lst true (ml dB ([(bf.mk (1:Int) ([(2:Int)]:List Int) (3:Int)),(bf.mk (1:Int) ([(2:Int)]:List Int) (3:Int)),(bf.mk (2:Int) ([(1:Int)]:List Int) (4:Int))]:List bf))),(2,lf cu aH.1),(27,.bool ((!decide (aH.2=0))||(!decide ((aH.1.length:Int)=(3:Int)))))] [] (λhk=>?_) ?_
 ·rcases tf (!decide (aH.2=0))with c1|c1
  ·exact qS [(2,hto (bE c1)),(6,hto (orT (q:=!decide ((aH.1.length:Int)=(3:Int))) c1))] _ _ hk
  exact qS [(2,hto (bE c1)),(4,hto (lnE cu aH.1)),(6,hto (orF (q:=!decide ((aH.1.length:Int)=(3:Int))) c1))] _ _ hk
 rcases aB hm with⟨c2,hm⟩|⟨c2,hm⟩
 ·refine qT c2<|qS [] [(0,.bool false)] [] ?_
  cases hm;exact A.ret qE
 refine qF c2<|A.skip ?_
 obtain⟨bA,h2,hm⟩:=aa hm;obtain⟨l_1,h3,hm⟩:=aa hm;obtain⟨bU,h4,hm⟩:=aa hm;refine qDs [(0,hro (pO h2) ah4),(3,hsl (sl cu h3)),(4,hro (xd h4) ck24)] [27] [(4,lf fQ bU.1),(5,i6 bU.2)] ?_;obtain⟨dP,h5,hm⟩:=aa hm;obtain⟨e_1,h6,hm⟩:=aa hm;obtain⟨cV,h7,hm⟩:=aa hm;refine qDs [(0,hro (pO h5) ah4),(3,hix (ix dB h6)),(5,hro (uc h7) ck25)] [1,4] [(6,lf aj cV.1),(7,i6 cV.2)] ?_;rcases aB hm with⟨c3,hm⟩|⟨c3,hm⟩
 ·rcases aB hm with⟨c4,hm⟩|⟨c4,hm⟩
  ·obtain⟨e_2,h8,hm⟩:=aa hm;rcases aB hm with⟨c5,hm⟩|⟨c5,hm⟩
   ·obtain⟨e_3,h9,hm⟩:=aa hm;rcases aB hm with⟨c6,hm⟩|⟨c6,hm⟩
    ·obtain⟨e_4,h10,hm⟩:=aa hm;rcases aB hm with⟨c7,hm⟩|⟨c7,hm⟩
     ·obtain⟨cB,h11,hm⟩:=aa hm;refine qS [(2,hto (bE c3)),(6,hto (bE c4)),(8,hix (ix cu h8)),(11,hto (lnE aK e_2.Links)),(14,hto (bE c5)),(16,hix (ix cu h9)),(21,hto (bE c6)),(23,hix (ix cu h10)),(26,hto (lnE aK e_4.Links)),(29,hto (bE c7)),(32,hro (tW h11) ck45)] [(0,.bool cB)] [] ?_;cases hm;exact A.ret qE
     refine qS [(2,hto (bE c3)),(6,hto (bE c4)),(8,hix (ix cu h8)),(11,hto (lnE aK e_2.Links)),(14,hto (bE c5)),(16,hix (ix cu h9)),(21,hto (bE c6)),(23,hix (ix cu h10)),(26,hto (lnE aK e_4.Links)),(29,hto (bE c7))] [(0,.bool false)] [] ?_;cases hm;exact A.ret qE
    refine qS [(2,hto (bE c3)),(6,hto (bE c4)),(8,hix (ix cu h8)),(11,hto (lnE aK e_2.Links)),(14,hto (bE c5)),(16,hix (ix cu h9)),(21,hto (bE c6))] [(0,.bool false)] [] ?_;cases hm;exact A.ret qE
   refine qS [(2,hto (bE c3)),(6,hto (bE c4)),(8,hix (ix cu h8)),(11,hto (lnE aK e_2.Links)),(14,hto (bE c5))] [(0,.bool false)] [] ?_;cases hm;exact A.ret qE
  refine qS [(2,hto (bE c3)),(6,hto (bE c4))] [(0,.bool false)] [] ?_;cases hm;exact A.ret qE
 refine qS [(2,hto (bE c3))] [(0,.bool false)] [] ?_;cases hm;exact A.ret qE
theorem s9{ok:Bool}{n:Int}{r:Int}(hm:nu ok n=some r):RO prog 31 [] [.bool ok,i6 n] (i6 r):=by
 refine aY func31 rfl rfl ?_;unfold nu at hm;refine qS [] [(0,.bool ok),(1,i6 n)] []<|A.seq<|qDs [] [0] [(5,.bool ok)] ?_
 rcases aB hm with⟨c1,hm⟩|⟨c1,hm⟩
 ·refine qT c1<|qS [] [(4,i6 n)] [] ?_
  cases hm;exact A.ret qE
 refine qF c1<|A.skip<|qS [] [(4,i6 0)] [] ?_
 cases hm;exact A.ret qE
end Go.Proofs.YtmnbolcmepihlaaGreat
