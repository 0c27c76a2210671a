/- The walks of cv of the program. No condition but aT aH stand in each. -/
import Derived.Test.YtmnbolcmepihlaaGreatDLC
import Derived.Test.YtmnbolcmepihlaaGreatVZA
import Derived.Test.YtmnbolcmepihlaaGreatVZB
import Derived.Test.YtmnbolcmepihlaaGreatVN2
namespace Go.Proofs.YtmnbolcmepihlaaGreat
open Go Go.Proofs.Tryz
set_option maxRecDepth 100000
set_option linter.all false
theorem ni{r:aq}(hm:jP=some r):RO prog 91 [] [] (.agg (k2 r)):=by
 refine bg func91 rfl rfl ?_
 unfold jP at hm
 refine qS [(0,.al 91000)] [(0,.ptr 91000 0)] [(91000,.cells 28 [.bw,.bw])]<|qD [] [] [] [91000] [(91000,.cells 28 [.lst true (ml bn ([(aW.mk (1:Int) true),(aW.mk (2:Int) true)]:List aW)),.lst true (ml bQ ([(aY.mk (1:Int) (2:Int) (1:Int) (1:Int) (5:Int))]:List aY))])] ?_
 cases hm
 exact A.ret qE
theorem wh{r:Bool}(hm:ku=some r):RO prog 27 [] [] (.bool r):=by
 refine bg func27 rfl rfl ?_
 unfold ku at hm
 refine qS [] [] []<|qS [] [(1,.lst true (ml bF ([(aR.mk (1:Int) ([(2:Int)]:List Int) (3:Int)),(aR.mk (1:Int) ([(2:Int)]:List Int) (3:Int)),(aR.mk (2:Int) ([(1:Int)]:List Int) (4:Int))]:List aR)))] [] ?_
 obtain⟨ay,h1,hm⟩:=ah hm
 refine A.RY W0 2 [3,4,5,6,7] [] [(0,hro (ni h1) ae0)] (nw hm) alF (by kernel_rfl) (by kernel_rfl) (by kernel_rfl) (by rintro _ _ ⟨rfl,_,_,rfl⟩;exact⟨rfl,rfl⟩) ?_
 rintro _ _ ⟨rfl,aI,hm,rfl⟩
 try dsimp only at hm
 refine⟨[],[(1,.lst true (ml bF ([(aR.mk (1:Int) ([(2:Int)]:List Int) (3:Int)),(aR.mk (1:Int) ([(2:Int)]:List Int) (3:Int)),(aR.mk (2:Int) ([(1:Int)]:List Int) (4:Int))]:List aR))),(2,lf cn aI.1),(3,i6 aI.2)],[],by kernel_rfl,?_⟩
 refine A.seq<|A.mid [(1,.lst true (ml bF ([(aR.mk (1:Int) ([(2:Int)]:List Int) (3:Int)),(aR.mk (1:Int) ([(2:Int)]:List Int) (3:Int)),(aR.mk (2:Int) ([(1:Int)]:List Int) (4:Int))]:List aR))),(2,lf cn aI.1),(27,.bool ((!decide (aI.2=0))||(!decide ((aI.1.length:Int)=(3:Int)))))] [] (λhk=>?_) ?_
 ·rcases tf (!decide (aI.2=0))with c1|c1
  ·exact qS [(2,hto (bE c1)),(6,hto (orT (q:=!decide ((aI.1.length:Int)=(3:Int))) c1))] _ _ hk
  exact qS [(2,hto (bE c1)),(4,hto (lnE cn aI.1)),(6,hto (orF (q:=!decide ((aI.1.length:Int)=(3:Int))) c1))] _ _ hk
 rcases aG hm with⟨c2,hm⟩|⟨c2,hm⟩
 ·refine qT c2<|qS [] [(0,.bool false)] [] ?_
  cases hm
  exact A.ret qE
 refine qF c2<|A.skip ?_
 obtain⟨bk,h2,hm⟩:=ah hm
 obtain⟨l_1,h3,hm⟩:=ah hm
 obtain⟨ck,h4,hm⟩:=ah hm
 refine qDs [(0,hro (ni h2) ae0),(3,hsl (sl cn h3)),(4,hro (oh h4) alG)] [27] [(4,lf dR ck.1),(5,i6 ck.2)] ?_
 obtain⟨dA,h5,hm⟩:=ah hm
 obtain⟨e_1,h6,hm⟩:=ah hm
 obtain⟨dg,h7,hm⟩:=ah hm
 refine qDs [(0,hro (ni h5) ae0),(3,hix (ix bF h6)),(5,hro (mI h7) alH)] [1,4] [(6,lf aB dg.1),(7,i6 dg.2)] ?_
 rcases aG hm with⟨c3,hm⟩|⟨c3,hm⟩
 ·rcases aG hm with⟨c4,hm⟩|⟨c4,hm⟩
  ·obtain⟨e_2,h8,hm⟩:=ah hm
   rcases aG hm with⟨c5,hm⟩|⟨c5,hm⟩
   ·obtain⟨e_3,h9,hm⟩:=ah hm
    rcases aG hm with⟨c6,hm⟩|⟨c6,hm⟩
    ·obtain⟨e_4,h10,hm⟩:=ah hm
     rcases aG hm with⟨c7,hm⟩|⟨c7,hm⟩
     ·obtain⟨dD,h11,hm⟩:=ah hm
      refine qS [(2,hto (bE c3)),(6,hto (bE c4)),(8,hix (ix cn h8)),(11,hto (lnE aQ e_2.Links)),(14,hto (bE c5)),(16,hix (ix cn h9)),(21,hto (bE c6)),(23,hix (ix cn h10)),(26,hto (lnE aQ e_4.Links)),(29,hto (bE c7)),(32,hro (qZ h11) ck45)] [(0,.bool dD)] [] ?_
      cases hm
      exact A.ret qE
     refine qS [(2,hto (bE c3)),(6,hto (bE c4)),(8,hix (ix cn h8)),(11,hto (lnE aQ e_2.Links)),(14,hto (bE c5)),(16,hix (ix cn h9)),(21,hto (bE c6)),(23,hix (ix cn h10)),(26,hto (lnE aQ e_4.Links)),(29,hto (bE c7))] [(0,.bool false)] [] ?_
     cases hm
     exact A.ret qE
    refine qS [(2,hto (bE c3)),(6,hto (bE c4)),(8,hix (ix cn h8)),(11,hto (lnE aQ e_2.Links)),(14,hto (bE c5)),(16,hix (ix cn h9)),(21,hto (bE c6))] [(0,.bool false)] [] ?_
    cases hm
    exact A.ret qE
   refine qS [(2,hto (bE c3)),(6,hto (bE c4)),(8,hix (ix cn h8)),(11,hto (lnE aQ e_2.Links)),(14,hto (bE c5))] [(0,.bool false)] [] ?_
   cases hm
   exact A.ret qE
  refine qS [(2,hto (bE c3)),(6,hto (bE c4))] [(0,.bool false)] [] ?_
  cases hm
  exact A.ret qE
 refine qS [(2,hto (bE c3))] [(0,.bool false)] [] ?_
 cases hm
 exact A.ret qE
end Go.Proofs.YtmnbolcmepihlaaGreat
