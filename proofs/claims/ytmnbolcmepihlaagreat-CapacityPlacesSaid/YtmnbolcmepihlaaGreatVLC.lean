/- The walks of cE of the program. No condition but bf aM stand in each. -/
import Derived.Test.YtmnbolcmepihlaaGreatDLC
import Derived.Test.YtmnbolcmepihlaaGreatVZA
import Derived.Test.YtmnbolcmepihlaaGreatVZD
import Derived.Test.YtmnbolcmepihlaaGreatVN2
namespace Go.Proofs.YtmnbolcmepihlaaGreat
open Go Go.Proofs.Tryz
set_option maxRecDepth 100000
set_option linter.all false
theorem pX{r:ai}(hm:lY=some r):RO prog 91 [] [] (.agg (k2 r)):=by
 refine aZ func91 rfl rfl ?_;unfold lY at hm;refine qS [(0,.al 91000)] [(0,.ptr 91000 0)] [(91000,.cells 28 [.bI,.bI])]<|qD [] [] [] [91000] [(91000,.cells 28 [.lst true (ml bt ([(bg.mk (1:Int) true),(bg.mk (2:Int) true)]:List bg)),.lst true (ml bD ([(bk.mk (1:Int) (2:Int) (1:Int) (1:Int) (5:Int))]:List bk))])] ?_
 cases hm;exact A.ret qE
theorem y8{r:Bool}(hm:mP=some r):RO prog 27 [] [] (.bool r):=by
 refine aZ func27 rfl rfl ?_;unfold mP at hm;refine qS [] [] []<|qS [] [(1,.lst true (ml bH ([(aN.mk (1:Int) ([(2:Int)]:List Int) (3:Int)),(aN.mk (1:Int) ([(2:Int)]:List Int) (3:Int)),(aN.mk (2:Int) ([(1:Int)]:List Int) (4:Int))]:List aN)))] [] ?_
 obtain⟨aq,h1,hm⟩:=aa hm;refine A.RY W0 2 [3,4,5,6,7] [] [(0,hro (pX h1) aij)] (qd hm) apj (by kernel_rfl) (by kernel_rfl) (by kernel_rfl) (by rintro _ _ ⟨rfl,_,_,rfl⟩;exact⟨rfl,rfl⟩) ?_;rintro _ _ ⟨rfl,aF,hm,rfl⟩
 try dsimp only at hm
 refine⟨[],[(1,.lst true (ml bH ([(aN.mk (1:Int) ([(2:Int)]:List Int) (3:Int)),(aN.mk (1:Int) ([(2:Int)]:List Int) (3:Int)),(aN.mk (2:Int) ([(1:Int)]:List Int) (4:Int))]:List aN))),(2,lf cr aF.1),(3,i6 aF.2)],[],by kernel_rfl,?_⟩;refine A.seq<|A.mid [(1,.lst true (ml bH ([(aN.mk (1:Int) ([(2:Int)]:List Int) (3:Int)),(aN.mk (1:Int) ([(2:Int)]:List Int) (3:Int)),(aN.mk (2:Int) ([(1:Int)]:List Int) (4:Int))]:List aN))),(2,lf cr aF.1),(27,.bool ((!decide (aF.2=0))||(!decide ((aF.1.length:Int)=(3:Int)))))] [] (λhk=>?_) ?_
 ·rcases tf (!decide (aF.2=0))with c1|c1
  ·exact qS [(2,hto (bE c1)),(6,hto (orT (q:=!decide ((aF.1.length:Int)=(3:Int))) c1))] _ _ hk
  exact qS [(2,hto (bE c1)),(4,hto (lnE cr aF.1)),(6,hto (orF (q:=!decide ((aF.1.length:Int)=(3:Int))) c1))] _ _ hk
 rcases aA hm with⟨c2,hm⟩|⟨c2,hm⟩
 ·refine qT c2<|qS [] [(0,.bool false)] [] ?_
  cases hm;exact A.ret qE
 refine qF c2<|A.skip ?_
 obtain⟨bx,h2,hm⟩:=aa hm;obtain⟨l_1,h3,hm⟩:=aa hm;obtain⟨bV,h4,hm⟩:=aa hm;refine qDs [(0,hro (pX h2) aij),(3,hsl (sl cr h3)),(4,hro (xh h4) ck24)] [27] [(4,lf bn bV.1),(5,i6 bV.2)] ?_;obtain⟨cK,h5,hm⟩:=aa hm;obtain⟨e_1,h6,hm⟩:=aa hm;obtain⟨cQ,h7,hm⟩:=aa hm;refine qDs [(0,hro (pX h5) aij),(3,hix (ix bH h6)),(5,hro (uw h7) ck25)] [1,4] [(6,lf ak cQ.1),(7,i6 cQ.2)] ?_;rcases aA hm with⟨c3,hm⟩|⟨c3,hm⟩
 ·rcases aA hm with⟨c4,hm⟩|⟨c4,hm⟩
  ·obtain⟨e_2,h8,hm⟩:=aa hm;rcases aA hm with⟨c5,hm⟩|⟨c5,hm⟩
   ·obtain⟨e_3,h9,hm⟩:=aa hm;rcases aA hm with⟨c6,hm⟩|⟨c6,hm⟩
    ·obtain⟨e_4,h10,hm⟩:=aa hm;rcases aA hm with⟨c7,hm⟩|⟨c7,hm⟩
     ·obtain⟨dy,h11,hm⟩:=aa hm;refine qS [(2,hto (bE c3)),(6,hto (bE c4)),(8,hix (ix cr h8)),(11,hto (lnE aJ e_2.Links)),(14,hto (bE c5)),(16,hix (ix cr h9)),(21,hto (bE c6)),(23,hix (ix cr h10)),(26,hto (lnE aJ e_4.Links)),(29,hto (bE c7)),(32,hro (uo h11) ck45)] [(0,.bool dy)] [] ?_;cases hm;exact A.ret qE
     refine qS [(2,hto (bE c3)),(6,hto (bE c4)),(8,hix (ix cr h8)),(11,hto (lnE aJ e_2.Links)),(14,hto (bE c5)),(16,hix (ix cr h9)),(21,hto (bE c6)),(23,hix (ix cr h10)),(26,hto (lnE aJ e_4.Links)),(29,hto (bE c7))] [(0,.bool false)] [] ?_;cases hm;exact A.ret qE
    refine qS [(2,hto (bE c3)),(6,hto (bE c4)),(8,hix (ix cr h8)),(11,hto (lnE aJ e_2.Links)),(14,hto (bE c5)),(16,hix (ix cr h9)),(21,hto (bE c6))] [(0,.bool false)] [] ?_;cases hm;exact A.ret qE
   refine qS [(2,hto (bE c3)),(6,hto (bE c4)),(8,hix (ix cr h8)),(11,hto (lnE aJ e_2.Links)),(14,hto (bE c5))] [(0,.bool false)] [] ?_;cases hm;exact A.ret qE
  refine qS [(2,hto (bE c3)),(6,hto (bE c4))] [(0,.bool false)] [] ?_;cases hm;exact A.ret qE
 refine qS [(2,hto (bE c3))] [(0,.bool false)] [] ?_;cases hm;exact A.ret qE
end Go.Proofs.YtmnbolcmepihlaaGreat
