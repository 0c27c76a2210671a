/- gw iD of h7 of aR program. bM bN cu cg bz cv in ck. -/
import Derived.Test.YtmnbolcmepihlaaGreatDLC
import Derived.Test.YtmnbolcmepihlaaGreatVZA
import Derived.Test.YtmnbolcmepihlaaGreatVZX
import Derived.Test.YtmnbolcmepihlaaGreatVN2
namespace Go.Proofs.YtmnbolcmepihlaaGreat
open Go Go.Proofs.Tryz
set_option maxRecDepth 100000
set_option linter.all false
theorem KK{r:b0}(hm:zH=some r):ef prog 91 [] [] (.agg (dN r)):=by
 refine eu func91 rfl rfl ?_;unfold zH at hm;refine bn [(0,.al 91000)] [(0,.ptr 91000 0)] [(91000,.cells 28 [.cV,.cV])]<|eV [] [] [] [91000] [(91000,.cells 28 [.aX true (aD fK ([(eC.mk (1:Int) true),(eC.mk (2:Int) true)]:List eC)),.aX true (aD eW ([(c8.mk (1:Int) (2:Int) (1:Int) (1:Int) (5:Int))]:List c8))])] ?_
 cases hm;exact A.ret cC
theorem ald{r:Bool}(hm:CF=some r):ef prog 27 [] [] (.bool r):=by
 refine eu func27 rfl rfl ?_;unfold CF at hm;refine bn [] [] []<|bn [] [(1,.aX true (aD hI ([(dQ.mk (1:Int) ([(2:Int)]:List Int) (3:Int)),(dQ.mk (1:Int) ([(2:Int)]:List Int) (3:Int)),(dQ.mk (2:Int) ([(1:Int)]:List Int) (4:Int))]:List dQ)))] [] ?_
 obtain⟨a8,h1,hm⟩:=bI hm;refine A.M6 cm 2 [3,4,5,6,7] [] [(0,cE (KK h1) IW)] (S4 hm) Rx (by kernel_rfl) (by kernel_rfl) (by kernel_rfl) (by rintro _ _ ⟨rfl,_,_,rfl⟩;exact⟨rfl,rfl⟩) ?_;rintro _ _ ⟨rfl,bt,hm,rfl⟩
 try dsimp only at hm
 refine⟨[],[(1,.aX true (aD hI ([(dQ.mk (1:Int) ([(2:Int)]:List Int) (3:Int)),(dQ.mk (1:Int) ([(2:Int)]:List Int) (3:Int)),(dQ.mk (2:Int) ([(1:Int)]:List Int) (4:Int))]:List dQ))),(2,bm gD bt.1),(3,ag bt.2)],[],by kernel_rfl,?_⟩;refine A.seq<|A.mid [(1,.aX true (aD hI ([(dQ.mk (1:Int) ([(2:Int)]:List Int) (3:Int)),(dQ.mk (1:Int) ([(2:Int)]:List Int) (3:Int)),(dQ.mk (2:Int) ([(1:Int)]:List Int) (4:Int))]:List dQ))),(2,bm gD bt.1),(27,.bool ((!decide (bt.2=0))||(!decide ((bt.1.length:Int)=(3:Int)))))] [] (λhk=>?_) ?_
 ·rcases mx (!decide (bt.2=0))with bk|bk
  ·exact bn [(2,aZ (c9 bk)),(6,aZ (uG (q:=!decide ((bt.1.length:Int)=(3:Int))) bk))] _ _ hk
  exact bn [(2,aZ (c9 bk)),(4,aZ (ew gD bt.1)),(6,aZ (sx (q:=!decide ((bt.1.length:Int)=(3:Int))) bk))] _ _ hk
 rcases cZ hm with⟨bZ,hm⟩|⟨bZ,hm⟩
 ·refine cM bZ<|bn [] [(0,.bool false)] [] ?_
  cases hm;exact A.ret cC
 refine cL bZ<|A.skip ?_
 obtain⟨c7,D,hm⟩:=bI hm;obtain⟨eU,ak,hm⟩:=bI hm;obtain⟨fl,bc,hm⟩:=bI hm;refine br [(0,cE (KK D) IW),(3,hT (sl gD ak)),(4,cE (S8 bc) Ry)] [27] [(4,bm gx fl.1),(5,ag fl.2)] ?_;obtain⟨fE,bX,hm⟩:=bI hm;obtain⟨ej,dV,hm⟩:=bI hm;obtain⟨et,fF,hm⟩:=bI hm;refine br [(0,cE (KK bX) IW),(3,eg (ix hI dV)),(5,cE (ai6 fF) aff)] [1,4] [(6,bm bq et.1),(7,ag et.2)] ?_;rcases cZ hm with⟨c1,hm⟩|⟨c1,hm⟩
 ·rcases cZ hm with⟨fu,hm⟩|⟨fu,hm⟩
  ·obtain⟨hS,jm,hm⟩:=bI hm;rcases cZ hm with⟨gl,hm⟩|⟨gl,hm⟩
   ·obtain⟨EA,hY,hm⟩:=bI hm;rcases cZ hm with⟨it,hm⟩|⟨it,hm⟩
    ·obtain⟨vm,lT,hm⟩:=bI hm;rcases cZ hm with⟨ov,hm⟩|⟨ov,hm⟩
     ·obtain⟨gW,xF,hm⟩:=bI hm;refine bn [(2,aZ (c9 c1)),(6,aZ (c9 fu)),(8,eg (ix gD jm)),(11,aZ (ew b1 hS.Links)),(14,aZ (c9 gl)),(16,eg (ix gD hY)),(21,aZ (c9 it)),(23,eg (ix gD lT)),(26,aZ (ew b1 vm.Links)),(29,aZ (c9 ov)),(32,cE (ai3 xF) afi)] [(0,.bool gW)] [] ?_;cases hm;exact A.ret cC
     refine bn [(2,aZ (c9 c1)),(6,aZ (c9 fu)),(8,eg (ix gD jm)),(11,aZ (ew b1 hS.Links)),(14,aZ (c9 gl)),(16,eg (ix gD hY)),(21,aZ (c9 it)),(23,eg (ix gD lT)),(26,aZ (ew b1 vm.Links)),(29,aZ (c9 ov))] [(0,.bool false)] [] ?_;cases hm;exact A.ret cC
    refine bn [(2,aZ (c9 c1)),(6,aZ (c9 fu)),(8,eg (ix gD jm)),(11,aZ (ew b1 hS.Links)),(14,aZ (c9 gl)),(16,eg (ix gD hY)),(21,aZ (c9 it))] [(0,.bool false)] [] ?_;cases hm;exact A.ret cC
   refine bn [(2,aZ (c9 c1)),(6,aZ (c9 fu)),(8,eg (ix gD jm)),(11,aZ (ew b1 hS.Links)),(14,aZ (c9 gl))] [(0,.bool false)] [] ?_;cases hm;exact A.ret cC
  refine bn [(2,aZ (c9 c1)),(6,aZ (c9 fu))] [(0,.bool false)] [] ?_;cases hm;exact A.ret cC
 refine bn [(2,aZ (c9 c1))] [(0,.bool false)] [] ?_;cases hm;exact A.ret cC
end Go.Proofs.YtmnbolcmepihlaaGreat
