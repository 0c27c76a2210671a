/- The gq of dx of the program. No condition but br aM stand in each. -/
import Derived.Test.YtdjeacigeegklaaGreatDL
import Derived.Test.YtdjeacigeegklaaGreatVK
import Derived.Test.YtdjeacigeegklaaGreatVN
namespace Go.Proofs.YtdjeacigeegklaaGreat
open Go Go.Proofs.Tryz
set_option maxRecDepth 100000
set_option linter.all false
theorem sv{r:af}(hm:oe=some r):RO prog 65 [] [] (.agg (k2 r)):=by
 refine bu func65 rfl rfl ?_
 unfold oe at hm
 refine qS [(0,.al 65000)] [(0,.ptr 65000 0)] [(65000,.cells 28 [.aS,.aS])]<|qD [] [] [] [65000] [(65000,.cells 28 [.lst true (ml bg ([(aP.mk (1:Int) true),(aP.mk (2:Int) true),(aP.mk (3:Int) true)]:List aP)),.lst true (ml cq ([(aZ.mk (1:Int) (2:Int) (1:Int) (1:Int) (0:Int)),(aZ.mk (2:Int) (3:Int) (1:Int) (1:Int) (0:Int))]:List aZ))])] ?_
 cases hm
 exact A.ret qE
theorem sx{r:Bool}(hm:mw=some r):RO prog 20 [] [] (.bool r):=by
 refine bu func20 rfl rfl ?_
 unfold mw at hm
 refine qS [] [] [] ?_
 obtain⟨ak,h1,hm⟩:=aa hm
 obtain⟨aO,h2,hm⟩:=aa hm
 refine qS [(0,hro (sv h1) aow),(1,hro (sS h2) aop),(5,.al 20001)] [(1,.ptr 20001 0)] [(20001,.cells 32 (k6 aO.1))] ?_
 obtain⟨bT,h3,hm⟩:=aa hm
 obtain⟨cI,h4,hm⟩:=aa hm
 refine qS [(1,hro (sv h3) aow),(3,hro (pO h4) aor),(7,.al 20003)] [(3,.ptr 20003 0),(4,i6 cI.2)] [(20003,.cells 74 (k13 cI.1))] ?_
 rcases aq hm with⟨c1,hm⟩|⟨c1,hm⟩
 ·rcases aq hm with⟨c2,hm⟩|⟨c2,hm⟩
  ·obtain⟨e_1,h5,hm⟩:=aa hm
   rcases aq hm with⟨c3,hm⟩|⟨c3,hm⟩
   ·rcases aq hm with⟨c4,hm⟩|⟨c4,hm⟩
    ·obtain⟨e_2,h6,hm⟩:=aa hm
     rcases aq hm with⟨c5,hm⟩|⟨c5,hm⟩
     ·obtain⟨e_3,h7,hm⟩:=aa hm
      refine qS [(2,hto (bE c1)),(5,hto (lnE dn cI.1.cm)),(8,hto (bE c2)),(11,hix (ix dn h5)),(16,hto (bE c3)),(19,hto (lnE dI cI.1.cH)),(22,hto (bE c4)),(25,hix (ix dI h6)),(30,hto (bE c5)),(33,hix (ix dI h7))] [(0,.bool (decide (e_3.Bits=32)))] [] ?_
      cases hm
      exact A.ret qE
     refine qS [(2,hto (bE c1)),(5,hto (lnE dn cI.1.cm)),(8,hto (bE c2)),(11,hix (ix dn h5)),(16,hto (bE c3)),(19,hto (lnE dI cI.1.cH)),(22,hto (bE c4)),(25,hix (ix dI h6)),(30,hto (bE c5))] [(0,.bool false)] [] ?_
     cases hm
     exact A.ret qE
    refine qS [(2,hto (bE c1)),(5,hto (lnE dn cI.1.cm)),(8,hto (bE c2)),(11,hix (ix dn h5)),(16,hto (bE c3)),(19,hto (lnE dI cI.1.cH)),(22,hto (bE c4))] [(0,.bool false)] [] ?_
    cases hm
    exact A.ret qE
   refine qS [(2,hto (bE c1)),(5,hto (lnE dn cI.1.cm)),(8,hto (bE c2)),(11,hix (ix dn h5)),(16,hto (bE c3))] [(0,.bool false)] [] ?_
   cases hm
   exact A.ret qE
  refine qS [(2,hto (bE c1)),(5,hto (lnE dn cI.1.cm)),(8,hto (bE c2))] [(0,.bool false)] [] ?_
  cases hm
  exact A.ret qE
 refine qS [(2,hto (bE c1))] [(0,.bool false)] [] ?_
 cases hm
 exact A.ret qE
end Go.Proofs.YtdjeacigeegklaaGreat
