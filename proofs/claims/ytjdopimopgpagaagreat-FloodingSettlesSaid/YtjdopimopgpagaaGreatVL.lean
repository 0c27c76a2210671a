/- The eD of cw of the program. No condition but bK bu stand in each. -/
import Derived.Test.YtjdopimopgpagaaGreatDL
import Derived.Test.YtjdopimopgpagaaGreatVG
import Derived.Test.YtjdopimopgpagaaGreatVTF
namespace Go.Proofs.YtjdopimopgpagaaGreat
open Go Go.Proofs.Tryz
set_option maxRecDepth 100000
set_option linter.all false
theorem abC{r:aA×Bool}(hm:sU=some r):bO prog 43 [] [] (λa σ'=>a=.tup [.agg [lf aC r.1.Links,.own 500004300,.own 500004301],.bool r.2]∧σ'=[(500004300,.slice 53 5 (ml aO r.1.aB) 0 false),(500004301,.slice 75 3 (ml bf r.1.aF) 0 false)]):=by
 refine aY func43 rfl rfl ?_
 unfold sU at hm
 refine qS [(0,.al 43000)] [(0,.ptr 43000 0)] [(43000,.cells 27 [.aI,.aI,.aI])]<|qD [(2,.al 43009),(4,.al 43011),(6,.al 43002)] [] [(2,.ptr 43002 0)] [] [(43009,.slice 93 2 (ml aP ([(aU.mk (1:Int) false),(aU.mk (2:Int) false)]:List aU)) 0 false),(43011,.slice 86 5 (ml aC ([(aS.mk (1:Int) (2:Int) (1:Int) (1:Int) (0:Int))]:List aS)) 0 false),(43002,.cells 45 [.own 43009,.own 43011])] ?_
 obtain⟨ah,h1,hm⟩:=aa hm
 refine A.RS W0 [.fz [43009,43011]] [(1,hro (yu h1) ck96),(5,.al 43003)] [(0,.ptr 43000 0),(3,.ptr 43003 0),(4,i6 ah.2)] [(43000,.cells 27 [.aI,.aI,.aI]),(43003,.cells 27 (k12 ah.1))] (by kernel_rfl) ?_
 obtain⟨aD,h2,hm⟩:=aa hm
 refine qS [(1,hdc [500003700,500003701] (ql h2) ao5)] [(0,.ptr 43000 0),(3,.ptr 43003 0),(4,i6 ah.2),(5,i6 aD.2)] [(43000,.cells 27 [.aI,.aI,.aI]),(43003,.cells 27 [lf aC aD.1.Links,.own 500003700,.own 500003701]),(500003700,.slice 53 5 (ml aO aD.1.aB) 0 false),(500003701,.slice 75 3 (ml bf aD.1.aF) 0 false)] ?_
 obtain⟨aN,h3,hm⟩:=aa hm
 refine A.RS W0 [.fz [500003700,500003701]] [(1,hdc [510043001,510043002] (SC.at [(500003700,510043001),(500003701,510043002)] (ql h3)) ao5)] [(0,.ptr 43000 0),(3,.ptr 43003 0),(4,i6 ah.2),(5,i6 aD.2),(6,i6 aN.2)] [(43000,.cells 27 [.aI,.aI,.aI]),(43003,.cells 27 [lf aC aN.1.Links,.own 510043001,.own 510043002]),(510043001,.slice 53 5 (ml aO aN.1.aB) 0 false),(510043002,.slice 75 3 (ml bf aN.1.aF) 0 false)] (by kernel_rfl)<|A.mid [(0,.ptr 43000 0),(1,.bool ((decide (ah.2=0))&&((decide (aD.2=0))&&(decide (aN.2=0)))))] [(43000,.cells 27 [lf aC aN.1.Links,.own 510043001,.own 510043002]),(510043001,.slice 53 5 (ml aO aN.1.aB) 0 false),(510043002,.slice 75 3 (ml bf aN.1.aF) 0 false)] (λhk=>?_) ?_
 ·rcases tf (decide (ah.2=0))with c1|c1
  ·rcases tf (decide (aD.2=0))with c2|c2
   ·exact qS [(3,hto (bE c1)),(7,hto (bE c2)),(12,hto ((qs (q:=decide (aN.2=0)) c2).trans (qs (q:=((decide (aD.2=0))&&(decide (aN.2=0)))) c1)))] _ _ hk
   exact qS [(3,hto (bE c1)),(7,hto (bE c2)),(12,hto ((rE (q:=decide (aN.2=0)) c2).trans (qs (q:=((decide (aD.2=0))&&(decide (aN.2=0)))) c1)))] _ _ hk
  exact qS [(3,hto (bE c1)),(12,hto (rE (q:=((decide (aD.2=0))&&(decide (aN.2=0)))) c1))] _ _ hk
 refine A.ret ?_
 obtain rfl:=some_inj hm
 exact A.fin W0 [.sw 510043001 500004300,.sw 510043002 500004301] rfl (by kernel_rfl)
theorem aa1{r:Bool}(hm:oF=some r):RO prog 18 [] [] (.bool r):=by
 refine aY func18 rfl rfl ?_
 unfold oF at hm
 refine qS [] [] [] ?_
 obtain⟨ah,h1,hm⟩:=aa hm
 refine qS [(0,hdc [500004300,500004301] (abC h1) ck43),(4,.al 18001)] [(1,.ptr 18001 0),(2,.bool ah.2)] [(500004300,.slice 53 5 (ml aO ah.1.aB) 0 false),(500004301,.slice 75 3 (ml bf ah.1.aF) 0 false),(18001,.cells 27 [lf aC ah.1.Links,.own 500004300,.own 500004301])] ?_
 obtain⟨aD,h2,hm⟩:=aa hm
 refine A.RS W0 [.fz [500004300,500004301]] [(1,hro (oU h2) aiL)] [(1,.ptr 18001 0),(2,.bool ah.2),(3,i6 aD.2)] [(18001,.cells 27 (k12 aD.1))] (by kernel_rfl) ?_
 rcases aq hm with⟨c1,hm⟩|⟨c1,hm⟩
 ·rcases aq hm with⟨c2,hm⟩|⟨c2,hm⟩
  ·rcases aq hm with⟨c3,hm⟩|⟨c3,hm⟩
   ·obtain⟨e_1,h3,hm⟩:=aa hm
    rcases aq hm with⟨c4,hm⟩|⟨c4,hm⟩
    ·obtain⟨aN,h4,hm⟩:=aa hm
     refine qS [(1,hto (bE c1)),(5,hto (bE c2)),(8,hto (lnE aO aD.1.aB)),(11,hto (bE c3)),(14,hix (ix aO h3)),(18,hto (lnE aL e_1.Database.ay)),(21,hto (bE c4)),(23,hro (iM h4) ad2)] [(0,.bool aN)] [] ?_
     cases hm
     exact A.ret qE
    refine qS [(1,hto (bE c1)),(5,hto (bE c2)),(8,hto (lnE aO aD.1.aB)),(11,hto (bE c3)),(14,hix (ix aO h3)),(18,hto (lnE aL e_1.Database.ay)),(21,hto (bE c4))] [(0,.bool false)] [] ?_
    cases hm
    exact A.ret qE
   refine qS [(1,hto (bE c1)),(5,hto (bE c2)),(8,hto (lnE aO aD.1.aB)),(11,hto (bE c3))] [(0,.bool false)] [] ?_
   cases hm
   exact A.ret qE
  refine qS [(1,hto (bE c1)),(5,hto (bE c2))] [(0,.bool false)] [] ?_
  cases hm
  exact A.ret qE
 refine qS [(1,hto (bE c1))] [(0,.bool false)] [] ?_
 cases hm
 exact A.ret qE
end Go.Proofs.YtjdopimopgpagaaGreat
