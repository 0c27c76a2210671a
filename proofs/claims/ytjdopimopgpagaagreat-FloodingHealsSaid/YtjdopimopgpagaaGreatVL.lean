/- The eN of cu of the program. No condition but bH bq stand in each. -/
import Derived.Test.YtjdopimopgpagaaGreatDL
import Derived.Test.YtjdopimopgpagaaGreatVG
import Derived.Test.YtjdopimopgpagaaGreatVTF
namespace Go.Proofs.YtjdopimopgpagaaGreat
open Go Go.Proofs.Tryz
set_option maxRecDepth 100000
set_option linter.all false
theorem abR{r:aj×Bool}(hm:sZ=some r):bM prog 43 [] [] (λa σ'=>a=.tup [.agg [lf aC r.1.Links,.own 500004300,.own 500004301],.bool r.2]∧σ'=[(500004300,.slice 53 5 (ml aN r.1.aA) 0 false),(500004301,.slice 75 3 (ml aJ r.1.aq) 0 false)]):=by
 refine aZ func43 rfl rfl ?_
 unfold sZ at hm
 refine qS [(0,.al 43000)] [(0,.ptr 43000 0)] [(43000,.cells 27 [.aH,.aH,.aH])]<|qD [(2,.al 43009),(4,.al 43011),(6,.al 43002)] [] [(2,.ptr 43002 0)] [] [(43009,.slice 93 2 (ml aX ([(bf.mk (1:Int) false),(bf.mk (2:Int) false)]:List bf)) 0 false),(43011,.slice 86 5 (ml aC ([(aV.mk (1:Int) (2:Int) (1:Int) (1:Int) (0:Int))]:List aV)) 0 false),(43002,.cells 45 [.own 43009,.own 43011])] ?_
 obtain⟨ah,h1,hm⟩:=aa hm
 refine A.RS W0 [.fz [43009,43011]] [(1,hro (yT h1) ck96),(5,.al 43003)] [(0,.ptr 43000 0),(3,.ptr 43003 0),(4,i6 ah.2)] [(43000,.cells 27 [.aH,.aH,.aH]),(43003,.cells 27 (k12 ah.1))] (by kernel_rfl) ?_
 obtain⟨aD,h2,hm⟩:=aa hm
 refine qS [(1,hdc [500003700,500003701] (qH h2) apz)] [(0,.ptr 43000 0),(3,.ptr 43003 0),(4,i6 ah.2),(5,i6 aD.2)] [(43000,.cells 27 [.aH,.aH,.aH]),(43003,.cells 27 [lf aC aD.1.Links,.own 500003700,.own 500003701]),(500003700,.slice 53 5 (ml aN aD.1.aA) 0 false),(500003701,.slice 75 3 (ml aJ aD.1.aq) 0 false)] ?_
 obtain⟨aP,h3,hm⟩:=aa hm
 refine A.RS W0 [.fz [500003700,500003701]] [(1,hdc [510043001,510043002] (SC.at [(500003700,510043001),(500003701,510043002)] (qH h3)) apz)] [(0,.ptr 43000 0),(3,.ptr 43003 0),(4,i6 ah.2),(5,i6 aD.2),(6,i6 aP.2)] [(43000,.cells 27 [.aH,.aH,.aH]),(43003,.cells 27 [lf aC aP.1.Links,.own 510043001,.own 510043002]),(510043001,.slice 53 5 (ml aN aP.1.aA) 0 false),(510043002,.slice 75 3 (ml aJ aP.1.aq) 0 false)] (by kernel_rfl)<|A.mid [(0,.ptr 43000 0),(1,.bool ((decide (ah.2=0))&&((decide (aD.2=0))&&(decide (aP.2=0)))))] [(43000,.cells 27 [lf aC aP.1.Links,.own 510043001,.own 510043002]),(510043001,.slice 53 5 (ml aN aP.1.aA) 0 false),(510043002,.slice 75 3 (ml aJ aP.1.aq) 0 false)] (λhk=>?_) ?_
 ·rcases tf (decide (ah.2=0))with c1|c1
  ·rcases tf (decide (aD.2=0))with c2|c2
   ·exact qS [(3,hto (bE c1)),(7,hto (bE c2)),(12,hto ((rO (q:=decide (aP.2=0)) c2).trans (rO (q:=((decide (aD.2=0))&&(decide (aP.2=0)))) c1)))] _ _ hk
   exact qS [(3,hto (bE c1)),(7,hto (bE c2)),(12,hto ((sM (q:=decide (aP.2=0)) c2).trans (rO (q:=((decide (aD.2=0))&&(decide (aP.2=0)))) c1)))] _ _ hk
  exact qS [(3,hto (bE c1)),(12,hto (sM (q:=((decide (aD.2=0))&&(decide (aP.2=0)))) c1))] _ _ hk
 refine A.ret ?_
 obtain rfl:=some_inj hm
 exact A.fin W0 [.sw 510043001 500004300,.sw 510043002 500004301] rfl (by kernel_rfl)
theorem abg{r:Bool}(hm:o6=some r):RO prog 18 [] [] (.bool r):=by
 refine aZ func18 rfl rfl ?_
 unfold o6 at hm
 refine qS [] [] [] ?_
 obtain⟨ah,h1,hm⟩:=aa hm
 refine qS [(0,hdc [500004300,500004301] (abR h1) ck43),(4,.al 18001)] [(1,.ptr 18001 0),(2,.bool ah.2)] [(500004300,.slice 53 5 (ml aN ah.1.aA) 0 false),(500004301,.slice 75 3 (ml aJ ah.1.aq) 0 false),(18001,.cells 27 [lf aC ah.1.Links,.own 500004300,.own 500004301])] ?_
 obtain⟨aD,h2,hm⟩:=aa hm
 refine A.RS W0 [.fz [500004300,500004301]] [(1,hro (tw h2) apw)] [(1,.ptr 18001 0),(2,.bool ah.2),(3,i6 aD.2)] [(18001,.cells 27 (k12 aD.1))] (by kernel_rfl) ?_
 rcases az hm with⟨c1,hm⟩|⟨c1,hm⟩
 ·rcases az hm with⟨c2,hm⟩|⟨c2,hm⟩
  ·rcases az hm with⟨c3,hm⟩|⟨c3,hm⟩
   ·obtain⟨e_1,h3,hm⟩:=aa hm
    rcases az hm with⟨c4,hm⟩|⟨c4,hm⟩
    ·obtain⟨aP,h4,hm⟩:=aa hm
     refine qS [(1,hto (bE c1)),(5,hto (bE c2)),(8,hto (lnE aN aD.1.aA)),(11,hto (bE c3)),(14,hix (ix aN h3)),(18,hto (lnE aQ e_1.Database.aG)),(21,hto (bE c4)),(23,hro (oc h4) ajb)] [(0,.bool aP)] [] ?_
     cases hm
     exact A.ret qE
    refine qS [(1,hto (bE c1)),(5,hto (bE c2)),(8,hto (lnE aN aD.1.aA)),(11,hto (bE c3)),(14,hix (ix aN h3)),(18,hto (lnE aQ e_1.Database.aG)),(21,hto (bE c4))] [(0,.bool false)] [] ?_
    cases hm
    exact A.ret qE
   refine qS [(1,hto (bE c1)),(5,hto (bE c2)),(8,hto (lnE aN aD.1.aA)),(11,hto (bE c3))] [(0,.bool false)] [] ?_
   cases hm
   exact A.ret qE
  refine qS [(1,hto (bE c1)),(5,hto (bE c2))] [(0,.bool false)] [] ?_
  cases hm
  exact A.ret qE
 refine qS [(1,hto (bE c1))] [(0,.bool false)] [] ?_
 cases hm
 exact A.ret qE
end Go.Proofs.YtjdopimopgpagaaGreat
