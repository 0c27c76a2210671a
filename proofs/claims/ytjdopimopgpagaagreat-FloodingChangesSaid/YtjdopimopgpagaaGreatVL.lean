/- The ew of cA of the program. No condition but bM bw stand in each. -/
import Derived.Test.YtjdopimopgpagaaGreatDL
import Derived.Test.YtjdopimopgpagaaGreatVG
import Derived.Test.YtjdopimopgpagaaGreatVTF
namespace Go.Proofs.YtjdopimopgpagaaGreat
open Go Go.Proofs.Tryz
set_option maxRecDepth 100000
set_option linter.all false
theorem abG{r:aB×Bool}(hm:sG=some r):bP prog 43 [] [] (λa σ'=>a=.tup [.agg [lf az r.1.Links,.own 500004300,.own 500004301],.bool r.2]∧σ'=[(500004300,.slice 53 5 (ml aL r.1.aF) 0 false),(500004301,.slice 75 3 (ml aJ r.1.ay) 0 false)]):=by
 refine aZ func43 rfl rfl ?_
 unfold sG at hm
 refine qS [(0,.al 43000)] [(0,.ptr 43000 0)] [(43000,.cells 27 [.aI,.aI,.aI])]<|qD [(2,.al 43009),(4,.al 43011),(6,.al 43002)] [] [(2,.ptr 43002 0)] [] [(43009,.slice 93 2 (ml aU ([(bh.mk (1:Int) false),(bh.mk (2:Int) false)]:List bh)) 0 false),(43011,.slice 86 5 (ml az ([(aK.mk (1:Int) (2:Int) (1:Int) (1:Int) (0:Int))]:List aK)) 0 false),(43002,.cells 45 [.own 43009,.own 43011])] ?_
 obtain⟨af,h1,hm⟩:=aa hm
 refine A.RS W0 [.fz [43009,43011]] [(1,hro (yA h1) ck96),(5,.al 43003)] [(0,.ptr 43000 0),(3,.ptr 43003 0),(4,i6 af.2)] [(43000,.cells 27 [.aI,.aI,.aI]),(43003,.cells 27 (k12 af.1))] (by kernel_rfl) ?_
 obtain⟨aD,h2,hm⟩:=aa hm
 refine qS [(1,hdc [500003700,500003701] (qj h2) ao5)] [(0,.ptr 43000 0),(3,.ptr 43003 0),(4,i6 af.2),(5,i6 aD.2)] [(43000,.cells 27 [.aI,.aI,.aI]),(43003,.cells 27 [lf az aD.1.Links,.own 500003700,.own 500003701]),(500003700,.slice 53 5 (ml aL aD.1.aF) 0 false),(500003701,.slice 75 3 (ml aJ aD.1.ay) 0 false)] ?_
 obtain⟨aP,h3,hm⟩:=aa hm
 refine A.RS W0 [.fz [500003700,500003701]] [(1,hdc [510043001,510043002] (SC.at [(500003700,510043001),(500003701,510043002)] (qj h3)) ao5)] [(0,.ptr 43000 0),(3,.ptr 43003 0),(4,i6 af.2),(5,i6 aD.2),(6,i6 aP.2)] [(43000,.cells 27 [.aI,.aI,.aI]),(43003,.cells 27 [lf az aP.1.Links,.own 510043001,.own 510043002]),(510043001,.slice 53 5 (ml aL aP.1.aF) 0 false),(510043002,.slice 75 3 (ml aJ aP.1.ay) 0 false)] (by kernel_rfl)<|A.mid [(0,.ptr 43000 0),(1,.bool ((decide (af.2=0))&&((decide (aD.2=0))&&(decide (aP.2=0)))))] [(43000,.cells 27 [lf az aP.1.Links,.own 510043001,.own 510043002]),(510043001,.slice 53 5 (ml aL aP.1.aF) 0 false),(510043002,.slice 75 3 (ml aJ aP.1.ay) 0 false)] (λhk=>?_) ?_
 ·rcases tf (decide (af.2=0))with c1|c1
  ·rcases tf (decide (aD.2=0))with c2|c2
   ·exact qS [(3,hto (bE c1)),(7,hto (bE c2)),(12,hto ((pE (q:=decide (aP.2=0)) c2).trans (pE (q:=((decide (aD.2=0))&&(decide (aP.2=0)))) c1)))] _ _ hk
   exact qS [(3,hto (bE c1)),(7,hto (bE c2)),(12,hto ((qn (q:=decide (aP.2=0)) c2).trans (pE (q:=((decide (aD.2=0))&&(decide (aP.2=0)))) c1)))] _ _ hk
  exact qS [(3,hto (bE c1)),(12,hto (qn (q:=((decide (aD.2=0))&&(decide (aP.2=0)))) c1))] _ _ hk
 refine A.ret ?_
 obtain rfl:=some_inj hm
 exact A.fin W0 [.sw 510043001 500004300,.sw 510043002 500004301] rfl (by kernel_rfl)
theorem aa7{r:Bool}(hm:qY=some r):RO prog 18 [] [] (.bool r):=by
 refine aZ func18 rfl rfl ?_
 unfold qY at hm
 refine qS [] [] [] ?_
 obtain⟨af,h1,hm⟩:=aa hm
 refine qS [(0,hdc [500004300,500004301] (abG h1) ck43),(4,.al 18001)] [(1,.ptr 18001 0),(2,.bool af.2)] [(500004300,.slice 53 5 (ml aL af.1.aF) 0 false),(500004301,.slice 75 3 (ml aJ af.1.ay) 0 false),(18001,.cells 27 [lf az af.1.Links,.own 500004300,.own 500004301])] ?_
 obtain⟨aD,h2,hm⟩:=aa hm
 refine A.RS W0 [.fz [500004300,500004301]] [(1,hro (yB h2) ck15)] [(1,.ptr 18001 0),(2,.bool af.2),(3,i6 aD.2)] [(18001,.cells 27 (k12 aD.1))] (by kernel_rfl) ?_
 rcases aq hm with⟨c1,hm⟩|⟨c1,hm⟩
 ·rcases aq hm with⟨c2,hm⟩|⟨c2,hm⟩
  ·rcases aq hm with⟨c3,hm⟩|⟨c3,hm⟩
   ·obtain⟨e_1,h3,hm⟩:=aa hm
    rcases aq hm with⟨c4,hm⟩|⟨c4,hm⟩
    ·obtain⟨aP,h4,hm⟩:=aa hm
     refine qS [(1,hto (bE c1)),(5,hto (bE c2)),(8,hto (lnE aL aD.1.aF)),(11,hto (bE c3)),(14,hix (ix aL h3)),(18,hto (lnE aM e_1.Database.aC)),(21,hto (bE c4)),(23,hro (wZ h4) ck22)] [(0,.bool aP)] [] ?_
     cases hm
     exact A.ret qE
    refine qS [(1,hto (bE c1)),(5,hto (bE c2)),(8,hto (lnE aL aD.1.aF)),(11,hto (bE c3)),(14,hix (ix aL h3)),(18,hto (lnE aM e_1.Database.aC)),(21,hto (bE c4))] [(0,.bool false)] [] ?_
    cases hm
    exact A.ret qE
   refine qS [(1,hto (bE c1)),(5,hto (bE c2)),(8,hto (lnE aL aD.1.aF)),(11,hto (bE c3))] [(0,.bool false)] [] ?_
   cases hm
   exact A.ret qE
  refine qS [(1,hto (bE c1)),(5,hto (bE c2))] [(0,.bool false)] [] ?_
  cases hm
  exact A.ret qE
 refine qS [(1,hto (bE c1))] [(0,.bool false)] [] ?_
 cases hm
 exact A.ret qE
theorem aa8{sa0:aS}{f:aB}{n:Int}{r:aB×aS}(hm:oJ sa0 f n=some r):bP prog 12 [(900000083,.cells 83 (k3 sa0))] [.ptr 900000083 0,.agg (k12 f),i6 n] (λa σ'=>a=.agg (k12 r.1)∧σ'=[(900000083,.cells 83 (k3 r.2))]):=by
 refine aZ func12 rfl rfl ?_
 unfold oJ at hm
 refine qS [(0,.al 12004),(1,.al 12006)] [(0,.ptr 900000083 0),(2,i6 n),(4,.ptr 12004 0),(6,.ptr 12006 0)] [(900000083,.cells 83 (k3 sa0)),(12004,.cells 27 (k12 f)),(12006,.cells 27 [.aI,.aI,.aI])]<|A.seq ?_
 obtain⟨af,h1,hm⟩:=aa hm
 refine qD [(2,hdc [] (iA h1) aaO)] [2] [(10,.bool (!af.1))] [900000083] [(900000083,.cells 83 (k3 af.2))] ?_
 rcases aq hm with⟨c1,hm⟩|⟨c1,hm⟩
 ·refine qT c1<|qD [] [0,4,10] [] [12004,12006] [(12006,.cells 27 (k12 f))] ?_
  cases hm
  exact A.ret qE
 refine qF c1<|A.skip ?_
 obtain⟨J1,hJ1,hm⟩:=bI hm
 refine A.J (J:=J1) (r:=r) (λ(m_1,m_2,m_3,m_4,m_5)=>[(4,.ptr 12004 0),(6,.ptr 12006 0)]) (λ(m_1,m_2,m_3,m_4,m_5)=>[(900000083,.cells 83 [lf bO m_1,i6 m_2]),(12004,.cells 27 [lf az m_3,lf aL m_4,lf aJ m_5]),(12006,.cells 27 [.aI,.aI,.aI])]) ?_ ?_
 ·obtain⟨aD,h2,hm⟩:=aa hm
  refine qD [(1,hdc [] (bN h2) iy)] [10] [(13,i6 aD.1)] [900000083] [(900000083,.cells 83 (k3 aD.2))]<|A.block<|qDs [] [] [(34,.bool (decide (aD.1=0)))] ?_
  rcases aq hm with⟨c2,hm⟩|⟨c2,hm⟩
  ·refine qT c2 ?_
   obtain⟨l_1,h3,hm⟩:=aa hm
   obtain⟨l_2,h4,hm⟩:=aa hm
   exact qG [(4,hto (lnE az f.Links)),(7,hto (lnE az f.Links)),(8,hs3 (sl az h3)),(11,hap 12547 (ap az (bytes:=40) (by decide) h4))] [0,13,34] [] [12004] [(12004,.cells 27 [.own 12547,lf aL f.aF,lf aJ f.ay]),(12547,.slice 86 5 (ml az l_2) 0 false)]<|Exists.intro (aD.2.L,aD.2.At,l_2,f.aF,f.ay) (And.intro hm (bz.go [.fz [12547],.sc 12004 [900000083,12004,12006]] [] (by kernel_rfl)))
  refine qF c2<|qDs [] [34] [(49,.bool (decide (aD.1=1)))] ?_
  rcases aq hm with⟨c3,hm⟩|⟨c3,hm⟩
  ·refine qT c3 ?_
   obtain⟨l_3,h5,hm⟩:=aa hm
   obtain⟨aP,h6,hm⟩:=aa hm
   obtain⟨bt,h7,hm⟩:=aa hm
   obtain⟨l_4,h8,hm⟩:=aa hm
   exact qG [(4,hto (lnE aL f.aF)),(7,hto (lnE aL f.aF)),(8,hs3 (sl aL h5)),(10,hdc [] (bN h6) iy),(12,hdc [] (gU h7) aaP),(15,hap 12566 (ap aL (bytes:=72) (by decide) h8))] [0,13,49] [] [900000083,12004] [(900000083,.cells 83 (k3 bt.2)),(12004,.cells 27 [lf az f.Links,.own 12566,lf aJ f.ay]),(12566,.slice 53 5 (ml aL l_4) 0 false)]<|Exists.intro (bt.2.L,bt.2.At,f.Links,l_4,f.ay) (And.intro hm (bz.go [.fz [12566],.sc 12004 [900000083,12004,12006]] [] (by kernel_rfl)))
  refine qF c3<|qDs [] [49] [(68,.bool (decide (aD.1=2)))] ?_
  rcases aq hm with⟨c4,hm⟩|⟨c4,hm⟩
  ·refine qT c4 ?_
   obtain⟨l_5,h9,hm⟩:=aa hm
   obtain⟨bF,h10,hm⟩:=aa hm
   obtain⟨cg,h11,hm⟩:=aa hm
   obtain⟨l_6,h12,hm⟩:=aa hm
   exact qG [(4,hto (lnE aJ f.ay)),(7,hto (lnE aJ f.ay)),(8,hs3 (sl aJ h9)),(10,hdc [] (bN h10) iy),(12,hdc [] (bN h11) iy),(15,hap 12585 (ap aJ (bytes:=40) (by decide) h12))] [0,13,68] [] [900000083,12004] [(900000083,.cells 83 (k3 cg.2)),(12004,.cells 27 [lf az f.Links,lf aL f.aF,.own 12585]),(12585,.slice 75 3 (ml aJ l_6) 0 false)]<|Exists.intro (cg.2.L,cg.2.At,f.Links,f.aF,l_6) (And.intro hm (bz.go [.fz [12585],.sc 12004 [900000083,12004,12006]] [] (by kernel_rfl)))
  refine qF c4<|qDs [] [13,68] [(87,.bool (decide (aD.1=3)))] ?_
  rcases aq hm with⟨c5,hm⟩|⟨c5,hm⟩
  ·refine qT c5 ?_
   obtain⟨l_7,h13,hm⟩:=aa hm
   obtain⟨cw,h14,hm⟩:=aa hm
   obtain⟨l_8,h15,hm⟩:=aa hm
   exact qG [(4,hto (lnE aL f.aF)),(7,hto (lnE aL f.aF)),(8,hs3 (sl aL h13)),(10,hdc [] (SC.uI (r':=.agg (k8 cw.1)) (σ3:=[(900000083,.cells 83 (k3 cw.2))]) [500005800] (rL h14) (by kernel_rfl) (by kernel_rfl)) ao7),(13,hap 12602 (ap aL (bytes:=72) (by decide) h15))] [0,87] [] [900000083,12004] [(900000083,.cells 83 (k3 cw.2)),(12004,.cells 27 [lf az f.Links,.own 12602,lf aJ f.ay]),(12602,.slice 53 5 (ml aL l_8) 0 false)]<|Exists.intro (cw.2.L,cw.2.At,f.Links,l_8,f.ay) (And.intro hm (bz.go [.fz [12602],.sc 12004 [900000083,12004,12006]] [] (by kernel_rfl)))
  refine qF c5 ?_
  obtain⟨l_9,h16,hm⟩:=aa hm
  obtain⟨cr,h17,hm⟩:=aa hm
  obtain⟨dJ,h18,hm⟩:=aa hm
  obtain⟨ago,h19,hm⟩:=aa hm
  exact qG [(4,hto (lnE aL f.aF)),(7,hto (lnE aL f.aF)),(8,hs3 (sl aL h16)),(10,hdc [] (bN h17) iy),(13,hdc [] (dF h18) su),(18,hap 12532 (ap aL (bytes:=72) (by decide) h19))] [0,87] [] [900000083,12004] [(900000083,.cells 83 (k3 dJ.2)),(12004,.cells 27 [lf az f.Links,.own 12532,lf aJ f.ay]),(12532,.slice 53 5 (ml aL ago) 0 false)]<|Exists.intro (dJ.2.L,dJ.2.At,f.Links,ago,f.ay) (And.intro hm (bz.go [.fz [12532],.sc 12004 [900000083,12004,12006]] [] (by kernel_rfl)))
 rintro⟨m_1,m_2,m_3,m_4,m_5⟩ hm
 rw[hJ1]at hm
 refine qD [] [4] [] [12004,12006] [(12006,.cells 27 [lf az m_3,lf aL m_4,lf aJ m_5])] ?_
 cases hm
 exact A.ret qE
end Go.Proofs.YtjdopimopgpagaaGreat
