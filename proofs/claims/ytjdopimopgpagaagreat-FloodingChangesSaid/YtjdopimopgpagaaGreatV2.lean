/- The ew of cA of the program. No condition but bM bw stand in each. -/
import Derived.Test.YtjdopimopgpagaaGreatV0
import Derived.Test.YtjdopimopgpagaaGreatV1
namespace Go.Proofs.YtjdopimopgpagaaGreat
open Go Go.Proofs.Tryz
set_option maxRecDepth 100000
set_option linter.all false
variable {r:Bool}{ra1:Int}{t:aA}
theorem acg(hm:qx t ra1=some r):RO prog 82 [] [.agg (k2 t),i6 ra1] (.bool r):=by
 refine aZ func82 rfl rfl ?_
 unfold qx at hm
 refine qS [(0,.al 82002)] [(1,i6 ra1),(2,.ptr 82002 0)] [(82002,.cells 45 (k2 t))] ?_
 obtain⟨af,h1,hm⟩:=aa hm
 rcases aq hm with⟨c1,hm⟩|⟨c1,hm⟩
 ·obtain⟨aD,h2,hm⟩:=aa hm
  refine qS [(1,hro (iz h1) aaQ),(3,hto (bE c1)),(6,hro (qb h2) adx)] [(4,.bool aD)] [] ?_
  cases hm
  exact A.ret qE
 refine qS [(1,hro (iz h1) aaQ),(3,hto (bE c1))] [(4,.bool false)] [] ?_
 cases hm
 exact A.ret qE
theorem yX(hm:iZ t ra1=some r):RO prog 166 [] [.agg (k2 t),i6 ra1] (.bool r):=by
 refine aZ func166 rfl rfl ?_
 unfold iZ at hm
 refine qS [(0,.al 166002)] [(1,i6 ra1),(2,.ptr 166002 0)] [(166002,.cells 45 (k2 t))]<|A.seq ?_
 obtain⟨af,h1,hm⟩:=aa hm
 refine qDs [(1,hro (iz h1) aaQ)] [] [(8,.bool (!decide (af=0)))] ?_
 rcases aq hm with⟨c1,hm⟩|⟨c1,hm⟩
 ·refine qT c1<|qS [] [(4,.bool false)] [] ?_
  cases hm
  exact A.ret qE
 refine qF c1<|A.skip<|A.seq<|qDs [] [8] [(5,i6 0)]<|A.block<|A.bC 2 0 rfl rfl rfl λhb1=>?_
 obtain⟨B1,K1,hB1,hK1,hm⟩:=bu hm
 refine A.lpI (l:=t.aH) (j0:=0) (B:=B1) (K:=K1) hm (λj1=>λ()=>[(1,i6 ra1),(2,.ptr 166002 0),(5,i6 (j1:Int))]) (λj1=>λ()=>[(166002,.cells 45 (k2 t))]) ?_ ?_ ?_
 ·exact qW
 ·rintro j1 e1 Z1 ⟨⟩ hj1 hx1 hm
  rw[hB1]at hm
  refine A.seq<|qDs [(3,hto (lnE aU t.aH))] [] [(13,.bool (decide ((j1:Int)<(t.aH.length:Int))))] ?_
  refine qT (ltT hx1)<|A.skip<|A.seq<|A.block<|qDs [(3,hix (ix aU (bf hx1)))] [13] [(23,.bool (decide (e1.ID=ra1)))] ?_
  rcases aq hm with⟨c2,hm⟩|⟨c2,hm⟩
  ·refine qT c2<|qS [(3,hix (ix aU (bf hx1)))] [(4,.bool e1.aX)] [] ?_
   cases hm
   exact A.ret qE
  exact qF c2<|A.skip<|qGs [(1,hto (inc hx1 hb1))] [5,23] [(5,i6 ((j1+1:Nat):Int))]<|qX () hm
 rintro j1 ⟨⟩ hj1 hl1 hm
 rw[hK1]at hm
 refine A.seq<|qDs [(3,hto (lnE aU t.aH))] [] [(13,.bool (decide ((j1:Int)<(t.aH.length:Int))))] ?_
 refine qF (ltF hl1)<|A.exit<|qS [] [(4,.bool false)] [] ?_
 cases hm
 exact A.ret qE
theorem abA{r:(List Int)}(hm:pH t ra1=some r):RO prog 80 [] [.agg (k2 t),i6 ra1] (lf bO r):=by
 refine aZ func80 rfl rfl ?_
 unfold pH at hm
 refine qS [(0,.al 80002)] [(1,i6 ra1),(2,.ptr 80002 0)] [(80002,.cells 45 (k2 t))]<|qDs [] [] [(5,.aI)]<|A.seq<|qDs [] [] [(6,i6 0)]<|A.block<|A.bC 2 0 rfl rfl rfl λhb1=>?_
 obtain⟨B1,K1,hB1,hK1,hm⟩:=bu hm
 refine A.lpI (l:=t.aH) (j0:=0) (B:=B1) (K:=K1) hm (λj1=>λdK=>[(1,i6 ra1),(2,.ptr 80002 0),(5,.own 600080005),(6,i6 (j1:Int))]) (λj1=>λdK=>[(80002,.cells 45 (k2 t)),(600080005,.slice 3 1 (ml bO dK) 0 false)]) ?_ ?_ ?_
 ·exact bz.go [.ad 5 600080005 3 1] [] (by kernel_rfl)
 ·rintro j1 e1 Z1 dK hj1 hx1 hm
  rw[hB1]at hm
  refine A.seq<|qDs [(3,hto (lnE aU t.aH))] [] [(13,.bool (decide ((j1:Int)<(t.aH.length:Int))))] ?_
  refine qT (ltT hx1)<|A.skip ?_
  obtain⟨J1,hJ1,hm⟩:=bI hm
  refine A.J (J:=J1) (r:=r) (λqc=>[(1,i6 ra1),(2,.ptr 80002 0),(5,.own 600080005),(6,i6 (j1:Int))]) (λqc=>[(80002,.cells 45 (k2 t)),(600080005,.slice 3 1 (ml bO qc) 0 false)]) ?_ ?_
  ·refine A.block ?_
   obtain⟨af,h1,hm⟩:=aa hm
   refine qDs [(5,hix (ix aU (bf hx1))),(8,hro (ru h1) agb)] [13] [(8,.bool af.2)]<|qDs [] [8] [(28,.bool af.2)] ?_
   rcases aq hm with⟨c1,hm⟩|⟨c1,hm⟩
   ·refine qT c1 ?_
    obtain⟨l_1,h2,hm⟩:=aa hm
    exact qG [(4,hix (ix aU (bf hx1))),(8,hap 80537 (ap bO (bytes:=8) (by decide) h2))] [5,28] [(5,.own 80537)] [600080005] [(80537,.slice 3 1 (ml bO l_1) 0 false)]<|Exists.intro l_1 (And.intro hm (bz.go [.sw 80537 600080005] [] (by kernel_rfl)))
   exact qF c1<|A.skip<|qX dK hm
  rintro qc hm
  rw[hJ1]at hm
  exact qGs [(1,hto (inc hx1 hb1))] [6] [(6,i6 ((j1+1:Nat):Int))]<|qX qc hm
 rintro j1 dK hj1 hl1 hm
 rw[hK1]at hm
 refine A.seq<|qDs [(3,hto (lnE aU t.aH))] [] [(13,.bool (decide ((j1:Int)<(t.aH.length:Int))))] ?_
 refine qF (ltF hl1)<|A.exit<|qD [] [1,2,5,6,13] [(4,.own 600080005)] [80002] []<|A.ret ?_
 obtain rfl:=some_inj hm
 exact A.fin W0 [.fz [600080005]] rfl (by kernel_rfl)
theorem aaU{l:List kM}{a:Int}{b:Int}(hm:oD l a b=some r):RO prog 83 [] [lf iM l,i6 a,i6 b] (.bool r):=by
 refine aZ func83 rfl rfl ?_
 unfold oD at hm
 refine qS [] [(0,lf iM l),(1,i6 a),(2,i6 b)] []<|A.seq<|qDs [] [] [(7,i6 0)]<|A.block<|A.bS 0 rfl λhb1=>?_
 obtain⟨B1,K1,hB1,hK1,hm⟩:=bu hm
 refine A.lpI (l:=l) (j0:=0) (B:=B1) (K:=K1) hm (λj1=>λ()=>[(0,lf iM l),(1,i6 a),(2,i6 b),(7,i6 (j1:Int))]) (λj1=>λ()=>[]) ?_ ?_ ?_
 ·exact qW
 ·rintro j1 e1 Z1 ⟨⟩ hj1 hx1 hm
  rw[hB1]at hm
  refine A.seq<|qDs [(2,hto (lnE iM l))] [] [(11,.bool (decide ((j1:Int)<(l.length:Int))))] ?_
  refine qT (ltT hx1)<|A.skip<|A.seq<|A.block<|A.mid [(0,lf iM l),(1,i6 a),(2,i6 b),(7,i6 (j1:Int)),(47,.bool (bif decide (e1.cD=a)then((decide (e1.To=b))||((decide (e1.cD=b))&&(decide (e1.To=a))))else((decide (e1.cD=b))&&(decide (e1.To=a)))))] [] (λhk=>?_) ?_
  ·rcases tf (decide (e1.cD=a))with c1|c1
   ·rcases tf (decide (e1.To=b))with c2|c2
    ·exact qS [(2,hix (ix iM (bf hx1))),(7,hto (bE c1)),(10,hix (ix iM (bf hx1))),(16,hto (bE c2)),(33,hto ((orT (q:=((decide (e1.cD=b))&&(decide (e1.To=a)))) c2).trans (ifT (x:=((decide (e1.To=b))||((decide (e1.cD=b))&&(decide (e1.To=a))))) (y:=((decide (e1.cD=b))&&(decide (e1.To=a)))) c1)))] _ _ hk
    rcases tf (decide (e1.cD=b))with c3|c3
    ·exact qS [(2,hix (ix iM (bf hx1))),(7,hto (bE c1)),(10,hix (ix iM (bf hx1))),(16,hto (bE c2)),(19,hix (ix iM (bf hx1))),(24,hto (bE c3)),(27,hix (ix iM (bf hx1))),(33,hto (((pE (q:=decide (e1.To=a)) c3).trans (orF (q:=((decide (e1.cD=b))&&(decide (e1.To=a)))) c2)).trans (ifT (x:=((decide (e1.To=b))||((decide (e1.cD=b))&&(decide (e1.To=a))))) (y:=((decide (e1.cD=b))&&(decide (e1.To=a)))) c1)))] _ _ hk
    exact qS [(2,hix (ix iM (bf hx1))),(7,hto (bE c1)),(10,hix (ix iM (bf hx1))),(16,hto (bE c2)),(19,hix (ix iM (bf hx1))),(24,hto (bE c3)),(33,hto (((qn (q:=decide (e1.To=a)) c3).trans (orF (q:=((decide (e1.cD=b))&&(decide (e1.To=a)))) c2)).trans (ifT (x:=((decide (e1.To=b))||((decide (e1.cD=b))&&(decide (e1.To=a))))) (y:=((decide (e1.cD=b))&&(decide (e1.To=a)))) c1)))] _ _ hk
   rcases tf (decide (e1.cD=b))with c4|c4
   ·exact qS [(2,hix (ix iM (bf hx1))),(7,hto (bE c1)),(19,hix (ix iM (bf hx1))),(24,hto (bE c4)),(27,hix (ix iM (bf hx1))),(33,hto ((pE (q:=decide (e1.To=a)) c4).trans (ifF (x:=((decide (e1.To=b))||((decide (e1.cD=b))&&(decide (e1.To=a))))) (y:=((decide (e1.cD=b))&&(decide (e1.To=a)))) c1)))] _ _ hk
   exact qS [(2,hix (ix iM (bf hx1))),(7,hto (bE c1)),(19,hix (ix iM (bf hx1))),(24,hto (bE c4)),(33,hto ((qn (q:=decide (e1.To=a)) c4).trans (ifF (x:=((decide (e1.To=b))||((decide (e1.cD=b))&&(decide (e1.To=a))))) (y:=((decide (e1.cD=b))&&(decide (e1.To=a)))) c1)))] _ _ hk
  rcases aq hm with⟨c5,hm⟩|⟨c5,hm⟩
  ·refine qT c5<|qS [] [(6,.bool true)] [] ?_
   cases hm
   exact A.ret qE
  exact qF c5<|A.skip<|qGs [(1,hto (inc hx1 hb1))] [7,47] [(7,i6 ((j1+1:Nat):Int))]<|qX () hm
 rintro j1 ⟨⟩ hj1 hl1 hm
 rw[hK1]at hm
 refine A.seq<|qDs [(2,hto (lnE iM l))] [] [(11,.bool (decide ((j1:Int)<(l.length:Int))))] ?_
 refine qF (ltF hl1)<|A.exit<|qS [] [(6,.bool false)] [] ?_
 cases hm
 exact A.ret qE
theorem yY{f:gR}{r:aA}(hm:mz t f=some r):RO prog 28 [] [.agg (k2 t),.agg (k4 f)] (.agg (k2 r)):=by
 refine aZ func28 rfl rfl ?_
 unfold mz at hm
 refine qS [(0,.al 28002),(1,.al 28003),(2,.al 28004)] [(2,.ptr 28002 0),(3,.ptr 28003 0),(4,.ptr 28004 0)] [(28002,.cells 45 (k2 t)),(28003,.cells 60 (k4 f)),(28004,.cells 45 [.aI,.aI])]<|A.seq ?_
 obtain⟨af,h1,hm⟩:=aa hm
 refine qDs [(1,hro (iz h1) aaQ)] [] [(11,.bool (!decide (af=0)))] ?_
 rcases aq hm with⟨c1,hm⟩|⟨c1,hm⟩
 ·refine qT c1<|qD [] [2,3,11] [] [28002,28003] [] ?_
  cases hm
  exact A.ret qE
 refine qF c1<|A.skip<|qD [(0,.al 28005)] [11] [(5,.ptr 28005 0)] [] [(28005,.cells 45 [.aI,.aI])]<|A.seq<|qDs [] [] [(6,i6 0)]<|A.block<|A.bC 2 0 rfl rfl rfl λhb1=>?_
 obtain⟨B1,K1,hB1,hK1,hm⟩:=bu hm
 refine A.lpI (l:=t.aH) (j0:=0) (B:=B1) (K:=K1) hm (λj1=>λm_1=>[(2,.ptr 28002 0),(3,.ptr 28003 0),(4,.ptr 28004 0),(5,.ptr 28005 0),(6,i6 (j1:Int))]) (λj1=>λm_1=>[(28002,.cells 45 (k2 t)),(28003,.cells 60 (k4 f)),(28004,.cells 45 [.aI,.aI]),(28005,.cells 45 [.own 702800500,.aI]),(702800500,.slice 93 2 (ml aU m_1) 0 false)]) ?_ ?_ ?_
 ·exact bz.go [.ac 28005 702800500 93 2 0] [] (by kernel_rfl)
 ·rintro j1 e1 Z1 m_1 hj1 hx1 hm
  rw[hB1]at hm
  refine A.seq<|qDs [(3,hto (lnE aU t.aH))] [] [(17,.bool (decide ((j1:Int)<(t.aH.length:Int))))] ?_
  refine qT (ltT hx1)<|A.skip ?_
  obtain⟨J1,hJ1,hm⟩:=bI hm
  refine A.J (J:=J1) (r:=r) (λm_2=>[(2,.ptr 28002 0),(3,.ptr 28003 0),(4,.ptr 28004 0),(5,.ptr 28005 0),(6,i6 (j1:Int))]) (λm_2=>[(28002,.cells 45 (k2 t)),(28003,.cells 60 (k4 f)),(28004,.cells 45 [.aI,.aI]),(28005,.cells 45 [.own 702800500,.aI]),(702800500,.slice 93 2 (ml aU m_2) 0 false)]) ?_ ?_
  ·refine A.block ?_
   obtain⟨aD,h2,hm⟩:=aa hm
   refine qDs [(5,hix (ix aU (bf hx1))),(8,hro (lF h2) ace)] [17] [(29,.bool (!aD))] ?_
   rcases aq hm with⟨c2,hm⟩|⟨c2,hm⟩
   ·refine qT c2 ?_
    obtain⟨l_1,h3,hm⟩:=aa hm
    exact qG [(5,hix (ix aU (bf hx1))),(8,hap 28538 (ap aU (bytes:=16) (by decide) h3))] [29] [] [28005,702800500] [(28005,.cells 45 [.own 28538,.aI]),(28538,.slice 93 2 (ml aU l_1) 0 false)]<|Exists.intro l_1 (And.intro hm (bz.go [.sw 28538 702800500] [] (by kernel_rfl)))
   exact qF c2<|A.skip<|qX m_1 hm
  rintro m_2 hm
  rw[hJ1]at hm
  exact qGs [(1,hto (inc hx1 hb1))] [6] [(6,i6 ((j1+1:Nat):Int))]<|qX m_2 hm
 rintro j1 m_1 hj1 hl1 hm
 rw[hK1]at hm
 refine A.seq<|qDs [(3,hto (lnE aU t.aH))] [] [(17,.bool (decide ((j1:Int)<(t.aH.length:Int))))] ?_
 refine qF (ltF hl1)<|A.exit<|A.seq<|qDs [] [6,17] [(7,i6 0)]<|A.block<|A.bC 2 1 rfl rfl rfl λhb2=>?_
 obtain⟨B2,K2,hB2,hK2,hm⟩:=bu hm
 refine A.lpI (l:=t.Links) (j0:=0) (B:=B2) (K:=K2) hm (λj2=>λm_3=>[(2,.ptr 28002 0),(3,.ptr 28003 0),(4,.ptr 28004 0),(5,.ptr 28005 0),(7,i6 (j2:Int))]) (λj2=>λm_3=>[(28002,.cells 45 (k2 t)),(28003,.cells 60 (k4 f)),(28004,.cells 45 [.aI,.aI]),(28005,.cells 45 [.own 702800500,.own 702800501]),(702800500,.slice 93 2 (ml aU m_1) 0 false),(702800501,.slice 86 5 (ml az m_3) 0 false)]) ?_ ?_ ?_
 ·exact bz.go [.ac 28005 702800501 86 5 1] [] (by kernel_rfl)
 ·rintro j2 e2 Z2 m_3 hj2 hx2 hm
  rw[hB2]at hm
  refine A.seq<|qDs [(3,hto (lnE az t.Links))] [] [(44,.bool (decide ((j2:Int)<(t.Links.length:Int))))] ?_
  refine qT (ltT hx2)<|A.skip ?_
  obtain⟨J2,hJ2,hm⟩:=bI hm
  refine A.J (J:=J2) (r:=r) (λm_4=>[(2,.ptr 28002 0),(3,.ptr 28003 0),(4,.ptr 28004 0),(5,.ptr 28005 0),(7,i6 (j2:Int))]) (λm_4=>[(28002,.cells 45 (k2 t)),(28003,.cells 60 (k4 f)),(28004,.cells 45 [.aI,.aI]),(28005,.cells 45 [.own 702800500,.own 702800501]),(702800500,.slice 93 2 (ml aU m_1) 0 false),(702800501,.slice 86 5 (ml az m_4) 0 false)]) ?_ ?_
  ·refine A.block<|qD [(3,hix (ix az (bf hx2))),(5,.al 28008)] [44] [(8,.ptr 28008 0)] [] [(28008,.cells 86 (k1 e2))] ?_
   obtain⟨J3,hJ3,hm⟩:=bI hm
   refine A.J (J:=J3) (r:=r) (λv_1=>[(2,.ptr 28002 0),(3,.ptr 28003 0),(4,.ptr 28004 0),(5,.ptr 28005 0),(7,i6 (j2:Int)),(8,.ptr 28008 0),(75,.bool v_1)]) (λv_1=>[(28002,.cells 45 (k2 t)),(28003,.cells 60 (k4 f)),(28004,.cells 45 [.aI,.aI]),(28005,.cells 45 [.own 702800500,.own 702800501]),(702800500,.slice 93 2 (ml aU m_1) 0 false),(702800501,.slice 86 5 (ml az m_3) 0 false),(28008,.cells 86 (k1 e2))]) ?_ ?_
   ·obtain⟨aP,h4,hm⟩:=aa hm
    rcases aq hm with⟨c3,hm⟩|⟨c3,hm⟩
    ·obtain⟨bt,h5,hm⟩:=aa hm
     rcases aq hm with⟨c4,hm⟩|⟨c4,hm⟩
     ·obtain⟨bF,h6,hm⟩:=aa hm
      exact qGs [(4,hro (lF h4) ace),(6,hto (bE c3)),(11,hro (lF h5) ace),(14,hto (bE c4)),(21,hro (aaU h6) ck83)] [] [(75,.bool (!bF))]<|qX (!bF) hm
     exact qGs [(4,hro (lF h4) ace),(6,hto (bE c3)),(11,hro (lF h5) ace),(14,hto (bE c4))] [] [(75,.bool false)]<|qX false hm
    exact qGs [(4,hro (lF h4) ace),(6,hto (bE c3))] [] [(75,.bool false)]<|qX false hm
   rintro v_1 hm
   rw[hJ3]at hm
   rcases aq hm with⟨c5,hm⟩|⟨c5,hm⟩
   ·refine qT c5 ?_
    obtain⟨l_2,h7,hm⟩:=aa hm
    exact qG [(4,hap 28580 (ap az (bytes:=40) (by decide) h7))] [8,75] [] [28005,702800501,28008] [(28005,.cells 45 [.own 702800500,.own 28580]),(28580,.slice 86 5 (ml az l_2) 0 false)]<|Exists.intro l_2 (And.intro hm (bz.go [.sw 28580 702800501] [] (by kernel_rfl)))
   exact qF c5<|A.skip<|qX m_3 hm
  rintro m_4 hm
  rw[hJ2]at hm
  exact qGs [(1,hto (inc hx2 hb2))] [7] [(7,i6 ((j2+1:Nat):Int))]<|qX m_4 hm
 rintro j2 m_3 hj2 hl2 hm
 rw[hK2]at hm
 refine A.seq<|qDs [(3,hto (lnE az t.Links))] [] [(44,.bool (decide ((j2:Int)<(t.Links.length:Int))))] ?_
 refine qF (ltF hl2)<|A.exit<|qD [] [2,3,5,7,44] [] [28002,28003,28004,28005] [(28004,.cells 45 [.own 702800500,.own 702800501])]<|A.ret ?_
 obtain rfl:=some_inj hm
 exact A.fin W0 [.fz [702800500,702800501]] rfl (by kernel_rfl)
theorem vW{a:aA}{b:aA}(hm:pI a b=some r):RO prog 27 [] [.agg (k2 a),.agg (k2 b)] (.bool r):=by
 refine aZ func27 rfl rfl ?_
 unfold pI at hm
 refine qS [(0,.al 27002),(1,.al 27003)] [(2,.ptr 27002 0),(3,.ptr 27003 0)] [(27002,.cells 45 (k2 a)),(27003,.cells 45 (k2 b))]<|A.seq<|A.mid [(2,.ptr 27002 0),(3,.ptr 27003 0),(22,.bool ((!decide ((a.aH.length:Int)=(b.aH.length:Int)))||(!decide ((a.Links.length:Int)=(b.Links.length:Int)))))] [(27002,.cells 45 (k2 a)),(27003,.cells 45 (k2 b))] (λhk=>?_) ?_
 ·rcases tf (!decide ((a.aH.length:Int)=(b.aH.length:Int)))with c1|c1
  ·exact qS [(2,hto (lnE aU a.aH)),(5,hto (lnE aU b.aH)),(7,hto (bE c1)),(15,hto (orT (q:=!decide ((a.Links.length:Int)=(b.Links.length:Int))) c1))] _ _ hk
  exact qS [(2,hto (lnE aU a.aH)),(5,hto (lnE aU b.aH)),(7,hto (bE c1)),(10,hto (lnE az a.Links)),(13,hto (lnE az b.Links)),(15,hto (orF (q:=!decide ((a.Links.length:Int)=(b.Links.length:Int))) c1))] _ _ hk
 rcases aq hm with⟨c2,hm⟩|⟨c2,hm⟩
 ·refine qT c2<|qS [] [(4,.bool false)] [] ?_
  cases hm
  exact A.ret qE
 refine qF c2<|A.skip<|A.seq<|qDs [] [22] [(5,i6 0)]<|A.block<|A.bC 2 0 rfl rfl rfl λhb1=>?_
 obtain⟨B1,K1,hB1,hK1,hm⟩:=bu hm
 refine A.lpI (l:=a.aH) (j0:=0) (B:=B1) (K:=K1) hm (λj1=>λ()=>[(2,.ptr 27002 0),(3,.ptr 27003 0),(5,i6 (j1:Int))]) (λj1=>λ()=>[(27002,.cells 45 (k2 a)),(27003,.cells 45 (k2 b))]) ?_ ?_ ?_
 ·exact qW
 ·rintro j1 e1 Z1 ⟨⟩ hj1 hx1 hm
  rw[hB1]at hm
  refine A.seq<|qDs [(3,hto (lnE aU a.aH))] [] [(27,.bool (decide ((j1:Int)<(a.aH.length:Int))))] ?_
  refine qT (ltT hx1)<|A.skip<|A.seq<|A.block ?_
  obtain⟨e_1,h1,hm⟩:=aa hm
  refine qDs [(3,hix (ix aU (bf hx1))),(8,hix (ix aU h1)),(10,.sq true 93 (.agg (k0 e1)) (.agg (k0 e_1)) (!(tO e1 e_1)) (λx y w=>ah1 x y _ _ _ _ w))] [27] [(40,.bool (!(tO e1 e_1)))] ?_
  rcases aq hm with⟨c3,hm⟩|⟨c3,hm⟩
  ·refine qT c3<|qS [] [(4,.bool false)] [] ?_
   cases hm
   exact A.ret qE
  exact qF c3<|A.skip<|qGs [(1,hto (inc hx1 hb1))] [5,40] [(5,i6 ((j1+1:Nat):Int))]<|qX () hm
 rintro j1 ⟨⟩ hj1 hl1 hm
 rw[hK1]at hm
 refine A.seq<|qDs [(3,hto (lnE aU a.aH))] [] [(27,.bool (decide ((j1:Int)<(a.aH.length:Int))))] ?_
 refine qF (ltF hl1)<|A.exit<|A.seq<|qDs [] [5,27] [(6,i6 0)]<|A.block<|A.bC 2 1 rfl rfl rfl λhb2=>?_
 obtain⟨B2,K2,hB2,hK2,hm⟩:=bu hm
 refine A.lpI (l:=a.Links) (j0:=0) (B:=B2) (K:=K2) hm (λj2=>λ()=>[(2,.ptr 27002 0),(3,.ptr 27003 0),(6,i6 (j2:Int))]) (λj2=>λ()=>[(27002,.cells 45 (k2 a)),(27003,.cells 45 (k2 b))]) ?_ ?_ ?_
 ·exact qW
 ·rintro j2 e2 Z2 ⟨⟩ hj2 hx2 hm
  rw[hB2]at hm
  refine A.seq<|qDs [(3,hto (lnE az a.Links))] [] [(45,.bool (decide ((j2:Int)<(a.Links.length:Int))))] ?_
  refine qT (ltT hx2)<|A.skip<|A.seq<|A.block ?_
  obtain⟨e_2,h2,hm⟩:=aa hm
  refine qDs [(3,hix (ix az (bf hx2))),(8,hix (ix az h2)),(10,.sq true 86 (.agg (k1 e2)) (.agg (k1 e_2)) (!(wM e2 e_2)) (λx y w=>ah0 x y _ _ _ _ _ _ _ _ _ _ w))] [45] [(58,.bool (!(wM e2 e_2)))] ?_
  rcases aq hm with⟨c4,hm⟩|⟨c4,hm⟩
  ·refine qT c4<|qS [] [(4,.bool false)] [] ?_
   cases hm
   exact A.ret qE
  exact qF c4<|A.skip<|qGs [(1,hto (inc hx2 hb2))] [6,58] [(6,i6 ((j2+1:Nat):Int))]<|qX () hm
 rintro j2 ⟨⟩ hj2 hl2 hm
 rw[hK2]at hm
 refine A.seq<|qDs [(3,hto (lnE az a.Links))] [] [(45,.bool (decide ((j2:Int)<(a.Links.length:Int))))] ?_
 refine qF (ltF hl2)<|A.exit<|qS [] [(4,.bool true)] [] ?_
 cases hm
 exact A.ret qE
end Go.Proofs.YtjdopimopgpagaaGreat
