/- The eD of cw of the program. No condition but bK bu stand in each. -/
import Derived.Test.YtjdopimopgpagaaGreatV0
import Derived.Test.YtjdopimopgpagaaGreatV1
namespace Go.Proofs.YtjdopimopgpagaaGreat
open Go Go.Proofs.Tryz
set_option maxRecDepth 100000
set_option linter.all false
variable {r:Bool}{ra1:Int}{t:az}
theorem lD(hm:mQ t ra1=some r):RO prog 82 [] [.agg (k2 t),i6 ra1] (.bool r):=by
 refine aY func82 rfl rfl ?_
 unfold mQ at hm
 refine qS [(0,.al 82002)] [(1,i6 ra1),(2,.ptr 82002 0)] [(82002,.cells 45 (k2 t))] ?_
 obtain⟨ah,h1,hm⟩:=aa hm
 rcases aq hm with⟨c1,hm⟩|⟨c1,hm⟩
 ·obtain⟨aD,h2,hm⟩:=aa hm
  refine qS [(1,hro (gC h1) yQ),(3,hto (bE c1)),(6,hro (qa h2) ady)] [(4,.bool aD)] [] ?_
  cases hm
  exact A.ret qE
 refine qS [(1,hro (gC h1) yQ),(3,hto (bE c1))] [(4,.bool false)] [] ?_
 cases hm
 exact A.ret qE
theorem yS(hm:iV t ra1=some r):RO prog 166 [] [.agg (k2 t),i6 ra1] (.bool r):=by
 refine aY func166 rfl rfl ?_
 unfold iV at hm
 refine qS [(0,.al 166002)] [(1,i6 ra1),(2,.ptr 166002 0)] [(166002,.cells 45 (k2 t))]<|A.seq ?_
 obtain⟨ah,h1,hm⟩:=aa hm
 refine qDs [(1,hro (gC h1) yQ)] [] [(8,.bool (!decide (ah=0)))] ?_
 rcases aq hm with⟨c1,hm⟩|⟨c1,hm⟩
 ·refine qT c1<|qS [] [(4,.bool false)] [] ?_
  cases hm
  exact A.ret qE
 refine qF c1<|A.skip<|A.seq<|qDs [] [8] [(5,i6 0)]<|A.block<|A.bC 2 0 rfl rfl rfl λhb1=>?_
 obtain⟨B1,K1,hB1,hK1,hm⟩:=bw hm
 refine A.lpI (l:=t.aG) (j0:=0) (B:=B1) (K:=K1) hm (λj1=>λ()=>[(1,i6 ra1),(2,.ptr 166002 0),(5,i6 (j1:Int))]) (λj1=>λ()=>[(166002,.cells 45 (k2 t))]) ?_ ?_ ?_
 ·exact qW
 ·rintro j1 e1 Z1 ⟨⟩ hj1 hx1 hm
  rw[hB1]at hm
  refine A.seq<|qDs [(3,hto (lnE aP t.aG))] [] [(13,.bool (decide ((j1:Int)<(t.aG.length:Int))))] ?_
  refine qT (ltT hx1)<|A.skip<|A.seq<|A.block<|qDs [(3,hix (ix aP (aV hx1)))] [13] [(23,.bool (decide (e1.ID=ra1)))] ?_
  rcases aq hm with⟨c2,hm⟩|⟨c2,hm⟩
  ·refine qT c2<|qS [(3,hix (ix aP (aV hx1)))] [(4,.bool e1.aW)] [] ?_
   cases hm
   exact A.ret qE
  exact qF c2<|A.skip<|qGs [(1,hto (inc hx1 hb1))] [5,23] [(5,i6 ((j1+1:Nat):Int))]<|qX () hm
 rintro j1 ⟨⟩ hj1 hl1 hm
 rw[hK1]at hm
 refine A.seq<|qDs [(3,hto (lnE aP t.aG))] [] [(13,.bool (decide ((j1:Int)<(t.aG.length:Int))))] ?_
 refine qF (ltF hl1)<|A.exit<|qS [] [(4,.bool false)] [] ?_
 cases hm
 exact A.ret qE
theorem wj{r:(List Int)}(hm:nC t ra1=some r):RO prog 80 [] [.agg (k2 t),i6 ra1] (lf bg r):=by
 refine aY func80 rfl rfl ?_
 unfold nC at hm
 refine qS [(0,.al 80002)] [(1,i6 ra1),(2,.ptr 80002 0)] [(80002,.cells 45 (k2 t))]<|qDs [] [] [(5,.aI)]<|A.seq<|qDs [] [] [(6,i6 0)]<|A.block<|A.bC 2 0 rfl rfl rfl λhb1=>?_
 obtain⟨B1,K1,hB1,hK1,hm⟩:=bw hm
 refine A.lpI (l:=t.aG) (j0:=0) (B:=B1) (K:=K1) hm (λj1=>λcg=>[(1,i6 ra1),(2,.ptr 80002 0),(5,.own 600080005),(6,i6 (j1:Int))]) (λj1=>λcg=>[(80002,.cells 45 (k2 t)),(600080005,.slice 3 1 (ml bg cg) 0 false)]) ?_ ?_ ?_
 ·exact bA.go [.ad 5 600080005 3 1] [] (by kernel_rfl)
 ·rintro j1 e1 Z1 cg hj1 hx1 hm
  rw[hB1]at hm
  refine A.seq<|qDs [(3,hto (lnE aP t.aG))] [] [(13,.bool (decide ((j1:Int)<(t.aG.length:Int))))] ?_
  refine qT (ltT hx1)<|A.skip ?_
  obtain⟨J1,hJ1,hm⟩:=bN hm
  refine A.J (J:=J1) (r:=r) (λeO=>[(1,i6 ra1),(2,.ptr 80002 0),(5,.own 600080005),(6,i6 (j1:Int))]) (λeO=>[(80002,.cells 45 (k2 t)),(600080005,.slice 3 1 (ml bg eO) 0 false)]) ?_ ?_
  ·refine A.block ?_
   obtain⟨ah,h1,hm⟩:=aa hm
   refine qDs [(5,hix (ix aP (aV hx1))),(8,hro (vr h1) aj4)] [13] [(8,.bool ah.2)]<|qDs [] [8] [(28,.bool ah.2)] ?_
   rcases aq hm with⟨c1,hm⟩|⟨c1,hm⟩
   ·refine qT c1 ?_
    obtain⟨l_1,h2,hm⟩:=aa hm
    exact qG [(4,hix (ix aP (aV hx1))),(8,hap 80537 (ap bg (bytes:=8) (by decide) h2))] [5,28] [(5,.own 80537)] [600080005] [(80537,.slice 3 1 (ml bg l_1) 0 false)]<|Exists.intro l_1 (And.intro hm (bA.go [.sw 80537 600080005] [] (by kernel_rfl)))
   exact qF c1<|A.skip<|qX cg hm
  rintro eO hm
  rw[hJ1]at hm
  exact qGs [(1,hto (inc hx1 hb1))] [6] [(6,i6 ((j1+1:Nat):Int))]<|qX eO hm
 rintro j1 cg hj1 hl1 hm
 rw[hK1]at hm
 refine A.seq<|qDs [(3,hto (lnE aP t.aG))] [] [(13,.bool (decide ((j1:Int)<(t.aG.length:Int))))] ?_
 refine qF (ltF hl1)<|A.exit<|qD [] [1,2,5,6,13] [(4,.own 600080005)] [80002] []<|A.ret ?_
 obtain rfl:=some_inj hm
 exact A.fin W0 [.fz [600080005]] rfl (by kernel_rfl)
variable {a b:Int}
theorem aaS{l:List pz}(hm:oz l a b=some r):RO prog 83 [] [lf jS l,i6 a,i6 b] (.bool r):=by
 refine aY func83 rfl rfl ?_
 unfold oz at hm
 refine qS [] [(0,lf jS l),(1,i6 a),(2,i6 b)] []<|A.seq<|qDs [] [] [(7,i6 0)]<|A.block<|A.bS 0 rfl λhb1=>?_
 obtain⟨B1,K1,hB1,hK1,hm⟩:=bw hm
 refine A.lpI (l:=l) (j0:=0) (B:=B1) (K:=K1) hm (λj1=>λ()=>[(0,lf jS l),(1,i6 a),(2,i6 b),(7,i6 (j1:Int))]) (λj1=>λ()=>[]) ?_ ?_ ?_
 ·exact qW
 ·rintro j1 e1 Z1 ⟨⟩ hj1 hx1 hm
  rw[hB1]at hm
  refine A.seq<|qDs [(2,hto (lnE jS l))] [] [(11,.bool (decide ((j1:Int)<(l.length:Int))))] ?_
  refine qT (ltT hx1)<|A.skip<|A.seq<|A.block<|A.mid [(0,lf jS l),(1,i6 a),(2,i6 b),(7,i6 (j1:Int)),(47,.bool (bif decide (e1.cQ=a)then((decide (e1.To=b))||((decide (e1.cQ=b))&&(decide (e1.To=a))))else((decide (e1.cQ=b))&&(decide (e1.To=a)))))] [] (λhk=>?_) ?_
  ·rcases tf (decide (e1.cQ=a))with c1|c1
   ·rcases tf (decide (e1.To=b))with c2|c2
    ·exact qS [(2,hix (ix jS (aV hx1))),(7,hto (bE c1)),(10,hix (ix jS (aV hx1))),(16,hto (bE c2)),(33,hto ((orT (q:=((decide (e1.cQ=b))&&(decide (e1.To=a)))) c2).trans (ifT (x:=((decide (e1.To=b))||((decide (e1.cQ=b))&&(decide (e1.To=a))))) (y:=((decide (e1.cQ=b))&&(decide (e1.To=a)))) c1)))] _ _ hk
    rcases tf (decide (e1.cQ=b))with c3|c3
    ·exact qS [(2,hix (ix jS (aV hx1))),(7,hto (bE c1)),(10,hix (ix jS (aV hx1))),(16,hto (bE c2)),(19,hix (ix jS (aV hx1))),(24,hto (bE c3)),(27,hix (ix jS (aV hx1))),(33,hto (((qs (q:=decide (e1.To=a)) c3).trans (orF (q:=((decide (e1.cQ=b))&&(decide (e1.To=a)))) c2)).trans (ifT (x:=((decide (e1.To=b))||((decide (e1.cQ=b))&&(decide (e1.To=a))))) (y:=((decide (e1.cQ=b))&&(decide (e1.To=a)))) c1)))] _ _ hk
    exact qS [(2,hix (ix jS (aV hx1))),(7,hto (bE c1)),(10,hix (ix jS (aV hx1))),(16,hto (bE c2)),(19,hix (ix jS (aV hx1))),(24,hto (bE c3)),(33,hto (((rE (q:=decide (e1.To=a)) c3).trans (orF (q:=((decide (e1.cQ=b))&&(decide (e1.To=a)))) c2)).trans (ifT (x:=((decide (e1.To=b))||((decide (e1.cQ=b))&&(decide (e1.To=a))))) (y:=((decide (e1.cQ=b))&&(decide (e1.To=a)))) c1)))] _ _ hk
   rcases tf (decide (e1.cQ=b))with c4|c4
   ·exact qS [(2,hix (ix jS (aV hx1))),(7,hto (bE c1)),(19,hix (ix jS (aV hx1))),(24,hto (bE c4)),(27,hix (ix jS (aV hx1))),(33,hto ((qs (q:=decide (e1.To=a)) c4).trans (ifF (x:=((decide (e1.To=b))||((decide (e1.cQ=b))&&(decide (e1.To=a))))) (y:=((decide (e1.cQ=b))&&(decide (e1.To=a)))) c1)))] _ _ hk
   exact qS [(2,hix (ix jS (aV hx1))),(7,hto (bE c1)),(19,hix (ix jS (aV hx1))),(24,hto (bE c4)),(33,hto ((rE (q:=decide (e1.To=a)) c4).trans (ifF (x:=((decide (e1.To=b))||((decide (e1.cQ=b))&&(decide (e1.To=a))))) (y:=((decide (e1.cQ=b))&&(decide (e1.To=a)))) c1)))] _ _ hk
  rcases aq hm with⟨c5,hm⟩|⟨c5,hm⟩
  ·refine qT c5<|qS [] [(6,.bool true)] [] ?_
   cases hm
   exact A.ret qE
  exact qF c5<|A.skip<|qGs [(1,hto (inc hx1 hb1))] [7,47] [(7,i6 ((j1+1:Nat):Int))]<|qX () hm
 rintro j1 ⟨⟩ hj1 hl1 hm
 rw[hK1]at hm
 refine A.seq<|qDs [(2,hto (lnE jS l))] [] [(11,.bool (decide ((j1:Int)<(l.length:Int))))] ?_
 refine qF (ltF hl1)<|A.exit<|qS [] [(6,.bool false)] [] ?_
 cases hm
 exact A.ret qE
theorem yT{f:fk}{r:az}(hm:kH t f=some r):RO prog 28 [] [.agg (k2 t),.agg (k4 f)] (.agg (k2 r)):=by
 refine aY func28 rfl rfl ?_
 unfold kH at hm
 refine qS [(0,.al 28002),(1,.al 28003),(2,.al 28004)] [(2,.ptr 28002 0),(3,.ptr 28003 0),(4,.ptr 28004 0)] [(28002,.cells 45 (k2 t)),(28003,.cells 60 (k4 f)),(28004,.cells 45 [.aI,.aI])]<|A.seq ?_
 obtain⟨ah,h1,hm⟩:=aa hm
 refine qDs [(1,hro (gC h1) yQ)] [] [(11,.bool (!decide (ah=0)))] ?_
 rcases aq hm with⟨c1,hm⟩|⟨c1,hm⟩
 ·refine qT c1<|qD [] [2,3,11] [] [28002,28003] [] ?_
  cases hm
  exact A.ret qE
 refine qF c1<|A.skip<|qD [(0,.al 28005)] [11] [(5,.ptr 28005 0)] [] [(28005,.cells 45 [.aI,.aI])]<|A.seq<|qDs [] [] [(6,i6 0)]<|A.block<|A.bC 2 0 rfl rfl rfl λhb1=>?_
 obtain⟨B1,K1,hB1,hK1,hm⟩:=bw hm
 refine A.lpI (l:=t.aG) (j0:=0) (B:=B1) (K:=K1) hm (λj1=>λm_1=>[(2,.ptr 28002 0),(3,.ptr 28003 0),(4,.ptr 28004 0),(5,.ptr 28005 0),(6,i6 (j1:Int))]) (λj1=>λm_1=>[(28002,.cells 45 (k2 t)),(28003,.cells 60 (k4 f)),(28004,.cells 45 [.aI,.aI]),(28005,.cells 45 [.own 702800500,.aI]),(702800500,.slice 93 2 (ml aP m_1) 0 false)]) ?_ ?_ ?_
 ·exact bA.go [.ac 28005 702800500 93 2 0] [] (by kernel_rfl)
 ·rintro j1 e1 Z1 m_1 hj1 hx1 hm
  rw[hB1]at hm
  refine A.seq<|qDs [(3,hto (lnE aP t.aG))] [] [(17,.bool (decide ((j1:Int)<(t.aG.length:Int))))] ?_
  refine qT (ltT hx1)<|A.skip ?_
  obtain⟨J1,hJ1,hm⟩:=bN hm
  refine A.J (J:=J1) (r:=r) (λm_2=>[(2,.ptr 28002 0),(3,.ptr 28003 0),(4,.ptr 28004 0),(5,.ptr 28005 0),(6,i6 (j1:Int))]) (λm_2=>[(28002,.cells 45 (k2 t)),(28003,.cells 60 (k4 f)),(28004,.cells 45 [.aI,.aI]),(28005,.cells 45 [.own 702800500,.aI]),(702800500,.slice 93 2 (ml aP m_2) 0 false)]) ?_ ?_
  ·refine A.block ?_
   obtain⟨aD,h2,hm⟩:=aa hm
   refine qDs [(5,hix (ix aP (aV hx1))),(8,hro (fU h2) wN)] [17] [(29,.bool (!aD))] ?_
   rcases aq hm with⟨c2,hm⟩|⟨c2,hm⟩
   ·refine qT c2 ?_
    obtain⟨l_1,h3,hm⟩:=aa hm
    exact qG [(5,hix (ix aP (aV hx1))),(8,hap 28538 (ap aP (bytes:=16) (by decide) h3))] [29] [] [28005,702800500] [(28005,.cells 45 [.own 28538,.aI]),(28538,.slice 93 2 (ml aP l_1) 0 false)]<|Exists.intro l_1 (And.intro hm (bA.go [.sw 28538 702800500] [] (by kernel_rfl)))
   exact qF c2<|A.skip<|qX m_1 hm
  rintro m_2 hm
  rw[hJ1]at hm
  exact qGs [(1,hto (inc hx1 hb1))] [6] [(6,i6 ((j1+1:Nat):Int))]<|qX m_2 hm
 rintro j1 m_1 hj1 hl1 hm
 rw[hK1]at hm
 refine A.seq<|qDs [(3,hto (lnE aP t.aG))] [] [(17,.bool (decide ((j1:Int)<(t.aG.length:Int))))] ?_
 refine qF (ltF hl1)<|A.exit<|A.seq<|qDs [] [6,17] [(7,i6 0)]<|A.block<|A.bC 2 1 rfl rfl rfl λhb2=>?_
 obtain⟨B2,K2,hB2,hK2,hm⟩:=bw hm
 refine A.lpI (l:=t.Links) (j0:=0) (B:=B2) (K:=K2) hm (λj2=>λm_3=>[(2,.ptr 28002 0),(3,.ptr 28003 0),(4,.ptr 28004 0),(5,.ptr 28005 0),(7,i6 (j2:Int))]) (λj2=>λm_3=>[(28002,.cells 45 (k2 t)),(28003,.cells 60 (k4 f)),(28004,.cells 45 [.aI,.aI]),(28005,.cells 45 [.own 702800500,.own 702800501]),(702800500,.slice 93 2 (ml aP m_1) 0 false),(702800501,.slice 86 5 (ml aC m_3) 0 false)]) ?_ ?_ ?_
 ·exact bA.go [.ac 28005 702800501 86 5 1] [] (by kernel_rfl)
 ·rintro j2 e2 Z2 m_3 hj2 hx2 hm
  rw[hB2]at hm
  refine A.seq<|qDs [(3,hto (lnE aC t.Links))] [] [(44,.bool (decide ((j2:Int)<(t.Links.length:Int))))] ?_
  refine qT (ltT hx2)<|A.skip ?_
  obtain⟨J2,hJ2,hm⟩:=bN hm
  refine A.J (J:=J2) (r:=r) (λm_4=>[(2,.ptr 28002 0),(3,.ptr 28003 0),(4,.ptr 28004 0),(5,.ptr 28005 0),(7,i6 (j2:Int))]) (λm_4=>[(28002,.cells 45 (k2 t)),(28003,.cells 60 (k4 f)),(28004,.cells 45 [.aI,.aI]),(28005,.cells 45 [.own 702800500,.own 702800501]),(702800500,.slice 93 2 (ml aP m_1) 0 false),(702800501,.slice 86 5 (ml aC m_4) 0 false)]) ?_ ?_
  ·refine A.block<|qD [(3,hix (ix aC (aV hx2))),(5,.al 28008)] [44] [(8,.ptr 28008 0)] [] [(28008,.cells 86 (k1 e2))] ?_
   obtain⟨J3,hJ3,hm⟩:=bN hm
   refine A.J (J:=J3) (r:=r) (λv_1=>[(2,.ptr 28002 0),(3,.ptr 28003 0),(4,.ptr 28004 0),(5,.ptr 28005 0),(7,i6 (j2:Int)),(8,.ptr 28008 0),(75,.bool v_1)]) (λv_1=>[(28002,.cells 45 (k2 t)),(28003,.cells 60 (k4 f)),(28004,.cells 45 [.aI,.aI]),(28005,.cells 45 [.own 702800500,.own 702800501]),(702800500,.slice 93 2 (ml aP m_1) 0 false),(702800501,.slice 86 5 (ml aC m_3) 0 false),(28008,.cells 86 (k1 e2))]) ?_ ?_
   ·obtain⟨aN,h4,hm⟩:=aa hm
    rcases aq hm with⟨c3,hm⟩|⟨c3,hm⟩
    ·obtain⟨bt,h5,hm⟩:=aa hm
     rcases aq hm with⟨c4,hm⟩|⟨c4,hm⟩
     ·obtain⟨bL,h6,hm⟩:=aa hm
      exact qGs [(4,hro (fU h4) wN),(6,hto (bE c3)),(11,hro (fU h5) wN),(14,hto (bE c4)),(21,hro (aaS h6) ck83)] [] [(75,.bool (!bL))]<|qX (!bL) hm
     exact qGs [(4,hro (fU h4) wN),(6,hto (bE c3)),(11,hro (fU h5) wN),(14,hto (bE c4))] [] [(75,.bool false)]<|qX false hm
    exact qGs [(4,hro (fU h4) wN),(6,hto (bE c3))] [] [(75,.bool false)]<|qX false hm
   rintro v_1 hm
   rw[hJ3]at hm
   rcases aq hm with⟨c5,hm⟩|⟨c5,hm⟩
   ·refine qT c5 ?_
    obtain⟨l_2,h7,hm⟩:=aa hm
    exact qG [(4,hap 28580 (ap aC (bytes:=40) (by decide) h7))] [8,75] [] [28005,702800501,28008] [(28005,.cells 45 [.own 702800500,.own 28580]),(28580,.slice 86 5 (ml aC l_2) 0 false)]<|Exists.intro l_2 (And.intro hm (bA.go [.sw 28580 702800501] [] (by kernel_rfl)))
   exact qF c5<|A.skip<|qX m_3 hm
  rintro m_4 hm
  rw[hJ2]at hm
  exact qGs [(1,hto (inc hx2 hb2))] [7] [(7,i6 ((j2+1:Nat):Int))]<|qX m_4 hm
 rintro j2 m_3 hj2 hl2 hm
 rw[hK2]at hm
 refine A.seq<|qDs [(3,hto (lnE aC t.Links))] [] [(44,.bool (decide ((j2:Int)<(t.Links.length:Int))))] ?_
 refine qF (ltF hl2)<|A.exit<|qD [] [2,3,5,7,44] [] [28002,28003,28004,28005] [(28004,.cells 45 [.own 702800500,.own 702800501])]<|A.ret ?_
 obtain rfl:=some_inj hm
 exact A.fin W0 [.fz [702800500,702800501]] rfl (by kernel_rfl)
theorem uL{r:(List Int)}(hm:jF t ra1=some r):RO prog 25 [] [.agg (k2 t),i6 ra1] (lf bg r):=by
 refine aY func25 rfl rfl ?_
 unfold jF at hm
 refine qS [(0,.al 25002)] [(1,i6 ra1),(2,.ptr 25002 0)] [(25002,.cells 45 (k2 t))]<|qD [(1,.al 25012)] [1] [(5,.own 25012)] [] [(25012,.slice 3 1 (ml bg ([ra1]:List Int)) 0 false)]<|A.seq<|qDs [] [] [(6,i6 0)]<|A.block ?_
 obtain⟨F1,n1,hF1,hm⟩:=gZ hm
 refine A.lpW (F:=F1) hm (λ(cg,i_1)=>[(2,.ptr 25002 0),(5,.own 600025005),(6,i6 i_1)]) (λ(cg,i_1)=>[(25002,.cells 45 (k2 t)),(600025005,.slice 3 1 (ml bg cg) 0 false)]) ?_ ?_
 ·exact bA.go [.sw 25012 600025005] [] (by kernel_rfl)
 rintro Z1 ⟨cg,i_1⟩ hm
 rw[hF1]at hm
 refine A.seq<|qDs [(2,hto (lnE bg cg))] [] [(16,.bool (decide (i_1<(cg.length:Int))))] ?_
 rcases aq hm with⟨c1,hm⟩|⟨c1,hm⟩
 ·refine qT c1<|A.skip<|A.seq<|A.block ?_
  obtain⟨e_1,h1,hm⟩:=aa hm
  obtain⟨ah,h2,hm⟩:=aa hm
  refine qDs [(3,hix (ix bg h1)),(4,hlo 600025005 0 (ix bg h1)),(5,hro (wj h2) apd)] [16] [(7,lf bg ah)]<|qDs [] [] [(8,i6 0)]<|A.block<|A.bS 7 rfl λhb2=>?_
  obtain⟨B2,K2,hB2,hK2,hm⟩:=bw hm
  refine A.lpI (l:=ah) (j0:=0) (B:=B2) (K:=K2) hm (λj2=>λeO=>[(2,.ptr 25002 0),(5,.own 600025005),(6,i6 i_1),(7,lf bg ah),(8,i6 (j2:Int))]) (λj2=>λeO=>[(25002,.cells 45 (k2 t)),(600025005,.slice 3 1 (ml bg eO) 0 false)]) ?_ ?_ ?_
  ·exact qW
  ·rintro j2 e2 Z2 eO hj2 hx2 hm
   rw[hB2]at hm
   refine A.seq<|qDs [(2,hto (lnE bg ah))] [] [(28,.bool (decide ((j2:Int)<(ah.length:Int))))] ?_
   refine qT (ltT hx2)<|A.skip ?_
   obtain⟨J1,hJ1,hm⟩:=bN hm
   refine A.J (J:=J1) (r:=r) (λzQ=>[(2,.ptr 25002 0),(5,.own 600025005),(6,i6 i_1),(7,lf bg ah),(8,i6 (j2:Int))]) (λzQ=>[(25002,.cells 45 (k2 t)),(600025005,.slice 3 1 (ml bg zQ) 0 false)]) ?_ ?_
   ·refine A.block ?_
    obtain⟨aD,h3,hm⟩:=aa hm
    refine qDs [(3,hix (ix bg (aV hx2))),(5,hle [600025005] (fU h3) wN)] [28] [(37,.bool (!aD))] ?_
    rcases aq hm with⟨c2,hm⟩|⟨c2,hm⟩
    ·refine qT c2 ?_
     obtain⟨l_1,h4,hm⟩:=aa hm
     exact qG [(3,hix (ix bg (aV hx2))),(6,hap 25544 (ap bg (bytes:=8) (by decide) h4))] [5,37] [(5,.own 25544)] [600025005] [(25544,.slice 3 1 (ml bg l_1) 0 false)]<|Exists.intro l_1 (And.intro hm (bA.go [.sw 25544 600025005] [] (by kernel_rfl)))
    exact qF c2<|A.skip<|qX eO hm
   rintro zQ hm
   rw[hJ1]at hm
   exact qGs [(1,hto (inc hx2 hb2))] [8] [(8,i6 ((j2+1:Nat):Int))]<|qX zQ hm
  rintro j2 eO hj2 hl2 hm
  rw[hK2]at hm
  refine A.seq<|qDs [(2,hto (lnE bg ah))] [] [(28,.bool (decide ((j2:Int)<(ah.length:Int))))] ?_
  exact qF (ltF hl2)<|A.exit<|qGs [] [6,7,8,28] [(6,i6 (w64 (i_1+1)))]<|qX (eO,w64 (i_1+1)) hm
 refine qF c1<|A.exit<|qD [] [2,6,16] [(9,.aI)] [25002] []<|A.seq<|qDs [] [] [(10,i6 0)]<|A.block<|A.bW 5 rfl rfl λhb3=>?_
 obtain⟨B3,K3,hB3,hK3,hm⟩:=bw hm
 refine A.lpI (l:=cg) (j0:=0) (B:=B3) (K:=K3) hm (λj3=>λl_2=>[(5,.own 600025005),(9,lf bg l_2),(10,i6 (j3:Int))]) (λj3=>λl_2=>[(600025005,.slice 3 1 (ml bg cg) 0 false)]) ?_ ?_ ?_
 ·exact bA.go [] [9] (by kernel_rfl)
 ·rintro j3 e3 Z3 l_2 hj3 hx3 hm
  rw[hB3]at hm
  refine A.seq<|qDs [(2,hto (lnE bg cg))] [] [(48,.bool (decide ((j3:Int)<(cg.length:Int))))] ?_
  refine qT (ltT hx3)<|A.skip<|A.seq<|A.block ?_
  obtain⟨aN,h5,hm⟩:=aa hm
  exact qGs [(3,hix (ix bg (aV hx3))),(4,hlo 600025005 0 (ix bg (aV hx3))),(5,hro (aaa h5) ck81)] [9,48] [(9,lf bg aN)]<|qGs [(1,hto (inc hx3 hb3))] [10] [(10,i6 ((j3+1:Nat):Int))]<|Exists.intro aN (And.intro hm (bA.go [] [9] (by kernel_rfl)))
 rintro j3 l_2 hj3 hl3 hm
 rw[hK3]at hm
 refine A.seq<|qDs [(2,hto (lnE bg cg))] [] [(48,.bool (decide ((j3:Int)<(cg.length:Int))))] ?_
 refine qF (ltF hl3)<|A.exit<|qS [] [(4,lf bg l_2)] [] ?_
 cases hm
 exact A.ret qE
theorem xQ(hm:ja t a b=some r):RO prog 26 [] [.agg (k2 t),i6 a,i6 b] (.bool r):=by
 refine aY func26 rfl rfl ?_
 unfold ja at hm
 refine qS [(0,.al 26003)] [(1,i6 a),(2,i6 b),(3,.ptr 26003 0)] [(26003,.cells 45 (k2 t))] ?_
 obtain⟨ah,h1,hm⟩:=aa hm
 rcases aq hm with⟨c1,hm⟩|⟨c1,hm⟩
 ·obtain⟨aD,h2,hm⟩:=aa hm
  rcases aq hm with⟨c2,hm⟩|⟨c2,hm⟩
  ·obtain⟨aN,h3,hm⟩:=aa hm
   obtain⟨bt,h4,hm⟩:=aa hm
   refine qS [(2,hro (lD h1) ace),(3,hto (bE c1)),(6,hro (lD h2) ace),(8,hto (bE c2)),(11,hro (uL h3) ao4),(13,hro (fU h4) wN)] [(6,.bool bt)] [] ?_
   cases hm
   exact A.ret qE
  refine qS [(2,hro (lD h1) ace),(3,hto (bE c1)),(6,hro (lD h2) ace),(8,hto (bE c2))] [(6,.bool false)] [] ?_
  cases hm
  exact A.ret qE
 refine qS [(2,hro (lD h1) ace),(3,hto (bE c1))] [(6,.bool false)] [] ?_
 cases hm
 exact A.ret qE
theorem aby{a:az}{b:az}(hm:nD a b=some r):RO prog 27 [] [.agg (k2 a),.agg (k2 b)] (.bool r):=by
 refine aY func27 rfl rfl ?_
 unfold nD at hm
 refine qS [(0,.al 27002),(1,.al 27003)] [(2,.ptr 27002 0),(3,.ptr 27003 0)] [(27002,.cells 45 (k2 a)),(27003,.cells 45 (k2 b))]<|A.seq<|A.mid [(2,.ptr 27002 0),(3,.ptr 27003 0),(22,.bool ((!decide ((a.aG.length:Int)=(b.aG.length:Int)))||(!decide ((a.Links.length:Int)=(b.Links.length:Int)))))] [(27002,.cells 45 (k2 a)),(27003,.cells 45 (k2 b))] (λhk=>?_) ?_
 ·rcases tf (!decide ((a.aG.length:Int)=(b.aG.length:Int)))with c1|c1
  ·exact qS [(2,hto (lnE aP a.aG)),(5,hto (lnE aP b.aG)),(7,hto (bE c1)),(15,hto (orT (q:=!decide ((a.Links.length:Int)=(b.Links.length:Int))) c1))] _ _ hk
  exact qS [(2,hto (lnE aP a.aG)),(5,hto (lnE aP b.aG)),(7,hto (bE c1)),(10,hto (lnE aC a.Links)),(13,hto (lnE aC b.Links)),(15,hto (orF (q:=!decide ((a.Links.length:Int)=(b.Links.length:Int))) c1))] _ _ hk
 rcases aq hm with⟨c2,hm⟩|⟨c2,hm⟩
 ·refine qT c2<|qS [] [(4,.bool false)] [] ?_
  cases hm
  exact A.ret qE
 refine qF c2<|A.skip<|A.seq<|qDs [] [22] [(5,i6 0)]<|A.block<|A.bC 2 0 rfl rfl rfl λhb1=>?_
 obtain⟨B1,K1,hB1,hK1,hm⟩:=bw hm
 refine A.lpI (l:=a.aG) (j0:=0) (B:=B1) (K:=K1) hm (λj1=>λ()=>[(2,.ptr 27002 0),(3,.ptr 27003 0),(5,i6 (j1:Int))]) (λj1=>λ()=>[(27002,.cells 45 (k2 a)),(27003,.cells 45 (k2 b))]) ?_ ?_ ?_
 ·exact qW
 ·rintro j1 e1 Z1 ⟨⟩ hj1 hx1 hm
  rw[hB1]at hm
  refine A.seq<|qDs [(3,hto (lnE aP a.aG))] [] [(27,.bool (decide ((j1:Int)<(a.aG.length:Int))))] ?_
  refine qT (ltT hx1)<|A.skip<|A.seq<|A.block ?_
  obtain⟨e_1,h1,hm⟩:=aa hm
  refine qDs [(3,hix (ix aP (aV hx1))),(8,hix (ix aP h1)),(10,.sq true 93 (.agg (k0 e1)) (.agg (k0 e_1)) (!(ua e1 e_1)) (λx y w=>ah7 x y _ _ _ _ w))] [27] [(40,.bool (!(ua e1 e_1)))] ?_
  rcases aq hm with⟨c3,hm⟩|⟨c3,hm⟩
  ·refine qT c3<|qS [] [(4,.bool false)] [] ?_
   cases hm
   exact A.ret qE
  exact qF c3<|A.skip<|qGs [(1,hto (inc hx1 hb1))] [5,40] [(5,i6 ((j1+1:Nat):Int))]<|qX () hm
 rintro j1 ⟨⟩ hj1 hl1 hm
 rw[hK1]at hm
 refine A.seq<|qDs [(3,hto (lnE aP a.aG))] [] [(27,.bool (decide ((j1:Int)<(a.aG.length:Int))))] ?_
 refine qF (ltF hl1)<|A.exit<|A.seq<|qDs [] [5,27] [(6,i6 0)]<|A.block<|A.bC 2 1 rfl rfl rfl λhb2=>?_
 obtain⟨B2,K2,hB2,hK2,hm⟩:=bw hm
 refine A.lpI (l:=a.Links) (j0:=0) (B:=B2) (K:=K2) hm (λj2=>λ()=>[(2,.ptr 27002 0),(3,.ptr 27003 0),(6,i6 (j2:Int))]) (λj2=>λ()=>[(27002,.cells 45 (k2 a)),(27003,.cells 45 (k2 b))]) ?_ ?_ ?_
 ·exact qW
 ·rintro j2 e2 Z2 ⟨⟩ hj2 hx2 hm
  rw[hB2]at hm
  refine A.seq<|qDs [(3,hto (lnE aC a.Links))] [] [(45,.bool (decide ((j2:Int)<(a.Links.length:Int))))] ?_
  refine qT (ltT hx2)<|A.skip<|A.seq<|A.block ?_
  obtain⟨e_2,h2,hm⟩:=aa hm
  refine qDs [(3,hix (ix aC (aV hx2))),(8,hix (ix aC h2)),(10,.sq true 86 (.agg (k1 e2)) (.agg (k1 e_2)) (!(wV e2 e_2)) (λx y w=>ah5 x y _ _ _ _ _ _ _ _ _ _ w))] [45] [(58,.bool (!(wV e2 e_2)))] ?_
  rcases aq hm with⟨c4,hm⟩|⟨c4,hm⟩
  ·refine qT c4<|qS [] [(4,.bool false)] [] ?_
   cases hm
   exact A.ret qE
  exact qF c4<|A.skip<|qGs [(1,hto (inc hx2 hb2))] [6,58] [(6,i6 ((j2+1:Nat):Int))]<|qX () hm
 rintro j2 ⟨⟩ hj2 hl2 hm
 rw[hK2]at hm
 refine A.seq<|qDs [(3,hto (lnE aC a.Links))] [] [(45,.bool (decide ((j2:Int)<(a.Links.length:Int))))] ?_
 refine qF (ltF hl2)<|A.exit<|qS [] [(4,.bool true)] [] ?_
 cases hm
 exact A.ret qE
end Go.Proofs.YtjdopimopgpagaaGreat
