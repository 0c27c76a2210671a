/- The eN of cu of the program. No condition but bH bq stand in each. -/
import Derived.Test.YtjdopimopgpagaaGreatV0
import Derived.Test.YtjdopimopgpagaaGreatV1
namespace Go.Proofs.YtjdopimopgpagaaGreat
open Go Go.Proofs.Tryz
set_option maxRecDepth 100000
set_option linter.all false
variable {r:Bool}{ra1:Int}{t:aB}
theorem acu(hm:qY t ra1=some r):RO prog 82 [] [.agg (k2 t),i6 ra1] (.bool r):=by
 refine aZ func82 rfl rfl ?_
 unfold qY at hm
 refine qS [(0,.al 82002)] [(1,i6 ra1),(2,.ptr 82002 0)] [(82002,.cells 45 (k2 t))] ?_
 obtain⟨ah,h1,hm⟩:=aa hm
 rcases az hm with⟨c1,hm⟩|⟨c1,hm⟩
 ·obtain⟨aD,h2,hm⟩:=aa hm
  refine qS [(1,hro (iP h1) aa4),(3,hto (bE c1)),(6,hro (qs h2) adP)] [(4,.bool aD)] [] ?_
  cases hm
  exact A.ret qE
 refine qS [(1,hro (iP h1) aa4),(3,hto (bE c1))] [(4,.bool false)] [] ?_
 cases hm
 exact A.ret qE
theorem zi(hm:jk t ra1=some r):RO prog 166 [] [.agg (k2 t),i6 ra1] (.bool r):=by
 refine aZ func166 rfl rfl ?_
 unfold jk at hm
 refine qS [(0,.al 166002)] [(1,i6 ra1),(2,.ptr 166002 0)] [(166002,.cells 45 (k2 t))]<|A.seq ?_
 obtain⟨ah,h1,hm⟩:=aa hm
 refine qDs [(1,hro (iP h1) aa4)] [] [(8,.bool (!decide (ah=0)))] ?_
 rcases az hm with⟨c1,hm⟩|⟨c1,hm⟩
 ·refine qT c1<|qS [] [(4,.bool false)] [] ?_
  cases hm
  exact A.ret qE
 refine qF c1<|A.skip<|A.seq<|qDs [] [8] [(5,i6 0)]<|A.block<|A.bC 2 0 rfl rfl rfl λhb1=>?_
 obtain⟨B1,K1,hB1,hK1,hm⟩:=bF hm
 refine A.lpI (l:=t.aI) (j0:=0) (B:=B1) (K:=K1) hm (λj1=>λ()=>[(1,i6 ra1),(2,.ptr 166002 0),(5,i6 (j1:Int))]) (λj1=>λ()=>[(166002,.cells 45 (k2 t))]) ?_ ?_ ?_
 ·exact qW
 ·rintro j1 e1 Z1 ⟨⟩ hj1 hx1 hm
  rw[hB1]at hm
  refine A.seq<|qDs [(3,hto (lnE aX t.aI))] [] [(13,.bool (decide ((j1:Int)<(t.aI.length:Int))))] ?_
  refine qT (ltT hx1)<|A.skip<|A.seq<|A.block<|qDs [(3,hix (ix aX (bh hx1)))] [13] [(23,.bool (decide (e1.ID=ra1)))] ?_
  rcases az hm with⟨c2,hm⟩|⟨c2,hm⟩
  ·refine qT c2<|qS [(3,hix (ix aX (bh hx1)))] [(4,.bool e1.aY)] [] ?_
   cases hm
   exact A.ret qE
  exact qF c2<|A.skip<|qGs [(1,hto (inc hx1 hb1))] [5,23] [(5,i6 ((j1+1:Nat):Int))]<|qX () hm
 rintro j1 ⟨⟩ hj1 hl1 hm
 rw[hK1]at hm
 refine A.seq<|qDs [(3,hto (lnE aX t.aI))] [] [(13,.bool (decide ((j1:Int)<(t.aI.length:Int))))] ?_
 refine qF (ltF hl1)<|A.exit<|qS [] [(4,.bool false)] [] ?_
 cases hm
 exact A.ret qE
theorem abO{r:(List Int)}(hm:qe t ra1=some r):RO prog 80 [] [.agg (k2 t),i6 ra1] (lf bK r):=by
 refine aZ func80 rfl rfl ?_
 unfold qe at hm
 refine qS [(0,.al 80002)] [(1,i6 ra1),(2,.ptr 80002 0)] [(80002,.cells 45 (k2 t))]<|qDs [] [] [(5,.aH)]<|A.seq<|qDs [] [] [(6,i6 0)]<|A.block<|A.bC 2 0 rfl rfl rfl λhb1=>?_
 obtain⟨B1,K1,hB1,hK1,hm⟩:=bF hm
 refine A.lpI (l:=t.aI) (j0:=0) (B:=B1) (K:=K1) hm (λj1=>λdH=>[(1,i6 ra1),(2,.ptr 80002 0),(5,.own 600080005),(6,i6 (j1:Int))]) (λj1=>λdH=>[(80002,.cells 45 (k2 t)),(600080005,.slice 3 1 (ml bK dH) 0 false)]) ?_ ?_ ?_
 ·exact bA.go [.ad 5 600080005 3 1] [] (by kernel_rfl)
 ·rintro j1 e1 Z1 dH hj1 hx1 hm
  rw[hB1]at hm
  refine A.seq<|qDs [(3,hto (lnE aX t.aI))] [] [(13,.bool (decide ((j1:Int)<(t.aI.length:Int))))] ?_
  refine qT (ltT hx1)<|A.skip ?_
  obtain⟨J1,hJ1,hm⟩:=bQ hm
  refine A.J (J:=J1) (r:=r) (λqt=>[(1,i6 ra1),(2,.ptr 80002 0),(5,.own 600080005),(6,i6 (j1:Int))]) (λqt=>[(80002,.cells 45 (k2 t)),(600080005,.slice 3 1 (ml bK qt) 0 false)]) ?_ ?_
  ·refine A.block ?_
   obtain⟨ah,h1,hm⟩:=aa hm
   refine qDs [(5,hix (ix aX (bh hx1))),(8,hro (vD h1) aks)] [13] [(8,.bool ah.2)]<|qDs [] [8] [(28,.bool ah.2)] ?_
   rcases az hm with⟨c1,hm⟩|⟨c1,hm⟩
   ·refine qT c1 ?_
    obtain⟨l_1,h2,hm⟩:=aa hm
    exact qG [(4,hix (ix aX (bh hx1))),(8,hap 80537 (ap bK (bytes:=8) (by decide) h2))] [5,28] [(5,.own 80537)] [600080005] [(80537,.slice 3 1 (ml bK l_1) 0 false)]<|Exists.intro l_1 (And.intro hm (bA.go [.sw 80537 600080005] [] (by kernel_rfl)))
   exact qF c1<|A.skip<|qX dH hm
  rintro qt hm
  rw[hJ1]at hm
  exact qGs [(1,hto (inc hx1 hb1))] [6] [(6,i6 ((j1+1:Nat):Int))]<|qX qt hm
 rintro j1 dH hj1 hl1 hm
 rw[hK1]at hm
 refine A.seq<|qDs [(3,hto (lnE aX t.aI))] [] [(13,.bool (decide ((j1:Int)<(t.aI.length:Int))))] ?_
 refine qF (ltF hl1)<|A.exit<|qD [] [1,2,5,6,13] [(4,.own 600080005)] [80002] []<|A.ret ?_
 obtain rfl:=some_inj hm
 exact A.fin W0 [.fz [600080005]] rfl (by kernel_rfl)
theorem aa7{l:List lg}{a:Int}{b:Int}(hm:oT l a b=some r):RO prog 83 [] [lf iW l,i6 a,i6 b] (.bool r):=by
 refine aZ func83 rfl rfl ?_
 unfold oT at hm
 refine qS [] [(0,lf iW l),(1,i6 a),(2,i6 b)] []<|A.seq<|qDs [] [] [(7,i6 0)]<|A.block<|A.bS 0 rfl λhb1=>?_
 obtain⟨B1,K1,hB1,hK1,hm⟩:=bF hm
 refine A.lpI (l:=l) (j0:=0) (B:=B1) (K:=K1) hm (λj1=>λ()=>[(0,lf iW l),(1,i6 a),(2,i6 b),(7,i6 (j1:Int))]) (λj1=>λ()=>[]) ?_ ?_ ?_
 ·exact qW
 ·rintro j1 e1 Z1 ⟨⟩ hj1 hx1 hm
  rw[hB1]at hm
  refine A.seq<|qDs [(2,hto (lnE iW l))] [] [(11,.bool (decide ((j1:Int)<(l.length:Int))))] ?_
  refine qT (ltT hx1)<|A.skip<|A.seq<|A.block<|A.mid [(0,lf iW l),(1,i6 a),(2,i6 b),(7,i6 (j1:Int)),(47,.bool (bif decide (e1.cD=a)then((decide (e1.To=b))||((decide (e1.cD=b))&&(decide (e1.To=a))))else((decide (e1.cD=b))&&(decide (e1.To=a)))))] [] (λhk=>?_) ?_
  ·rcases tf (decide (e1.cD=a))with c1|c1
   ·rcases tf (decide (e1.To=b))with c2|c2
    ·exact qS [(2,hix (ix iW (bh hx1))),(7,hto (bE c1)),(10,hix (ix iW (bh hx1))),(16,hto (bE c2)),(33,hto ((orT (q:=((decide (e1.cD=b))&&(decide (e1.To=a)))) c2).trans (ifT (x:=((decide (e1.To=b))||((decide (e1.cD=b))&&(decide (e1.To=a))))) (y:=((decide (e1.cD=b))&&(decide (e1.To=a)))) c1)))] _ _ hk
    rcases tf (decide (e1.cD=b))with c3|c3
    ·exact qS [(2,hix (ix iW (bh hx1))),(7,hto (bE c1)),(10,hix (ix iW (bh hx1))),(16,hto (bE c2)),(19,hix (ix iW (bh hx1))),(24,hto (bE c3)),(27,hix (ix iW (bh hx1))),(33,hto (((rO (q:=decide (e1.To=a)) c3).trans (orF (q:=((decide (e1.cD=b))&&(decide (e1.To=a)))) c2)).trans (ifT (x:=((decide (e1.To=b))||((decide (e1.cD=b))&&(decide (e1.To=a))))) (y:=((decide (e1.cD=b))&&(decide (e1.To=a)))) c1)))] _ _ hk
    exact qS [(2,hix (ix iW (bh hx1))),(7,hto (bE c1)),(10,hix (ix iW (bh hx1))),(16,hto (bE c2)),(19,hix (ix iW (bh hx1))),(24,hto (bE c3)),(33,hto (((sM (q:=decide (e1.To=a)) c3).trans (orF (q:=((decide (e1.cD=b))&&(decide (e1.To=a)))) c2)).trans (ifT (x:=((decide (e1.To=b))||((decide (e1.cD=b))&&(decide (e1.To=a))))) (y:=((decide (e1.cD=b))&&(decide (e1.To=a)))) c1)))] _ _ hk
   rcases tf (decide (e1.cD=b))with c4|c4
   ·exact qS [(2,hix (ix iW (bh hx1))),(7,hto (bE c1)),(19,hix (ix iW (bh hx1))),(24,hto (bE c4)),(27,hix (ix iW (bh hx1))),(33,hto ((rO (q:=decide (e1.To=a)) c4).trans (ifF (x:=((decide (e1.To=b))||((decide (e1.cD=b))&&(decide (e1.To=a))))) (y:=((decide (e1.cD=b))&&(decide (e1.To=a)))) c1)))] _ _ hk
   exact qS [(2,hix (ix iW (bh hx1))),(7,hto (bE c1)),(19,hix (ix iW (bh hx1))),(24,hto (bE c4)),(33,hto ((sM (q:=decide (e1.To=a)) c4).trans (ifF (x:=((decide (e1.To=b))||((decide (e1.cD=b))&&(decide (e1.To=a))))) (y:=((decide (e1.cD=b))&&(decide (e1.To=a)))) c1)))] _ _ hk
  rcases az hm with⟨c5,hm⟩|⟨c5,hm⟩
  ·refine qT c5<|qS [] [(6,.bool true)] [] ?_
   cases hm
   exact A.ret qE
  exact qF c5<|A.skip<|qGs [(1,hto (inc hx1 hb1))] [7,47] [(7,i6 ((j1+1:Nat):Int))]<|qX () hm
 rintro j1 ⟨⟩ hj1 hl1 hm
 rw[hK1]at hm
 refine A.seq<|qDs [(2,hto (lnE iW l))] [] [(11,.bool (decide ((j1:Int)<(l.length:Int))))] ?_
 refine qF (ltF hl1)<|A.exit<|qS [] [(6,.bool false)] [] ?_
 cases hm
 exact A.ret qE
theorem zj{f:gu}{r:aB}(hm:mP t f=some r):RO prog 28 [] [.agg (k2 t),.agg (k4 f)] (.agg (k2 r)):=by
 refine aZ func28 rfl rfl ?_
 unfold mP at hm
 refine qS [(0,.al 28002),(1,.al 28003),(2,.al 28004)] [(2,.ptr 28002 0),(3,.ptr 28003 0),(4,.ptr 28004 0)] [(28002,.cells 45 (k2 t)),(28003,.cells 60 (k4 f)),(28004,.cells 45 [.aH,.aH])]<|A.seq ?_
 obtain⟨ah,h1,hm⟩:=aa hm
 refine qDs [(1,hro (iP h1) aa4)] [] [(11,.bool (!decide (ah=0)))] ?_
 rcases az hm with⟨c1,hm⟩|⟨c1,hm⟩
 ·refine qT c1<|qD [] [2,3,11] [] [28002,28003] [] ?_
  cases hm
  exact A.ret qE
 refine qF c1<|A.skip<|qD [(0,.al 28005)] [11] [(5,.ptr 28005 0)] [] [(28005,.cells 45 [.aH,.aH])]<|A.seq<|qDs [] [] [(6,i6 0)]<|A.block<|A.bC 2 0 rfl rfl rfl λhb1=>?_
 obtain⟨B1,K1,hB1,hK1,hm⟩:=bF hm
 refine A.lpI (l:=t.aI) (j0:=0) (B:=B1) (K:=K1) hm (λj1=>λm_1=>[(2,.ptr 28002 0),(3,.ptr 28003 0),(4,.ptr 28004 0),(5,.ptr 28005 0),(6,i6 (j1:Int))]) (λj1=>λm_1=>[(28002,.cells 45 (k2 t)),(28003,.cells 60 (k4 f)),(28004,.cells 45 [.aH,.aH]),(28005,.cells 45 [.own 702800500,.aH]),(702800500,.slice 93 2 (ml aX m_1) 0 false)]) ?_ ?_ ?_
 ·exact bA.go [.ac 28005 702800500 93 2 0] [] (by kernel_rfl)
 ·rintro j1 e1 Z1 m_1 hj1 hx1 hm
  rw[hB1]at hm
  refine A.seq<|qDs [(3,hto (lnE aX t.aI))] [] [(17,.bool (decide ((j1:Int)<(t.aI.length:Int))))] ?_
  refine qT (ltT hx1)<|A.skip ?_
  obtain⟨J1,hJ1,hm⟩:=bQ hm
  refine A.J (J:=J1) (r:=r) (λm_2=>[(2,.ptr 28002 0),(3,.ptr 28003 0),(4,.ptr 28004 0),(5,.ptr 28005 0),(6,i6 (j1:Int))]) (λm_2=>[(28002,.cells 45 (k2 t)),(28003,.cells 60 (k4 f)),(28004,.cells 45 [.aH,.aH]),(28005,.cells 45 [.own 702800500,.aH]),(702800500,.slice 93 2 (ml aX m_2) 0 false)]) ?_ ?_
  ·refine A.block ?_
   obtain⟨aD,h2,hm⟩:=aa hm
   refine qDs [(5,hix (ix aX (bh hx1))),(8,hro (lT h2) acp)] [17] [(29,.bool (!aD))] ?_
   rcases az hm with⟨c2,hm⟩|⟨c2,hm⟩
   ·refine qT c2 ?_
    obtain⟨l_1,h3,hm⟩:=aa hm
    exact qG [(5,hix (ix aX (bh hx1))),(8,hap 28538 (ap aX (bytes:=16) (by decide) h3))] [29] [] [28005,702800500] [(28005,.cells 45 [.own 28538,.aH]),(28538,.slice 93 2 (ml aX l_1) 0 false)]<|Exists.intro l_1 (And.intro hm (bA.go [.sw 28538 702800500] [] (by kernel_rfl)))
   exact qF c2<|A.skip<|qX m_1 hm
  rintro m_2 hm
  rw[hJ1]at hm
  exact qGs [(1,hto (inc hx1 hb1))] [6] [(6,i6 ((j1+1:Nat):Int))]<|qX m_2 hm
 rintro j1 m_1 hj1 hl1 hm
 rw[hK1]at hm
 refine A.seq<|qDs [(3,hto (lnE aX t.aI))] [] [(17,.bool (decide ((j1:Int)<(t.aI.length:Int))))] ?_
 refine qF (ltF hl1)<|A.exit<|A.seq<|qDs [] [6,17] [(7,i6 0)]<|A.block<|A.bC 2 1 rfl rfl rfl λhb2=>?_
 obtain⟨B2,K2,hB2,hK2,hm⟩:=bF hm
 refine A.lpI (l:=t.Links) (j0:=0) (B:=B2) (K:=K2) hm (λj2=>λm_3=>[(2,.ptr 28002 0),(3,.ptr 28003 0),(4,.ptr 28004 0),(5,.ptr 28005 0),(7,i6 (j2:Int))]) (λj2=>λm_3=>[(28002,.cells 45 (k2 t)),(28003,.cells 60 (k4 f)),(28004,.cells 45 [.aH,.aH]),(28005,.cells 45 [.own 702800500,.own 702800501]),(702800500,.slice 93 2 (ml aX m_1) 0 false),(702800501,.slice 86 5 (ml aC m_3) 0 false)]) ?_ ?_ ?_
 ·exact bA.go [.ac 28005 702800501 86 5 1] [] (by kernel_rfl)
 ·rintro j2 e2 Z2 m_3 hj2 hx2 hm
  rw[hB2]at hm
  refine A.seq<|qDs [(3,hto (lnE aC t.Links))] [] [(44,.bool (decide ((j2:Int)<(t.Links.length:Int))))] ?_
  refine qT (ltT hx2)<|A.skip ?_
  obtain⟨J2,hJ2,hm⟩:=bQ hm
  refine A.J (J:=J2) (r:=r) (λm_4=>[(2,.ptr 28002 0),(3,.ptr 28003 0),(4,.ptr 28004 0),(5,.ptr 28005 0),(7,i6 (j2:Int))]) (λm_4=>[(28002,.cells 45 (k2 t)),(28003,.cells 60 (k4 f)),(28004,.cells 45 [.aH,.aH]),(28005,.cells 45 [.own 702800500,.own 702800501]),(702800500,.slice 93 2 (ml aX m_1) 0 false),(702800501,.slice 86 5 (ml aC m_4) 0 false)]) ?_ ?_
  ·refine A.block<|qD [(3,hix (ix aC (bh hx2))),(5,.al 28008)] [44] [(8,.ptr 28008 0)] [] [(28008,.cells 86 (k1 e2))] ?_
   obtain⟨J3,hJ3,hm⟩:=bQ hm
   refine A.J (J:=J3) (r:=r) (λv_1=>[(2,.ptr 28002 0),(3,.ptr 28003 0),(4,.ptr 28004 0),(5,.ptr 28005 0),(7,i6 (j2:Int)),(8,.ptr 28008 0),(75,.bool v_1)]) (λv_1=>[(28002,.cells 45 (k2 t)),(28003,.cells 60 (k4 f)),(28004,.cells 45 [.aH,.aH]),(28005,.cells 45 [.own 702800500,.own 702800501]),(702800500,.slice 93 2 (ml aX m_1) 0 false),(702800501,.slice 86 5 (ml aC m_3) 0 false),(28008,.cells 86 (k1 e2))]) ?_ ?_
   ·obtain⟨aP,h4,hm⟩:=aa hm
    rcases az hm with⟨c3,hm⟩|⟨c3,hm⟩
    ·obtain⟨bt,h5,hm⟩:=aa hm
     rcases az hm with⟨c4,hm⟩|⟨c4,hm⟩
     ·obtain⟨bL,h6,hm⟩:=aa hm
      exact qGs [(4,hro (lT h4) acp),(6,hto (bE c3)),(11,hro (lT h5) acp),(14,hto (bE c4)),(21,hro (aa7 h6) ck83)] [] [(75,.bool (!bL))]<|qX (!bL) hm
     exact qGs [(4,hro (lT h4) acp),(6,hto (bE c3)),(11,hro (lT h5) acp),(14,hto (bE c4))] [] [(75,.bool false)]<|qX false hm
    exact qGs [(4,hro (lT h4) acp),(6,hto (bE c3))] [] [(75,.bool false)]<|qX false hm
   rintro v_1 hm
   rw[hJ3]at hm
   rcases az hm with⟨c5,hm⟩|⟨c5,hm⟩
   ·refine qT c5 ?_
    obtain⟨l_2,h7,hm⟩:=aa hm
    exact qG [(4,hap 28580 (ap aC (bytes:=40) (by decide) h7))] [8,75] [] [28005,702800501,28008] [(28005,.cells 45 [.own 702800500,.own 28580]),(28580,.slice 86 5 (ml aC l_2) 0 false)]<|Exists.intro l_2 (And.intro hm (bA.go [.sw 28580 702800501] [] (by kernel_rfl)))
   exact qF c5<|A.skip<|qX m_3 hm
  rintro m_4 hm
  rw[hJ2]at hm
  exact qGs [(1,hto (inc hx2 hb2))] [7] [(7,i6 ((j2+1:Nat):Int))]<|qX m_4 hm
 rintro j2 m_3 hj2 hl2 hm
 rw[hK2]at hm
 refine A.seq<|qDs [(3,hto (lnE aC t.Links))] [] [(44,.bool (decide ((j2:Int)<(t.Links.length:Int))))] ?_
 refine qF (ltF hl2)<|A.exit<|qD [] [2,3,5,7,44] [] [28002,28003,28004,28005] [(28004,.cells 45 [.own 702800500,.own 702800501])]<|A.ret ?_
 obtain rfl:=some_inj hm
 exact A.fin W0 [.fz [702800500,702800501]] rfl (by kernel_rfl)
end Go.Proofs.YtjdopimopgpagaaGreat
