/- The iJ of ee of the program. No condition but bJ aY stand in each. -/
import Derived.Test.YtdjeacigeegklaaGreatV0
import Derived.Test.YtdjeacigeegklaaGreatV1
namespace Go.Proofs.YtdjeacigeegklaaGreat
open Go Go.Proofs.Tryz
set_option maxRecDepth 100000
set_option linter.all false
variable {ra1:Int}{t:aa}
theorem oq{r:Bool}(hm:jo t ra1=some r):RO prog 75 [] [.agg (k2 t),i6 ra1] (.bool r):=by
 refine bh func75 rfl rfl ?_
 unfold jo at hm
 refine qS [(0,.al 75002)] [(1,i6 ra1),(2,.ptr 75002 0)] [(75002,.cells 28 (k2 t))] ?_
 obtain⟨ai,h1,hm⟩:=af hm
 rcases ak hm with⟨c1,hm⟩|⟨c1,hm⟩
 ·obtain⟨aI,h2,hm⟩:=af hm
  refine qS [(1,hro (kK h1) adP),(3,hto (bE c1)),(6,hro (qm h2) afr)] [(4,.bool aI)] [] ?_
  cases hm
  exact A.ret qE
 refine qS [(1,hro (kK h1) adP),(3,hto (bE c1))] [(4,.bool false)] [] ?_
 cases hm
 exact A.ret qE
theorem ac4{cI:Int}{fF:Int}{r:Int×Bool}(hm:pU t cI fF=some r):RO prog 50 [] [.agg (k2 t),i6 cI,i6 fF] (.tup [i6 r.1,.bool r.2]):=by
 refine bh func50 rfl rfl ?_
 unfold pU at hm
 refine qS [(0,.al 50003)] [(1,i6 cI),(2,i6 fF),(3,.ptr 50003 0)] [(50003,.cells 28 (k2 t))]<|A.seq ?_
 obtain⟨ai,h1,hm⟩:=af hm
 refine qDs [(1,hro (kK h1) adP)] [] [(10,.bool (!decide (ai=0)))] ?_
 rcases ak hm with⟨c1,hm⟩|⟨c1,hm⟩
 ·refine qT c1<|qS [] [(6,i6 0),(7,.bool false)] [] ?_
  cases hm
  exact A.ret qE
 refine qF c1<|A.skip ?_
 obtain⟨aI,h2,hm⟩:=af hm
 refine qS [(3,hro (vS h2) auq)] [(6,i6 aI.1),(7,.bool aI.2)] [] ?_
 cases hm
 exact A.ret qE
variable {r:(List Int)}
theorem wX(hm:mM t ra1=some r):RO prog 81 [] [.agg (k2 t),i6 ra1] (lf aA r):=by
 refine bh func81 rfl rfl ?_
 unfold mM at hm
 refine qS [(0,.al 81002)] [(1,i6 ra1),(2,.ptr 81002 0)] [(81002,.cells 28 (k2 t))]<|qDs [] [] [(5,.aQ)]<|A.seq<|qDs [] [] [(6,i6 0)]<|A.block<|A.bC 2 0 rfl rfl rfl λhb1=>?_
 obtain⟨B1,K1,hB1,hK1,hm⟩:=bu hm
 refine A.lpI (l:=t.ah) (j0:=0) (B:=B1) (K:=K1) hm (λj1=>λbp=>[(1,i6 ra1),(2,.ptr 81002 0),(5,.own 600081005),(6,i6 (j1:Int))]) (λj1=>λbp=>[(81002,.cells 28 (k2 t)),(600081005,.slice 3 1 (ml aA bp) 0 false)]) ?_ ?_ ?_
 ·exact bx.go [.ad 5 600081005 3 1] [] (by kernel_rfl)
 ·rintro j1 e1 Z1 bp hj1 hx1 hm
  rw[hB1]at hm
  refine A.seq<|qDs [(3,hto (lnE aJ t.ah))] [] [(13,.bool (decide ((j1:Int)<(t.ah.length:Int))))] ?_
  refine qT (ltT hx1)<|A.skip ?_
  obtain⟨J1,hJ1,hm⟩:=cw hm
  refine A.J (J:=J1) (r:=r) (λcZ=>[(1,i6 ra1),(2,.ptr 81002 0),(5,.own 600081005),(6,i6 (j1:Int))]) (λcZ=>[(81002,.cells 28 (k2 t)),(600081005,.slice 3 1 (ml aA cZ) 0 false)]) ?_ ?_
  ·refine A.block ?_
   obtain⟨ai,h1,hm⟩:=af hm
   refine qDs [(5,hix (ix aJ (bt hx1))),(8,hro (vS h1) auq)] [13] [(8,.bool ai.2)]<|qDs [] [8] [(28,.bool ai.2)] ?_
   rcases ak hm with⟨c1,hm⟩|⟨c1,hm⟩
   ·refine qT c1 ?_
    obtain⟨l_1,h2,hm⟩:=af hm
    exact qG [(4,hix (ix aJ (bt hx1))),(8,hap 81537 (ap aA (bytes:=8) (by decide) h2))] [5,28] [(5,.own 81537)] [600081005] [(81537,.slice 3 1 (ml aA l_1) 0 false)]<|Exists.intro l_1 (And.intro hm (bx.go [.sw 81537 600081005] [] (by kernel_rfl)))
   exact qF c1<|A.skip<|qX bp hm
  rintro cZ hm
  rw[hJ1]at hm
  exact qGs [(1,hto (inc hx1 hb1))] [6] [(6,i6 ((j1+1:Nat):Int))]<|qX cZ hm
 rintro j1 bp hj1 hl1 hm
 rw[hK1]at hm
 refine A.seq<|qDs [(3,hto (lnE aJ t.ah))] [] [(13,.bool (decide ((j1:Int)<(t.ah.length:Int))))] ?_
 refine qF (ltF hl1)<|A.exit<|qD [] [1,2,5,6,13] [(4,.own 600081005)] [81002] []<|A.ret ?_
 obtain rfl:=some_inj hm
 exact A.fin W0 [.fz [600081005]] rfl (by kernel_rfl)
theorem xX(hm:lz t ra1=some r):RO prog 43 [] [.agg (k2 t),i6 ra1] (lf aA r):=by
 refine bh func43 rfl rfl ?_
 unfold lz at hm
 refine qS [(0,.al 43002)] [(1,i6 ra1),(2,.ptr 43002 0)] [(43002,.cells 28 (k2 t))]<|A.seq ?_
 obtain⟨ai,h1,hm⟩:=af hm
 refine qDs [(1,hro (kK h1) adP)] [] [(7,.bool (!decide (ai=0)))] ?_
 rcases ak hm with⟨c1,hm⟩|⟨c1,hm⟩
 ·refine qT c1<|qS [] [(4,.aQ)] [] ?_
  cases hm
  exact A.ret qE
 refine qF c1<|A.skip ?_
 obtain⟨aI,h2,hm⟩:=af hm
 refine qS [(2,hro (wX h2) aup)] [(4,lf aA aI)] [] ?_
 cases hm
 exact A.ret qE
variable {a b:Int}
theorem acf{l:List aN}{r:Bool}(hm:oZ l a b=some r):RO prog 87 [] [lf bz l,i6 a,i6 b] (.bool r):=by
 refine bh func87 rfl rfl ?_
 unfold oZ at hm
 refine qS [] [(0,lf bz l),(1,i6 a),(2,i6 b)] []<|A.seq<|qDs [] [] [(7,i6 0)]<|A.block<|A.bS 0 rfl λhb1=>?_
 obtain⟨B1,K1,hB1,hK1,hm⟩:=bu hm
 refine A.lpI (l:=l) (j0:=0) (B:=B1) (K:=K1) hm (λj1=>λ()=>[(0,lf bz l),(1,i6 a),(2,i6 b),(7,i6 (j1:Int))]) (λj1=>λ()=>[]) ?_ ?_ ?_
 ·exact qW
 ·rintro j1 e1 Z1 ⟨⟩ hj1 hx1 hm
  rw[hB1]at hm
  refine A.seq<|qDs [(2,hto (lnE bz l))] [] [(11,.bool (decide ((j1:Int)<(l.length:Int))))] ?_
  refine qT (ltT hx1)<|A.skip<|A.seq<|A.block<|A.mid [(0,lf bz l),(1,i6 a),(2,i6 b),(7,i6 (j1:Int)),(47,.bool (bif decide (e1.bn=a)then((decide (e1.To=b))||((decide (e1.bn=b))&&(decide (e1.To=a))))else((decide (e1.bn=b))&&(decide (e1.To=a)))))] [] (λhk=>?_) ?_
  ·rcases tf (decide (e1.bn=a))with c1|c1
   ·rcases tf (decide (e1.To=b))with c2|c2
    ·exact qS [(2,hix (ix bz (bt hx1))),(7,hto (bE c1)),(10,hix (ix bz (bt hx1))),(16,hto (bE c2)),(33,hto ((orT (q:=((decide (e1.bn=b))&&(decide (e1.To=a)))) c2).trans (ifT (x:=((decide (e1.To=b))||((decide (e1.bn=b))&&(decide (e1.To=a))))) (y:=((decide (e1.bn=b))&&(decide (e1.To=a)))) c1)))] _ _ hk
    rcases tf (decide (e1.bn=b))with c3|c3
    ·exact qS [(2,hix (ix bz (bt hx1))),(7,hto (bE c1)),(10,hix (ix bz (bt hx1))),(16,hto (bE c2)),(19,hix (ix bz (bt hx1))),(24,hto (bE c3)),(27,hix (ix bz (bt hx1))),(33,hto (((nO (q:=decide (e1.To=a)) c3).trans (orF (q:=((decide (e1.bn=b))&&(decide (e1.To=a)))) c2)).trans (ifT (x:=((decide (e1.To=b))||((decide (e1.bn=b))&&(decide (e1.To=a))))) (y:=((decide (e1.bn=b))&&(decide (e1.To=a)))) c1)))] _ _ hk
    exact qS [(2,hix (ix bz (bt hx1))),(7,hto (bE c1)),(10,hix (ix bz (bt hx1))),(16,hto (bE c2)),(19,hix (ix bz (bt hx1))),(24,hto (bE c3)),(33,hto (((oK (q:=decide (e1.To=a)) c3).trans (orF (q:=((decide (e1.bn=b))&&(decide (e1.To=a)))) c2)).trans (ifT (x:=((decide (e1.To=b))||((decide (e1.bn=b))&&(decide (e1.To=a))))) (y:=((decide (e1.bn=b))&&(decide (e1.To=a)))) c1)))] _ _ hk
   rcases tf (decide (e1.bn=b))with c4|c4
   ·exact qS [(2,hix (ix bz (bt hx1))),(7,hto (bE c1)),(19,hix (ix bz (bt hx1))),(24,hto (bE c4)),(27,hix (ix bz (bt hx1))),(33,hto ((nO (q:=decide (e1.To=a)) c4).trans (ifF (x:=((decide (e1.To=b))||((decide (e1.bn=b))&&(decide (e1.To=a))))) (y:=((decide (e1.bn=b))&&(decide (e1.To=a)))) c1)))] _ _ hk
   exact qS [(2,hix (ix bz (bt hx1))),(7,hto (bE c1)),(19,hix (ix bz (bt hx1))),(24,hto (bE c4)),(33,hto ((oK (q:=decide (e1.To=a)) c4).trans (ifF (x:=((decide (e1.To=b))||((decide (e1.bn=b))&&(decide (e1.To=a))))) (y:=((decide (e1.bn=b))&&(decide (e1.To=a)))) c1)))] _ _ hk
  rcases ak hm with⟨c5,hm⟩|⟨c5,hm⟩
  ·refine qT c5<|qS [] [(6,.bool true)] [] ?_
   cases hm
   exact A.ret qE
  exact qF c5<|A.skip<|qGs [(1,hto (inc hx1 hb1))] [7,47] [(7,i6 ((j1+1:Nat):Int))]<|qX () hm
 rintro j1 ⟨⟩ hj1 hl1 hm
 rw[hK1]at hm
 refine A.seq<|qDs [(2,hto (lnE bz l))] [] [(11,.bool (decide ((j1:Int)<(l.length:Int))))] ?_
 refine qF (ltF hl1)<|A.exit<|qS [] [(6,.bool false)] [] ?_
 cases hm
 exact A.ret qE
theorem aaf{f:bg}{r:aa}(hm:jG t f=some r):RO prog 48 [] [.agg (k2 t),.agg (k4 f)] (.agg (k2 r)):=by
 refine bh func48 rfl rfl ?_
 unfold jG at hm
 refine qS [(0,.al 48002),(1,.al 48003),(2,.al 48004)] [(2,.ptr 48002 0),(3,.ptr 48003 0),(4,.ptr 48004 0)] [(48002,.cells 28 (k2 t)),(48003,.cells 100 (k4 f)),(48004,.cells 28 [.aQ,.aQ])]<|A.seq ?_
 obtain⟨ai,h1,hm⟩:=af hm
 refine qDs [(1,hro (kK h1) adP)] [] [(11,.bool (!decide (ai=0)))] ?_
 rcases ak hm with⟨c1,hm⟩|⟨c1,hm⟩
 ·refine qT c1<|qD [] [2,3,11] [] [48002,48003] [] ?_
  cases hm
  exact A.ret qE
 refine qF c1<|A.skip<|qD [(0,.al 48005)] [11] [(5,.ptr 48005 0)] [] [(48005,.cells 28 [.aQ,.aQ])]<|A.seq<|qDs [] [] [(6,i6 0)]<|A.block<|A.bC 2 0 rfl rfl rfl λhb1=>?_
 obtain⟨B1,K1,hB1,hK1,hm⟩:=bu hm
 refine A.lpI (l:=t.ah) (j0:=0) (B:=B1) (K:=K1) hm (λj1=>λm_1=>[(2,.ptr 48002 0),(3,.ptr 48003 0),(4,.ptr 48004 0),(5,.ptr 48005 0),(6,i6 (j1:Int))]) (λj1=>λm_1=>[(48002,.cells 28 (k2 t)),(48003,.cells 100 (k4 f)),(48004,.cells 28 [.aQ,.aQ]),(48005,.cells 28 [.own 704800500,.aQ]),(704800500,.slice 42 2 (ml aJ m_1) 0 false)]) ?_ ?_ ?_
 ·exact bx.go [.ac 48005 704800500 42 2 0] [] (by kernel_rfl)
 ·rintro j1 e1 Z1 m_1 hj1 hx1 hm
  rw[hB1]at hm
  refine A.seq<|qDs [(3,hto (lnE aJ t.ah))] [] [(17,.bool (decide ((j1:Int)<(t.ah.length:Int))))] ?_
  refine qT (ltT hx1)<|A.skip ?_
  obtain⟨J1,hJ1,hm⟩:=cw hm
  refine A.J (J:=J1) (r:=r) (λm_2=>[(2,.ptr 48002 0),(3,.ptr 48003 0),(4,.ptr 48004 0),(5,.ptr 48005 0),(6,i6 (j1:Int))]) (λm_2=>[(48002,.cells 28 (k2 t)),(48003,.cells 100 (k4 f)),(48004,.cells 28 [.aQ,.aQ]),(48005,.cells 28 [.own 704800500,.aQ]),(704800500,.slice 42 2 (ml aJ m_2) 0 false)]) ?_ ?_
  ·refine A.block ?_
   obtain⟨aI,h2,hm⟩:=af hm
   refine qDs [(5,hix (ix aJ (bt hx1))),(8,hro (iZ h2) aae)] [17] [(29,.bool (!aI))] ?_
   rcases ak hm with⟨c2,hm⟩|⟨c2,hm⟩
   ·refine qT c2 ?_
    obtain⟨l_1,h3,hm⟩:=af hm
    exact qG [(5,hix (ix aJ (bt hx1))),(8,hap 48538 (ap aJ (bytes:=16) (by decide) h3))] [29] [] [48005,704800500] [(48005,.cells 28 [.own 48538,.aQ]),(48538,.slice 42 2 (ml aJ l_1) 0 false)]<|Exists.intro l_1 (And.intro hm (bx.go [.sw 48538 704800500] [] (by kernel_rfl)))
   exact qF c2<|A.skip<|qX m_1 hm
  rintro m_2 hm
  rw[hJ1]at hm
  exact qGs [(1,hto (inc hx1 hb1))] [6] [(6,i6 ((j1+1:Nat):Int))]<|qX m_2 hm
 rintro j1 m_1 hj1 hl1 hm
 rw[hK1]at hm
 refine A.seq<|qDs [(3,hto (lnE aJ t.ah))] [] [(17,.bool (decide ((j1:Int)<(t.ah.length:Int))))] ?_
 refine qF (ltF hl1)<|A.exit<|A.seq<|qDs [] [6,17] [(7,i6 0)]<|A.block<|A.bC 2 1 rfl rfl rfl λhb2=>?_
 obtain⟨B2,K2,hB2,hK2,hm⟩:=bu hm
 refine A.lpI (l:=t.Links) (j0:=0) (B:=B2) (K:=K2) hm (λj2=>λm_3=>[(2,.ptr 48002 0),(3,.ptr 48003 0),(4,.ptr 48004 0),(5,.ptr 48005 0),(7,i6 (j2:Int))]) (λj2=>λm_3=>[(48002,.cells 28 (k2 t)),(48003,.cells 100 (k4 f)),(48004,.cells 28 [.aQ,.aQ]),(48005,.cells 28 [.own 704800500,.own 704800501]),(704800500,.slice 42 2 (ml aJ m_1) 0 false),(704800501,.slice 89 5 (ml aV m_3) 0 false)]) ?_ ?_ ?_
 ·exact bx.go [.ac 48005 704800501 89 5 1] [] (by kernel_rfl)
 ·rintro j2 e2 Z2 m_3 hj2 hx2 hm
  rw[hB2]at hm
  refine A.seq<|qDs [(3,hto (lnE aV t.Links))] [] [(44,.bool (decide ((j2:Int)<(t.Links.length:Int))))] ?_
  refine qT (ltT hx2)<|A.skip ?_
  obtain⟨J2,hJ2,hm⟩:=cw hm
  refine A.J (J:=J2) (r:=r) (λm_4=>[(2,.ptr 48002 0),(3,.ptr 48003 0),(4,.ptr 48004 0),(5,.ptr 48005 0),(7,i6 (j2:Int))]) (λm_4=>[(48002,.cells 28 (k2 t)),(48003,.cells 100 (k4 f)),(48004,.cells 28 [.aQ,.aQ]),(48005,.cells 28 [.own 704800500,.own 704800501]),(704800500,.slice 42 2 (ml aJ m_1) 0 false),(704800501,.slice 89 5 (ml aV m_4) 0 false)]) ?_ ?_
  ·refine A.block<|qD [(3,hix (ix aV (bt hx2))),(5,.al 48008)] [44] [(8,.ptr 48008 0)] [] [(48008,.cells 89 (k1 e2))] ?_
   obtain⟨J3,hJ3,hm⟩:=cw hm
   refine A.J (J:=J3) (r:=r) (λv_1=>[(2,.ptr 48002 0),(3,.ptr 48003 0),(4,.ptr 48004 0),(5,.ptr 48005 0),(7,i6 (j2:Int)),(8,.ptr 48008 0),(75,.bool v_1)]) (λv_1=>[(48002,.cells 28 (k2 t)),(48003,.cells 100 (k4 f)),(48004,.cells 28 [.aQ,.aQ]),(48005,.cells 28 [.own 704800500,.own 704800501]),(704800500,.slice 42 2 (ml aJ m_1) 0 false),(704800501,.slice 89 5 (ml aV m_3) 0 false),(48008,.cells 89 (k1 e2))]) ?_ ?_
   ·obtain⟨bf,h4,hm⟩:=af hm
    rcases ak hm with⟨c3,hm⟩|⟨c3,hm⟩
    ·obtain⟨bB,h5,hm⟩:=af hm
     rcases ak hm with⟨c4,hm⟩|⟨c4,hm⟩
     ·obtain⟨bD,h6,hm⟩:=af hm
      exact qGs [(4,hro (iZ h4) aae),(6,hto (bE c3)),(11,hro (iZ h5) aae),(14,hto (bE c4)),(21,hro (acf h6) ck87)] [] [(75,.bool (!bD))]<|qX (!bD) hm
     exact qGs [(4,hro (iZ h4) aae),(6,hto (bE c3)),(11,hro (iZ h5) aae),(14,hto (bE c4))] [] [(75,.bool false)]<|qX false hm
    exact qGs [(4,hro (iZ h4) aae),(6,hto (bE c3))] [] [(75,.bool false)]<|qX false hm
   rintro v_1 hm
   rw[hJ3]at hm
   rcases ak hm with⟨c5,hm⟩|⟨c5,hm⟩
   ·refine qT c5 ?_
    obtain⟨l_2,h7,hm⟩:=af hm
    exact qG [(4,hap 48580 (ap aV (bytes:=40) (by decide) h7))] [8,75] [] [48005,704800501,48008] [(48005,.cells 28 [.own 704800500,.own 48580]),(48580,.slice 89 5 (ml aV l_2) 0 false)]<|Exists.intro l_2 (And.intro hm (bx.go [.sw 48580 704800501] [] (by kernel_rfl)))
   exact qF c5<|A.skip<|qX m_3 hm
  rintro m_4 hm
  rw[hJ2]at hm
  exact qGs [(1,hto (inc hx2 hb2))] [7] [(7,i6 ((j2+1:Nat):Int))]<|qX m_4 hm
 rintro j2 m_3 hj2 hl2 hm
 rw[hK2]at hm
 refine A.seq<|qDs [(3,hto (lnE aV t.Links))] [] [(44,.bool (decide ((j2:Int)<(t.Links.length:Int))))] ?_
 refine qF (ltF hl2)<|A.exit<|qD [] [2,3,5,7,44] [] [48002,48003,48004,48005] [(48004,.cells 28 [.own 704800500,.own 704800501])]<|A.ret ?_
 obtain rfl:=some_inj hm
 exact A.fin W0 [.fz [704800500,704800501]] rfl (by kernel_rfl)
theorem abo(hm:oo t ra1=some r):RO prog 88 [] [.agg (k2 t),i6 ra1] (lf aA r):=by
 refine bh func88 rfl rfl ?_
 unfold oo at hm
 refine qS [(0,.al 88002)] [(1,i6 ra1),(2,.ptr 88002 0)] [(88002,.cells 28 (k2 t))]<|qD [(1,.al 88012)] [1] [(5,.own 88012)] [] [(88012,.slice 3 1 (ml aA ([ra1]:List Int)) 0 false)]<|A.seq<|qDs [] [] [(6,i6 0)]<|A.block ?_
 obtain⟨F1,n1,hF1,hm⟩:=jA hm
 refine A.lpW (F:=F1) hm (λ(bp,i_1)=>[(2,.ptr 88002 0),(5,.own 600088005),(6,i6 i_1)]) (λ(bp,i_1)=>[(88002,.cells 28 (k2 t)),(600088005,.slice 3 1 (ml aA bp) 0 false)]) ?_ ?_
 ·exact bx.go [.sw 88012 600088005] [] (by kernel_rfl)
 rintro Z1 ⟨bp,i_1⟩ hm
 rw[hF1]at hm
 refine A.seq<|qDs [(2,hto (lnE aA bp))] [] [(16,.bool (decide (i_1<(bp.length:Int))))] ?_
 rcases ak hm with⟨c1,hm⟩|⟨c1,hm⟩
 ·refine qT c1<|A.skip<|A.seq<|A.block ?_
  obtain⟨e_1,h1,hm⟩:=af hm
  obtain⟨ai,h2,hm⟩:=af hm
  refine qDs [(3,hix (ix aA h1)),(4,hlo 600088005 0 (ix aA h1)),(5,hro (wX h2) aup)] [16] [(7,lf aA ai)]<|qDs [] [] [(8,i6 0)]<|A.block<|A.bS 7 rfl λhb2=>?_
  obtain⟨B2,K2,hB2,hK2,hm⟩:=bu hm
  refine A.lpI (l:=ai) (j0:=0) (B:=B2) (K:=K2) hm (λj2=>λcZ=>[(2,.ptr 88002 0),(5,.own 600088005),(6,i6 i_1),(7,lf aA ai),(8,i6 (j2:Int))]) (λj2=>λcZ=>[(88002,.cells 28 (k2 t)),(600088005,.slice 3 1 (ml aA cZ) 0 false)]) ?_ ?_ ?_
  ·exact qW
  ·rintro j2 e2 Z2 cZ hj2 hx2 hm
   rw[hB2]at hm
   refine A.seq<|qDs [(2,hto (lnE aA ai))] [] [(28,.bool (decide ((j2:Int)<(ai.length:Int))))] ?_
   refine qT (ltT hx2)<|A.skip ?_
   obtain⟨J1,hJ1,hm⟩:=cw hm
   refine A.J (J:=J1) (r:=r) (λwW=>[(2,.ptr 88002 0),(5,.own 600088005),(6,i6 i_1),(7,lf aA ai),(8,i6 (j2:Int))]) (λwW=>[(88002,.cells 28 (k2 t)),(600088005,.slice 3 1 (ml aA wW) 0 false)]) ?_ ?_
   ·refine A.block ?_
    obtain⟨aI,h3,hm⟩:=af hm
    refine qDs [(3,hix (ix aA (bt hx2))),(5,hle [600088005] (iZ h3) aae)] [28] [(37,.bool (!aI))] ?_
    rcases ak hm with⟨c2,hm⟩|⟨c2,hm⟩
    ·refine qT c2 ?_
     obtain⟨l_1,h4,hm⟩:=af hm
     exact qG [(3,hix (ix aA (bt hx2))),(6,hap 88544 (ap aA (bytes:=8) (by decide) h4))] [5,37] [(5,.own 88544)] [600088005] [(88544,.slice 3 1 (ml aA l_1) 0 false)]<|Exists.intro l_1 (And.intro hm (bx.go [.sw 88544 600088005] [] (by kernel_rfl)))
    exact qF c2<|A.skip<|qX cZ hm
   rintro wW hm
   rw[hJ1]at hm
   exact qGs [(1,hto (inc hx2 hb2))] [8] [(8,i6 ((j2+1:Nat):Int))]<|qX wW hm
  rintro j2 cZ hj2 hl2 hm
  rw[hK2]at hm
  refine A.seq<|qDs [(2,hto (lnE aA ai))] [] [(28,.bool (decide ((j2:Int)<(ai.length:Int))))] ?_
  exact qF (ltF hl2)<|A.exit<|qGs [] [6,7,8,28] [(6,i6 (w64 (i_1+1)))]<|qX (cZ,w64 (i_1+1)) hm
 refine qF c1<|A.exit<|qD [] [2,6,16] [(9,.aQ)] [88002] []<|A.seq<|qDs [] [] [(10,i6 0)]<|A.block<|A.bW 5 rfl rfl λhb3=>?_
 obtain⟨B3,K3,hB3,hK3,hm⟩:=bu hm
 refine A.lpI (l:=bp) (j0:=0) (B:=B3) (K:=K3) hm (λj3=>λl_2=>[(5,.own 600088005),(9,lf aA l_2),(10,i6 (j3:Int))]) (λj3=>λl_2=>[(600088005,.slice 3 1 (ml aA bp) 0 false)]) ?_ ?_ ?_
 ·exact bx.go [] [9] (by kernel_rfl)
 ·rintro j3 e3 Z3 l_2 hj3 hx3 hm
  rw[hB3]at hm
  refine A.seq<|qDs [(2,hto (lnE aA bp))] [] [(48,.bool (decide ((j3:Int)<(bp.length:Int))))] ?_
  refine qT (ltT hx3)<|A.skip<|A.seq<|A.block ?_
  obtain⟨bf,h5,hm⟩:=af hm
  exact qGs [(3,hix (ix aA (bt hx3))),(4,hlo 600088005 0 (ix aA (bt hx3))),(5,hro (abn h5) axz)] [9,48] [(9,lf aA bf)]<|qGs [(1,hto (inc hx3 hb3))] [10] [(10,i6 ((j3+1:Nat):Int))]<|Exists.intro bf (And.intro hm (bx.go [] [9] (by kernel_rfl)))
 rintro j3 l_2 hj3 hl3 hm
 rw[hK3]at hm
 refine A.seq<|qDs [(2,hto (lnE aA bp))] [] [(48,.bool (decide ((j3:Int)<(bp.length:Int))))] ?_
 refine qF (ltF hl3)<|A.exit<|qS [] [(4,lf aA l_2)] [] ?_
 cases hm
 exact A.ret qE
theorem yL{r:Bool}(hm:l6 t a b=some r):RO prog 49 [] [.agg (k2 t),i6 a,i6 b] (.bool r):=by
 refine bh func49 rfl rfl ?_
 unfold l6 at hm
 refine qS [(0,.al 49003)] [(1,i6 a),(2,i6 b),(3,.ptr 49003 0)] [(49003,.cells 28 (k2 t))] ?_
 obtain⟨ai,h1,hm⟩:=af hm
 rcases ak hm with⟨c1,hm⟩|⟨c1,hm⟩
 ·obtain⟨aI,h2,hm⟩:=af hm
  rcases ak hm with⟨c2,hm⟩|⟨c2,hm⟩
  ·obtain⟨bf,h3,hm⟩:=af hm
   obtain⟨bB,h4,hm⟩:=af hm
   refine qS [(2,hro (oq h1) af9),(3,hto (bE c1)),(6,hro (oq h2) af9),(8,hto (bE c2)),(11,hro (abo h3) ck88),(13,hro (iZ h4) aae)] [(6,.bool bB)] [] ?_
   cases hm
   exact A.ret qE
  refine qS [(2,hro (oq h1) af9),(3,hto (bE c1)),(6,hro (oq h2) af9),(8,hto (bE c2))] [(6,.bool false)] [] ?_
  cases hm
  exact A.ret qE
 refine qS [(2,hro (oq h1) af9),(3,hto (bE c1))] [(6,.bool false)] [] ?_
 cases hm
 exact A.ret qE
end Go.Proofs.YtdjeacigeegklaaGreat
