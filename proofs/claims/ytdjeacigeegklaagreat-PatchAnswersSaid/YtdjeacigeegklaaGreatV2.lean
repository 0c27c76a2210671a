/- The iD of er of the program. No condition but bO bx stand in each. -/
import Derived.Test.YtdjeacigeegklaaGreatV0
import Derived.Test.YtdjeacigeegklaaGreatV1
namespace Go.Proofs.YtdjeacigeegklaaGreat
open Go Go.Proofs.Tryz
set_option maxRecDepth 100000
set_option linter.all false
variable {ra1:Int}{t:aa}
theorem qx{r:Bool}(hm:kR t ra1=some r):RO prog 75 [] [.agg (k2 t),i6 ra1] (.bool r):=by
 refine bf func75 rfl rfl ?_
 unfold kR at hm
 refine qS [(0,.al 75002)] [(1,i6 ra1),(2,.ptr 75002 0)] [(75002,.cells 28 (k2 t))] ?_
 obtain⟨ai,h1,hm⟩:=af hm
 rcases aq hm with⟨c1,hm⟩|⟨c1,hm⟩
 ·obtain⟨aK,h2,hm⟩:=af hm
  refine qS [(1,hro (gx h1) yN),(3,hto (bE c1)),(6,hro (qw h2) aey)] [(4,.bool aK)] [] ?_
  cases hm
  exact A.ret qE
 refine qS [(1,hro (gx h1) yN),(3,hto (bE c1))] [(4,.bool false)] [] ?_
 cases hm
 exact A.ret qE
theorem acq{cB:Int}{eO:Int}{r:Int×Bool}(hm:mL t cB eO=some r):RO prog 50 [] [.agg (k2 t),i6 cB,i6 eO] (.tup [i6 r.1,.bool r.2]):=by
 refine bf func50 rfl rfl ?_
 unfold mL at hm
 refine qS [(0,.al 50003)] [(1,i6 cB),(2,i6 eO),(3,.ptr 50003 0)] [(50003,.cells 28 (k2 t))]<|A.seq ?_
 obtain⟨ai,h1,hm⟩:=af hm
 refine qDs [(1,hro (gx h1) yN)] [] [(10,.bool (!decide (ai=0)))] ?_
 rcases aq hm with⟨c1,hm⟩|⟨c1,hm⟩
 ·refine qT c1<|qS [] [(6,i6 0),(7,.bool false)] [] ?_
  cases hm
  exact A.ret qE
 refine qF c1<|A.skip ?_
 obtain⟨aK,h2,hm⟩:=af hm
 refine qS [(3,hro (rM h2) akM)] [(6,i6 aK.1),(7,.bool aK.2)] [] ?_
 cases hm
 exact A.ret qE
variable {r:(List Int)}
theorem xe(hm:oy t ra1=some r):RO prog 81 [] [.agg (k2 t),i6 ra1] (lf aA r):=by
 refine bf func81 rfl rfl ?_
 unfold oy at hm
 refine qS [(0,.al 81002)] [(1,i6 ra1),(2,.ptr 81002 0)] [(81002,.cells 28 (k2 t))]<|qDs [] [] [(5,.aM)]<|A.seq<|qDs [] [] [(6,i6 0)]<|A.block<|A.bC 2 0 rfl rfl rfl λhb1=>?_
 obtain⟨B1,K1,hB1,hK1,hm⟩:=aW hm
 refine A.lpI (l:=t.ah) (j0:=0) (B:=B1) (K:=K1) hm (λj1=>λaR=>[(1,i6 ra1),(2,.ptr 81002 0),(5,.own 600081005),(6,i6 (j1:Int))]) (λj1=>λaR=>[(81002,.cells 28 (k2 t)),(600081005,.slice 3 1 (ml aA aR) 0 false)]) ?_ ?_ ?_
 ·exact bt.go [.ad 5 600081005 3 1] [] (by kernel_rfl)
 ·rintro j1 e1 Z1 aR hj1 hx1 hm
  rw[hB1]at hm
  refine A.seq<|qDs [(3,hto (lnE aC t.ah))] [] [(13,.bool (decide ((j1:Int)<(t.ah.length:Int))))] ?_
  refine qT (ltT hx1)<|A.skip ?_
  obtain⟨J1,hJ1,hm⟩:=bG hm
  refine A.J (J:=J1) (r:=r) (λcv=>[(1,i6 ra1),(2,.ptr 81002 0),(5,.own 600081005),(6,i6 (j1:Int))]) (λcv=>[(81002,.cells 28 (k2 t)),(600081005,.slice 3 1 (ml aA cv) 0 false)]) ?_ ?_
  ·refine A.block ?_
   obtain⟨ai,h1,hm⟩:=af hm
   refine qDs [(5,hix (ix aC (aY hx1))),(8,hro (rM h1) akM)] [13] [(8,.bool ai.2)]<|qDs [] [8] [(28,.bool ai.2)] ?_
   rcases aq hm with⟨c1,hm⟩|⟨c1,hm⟩
   ·refine qT c1 ?_
    obtain⟨l_1,h2,hm⟩:=af hm
    exact qG [(4,hix (ix aC (aY hx1))),(8,hap 81537 (ap aA (bytes:=8) (by decide) h2))] [5,28] [(5,.own 81537)] [600081005] [(81537,.slice 3 1 (ml aA l_1) 0 false)]<|Exists.intro l_1 (And.intro hm (bt.go [.sw 81537 600081005] [] (by kernel_rfl)))
   exact qF c1<|A.skip<|qX aR hm
  rintro cv hm
  rw[hJ1]at hm
  exact qGs [(1,hto (inc hx1 hb1))] [6] [(6,i6 ((j1+1:Nat):Int))]<|qX cv hm
 rintro j1 aR hj1 hl1 hm
 rw[hK1]at hm
 refine A.seq<|qDs [(3,hto (lnE aC t.ah))] [] [(13,.bool (decide ((j1:Int)<(t.ah.length:Int))))] ?_
 refine qF (ltF hl1)<|A.exit<|qD [] [1,2,5,6,13] [(4,.own 600081005)] [81002] []<|A.ret ?_
 obtain rfl:=some_inj hm
 exact A.fin W0 [.fz [600081005]] rfl (by kernel_rfl)
theorem oz(hm:gV t ra1=some r):RO prog 43 [] [.agg (k2 t),i6 ra1] (lf aA r):=by
 refine bf func43 rfl rfl ?_
 unfold gV at hm
 refine qS [(0,.al 43002)] [(1,i6 ra1),(2,.ptr 43002 0)] [(43002,.cells 28 (k2 t))]<|A.seq ?_
 obtain⟨ai,h1,hm⟩:=af hm
 refine qDs [(1,hro (gx h1) yN)] [] [(7,.bool (!decide (ai=0)))] ?_
 rcases aq hm with⟨c1,hm⟩|⟨c1,hm⟩
 ·refine qT c1<|qS [] [(4,.aM)] [] ?_
  cases hm
  exact A.ret qE
 refine qF c1<|A.skip ?_
 obtain⟨aK,h2,hm⟩:=af hm
 refine qS [(2,hro (xe h2) atv)] [(4,lf aA aK)] [] ?_
 cases hm
 exact A.ret qE
theorem abH{l:List bU}{a:Int}{b:Int}{r:Bool}(hm:o9 l a b=some r):RO prog 87 [] [lf bM l,i6 a,i6 b] (.bool r):=by
 refine bf func87 rfl rfl ?_
 unfold o9 at hm
 refine qS [] [(0,lf bM l),(1,i6 a),(2,i6 b)] []<|A.seq<|qDs [] [] [(7,i6 0)]<|A.block<|A.bS 0 rfl λhb1=>?_
 obtain⟨B1,K1,hB1,hK1,hm⟩:=aW hm
 refine A.lpI (l:=l) (j0:=0) (B:=B1) (K:=K1) hm (λj1=>λ()=>[(0,lf bM l),(1,i6 a),(2,i6 b),(7,i6 (j1:Int))]) (λj1=>λ()=>[]) ?_ ?_ ?_
 ·exact qW
 ·rintro j1 e1 Z1 ⟨⟩ hj1 hx1 hm
  rw[hB1]at hm
  refine A.seq<|qDs [(2,hto (lnE bM l))] [] [(11,.bool (decide ((j1:Int)<(l.length:Int))))] ?_
  refine qT (ltT hx1)<|A.skip<|A.seq<|A.block<|A.mid [(0,lf bM l),(1,i6 a),(2,i6 b),(7,i6 (j1:Int)),(47,.bool (bif decide (e1.dF=a)then((decide (e1.To=b))||((decide (e1.dF=b))&&(decide (e1.To=a))))else((decide (e1.dF=b))&&(decide (e1.To=a)))))] [] (λhk=>?_) ?_
  ·rcases tf (decide (e1.dF=a))with c1|c1
   ·rcases tf (decide (e1.To=b))with c2|c2
    ·exact qS [(2,hix (ix bM (aY hx1))),(7,hto (bE c1)),(10,hix (ix bM (aY hx1))),(16,hto (bE c2)),(33,hto ((orT (q:=((decide (e1.dF=b))&&(decide (e1.To=a)))) c2).trans (ifT (x:=((decide (e1.To=b))||((decide (e1.dF=b))&&(decide (e1.To=a))))) (y:=((decide (e1.dF=b))&&(decide (e1.To=a)))) c1)))] _ _ hk
    rcases tf (decide (e1.dF=b))with c3|c3
    ·exact qS [(2,hix (ix bM (aY hx1))),(7,hto (bE c1)),(10,hix (ix bM (aY hx1))),(16,hto (bE c2)),(19,hix (ix bM (aY hx1))),(24,hto (bE c3)),(27,hix (ix bM (aY hx1))),(33,hto (((nc (q:=decide (e1.To=a)) c3).trans (orF (q:=((decide (e1.dF=b))&&(decide (e1.To=a)))) c2)).trans (ifT (x:=((decide (e1.To=b))||((decide (e1.dF=b))&&(decide (e1.To=a))))) (y:=((decide (e1.dF=b))&&(decide (e1.To=a)))) c1)))] _ _ hk
    exact qS [(2,hix (ix bM (aY hx1))),(7,hto (bE c1)),(10,hix (ix bM (aY hx1))),(16,hto (bE c2)),(19,hix (ix bM (aY hx1))),(24,hto (bE c3)),(33,hto (((ov (q:=decide (e1.To=a)) c3).trans (orF (q:=((decide (e1.dF=b))&&(decide (e1.To=a)))) c2)).trans (ifT (x:=((decide (e1.To=b))||((decide (e1.dF=b))&&(decide (e1.To=a))))) (y:=((decide (e1.dF=b))&&(decide (e1.To=a)))) c1)))] _ _ hk
   rcases tf (decide (e1.dF=b))with c4|c4
   ·exact qS [(2,hix (ix bM (aY hx1))),(7,hto (bE c1)),(19,hix (ix bM (aY hx1))),(24,hto (bE c4)),(27,hix (ix bM (aY hx1))),(33,hto ((nc (q:=decide (e1.To=a)) c4).trans (ifF (x:=((decide (e1.To=b))||((decide (e1.dF=b))&&(decide (e1.To=a))))) (y:=((decide (e1.dF=b))&&(decide (e1.To=a)))) c1)))] _ _ hk
   exact qS [(2,hix (ix bM (aY hx1))),(7,hto (bE c1)),(19,hix (ix bM (aY hx1))),(24,hto (bE c4)),(33,hto ((ov (q:=decide (e1.To=a)) c4).trans (ifF (x:=((decide (e1.To=b))||((decide (e1.dF=b))&&(decide (e1.To=a))))) (y:=((decide (e1.dF=b))&&(decide (e1.To=a)))) c1)))] _ _ hk
  rcases aq hm with⟨c5,hm⟩|⟨c5,hm⟩
  ·refine qT c5<|qS [] [(6,.bool true)] [] ?_
   cases hm
   exact A.ret qE
  exact qF c5<|A.skip<|qGs [(1,hto (inc hx1 hb1))] [7,47] [(7,i6 ((j1+1:Nat):Int))]<|qX () hm
 rintro j1 ⟨⟩ hj1 hl1 hm
 rw[hK1]at hm
 refine A.seq<|qDs [(2,hto (lnE bM l))] [] [(11,.bool (decide ((j1:Int)<(l.length:Int))))] ?_
 refine qF (ltF hl1)<|A.exit<|qS [] [(6,.bool false)] [] ?_
 cases hm
 exact A.ret qE
theorem qf{f:aO}{r:aa}(hm:jD t f=some r):RO prog 48 [] [.agg (k2 t),.agg (k4 f)] (.agg (k2 r)):=by
 refine bf func48 rfl rfl ?_
 unfold jD at hm
 refine qS [(0,.al 48002),(1,.al 48003),(2,.al 48004)] [(2,.ptr 48002 0),(3,.ptr 48003 0),(4,.ptr 48004 0)] [(48002,.cells 28 (k2 t)),(48003,.cells 100 (k4 f)),(48004,.cells 28 [.aM,.aM])]<|A.seq ?_
 obtain⟨ai,h1,hm⟩:=af hm
 refine qDs [(1,hro (gx h1) yN)] [] [(11,.bool (!decide (ai=0)))] ?_
 rcases aq hm with⟨c1,hm⟩|⟨c1,hm⟩
 ·refine qT c1<|qD [] [2,3,11] [] [48002,48003] [] ?_
  cases hm
  exact A.ret qE
 refine qF c1<|A.skip<|qD [(0,.al 48005)] [11] [(5,.ptr 48005 0)] [] [(48005,.cells 28 [.aM,.aM])]<|A.seq<|qDs [] [] [(6,i6 0)]<|A.block<|A.bC 2 0 rfl rfl rfl λhb1=>?_
 obtain⟨B1,K1,hB1,hK1,hm⟩:=aW hm
 refine A.lpI (l:=t.ah) (j0:=0) (B:=B1) (K:=K1) hm (λj1=>λm_1=>[(2,.ptr 48002 0),(3,.ptr 48003 0),(4,.ptr 48004 0),(5,.ptr 48005 0),(6,i6 (j1:Int))]) (λj1=>λm_1=>[(48002,.cells 28 (k2 t)),(48003,.cells 100 (k4 f)),(48004,.cells 28 [.aM,.aM]),(48005,.cells 28 [.own 704800500,.aM]),(704800500,.slice 42 2 (ml aC m_1) 0 false)]) ?_ ?_ ?_
 ·exact bt.go [.ac 48005 704800500 42 2 0] [] (by kernel_rfl)
 ·rintro j1 e1 Z1 m_1 hj1 hx1 hm
  rw[hB1]at hm
  refine A.seq<|qDs [(3,hto (lnE aC t.ah))] [] [(17,.bool (decide ((j1:Int)<(t.ah.length:Int))))] ?_
  refine qT (ltT hx1)<|A.skip ?_
  obtain⟨J1,hJ1,hm⟩:=bG hm
  refine A.J (J:=J1) (r:=r) (λm_2=>[(2,.ptr 48002 0),(3,.ptr 48003 0),(4,.ptr 48004 0),(5,.ptr 48005 0),(6,i6 (j1:Int))]) (λm_2=>[(48002,.cells 28 (k2 t)),(48003,.cells 100 (k4 f)),(48004,.cells 28 [.aM,.aM]),(48005,.cells 28 [.own 704800500,.aM]),(704800500,.slice 42 2 (ml aC m_2) 0 false)]) ?_ ?_
  ·refine A.block ?_
   obtain⟨aK,h2,hm⟩:=af hm
   refine qDs [(5,hix (ix aC (aY hx1))),(8,hro (mB h2) adl)] [17] [(29,.bool (!aK))] ?_
   rcases aq hm with⟨c2,hm⟩|⟨c2,hm⟩
   ·refine qT c2 ?_
    obtain⟨l_1,h3,hm⟩:=af hm
    exact qG [(5,hix (ix aC (aY hx1))),(8,hap 48538 (ap aC (bytes:=16) (by decide) h3))] [29] [] [48005,704800500] [(48005,.cells 28 [.own 48538,.aM]),(48538,.slice 42 2 (ml aC l_1) 0 false)]<|Exists.intro l_1 (And.intro hm (bt.go [.sw 48538 704800500] [] (by kernel_rfl)))
   exact qF c2<|A.skip<|qX m_1 hm
  rintro m_2 hm
  rw[hJ1]at hm
  exact qGs [(1,hto (inc hx1 hb1))] [6] [(6,i6 ((j1+1:Nat):Int))]<|qX m_2 hm
 rintro j1 m_1 hj1 hl1 hm
 rw[hK1]at hm
 refine A.seq<|qDs [(3,hto (lnE aC t.ah))] [] [(17,.bool (decide ((j1:Int)<(t.ah.length:Int))))] ?_
 refine qF (ltF hl1)<|A.exit<|A.seq<|qDs [] [6,17] [(7,i6 0)]<|A.block<|A.bC 2 1 rfl rfl rfl λhb2=>?_
 obtain⟨B2,K2,hB2,hK2,hm⟩:=aW hm
 refine A.lpI (l:=t.Links) (j0:=0) (B:=B2) (K:=K2) hm (λj2=>λm_3=>[(2,.ptr 48002 0),(3,.ptr 48003 0),(4,.ptr 48004 0),(5,.ptr 48005 0),(7,i6 (j2:Int))]) (λj2=>λm_3=>[(48002,.cells 28 (k2 t)),(48003,.cells 100 (k4 f)),(48004,.cells 28 [.aM,.aM]),(48005,.cells 28 [.own 704800500,.own 704800501]),(704800500,.slice 42 2 (ml aC m_1) 0 false),(704800501,.slice 89 5 (ml aS m_3) 0 false)]) ?_ ?_ ?_
 ·exact bt.go [.ac 48005 704800501 89 5 1] [] (by kernel_rfl)
 ·rintro j2 e2 Z2 m_3 hj2 hx2 hm
  rw[hB2]at hm
  refine A.seq<|qDs [(3,hto (lnE aS t.Links))] [] [(44,.bool (decide ((j2:Int)<(t.Links.length:Int))))] ?_
  refine qT (ltT hx2)<|A.skip ?_
  obtain⟨J2,hJ2,hm⟩:=bG hm
  refine A.J (J:=J2) (r:=r) (λm_4=>[(2,.ptr 48002 0),(3,.ptr 48003 0),(4,.ptr 48004 0),(5,.ptr 48005 0),(7,i6 (j2:Int))]) (λm_4=>[(48002,.cells 28 (k2 t)),(48003,.cells 100 (k4 f)),(48004,.cells 28 [.aM,.aM]),(48005,.cells 28 [.own 704800500,.own 704800501]),(704800500,.slice 42 2 (ml aC m_1) 0 false),(704800501,.slice 89 5 (ml aS m_4) 0 false)]) ?_ ?_
  ·refine A.block<|qD [(3,hix (ix aS (aY hx2))),(5,.al 48008)] [44] [(8,.ptr 48008 0)] [] [(48008,.cells 89 (k1 e2))] ?_
   obtain⟨J3,hJ3,hm⟩:=bG hm
   refine A.J (J:=J3) (r:=r) (λv_1=>[(2,.ptr 48002 0),(3,.ptr 48003 0),(4,.ptr 48004 0),(5,.ptr 48005 0),(7,i6 (j2:Int)),(8,.ptr 48008 0),(75,.bool v_1)]) (λv_1=>[(48002,.cells 28 (k2 t)),(48003,.cells 100 (k4 f)),(48004,.cells 28 [.aM,.aM]),(48005,.cells 28 [.own 704800500,.own 704800501]),(704800500,.slice 42 2 (ml aC m_1) 0 false),(704800501,.slice 89 5 (ml aS m_3) 0 false),(48008,.cells 89 (k1 e2))]) ?_ ?_
   ·obtain⟨aV,h4,hm⟩:=af hm
    rcases aq hm with⟨c3,hm⟩|⟨c3,hm⟩
    ·obtain⟨bq,h5,hm⟩:=af hm
     rcases aq hm with⟨c4,hm⟩|⟨c4,hm⟩
     ·obtain⟨aT,h6,hm⟩:=af hm
      exact qGs [(4,hro (mB h4) adl),(6,hto (bE c3)),(11,hro (mB h5) adl),(14,hto (bE c4)),(21,hro (abH h6) ck87)] [] [(75,.bool (!aT))]<|qX (!aT) hm
     exact qGs [(4,hro (mB h4) adl),(6,hto (bE c3)),(11,hro (mB h5) adl),(14,hto (bE c4))] [] [(75,.bool false)]<|qX false hm
    exact qGs [(4,hro (mB h4) adl),(6,hto (bE c3))] [] [(75,.bool false)]<|qX false hm
   rintro v_1 hm
   rw[hJ3]at hm
   rcases aq hm with⟨c5,hm⟩|⟨c5,hm⟩
   ·refine qT c5 ?_
    obtain⟨l_2,h7,hm⟩:=af hm
    exact qG [(4,hap 48580 (ap aS (bytes:=40) (by decide) h7))] [8,75] [] [48005,704800501,48008] [(48005,.cells 28 [.own 704800500,.own 48580]),(48580,.slice 89 5 (ml aS l_2) 0 false)]<|Exists.intro l_2 (And.intro hm (bt.go [.sw 48580 704800501] [] (by kernel_rfl)))
   exact qF c5<|A.skip<|qX m_3 hm
  rintro m_4 hm
  rw[hJ2]at hm
  exact qGs [(1,hto (inc hx2 hb2))] [7] [(7,i6 ((j2+1:Nat):Int))]<|qX m_4 hm
 rintro j2 m_3 hj2 hl2 hm
 rw[hK2]at hm
 refine A.seq<|qDs [(3,hto (lnE aS t.Links))] [] [(44,.bool (decide ((j2:Int)<(t.Links.length:Int))))] ?_
 refine qF (ltF hl2)<|A.exit<|qD [] [2,3,5,7,44] [] [48002,48003,48004,48005] [(48004,.cells 28 [.own 704800500,.own 704800501])]<|A.ret ?_
 obtain rfl:=some_inj hm
 exact A.fin W0 [.fz [704800500,704800501]] rfl (by kernel_rfl)
end Go.Proofs.YtdjeacigeegklaaGreat
