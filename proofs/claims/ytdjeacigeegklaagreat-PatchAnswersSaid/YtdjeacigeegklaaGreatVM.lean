/- The iD of er of the program. No condition but bO bx stand in each. -/
import Derived.Test.YtdjeacigeegklaaGreatVH
import Derived.Test.YtdjeacigeegklaaGreatVN
import Derived.Test.YtdjeacigeegklaaGreatVE
namespace Go.Proofs.YtdjeacigeegklaaGreat
open Go Go.Proofs.Tryz
set_option maxRecDepth 100000
set_option linter.all false
theorem ve{r:aa}(hm:mE=some r):RO prog 61 [] [] (.agg (k2 r)):=by
 refine bf func61 rfl rfl ?_
 unfold mE at hm
 refine qS [(0,.al 61000)] [(0,.ptr 61000 0)] [(61000,.cells 28 [.aM,.aM])]<|qD [(0,.al 61001)] [] [(1,.ptr 61001 0)] [] [(61001,.cells 28 [.aM,.aM])]<|A.seq<|qDs [] [] [(2,i6 1)]<|A.block ?_
 obtain⟨B1,K1,hB1,hK1,hm⟩:=oP hm
 refine A.lpN (hi:=(5:Int)) (B:=B1) (K:=K1) hm rfl (λj1=>λm_1=>[(0,.ptr 61000 0),(1,.ptr 61001 0),(2,i6 (j1:Int))]) (λj1=>λm_1=>[(61000,.cells 28 [.aM,.aM]),(61001,.cells 28 [.own 706100100,.aM]),(706100100,.slice 42 2 (ml aC m_1) 0 false)]) ?_ ?_ ?_
 ·exact bt.go [.ac 61001 706100100 42 2 0] [] (by kernel_rfl)
 ·rintro j1 Z1 m_1 hj1 hx1 hm
  rw[hB1]at hm
  refine A.seq<|qDs [] [] [(6,.bool (decide ((j1:Int)≤(4:Int))))] ?_
  refine A.cT rfl (leT hx1)<|A.skip<|A.seq<|A.block ?_
  obtain⟨l_1,h1,hm⟩:=af hm
  exact qG [(5,hap 61514 (ap aC (bytes:=16) (by decide) h1))] [6] [] [61001,706100100] [(61001,.cells 28 [.own 61514,.aM]),(61514,.slice 42 2 (ml aC l_1) 0 false)]<|qGs [(1,hto (zJ (by omega) hx1 (by decide)))] [2] [(2,i6 (j1+1:Int))]<|Exists.intro l_1 (And.intro hm (bt.go [.sw 61514 706100100] [] (by kernel_rfl)))
 rintro j1 m_1 hj1 hl1 hm
 rw[hK1]at hm
 refine A.seq<|qDs [] [] [(6,.bool (decide ((j1:Int)≤(4:Int))))] ?_
 refine A.cF rfl (gtF hl1)<|A.exit<|A.seq<|qDs [(0,hba (ahu (n:=2) aaz underlying177 sizeOf3)),(1,hba (ahu (n:=2) aaz underlying177 sizeOf3)),(2,hba (ahu (n:=2) aaz underlying177 sizeOf3)),(3,hba (ahu (n:=2) aaz underlying177 sizeOf3)),(5,hto (lnE vm ([(ct.mk (1:Int) (2:Int)),(ct.mk (1:Int) (4:Int)),(ct.mk (2:Int) (3:Int)),(ct.mk (3:Int) (4:Int))]:List ct)))] [2,6] [(20,.lst true (ml vm ([(ct.mk (1:Int) (2:Int)),(ct.mk (1:Int) (4:Int)),(ct.mk (2:Int) (3:Int)),(ct.mk (3:Int) (4:Int))]:List ct))),(21,i6 (([(ct.mk (1:Int) (2:Int)),(ct.mk (1:Int) (4:Int)),(ct.mk (2:Int) (3:Int)),(ct.mk (3:Int) (4:Int))]:List ct).length:Int)),(22,i6 0)]<|A.block<|A.bS 20 rfl λhb2=>?_
 obtain⟨B2,K2,hB2,hK2,hm⟩:=aW hm
 refine A.lpI (l:=([(ct.mk (1:Int) (2:Int)),(ct.mk (1:Int) (4:Int)),(ct.mk (2:Int) (3:Int)),(ct.mk (3:Int) (4:Int))]:List ct)) (j0:=0) (B:=B2) (K:=K2) hm (λj2=>λm_2=>[(0,.ptr 61000 0),(1,.ptr 61001 0),(20,.lst true (ml vm ([(ct.mk (1:Int) (2:Int)),(ct.mk (1:Int) (4:Int)),(ct.mk (2:Int) (3:Int)),(ct.mk (3:Int) (4:Int))]:List ct))),(21,i6 (([(ct.mk (1:Int) (2:Int)),(ct.mk (1:Int) (4:Int)),(ct.mk (2:Int) (3:Int)),(ct.mk (3:Int) (4:Int))]:List ct).length:Int)),(22,i6 (j2:Int))]) (λj2=>λm_2=>[(61000,.cells 28 [.aM,.aM]),(61001,.cells 28 [.own 706100100,.own 706100101]),(706100100,.slice 42 2 (ml aC m_1) 0 false),(706100101,.slice 89 5 (ml aS m_2) 0 false)]) ?_ ?_ ?_
 ·exact bt.go [.ac 61001 706100101 89 5 1] [] (by kernel_rfl)
 ·rintro j2 e2 Z2 m_2 hj2 hx2 hm
  rw[hB2]at hm
  refine qDs [] [] [(23,.bool (decide ((j2:Int)<(([(ct.mk (1:Int) (2:Int)),(ct.mk (1:Int) (4:Int)),(ct.mk (2:Int) (3:Int)),(ct.mk (3:Int) (4:Int))]:List ct).length:Int))))]<|A.seq<|qT (ltT hx2)<|A.skip<|A.seq<|A.block<|qD [(0,hix (ix vm (aY hx2))),(2,.al 61004)] [23] [(4,.ptr 61004 0)] [] [(61004,.cells 177 [i6 e2.E0,i6 e2.E1])] ?_
  obtain⟨l_2,h2,hm⟩:=af hm
  exact qG [(2,hia underlying177 sizeOf3),(4,hia underlying177 sizeOf3),(8,hap 61534 (ap aS (bytes:=40) (by decide) h2))] [4] [] [61001,706100101,61004] [(61001,.cells 28 [.own 706100100,.own 61534]),(61534,.slice 89 5 (ml aS l_2) 0 false)]<|qGs [(0,hto (inc hx2 hb2))] [22] [(22,i6 ((j2+1:Nat):Int))]<|Exists.intro l_2 (And.intro hm (bt.go [.sw 61534 706100101] [] (by kernel_rfl)))
 rintro j2 m_2 hj2 hl2 hm
 rw[hK2]at hm
 refine qDs [] [] [(23,.bool (decide ((j2:Int)<(([(ct.mk (1:Int) (2:Int)),(ct.mk (1:Int) (4:Int)),(ct.mk (2:Int) (3:Int)),(ct.mk (3:Int) (4:Int))]:List ct).length:Int))))]<|A.seq<|qF (ltF hl2)<|A.exit<|qD [] [1,20,21,22,23] [] [61000,61001] [(61000,.cells 28 [.own 706100100,.own 706100101])]<|A.ret ?_
 obtain rfl:=some_inj hm
 exact A.fin W0 [.fz [706100100,706100101]] rfl (by kernel_rfl)
theorem wG{r:Bool}(hm:lV=some r):RO prog 18 [] [] (.bool r):=by
 refine bf func18 rfl rfl ?_
 unfold lV at hm
 refine qS [] [] [] ?_
 obtain⟨ai,h1,hm⟩:=af hm
 obtain⟨aK,h2,hm⟩:=af hm
 refine qS [(0,hro (ve h1) atr),(1,hro (xm h2) atl),(5,.al 18001)] [(1,.ptr 18001 0)] [(18001,.cells 32 (k7 aK.1))] ?_
 obtain⟨aV,h3,hm⟩:=af hm
 refine qDs [(6,hro (acs h3) ck62)] [] [(3,.int .u64 aV.1)] ?_
 obtain⟨bq,h4,hm⟩:=af hm
 obtain⟨aT,h5,hm⟩:=af hm
 refine qS [(1,hro (ve h4) atr),(5,hro (ql h5) akG),(9,.al 18005)] [(5,.ptr 18005 0),(6,i6 aT.2)] [(18005,.cells 46 (k12 aT.1))] ?_
 rcases aq hm with⟨c1,hm⟩|⟨c1,hm⟩
 ·rcases aq hm with⟨c2,hm⟩|⟨c2,hm⟩
  ·obtain⟨e_1,h6,hm⟩:=af hm
   rcases aq hm with⟨c3,hm⟩|⟨c3,hm⟩
   ·obtain⟨cu,h7,hm⟩:=af hm
    rcases aq hm with⟨c4,hm⟩|⟨c4,hm⟩
    ·obtain⟨e_2,h8,hm⟩:=af hm
     obtain⟨bA,h9,hm⟩:=af hm
     rcases aq hm with⟨c5,hm⟩|⟨c5,hm⟩
     ·refine qS [(2,hto (bE c1)),(5,hto (lnE bP aT.1.bz)),(8,hto (bE c2)),(11,hix (ix bP h6)),(16,hto (bE c3)),(19,hix (ix bP h6)),(24,hro (je h7) afe),(26,hto (bE c4)),(29,hix (ix bP h8)),(34,hro (je h9) afe),(36,hto (bE c5))] [(0,.bool (decide (aT.1.gw=0)))] [] ?_
      cases hm
      exact A.ret qE
     refine qS [(2,hto (bE c1)),(5,hto (lnE bP aT.1.bz)),(8,hto (bE c2)),(11,hix (ix bP h6)),(16,hto (bE c3)),(19,hix (ix bP h6)),(24,hro (je h7) afe),(26,hto (bE c4)),(29,hix (ix bP h8)),(34,hro (je h9) afe),(36,hto (bE c5))] [(0,.bool false)] [] ?_
     cases hm
     exact A.ret qE
    refine qS [(2,hto (bE c1)),(5,hto (lnE bP aT.1.bz)),(8,hto (bE c2)),(11,hix (ix bP h6)),(16,hto (bE c3)),(19,hix (ix bP h6)),(24,hro (je h7) afe),(26,hto (bE c4))] [(0,.bool false)] [] ?_
    cases hm
    exact A.ret qE
   refine qS [(2,hto (bE c1)),(5,hto (lnE bP aT.1.bz)),(8,hto (bE c2)),(11,hix (ix bP h6)),(16,hto (bE c3))] [(0,.bool false)] [] ?_
   cases hm
   exact A.ret qE
  refine qS [(2,hto (bE c1)),(5,hto (lnE bP aT.1.bz)),(8,hto (bE c2))] [(0,.bool false)] [] ?_
  cases hm
  exact A.ret qE
 refine qS [(2,hto (bE c1))] [(0,.bool false)] [] ?_
 cases hm
 exact A.ret qE
variable {p:aa}{sa0:aX}
theorem qn{r:aO×aX}(hm:jI sa0 p=some r):dG prog 40 [(900000115,.cells 115 (k6 sa0))] [.ptr 900000115 0,.agg (k2 p)] (λa σ'=>a=.agg [.own 500004000,.own 500004001]∧σ'=[(900000115,.cells 115 (k6 r.2)),(500004000,.slice 67 2 (ml bM r.1.Links) 0 false),(500004001,.slice 3 1 (ml aA r.1.ah) 0 false)]):=by
 refine bf func40 rfl rfl ?_
 unfold jI at hm
 refine qS [(0,.al 40003),(1,.al 40004)] [(0,.ptr 900000115 0),(3,.ptr 40003 0),(4,.ptr 40004 0)] [(900000115,.cells 115 (k6 sa0)),(40003,.cells 28 (k2 p)),(40004,.cells 100 [.aM,.aM])]<|A.seq ?_
 obtain⟨J1,hJ1,hm⟩:=bG hm
 refine A.J (J:=J1) (r:=r) (λ(v_1,m_1,m_2)=>[(0,.ptr 900000115 0),(3,.ptr 40003 0),(4,.ptr 40004 0),(14,.bool v_1)]) (λ(v_1,m_1,m_2)=>[(900000115,.cells 115 [lf aA m_1,i6 m_2]),(40003,.cells 28 (k2 p)),(40004,.cells 100 [.aM,.aM])]) ?_ ?_
 ·rcases aq hm with⟨c1,hm⟩|⟨c1,hm⟩
  ·obtain⟨ai,h1,hm⟩:=af hm
   exact qG [(2,hto (lnE aS p.Links)),(4,hto (bE c1)),(6,hdc [] (bL h1) me)] [] [(14,.bool (decide (ai.1=0)))] [900000115] [(900000115,.cells 115 (k6 ai.2))]<|qX (decide (ai.1=0),ai.2.L,ai.2.At) hm
  exact qGs [(2,hto (lnE aS p.Links)),(4,hto (bE c1))] [] [(14,.bool false)]<|qX (false,sa0.L,sa0.At) hm
 rintro⟨v_1,m_1,m_2⟩ hm
 rw[hJ1]at hm
 rcases aq hm with⟨c2,hm⟩|⟨c2,hm⟩
 ·refine qT c2 ?_
  obtain⟨aK,h2,hm⟩:=af hm
  obtain⟨e_1,h3,hm⟩:=af hm
  refine qD [(5,hto (lnE aS p.Links)),(6,hdc [] (bL h2) me),(7,hix (ix aS h3)),(9,.al 40005)] [3,14] [(5,.ptr 40005 0)] [900000115,40003] [(900000115,.cells 115 (k6 aK.2)),(40005,.cells 89 (k1 e_1))]<|A.seq ?_
  obtain⟨aV,h4,hm⟩:=af hm
  refine qD [(1,hdc [] (bL h4) me)] [0] [(26,.bool (decide (aV.1=0)))] [900000115] [(900000115,.cells 115 (k6 aV.2))] ?_
  rcases aq hm with⟨c3,hm⟩|⟨c3,hm⟩
  ·refine qT c3<|qD [(5,.al 40032)] [5,26] [] [40004,40005] [(40004,.cells 100 [.own 40032,.aM]),(40032,.slice 67 2 (ml bM ([(bU.mk e_1.A e_1.B)]:List bU)) 0 false)]<|A.ret ?_
   obtain rfl:=some_inj hm
   exact A.fin W0 [.sw 40032 500004000,.ac 40004 500004001 3 1 1] rfl (by kernel_rfl)
  refine qF c3<|A.skip<|qD [(5,.al 40039)] [5,26] [] [40004,40005] [(40004,.cells 100 [.own 40039,.aM]),(40039,.slice 67 2 (ml bM ([(bU.mk e_1.B e_1.A)]:List bU)) 0 false)]<|A.ret ?_
  obtain rfl:=some_inj hm
  exact A.fin W0 [.sw 40039 500004000,.ac 40004 500004001 3 1 1] rfl (by kernel_rfl)
 refine qF c2<|A.skip ?_
 obtain⟨bq,h5,hm⟩:=af hm
 obtain⟨e_2,h6,hm⟩:=af hm
 refine qS [(5,hto (lnE aC p.ah)),(6,hdc [] (bL h5) me),(7,hix (ix aC h6)),(10,.al 40051)] [(4,.ptr 40004 0)] [(900000115,.cells 115 (k6 bq.2)),(40004,.cells 100 [.aM,.own 40051]),(40051,.slice 3 1 (ml aA ([e_2.ID]:List Int)) 0 false)]<|A.ret ?_
 obtain rfl:=some_inj hm
 exact A.fin W0 [.sw 40051 500004001,.ac 40004 500004000 67 2 0] rfl (by kernel_rfl)
theorem abL{r:aF×aX}(hm:pE sa0 p=some r):dG prog 11 [(900000115,.cells 115 (k6 sa0))] [.ptr 900000115 0,.agg (k2 p)] (λa σ'=>a=.agg (k7 r.1)∧σ'=[(900000115,.cells 115 (k6 r.2))]):=by
 refine bf func11 rfl rfl ?_
 unfold pE at hm
 refine qS [(0,.al 11003),(1,.al 11004)] [(0,.ptr 900000115 0),(3,.ptr 11003 0),(4,.ptr 11004 0)] [(900000115,.cells 115 (k6 sa0)),(11003,.cells 28 (k2 p)),(11004,.cells 32 [i6 0,.aM])] ?_
 obtain⟨ai,h1,hm⟩:=af hm
 refine qD [(2,hdc [] (xo h1) atn),(3,.al 11005)] [0,3] [(5,.ptr 11005 0)] [900000115,11003] [(900000115,.cells 115 (k6 ai.2)),(11005,.cells 32 (k7 ai.1))]<|qD [(3,.al 11006)] [] [(6,.ptr 11006 0)] [] [(11006,.cells 32 [i6 ai.1.Length,.aM])]<|A.seq<|qD [(2,hto (lnE ak ai.1.List))] [5] [(16,lf ak ai.1.List),(17,i6 (ai.1.List.length:Int)),(18,i6 0)] [11005] []<|A.block<|A.bS 16 rfl λhb1=>?_
 obtain⟨B1,K1,hB1,hK1,hm⟩:=aW hm
 refine A.lpI (l:=ai.1.List) (j0:=0) (B:=B1) (K:=K1) hm (λj1=>λm_1=>[(4,.ptr 11004 0),(6,.ptr 11006 0),(16,lf ak ai.1.List),(17,i6 (ai.1.List.length:Int)),(18,i6 (j1:Int))]) (λj1=>λm_1=>[(900000115,.cells 115 (k6 ai.2)),(11004,.cells 32 [i6 0,.aM]),(11006,.cells 32 [i6 ai.1.Length,.own 701100601]),(701100601,.slice 38 4 (ml ak m_1) 0 false)]) ?_ ?_ ?_
 ·exact bt.go [.ac 11006 701100601 38 4 1] [] (by kernel_rfl)
 ·rintro j1 e1 Z1 m_1 hj1 hx1 hm
  rw[hB1]at hm
  refine qDs [] [] [(19,.bool (decide ((j1:Int)<(ai.1.List.length:Int))))]<|A.seq<|qT (ltT hx1)<|A.skip ?_
  obtain⟨J1,hJ1,hm⟩:=bG hm
  refine A.J (J:=J1) (r:=r) (λm_2=>[(4,.ptr 11004 0),(6,.ptr 11006 0),(16,lf ak ai.1.List),(17,i6 (ai.1.List.length:Int)),(18,i6 (j1:Int))]) (λm_2=>[(900000115,.cells 115 (k6 ai.2)),(11004,.cells 32 [i6 0,.aM]),(11006,.cells 32 [i6 ai.1.Length,.own 701100601]),(701100601,.slice 38 4 (ml ak m_2) 0 false)]) ?_ ?_
  ·refine A.block<|qD [(0,hix (ix ak (aY hx1))),(2,.al 11008)] [19] [(8,.ptr 11008 0)] [] [(11008,.cells 38 (k5 e1))] ?_
   refine qDs [] [] [(24,.bool (!decide (e1.Kind=2)))] ?_
   rcases aq hm with⟨c1,hm⟩|⟨c1,hm⟩
   ·refine qT c1 ?_
    obtain⟨l_1,h2,hm⟩:=af hm
    exact qG [(4,hap 11529 (ap ak (bytes:=32) (by decide) h2))] [8,24] [] [11006,701100601,11008] [(11006,.cells 32 [i6 ai.1.Length,.own 11529]),(11529,.slice 38 4 (ml ak l_1) 0 false)]<|Exists.intro l_1 (And.intro hm (bt.go [.sw 11529 701100601] [] (by kernel_rfl)))
   exact qF c1<|A.skip<|qX m_1 hm
  rintro m_2 hm
  rw[hJ1]at hm
  exact qGs [(0,hto (inc hx1 hb1))] [18] [(18,i6 ((j1+1:Nat):Int))]<|qX m_2 hm
 rintro j1 m_1 hj1 hl1 hm
 rw[hK1]at hm
 refine qDs [] [] [(19,.bool (decide ((j1:Int)<(ai.1.List.length:Int))))]<|A.seq<|qF (ltF hl1)<|A.exit<|qD [] [6,16,17,18,19] [] [11004,11006] [(11004,.cells 32 [i6 ai.1.Length,.own 701100601])]<|A.ret ?_
 obtain rfl:=some_inj hm
 exact A.fin W0 [.fz [701100601]] rfl (by kernel_rfl)
end Go.Proofs.YtdjeacigeegklaaGreat
