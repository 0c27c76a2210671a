/- The iJ of ee of the program. No condition but bJ aY stand in each. -/
import Derived.Test.YtdjeacigeegklaaGreatVH
import Derived.Test.YtdjeacigeegklaaGreatVN
import Derived.Test.YtdjeacigeegklaaGreatVE
namespace Go.Proofs.YtdjeacigeegklaaGreat
open Go Go.Proofs.Tryz
set_option maxRecDepth 100000
set_option linter.all false
theorem uP{r:aa}(hm:mD=some r):RO prog 61 [] [] (.agg (k2 r)):=by
 refine bh func61 rfl rfl ?_
 unfold mD at hm
 refine qS [(0,.al 61000)] [(0,.ptr 61000 0)] [(61000,.cells 28 [.aQ,.aQ])]<|qD [(0,.al 61001)] [] [(1,.ptr 61001 0)] [] [(61001,.cells 28 [.aQ,.aQ])]<|A.seq<|qDs [] [] [(2,i6 1)]<|A.block ?_
 obtain⟨B1,K1,hB1,hK1,hm⟩:=pR hm
 refine A.lpN (hi:=(5:Int)) (B:=B1) (K:=K1) hm rfl (λj1=>λm_1=>[(0,.ptr 61000 0),(1,.ptr 61001 0),(2,i6 (j1:Int))]) (λj1=>λm_1=>[(61000,.cells 28 [.aQ,.aQ]),(61001,.cells 28 [.own 706100100,.aQ]),(706100100,.slice 42 2 (ml aJ m_1) 0 false)]) ?_ ?_ ?_
 ·exact bx.go [.ac 61001 706100100 42 2 0] [] (by kernel_rfl)
 ·rintro j1 Z1 m_1 hj1 hx1 hm
  rw[hB1]at hm
  refine A.seq<|qDs [] [] [(6,.bool (decide ((j1:Int)≤(4:Int))))] ?_
  refine A.cT rfl (leT hx1)<|A.skip<|A.seq<|A.block ?_
  obtain⟨l_1,h1,hm⟩:=af hm
  exact qG [(5,hap 61514 (ap aJ (bytes:=16) (by decide) h1))] [6] [] [61001,706100100] [(61001,.cells 28 [.own 61514,.aQ]),(61514,.slice 42 2 (ml aJ l_1) 0 false)]<|qGs [(1,hto (abX (by omega) hx1 (by decide)))] [2] [(2,i6 (j1+1:Int))]<|Exists.intro l_1 (And.intro hm (bx.go [.sw 61514 706100100] [] (by kernel_rfl)))
 rintro j1 m_1 hj1 hl1 hm
 rw[hK1]at hm
 refine A.seq<|qDs [] [] [(6,.bool (decide ((j1:Int)≤(4:Int))))] ?_
 refine A.cF rfl (gtF hl1)<|A.exit<|A.seq<|qDs [(0,hba (aix (n:=2) aaR underlying177 sizeOf3)),(1,hba (aix (n:=2) aaR underlying177 sizeOf3)),(2,hba (aix (n:=2) aaR underlying177 sizeOf3)),(3,hba (aix (n:=2) aaR underlying177 sizeOf3)),(5,hto (lnE uX ([(ck.mk (1:Int) (2:Int)),(ck.mk (1:Int) (4:Int)),(ck.mk (2:Int) (3:Int)),(ck.mk (3:Int) (4:Int))]:List ck)))] [2,6] [(20,.lst true (ml uX ([(ck.mk (1:Int) (2:Int)),(ck.mk (1:Int) (4:Int)),(ck.mk (2:Int) (3:Int)),(ck.mk (3:Int) (4:Int))]:List ck))),(21,i6 (([(ck.mk (1:Int) (2:Int)),(ck.mk (1:Int) (4:Int)),(ck.mk (2:Int) (3:Int)),(ck.mk (3:Int) (4:Int))]:List ck).length:Int)),(22,i6 0)]<|A.block<|A.bS 20 rfl λhb2=>?_
 obtain⟨B2,K2,hB2,hK2,hm⟩:=bu hm
 refine A.lpI (l:=([(ck.mk (1:Int) (2:Int)),(ck.mk (1:Int) (4:Int)),(ck.mk (2:Int) (3:Int)),(ck.mk (3:Int) (4:Int))]:List ck)) (j0:=0) (B:=B2) (K:=K2) hm (λj2=>λm_2=>[(0,.ptr 61000 0),(1,.ptr 61001 0),(20,.lst true (ml uX ([(ck.mk (1:Int) (2:Int)),(ck.mk (1:Int) (4:Int)),(ck.mk (2:Int) (3:Int)),(ck.mk (3:Int) (4:Int))]:List ck))),(21,i6 (([(ck.mk (1:Int) (2:Int)),(ck.mk (1:Int) (4:Int)),(ck.mk (2:Int) (3:Int)),(ck.mk (3:Int) (4:Int))]:List ck).length:Int)),(22,i6 (j2:Int))]) (λj2=>λm_2=>[(61000,.cells 28 [.aQ,.aQ]),(61001,.cells 28 [.own 706100100,.own 706100101]),(706100100,.slice 42 2 (ml aJ m_1) 0 false),(706100101,.slice 89 5 (ml aV m_2) 0 false)]) ?_ ?_ ?_
 ·exact bx.go [.ac 61001 706100101 89 5 1] [] (by kernel_rfl)
 ·rintro j2 e2 Z2 m_2 hj2 hx2 hm
  rw[hB2]at hm
  refine qDs [] [] [(23,.bool (decide ((j2:Int)<(([(ck.mk (1:Int) (2:Int)),(ck.mk (1:Int) (4:Int)),(ck.mk (2:Int) (3:Int)),(ck.mk (3:Int) (4:Int))]:List ck).length:Int))))]<|A.seq<|qT (ltT hx2)<|A.skip<|A.seq<|A.block<|qD [(0,hix (ix uX (bt hx2))),(2,.al 61004)] [23] [(4,.ptr 61004 0)] [] [(61004,.cells 177 [i6 e2.E0,i6 e2.E1])] ?_
  obtain⟨l_2,h2,hm⟩:=af hm
  exact qG [(2,hia underlying177 sizeOf3),(4,hia underlying177 sizeOf3),(8,hap 61534 (ap aV (bytes:=40) (by decide) h2))] [4] [] [61001,706100101,61004] [(61001,.cells 28 [.own 706100100,.own 61534]),(61534,.slice 89 5 (ml aV l_2) 0 false)]<|qGs [(0,hto (inc hx2 hb2))] [22] [(22,i6 ((j2+1:Nat):Int))]<|Exists.intro l_2 (And.intro hm (bx.go [.sw 61534 706100101] [] (by kernel_rfl)))
 rintro j2 m_2 hj2 hl2 hm
 rw[hK2]at hm
 refine qDs [] [] [(23,.bool (decide ((j2:Int)<(([(ck.mk (1:Int) (2:Int)),(ck.mk (1:Int) (4:Int)),(ck.mk (2:Int) (3:Int)),(ck.mk (3:Int) (4:Int))]:List ck).length:Int))))]<|A.seq<|qF (ltF hl2)<|A.exit<|qD [] [1,20,21,22,23] [] [61000,61001] [(61000,.cells 28 [.own 706100100,.own 706100101])]<|A.ret ?_
 obtain rfl:=some_inj hm
 exact A.fin W0 [.fz [706100100,706100101]] rfl (by kernel_rfl)
theorem rI{r:Bool}(hm:jU=some r):RO prog 18 [] [] (.bool r):=by
 refine bh func18 rfl rfl ?_
 unfold jU at hm
 refine qS [] [] [] ?_
 obtain⟨ai,h1,hm⟩:=af hm
 obtain⟨aI,h2,hm⟩:=af hm
 refine qS [(0,hro (uP h1) aul),(1,hro (w6 h2) auh),(5,.al 18001)] [(1,.ptr 18001 0)] [(18001,.cells 32 (k7 aI.1))] ?_
 obtain⟨bf,h3,hm⟩:=af hm
 refine qDs [(6,hro (w8 h3) aum)] [] [(3,.int .u64 bf.1)] ?_
 obtain⟨bB,h4,hm⟩:=af hm
 obtain⟨bD,h5,hm⟩:=af hm
 refine qS [(1,hro (uP h4) aul),(5,hro (uw h5) aug),(9,.al 18005)] [(5,.ptr 18005 0),(6,i6 bD.2)] [(18005,.cells 46 (k12 bD.1))] ?_
 rcases ak hm with⟨c1,hm⟩|⟨c1,hm⟩
 ·rcases ak hm with⟨c2,hm⟩|⟨c2,hm⟩
  ·obtain⟨e_1,h6,hm⟩:=af hm
   rcases ak hm with⟨c3,hm⟩|⟨c3,hm⟩
   ·obtain⟨cW,h7,hm⟩:=af hm
    rcases ak hm with⟨c4,hm⟩|⟨c4,hm⟩
    ·obtain⟨e_2,h8,hm⟩:=af hm
     obtain⟨bH,h9,hm⟩:=af hm
     rcases ak hm with⟨c5,hm⟩|⟨c5,hm⟩
     ·refine qS [(2,hto (bE c1)),(5,hto (lnE dQ bD.1.cg)),(8,hto (bE c2)),(11,hix (ix dQ h6)),(16,hto (bE c3)),(19,hix (ix dQ h6)),(24,hro (fM h7) aad),(26,hto (bE c4)),(29,hix (ix dQ h8)),(34,hro (fM h9) aad),(36,hto (bE c5))] [(0,.bool (decide (bD.1.mL=0)))] [] ?_
      cases hm
      exact A.ret qE
     refine qS [(2,hto (bE c1)),(5,hto (lnE dQ bD.1.cg)),(8,hto (bE c2)),(11,hix (ix dQ h6)),(16,hto (bE c3)),(19,hix (ix dQ h6)),(24,hro (fM h7) aad),(26,hto (bE c4)),(29,hix (ix dQ h8)),(34,hro (fM h9) aad),(36,hto (bE c5))] [(0,.bool false)] [] ?_
     cases hm
     exact A.ret qE
    refine qS [(2,hto (bE c1)),(5,hto (lnE dQ bD.1.cg)),(8,hto (bE c2)),(11,hix (ix dQ h6)),(16,hto (bE c3)),(19,hix (ix dQ h6)),(24,hro (fM h7) aad),(26,hto (bE c4))] [(0,.bool false)] [] ?_
    cases hm
    exact A.ret qE
   refine qS [(2,hto (bE c1)),(5,hto (lnE dQ bD.1.cg)),(8,hto (bE c2)),(11,hix (ix dQ h6)),(16,hto (bE c3))] [(0,.bool false)] [] ?_
   cases hm
   exact A.ret qE
  refine qS [(2,hto (bE c1)),(5,hto (lnE dQ bD.1.cg)),(8,hto (bE c2))] [(0,.bool false)] [] ?_
  cases hm
  exact A.ret qE
 refine qS [(2,hto (bE c1))] [(0,.bool false)] [] ?_
 cases hm
 exact A.ret qE
theorem aap{sa0:bM}{p:aa}{r:bg×bM}(hm:nH sa0 p=some r):dA prog 40 [(900000115,.cells 115 (k6 sa0))] [.ptr 900000115 0,.agg (k2 p)] (λa σ'=>a=.agg [.own 500004000,.own 500004001]∧σ'=[(900000115,.cells 115 (k6 r.2)),(500004000,.slice 67 2 (ml bz r.1.Links) 0 false),(500004001,.slice 3 1 (ml aA r.1.ah) 0 false)]):=by
 refine bh func40 rfl rfl ?_
 unfold nH at hm
 refine qS [(0,.al 40003),(1,.al 40004)] [(0,.ptr 900000115 0),(3,.ptr 40003 0),(4,.ptr 40004 0)] [(900000115,.cells 115 (k6 sa0)),(40003,.cells 28 (k2 p)),(40004,.cells 100 [.aQ,.aQ])]<|A.seq ?_
 obtain⟨J1,hJ1,hm⟩:=cw hm
 refine A.J (J:=J1) (r:=r) (λ(v_1,m_1,m_2)=>[(0,.ptr 900000115 0),(3,.ptr 40003 0),(4,.ptr 40004 0),(14,.bool v_1)]) (λ(v_1,m_1,m_2)=>[(900000115,.cells 115 [lf aA m_1,i6 m_2]),(40003,.cells 28 (k2 p)),(40004,.cells 100 [.aQ,.aQ])]) ?_ ?_
 ·rcases ak hm with⟨c1,hm⟩|⟨c1,hm⟩
  ·obtain⟨ai,h1,hm⟩:=af hm
   exact qG [(2,hto (lnE aV p.Links)),(4,hto (bE c1)),(6,hdc [] (cG h1) qy)] [] [(14,.bool (decide (ai.1=0)))] [900000115] [(900000115,.cells 115 (k6 ai.2))]<|qX (decide (ai.1=0),ai.2.L,ai.2.At) hm
  exact qGs [(2,hto (lnE aV p.Links)),(4,hto (bE c1))] [] [(14,.bool false)]<|qX (false,sa0.L,sa0.At) hm
 rintro⟨v_1,m_1,m_2⟩ hm
 rw[hJ1]at hm
 rcases ak hm with⟨c2,hm⟩|⟨c2,hm⟩
 ·refine qT c2 ?_
  obtain⟨aI,h2,hm⟩:=af hm
  obtain⟨e_1,h3,hm⟩:=af hm
  refine qD [(5,hto (lnE aV p.Links)),(6,hdc [] (cG h2) qy),(7,hix (ix aV h3)),(9,.al 40005)] [3,14] [(5,.ptr 40005 0)] [900000115,40003] [(900000115,.cells 115 (k6 aI.2)),(40005,.cells 89 (k1 e_1))]<|A.seq ?_
  obtain⟨bf,h4,hm⟩:=af hm
  refine qD [(1,hdc [] (cG h4) qy)] [0] [(26,.bool (decide (bf.1=0)))] [900000115] [(900000115,.cells 115 (k6 bf.2))] ?_
  rcases ak hm with⟨c3,hm⟩|⟨c3,hm⟩
  ·refine qT c3<|qD [(5,.al 40032)] [5,26] [] [40004,40005] [(40004,.cells 100 [.own 40032,.aQ]),(40032,.slice 67 2 (ml bz ([(aN.mk e_1.A e_1.B)]:List aN)) 0 false)]<|A.ret ?_
   obtain rfl:=some_inj hm
   exact A.fin W0 [.sw 40032 500004000,.ac 40004 500004001 3 1 1] rfl (by kernel_rfl)
  refine qF c3<|A.skip<|qD [(5,.al 40039)] [5,26] [] [40004,40005] [(40004,.cells 100 [.own 40039,.aQ]),(40039,.slice 67 2 (ml bz ([(aN.mk e_1.B e_1.A)]:List aN)) 0 false)]<|A.ret ?_
  obtain rfl:=some_inj hm
  exact A.fin W0 [.sw 40039 500004000,.ac 40004 500004001 3 1 1] rfl (by kernel_rfl)
 refine qF c2<|A.skip ?_
 obtain⟨bB,h5,hm⟩:=af hm
 obtain⟨e_2,h6,hm⟩:=af hm
 refine qS [(5,hto (lnE aJ p.ah)),(6,hdc [] (cG h5) qy),(7,hix (ix aJ h6)),(10,.al 40051)] [(4,.ptr 40004 0)] [(900000115,.cells 115 (k6 bB.2)),(40004,.cells 100 [.aQ,.own 40051]),(40051,.slice 3 1 (ml aA ([e_2.ID]:List Int)) 0 false)]<|A.ret ?_
 obtain rfl:=some_inj hm
 exact A.fin W0 [.sw 40051 500004001,.ac 40004 500004000 67 2 0] rfl (by kernel_rfl)
theorem ac9{sa0:bM}{r:aa×aC×dz×(List Int)×aH×Bool×bM}(hm:pZ sa0=some r):dA prog 47 [(900000115,.cells 115 (k6 sa0))] [.ptr 900000115 0] (λa σ'=>a=.tup [.agg (k2 r.1),.agg (k7 r.2.1),.agg (k8 r.2.2.1),lf aA r.2.2.2.1,.agg (k10 r.2.2.2.2.1),.bool r.2.2.2.2.2.1]∧σ'=[(900000115,.cells 115 (k6 r.2.2.2.2.2.2))]):=by
 refine bh func47 rfl rfl ?_
 unfold pZ at hm
 refine qS [(0,.al 47002),(1,.al 47003),(2,.al 47004),(4,.al 47006)] [(0,.ptr 900000115 0),(2,.ptr 47002 0),(3,.ptr 47003 0),(4,.ptr 47004 0),(6,.ptr 47006 0)] [(900000115,.cells 115 (k6 sa0)),(47002,.cells 28 [.aQ,.aQ]),(47003,.cells 32 [i6 0,.aQ]),(47004,.cells 63 [i6 0,.aQ]),(47006,.cells 36 [i6 0,i6 0,i6 0,i6 0,i6 0,i6 0,i6 0,i6 0,.int .u64 (0:Int),.str (⟨#[]⟩:ByteArray)])] ?_
 obtain⟨ai,h1,hm⟩:=af hm
 refine qD [(1,hdc [] (abp h1) ck10),(2,.al 47008)] [] [(8,.ptr 47008 0)] [900000115] [(900000115,.cells 115 (k6 ai.2)),(47008,.cells 28 (k2 ai.1))] ?_
 obtain⟨aI,h2,hm⟩:=af hm
 refine qD [(1,hro (w6 h2) auh),(5,.al 47009)] [] [(9,.ptr 47009 0),(10,i6 aI.2)] [] [(47009,.cells 32 (k7 aI.1))] ?_
 obtain⟨bf,h3,hm⟩:=af hm
 obtain⟨e_1,h4,hm⟩:=af hm
 obtain⟨bB,h5,hm⟩:=af hm
 refine qD [(7,hto (lnE aJ ai.1.ah)),(8,hdc [] (cG h3) qy),(9,hix (ix aJ h4)),(12,hdc [] (aff h5) ck21),(13,.al 47011)] [] [(11,.ptr 47011 0)] [900000115] [(900000115,.cells 115 (k6 bB.2)),(47011,.cells 63 (k8 bB.1))]<|qDs [] [] [(12,.aQ)]<|A.seq ?_
 obtain⟨bD,h6,hm⟩:=af hm
 refine qDs [(1,hro (ur h6) aui),(2,hto (lnE aA bD))] [] [(41,lf aA bD),(42,i6 (bD.length:Int)),(43,i6 0)]<|A.block<|A.bS 41 rfl λhb1=>?_
 obtain⟨B1,K1,hB1,hK1,hm⟩:=bu hm
 refine A.lpI (l:=bD) (j0:=0) (B:=B1) (K:=K1) hm (λj1=>λ(fG,m_1,m_2)=>[(0,.ptr 900000115 0),(2,.ptr 47002 0),(3,.ptr 47003 0),(4,.ptr 47004 0),(6,.ptr 47006 0),(8,.ptr 47008 0),(9,.ptr 47009 0),(10,i6 aI.2),(11,.ptr 47011 0),(12,.own 600047012),(41,lf aA bD),(42,i6 (bD.length:Int)),(43,i6 (j1:Int))]) (λj1=>λ(fG,m_1,m_2)=>[(900000115,.cells 115 [lf aA m_1,i6 m_2]),(47002,.cells 28 [.aQ,.aQ]),(47003,.cells 32 [i6 0,.aQ]),(47004,.cells 63 [i6 0,.aQ]),(47006,.cells 36 [i6 0,i6 0,i6 0,i6 0,i6 0,i6 0,i6 0,i6 0,.int .u64 (0:Int),.str (⟨#[]⟩:ByteArray)]),(47008,.cells 28 (k2 ai.1)),(47009,.cells 32 (k7 aI.1)),(47011,.cells 63 (k8 bB.1)),(600047012,.slice 3 1 (ml aA fG) 0 false)]) ?_ ?_ ?_
 ·exact bx.go [.ad 12 600047012 3 1] [] (by kernel_rfl)
 ·rintro j1 e1 Z1 ⟨fG,m_1,m_2⟩ hj1 hx1 hm
  rw[hB1]at hm
  refine qDs [] [] [(44,.bool (decide ((j1:Int)<(bD.length:Int))))]<|A.seq<|qT (ltT hx1)<|A.skip ?_
  obtain⟨J1,hJ1,hm⟩:=cw hm
  refine A.J (J:=J1) (r:=r) (λ(mA,m_3,m_4)=>[(0,.ptr 900000115 0),(2,.ptr 47002 0),(3,.ptr 47003 0),(4,.ptr 47004 0),(6,.ptr 47006 0),(8,.ptr 47008 0),(9,.ptr 47009 0),(10,i6 aI.2),(11,.ptr 47011 0),(12,.own 600047012),(41,lf aA bD),(42,i6 (bD.length:Int)),(43,i6 (j1:Int))]) (λ(mA,m_3,m_4)=>[(900000115,.cells 115 [lf aA m_3,i6 m_4]),(47002,.cells 28 [.aQ,.aQ]),(47003,.cells 32 [i6 0,.aQ]),(47004,.cells 63 [i6 0,.aQ]),(47006,.cells 36 [i6 0,i6 0,i6 0,i6 0,i6 0,i6 0,i6 0,i6 0,.int .u64 (0:Int),.str (⟨#[]⟩:ByteArray)]),(47008,.cells 28 (k2 ai.1)),(47009,.cells 32 (k7 aI.1)),(47011,.cells 63 (k8 bB.1)),(600047012,.slice 3 1 (ml aA mA) 0 false)]) ?_ ?_
  ·refine A.block<|qDs [(0,hix (ix aA (bt hx1)))] [44] [(14,i6 e1)] ?_
   refine qDs [] [] [(15,.bool true)]<|A.seq<|qDs [(2,hto (lnE bz bB.1.Links))] [] [(48,lf bz bB.1.Links),(49,i6 (bB.1.Links.length:Int)),(50,i6 0)]<|A.block<|A.bS 48 rfl λhb2=>?_
   obtain⟨B2,K2,hB2,hK2,hm⟩:=bu hm
   refine A.lpI (l:=bB.1.Links) (j0:=0) (B:=B2) (K:=K2) hm (λj2=>λo5=>[(0,.ptr 900000115 0),(2,.ptr 47002 0),(3,.ptr 47003 0),(4,.ptr 47004 0),(6,.ptr 47006 0),(8,.ptr 47008 0),(9,.ptr 47009 0),(10,i6 aI.2),(11,.ptr 47011 0),(12,.own 600047012),(14,i6 e1),(15,.bool o5),(41,lf aA bD),(42,i6 (bD.length:Int)),(43,i6 (j1:Int)),(48,lf bz bB.1.Links),(49,i6 (bB.1.Links.length:Int)),(50,i6 (j2:Int))]) (λj2=>λo5=>[(900000115,.cells 115 [lf aA m_1,i6 m_2]),(47002,.cells 28 [.aQ,.aQ]),(47003,.cells 32 [i6 0,.aQ]),(47004,.cells 63 [i6 0,.aQ]),(47006,.cells 36 [i6 0,i6 0,i6 0,i6 0,i6 0,i6 0,i6 0,i6 0,.int .u64 (0:Int),.str (⟨#[]⟩:ByteArray)]),(47008,.cells 28 (k2 ai.1)),(47009,.cells 32 (k7 aI.1)),(47011,.cells 63 (k8 bB.1)),(600047012,.slice 3 1 (ml aA fG) 0 false)]) ?_ ?_ ?_
   ·exact qW
   ·rintro j2 e2 Z2 o5 hj2 hx2 hm
    rw[hB2]at hm
    refine qDs [] [] [(51,.bool (decide ((j2:Int)<(bB.1.Links.length:Int))))]<|A.seq<|qT (ltT hx2)<|A.skip<|A.seq<|A.block<|qD [(0,hix (ix bz (bt hx2))),(2,.al 47017)] [51] [(17,.ptr 47017 0)] [] [(47017,.cells 67 (k3 e2))] ?_
    rcases ak hm with⟨c1,hm⟩|⟨c1,hm⟩
    ·exact qG [(1,hto (bE c1))] [15,17] [(15,.bool (!decide (e2.bn=e1)))] [47017] []<|qGs [(0,hto (inc hx2 hb2))] [50] [(50,i6 ((j2+1:Nat):Int))]<|qX (!decide (e2.bn=e1)) hm
    exact qG [(1,hto (bE c1))] [15,17] [(15,.bool false)] [47017] []<|qGs [(0,hto (inc hx2 hb2))] [50] [(50,i6 ((j2+1:Nat):Int))]<|qX false hm
   rintro j2 o5 hj2 hl2 hm
   rw[hK2]at hm
   refine qDs [] [] [(51,.bool (decide ((j2:Int)<(bB.1.Links.length:Int))))]<|A.seq<|qF (ltF hl2)<|A.exit ?_
   obtain⟨J2,hJ2,hm⟩:=cw hm
   refine A.J (J:=J2) (r:=r) (λ(v_1,m_5,m_6)=>[(0,.ptr 900000115 0),(2,.ptr 47002 0),(3,.ptr 47003 0),(4,.ptr 47004 0),(6,.ptr 47006 0),(8,.ptr 47008 0),(9,.ptr 47009 0),(10,i6 aI.2),(11,.ptr 47011 0),(12,.own 600047012),(14,i6 e1),(41,lf aA bD),(42,i6 (bD.length:Int)),(43,i6 (j1:Int)),(67,.bool v_1)]) (λ(v_1,m_5,m_6)=>[(900000115,.cells 115 [lf aA m_5,i6 m_6]),(47002,.cells 28 [.aQ,.aQ]),(47003,.cells 32 [i6 0,.aQ]),(47004,.cells 63 [i6 0,.aQ]),(47006,.cells 36 [i6 0,i6 0,i6 0,i6 0,i6 0,i6 0,i6 0,i6 0,.int .u64 (0:Int),.str (⟨#[]⟩:ByteArray)]),(47008,.cells 28 (k2 ai.1)),(47009,.cells 32 (k7 aI.1)),(47011,.cells 63 (k8 bB.1)),(600047012,.slice 3 1 (ml aA fG) 0 false)]) ?_ ?_
   ·rcases ak hm with⟨c2,hm⟩|⟨c2,hm⟩
    ·exact qGs [(1,hto (bE c2))] [15,48,49,50,51] [(67,.bool true)]<|qX (true,m_1,m_2) hm
    obtain⟨cW,h7,hm⟩:=af hm
    exact qG [(1,hto (bE c2)),(3,hdc [] (cG h7) qy)] [15,48,49,50,51] [(67,.bool (decide (cW.1=0)))] [900000115] [(900000115,.cells 115 (k6 cW.2))]<|qX (decide (cW.1=0),cW.2.L,cW.2.At) hm
   rintro⟨v_1,m_5,m_6⟩ hm
   rw[hJ2]at hm
   rcases ak hm with⟨c3,hm⟩|⟨c3,hm⟩
   ·refine qT c3 ?_
    obtain⟨l_1,h8,hm⟩:=af hm
    exact qG [(3,hap 47571 (ap aA (bytes:=8) (by decide) h8))] [12,14,67] [(12,.own 47571)] [600047012] [(47571,.slice 3 1 (ml aA l_1) 0 false)]<|Exists.intro (l_1,m_5,m_6) (And.intro hm (bx.go [.sw 47571 600047012] [] (by kernel_rfl)))
   exact qF c3<|A.skip<|qX (fG,m_5,m_6) hm
  rintro⟨mA,m_3,m_4⟩ hm
  rw[hJ1]at hm
  exact qGs [(0,hto (inc hx1 hb1))] [43] [(43,i6 ((j1+1:Nat):Int))]<|qX (mA,m_3,m_4) hm
 rintro j1 ⟨fG,m_1,m_2⟩ hj1 hl1 hm
 rw[hK1]at hm
 refine qDs [] [] [(44,.bool (decide ((j1:Int)<(bD.length:Int))))]<|A.seq<|qF (ltF hl1)<|A.exit ?_
 obtain⟨bH,h9,hm⟩:=af hm
 refine qD [(4,hle [600047012] (abq h9) ck38),(8,.al 47018)] [0,41,42,43,44] [(18,.ptr 47018 0),(19,i6 bH.2)] [] [(47018,.cells 36 (k10 bH.1))]<|A.mid [(2,.ptr 47002 0),(3,.ptr 47003 0),(4,.ptr 47004 0),(6,.ptr 47006 0),(5,.own 600047012),(7,.bool ((decide (aI.2=0))&&(decide (bH.2=0))))] [(900000115,.cells 115 [lf aA m_1,i6 m_2]),(47002,.cells 28 (k2 ai.1)),(47003,.cells 32 (k7 aI.1)),(47004,.cells 63 (k8 bB.1)),(47006,.cells 36 (k10 bH.1)),(600047012,.slice 3 1 (ml aA fG) 0 false)] (λhk=>?_) ?_
 ·rcases tf (decide (aI.2=0))with c4|c4
  ·exact qS [(7,hto (bE c4)),(16,hto (nO (q:=decide (bH.2=0)) c4))] _ _ hk
  exact qS [(7,hto (bE c4)),(16,hto (oK (q:=decide (bH.2=0)) c4))] _ _ hk
 refine A.ret ?_
 obtain rfl:=some_inj hm
 exact A.fin W0 [.fz [600047012]] rfl (by kernel_rfl)
end Go.Proofs.YtdjeacigeegklaaGreat
