/- The ew of cA of the program. No condition but bM bw stand in each. -/
import Derived.Test.YtjdopimopgpagaaGreatV2
import Derived.Test.YtjdopimopgpagaaGreatV7
namespace Go.Proofs.YtjdopimopgpagaaGreat
open Go Go.Proofs.Tryz
set_option maxRecDepth 100000
set_option linter.all false
theorem og{d:aG}{r:Int}(hm:ij d=some r):RO prog 76 [] [.agg (k8 d)] (i6 r):=by
 refine aZ func76 rfl rfl ?_
 unfold ij at hm
 refine qS [(0,.al 76001)] [(1,.ptr 76001 0)] [(76001,.cells 51 (k8 d))]<|A.seq<|qDs [(2,hto (lnE aM d.aC))] [] [(8,.bool (decide (99<(d.aC.length:Int))))] ?_
 rcases aq hm with⟨c1,hm⟩|⟨c1,hm⟩
 ·refine qT c1<|qS [] [(2,i6 3)] [] ?_
  cases hm
  exact A.ret qE
 refine qF c1<|A.skip<|A.seq<|qDs [] [8] [(3,i6 0)]<|A.block<|A.bC 1 0 rfl rfl rfl λhb1=>?_
 obtain⟨B1,K1,hB1,hK1,hm⟩:=bu hm
 refine A.lpI (l:=d.aC) (j0:=0) (B:=B1) (K:=K1) hm (λj1=>λ()=>[(1,.ptr 76001 0),(3,i6 (j1:Int))]) (λj1=>λ()=>[(76001,.cells 51 (k8 d))]) ?_ ?_ ?_
 ·exact qW
 ·rintro j1 e1 Z1 ⟨⟩ hj1 hx1 hm
  rw[hB1]at hm
  refine A.seq<|qDs [(3,hto (lnE aM d.aC))] [] [(13,.bool (decide ((j1:Int)<(d.aC.length:Int))))] ?_
  refine qT (ltT hx1)<|A.skip<|A.seq<|A.block ?_
  obtain⟨af,h1,hm⟩:=aa hm
  refine qDs [(3,hix (ix aM (bf hx1))),(5,hro (fK h1) uN)] [13] [(22,.bool (!af))] ?_
  rcases aq hm with⟨c2,hm⟩|⟨c2,hm⟩
  ·refine qT c2<|qS [] [(2,i6 1)] [] ?_
   cases hm
   exact A.ret qE
  exact qF c2<|A.skip<|qGs [(1,hto (inc hx1 hb1))] [3,22] [(3,i6 ((j1+1:Nat):Int))]<|qX () hm
 rintro j1 ⟨⟩ hj1 hl1 hm
 rw[hK1]at hm
 refine A.seq<|qDs [(3,hto (lnE aM d.aC))] [] [(13,.bool (decide ((j1:Int)<(d.aC.length:Int))))] ?_
 refine qF (ltF hl1)<|A.exit<|A.seq<|qDs [] [3,13] [(4,i6 1)]<|A.block<|A.bC 1 0 rfl rfl rfl λhb2=>?_
 obtain⟨B2,K2,hB2,hK2,hm⟩:=bu hm
 refine A.lpI (l:=d.aC) (j0:=1) (B:=B2) (K:=K2) hm (λj2=>λ()=>[(1,.ptr 76001 0),(4,i6 (j2:Int))]) (λj2=>λ()=>[(76001,.cells 51 (k8 d))]) ?_ ?_ ?_
 ·exact qW
 ·rintro j2 e2 Z2 ⟨⟩ hj2 hx2 hm
  rw[hB2]at hm
  refine A.seq<|qDs [(3,hto (lnE aM d.aC))] [] [(27,.bool (decide ((j2:Int)<(d.aC.length:Int))))] ?_
  refine qT (ltT hx2)<|A.skip<|A.seq<|A.block ?_
  obtain⟨e_1,h2,hm⟩:=aa hm
  refine qDs [(4,hix (ix aM h2)),(10,hix (ix aM (bf hx2)))] [27] [(43,.bool (decide (e2.ah≤e_1.ah)))] ?_
  rcases aq hm with⟨c3,hm⟩|⟨c3,hm⟩
  ·refine qT c3<|qS [] [(2,i6 25)] [] ?_
   cases hm
   exact A.ret qE
  exact qF c3<|A.skip<|qGs [(1,hto (inc hx2 hb2))] [4,43] [(4,i6 ((j2+1:Nat):Int))]<|qX () hm
 rintro j2 ⟨⟩ hj2 hl2 hm
 rw[hK2]at hm
 refine A.seq<|qDs [(3,hto (lnE aM d.aC))] [] [(27,.bool (decide ((j2:Int)<(d.aC.length:Int))))] ?_
 refine qF (ltF hl2)<|A.exit<|qS [] [(2,i6 0)] [] ?_
 cases hm
 exact A.ret qE
theorem sA{a:aG}{b:aG}{r:Bool}(hm:nF a b=some r):RO prog 68 [] [.agg (k8 a),.agg (k8 b)] (.bool r):=by
 refine aZ func68 rfl rfl ?_
 unfold nF at hm
 refine qS [(0,.al 68002),(1,.al 68003)] [(2,.ptr 68002 0),(3,.ptr 68003 0)] [(68002,.cells 51 (k8 a)),(68003,.cells 51 (k8 b))]<|A.seq<|qDs [(2,hto (lnE aM a.aC)),(5,hto (lnE aM b.aC))] [] [(12,.bool (!decide ((a.aC.length:Int)=(b.aC.length:Int))))] ?_
 rcases aq hm with⟨c1,hm⟩|⟨c1,hm⟩
 ·refine qT c1<|qS [] [(4,.bool false)] [] ?_
  cases hm
  exact A.ret qE
 refine qF c1<|A.skip<|A.seq<|qDs [] [12] [(5,i6 0)]<|A.block<|A.bC 2 0 rfl rfl rfl λhb1=>?_
 obtain⟨B1,K1,hB1,hK1,hm⟩:=bu hm
 refine A.lpI (l:=a.aC) (j0:=0) (B:=B1) (K:=K1) hm (λj1=>λ()=>[(2,.ptr 68002 0),(3,.ptr 68003 0),(5,i6 (j1:Int))]) (λj1=>λ()=>[(68002,.cells 51 (k8 a)),(68003,.cells 51 (k8 b))]) ?_ ?_ ?_
 ·exact qW
 ·rintro j1 e1 Z1 ⟨⟩ hj1 hx1 hm
  rw[hB1]at hm
  refine A.seq<|qDs [(3,hto (lnE aM a.aC))] [] [(17,.bool (decide ((j1:Int)<(a.aC.length:Int))))] ?_
  refine qT (ltT hx1)<|A.skip<|A.seq<|A.block ?_
  obtain⟨e_1,h1,hm⟩:=aa hm
  obtain⟨af,h2,hm⟩:=aa hm
  refine qDs [(3,hix (ix aM (bf hx1))),(8,hix (ix aM h1)),(10,hro (vZ h2) ao4)] [17] [(31,.bool (!af))] ?_
  rcases aq hm with⟨c2,hm⟩|⟨c2,hm⟩
  ·refine qT c2<|qS [] [(4,.bool false)] [] ?_
   cases hm
   exact A.ret qE
  exact qF c2<|A.skip<|qGs [(1,hto (inc hx1 hb1))] [5,31] [(5,i6 ((j1+1:Nat):Int))]<|qX () hm
 rintro j1 ⟨⟩ hj1 hl1 hm
 rw[hK1]at hm
 refine A.seq<|qDs [(3,hto (lnE aM a.aC))] [] [(17,.bool (decide ((j1:Int)<(a.aC.length:Int))))] ?_
 refine qF (ltF hl1)<|A.exit<|qS [] [(4,.bool true)] [] ?_
 cases hm
 exact A.ret qE
theorem abB{d:aG}{aN:Int}{r:ai×Bool}(hm:nG d aN=some r):RO prog 75 [] [.agg (k8 d),i6 aN] (.tup [.agg (k7 r.1),.bool r.2]):=by
 refine aZ func75 rfl rfl ?_
 unfold nG at hm
 refine qS [(0,.al 75002),(1,.al 75004)] [(1,i6 aN),(2,.ptr 75002 0),(4,.ptr 75004 0)] [(75002,.cells 51 (k8 d)),(75004,.cells 66 [i6 0,i6 0,.bool false,.aI,.aI])]<|A.seq<|qDs [] [] [(6,i6 0)]<|A.block<|A.bC 2 0 rfl rfl rfl λhb1=>?_
 obtain⟨B1,K1,hB1,hK1,hm⟩:=bu hm
 refine A.lpI (l:=d.aC) (j0:=0) (B:=B1) (K:=K1) hm (λj1=>λ()=>[(1,i6 aN),(2,.ptr 75002 0),(4,.ptr 75004 0),(6,i6 (j1:Int))]) (λj1=>λ()=>[(75002,.cells 51 (k8 d)),(75004,.cells 66 [i6 0,i6 0,.bool false,.aI,.aI])]) ?_ ?_ ?_
 ·exact qW
 ·rintro j1 e1 Z1 ⟨⟩ hj1 hx1 hm
  rw[hB1]at hm
  refine A.seq<|qDs [(3,hto (lnE aM d.aC))] [] [(11,.bool (decide ((j1:Int)<(d.aC.length:Int))))] ?_
  refine qT (ltT hx1)<|A.skip<|A.seq<|A.block<|qDs [(3,hix (ix aM (bf hx1)))] [11] [(21,.bool (decide (e1.ah=aN)))] ?_
  rcases aq hm with⟨c1,hm⟩|⟨c1,hm⟩
  ·refine qT c1<|qS [(3,hix (ix aM (bf hx1)))] [(4,.ptr 75004 0),(5,.bool true)] [(75004,.cells 66 (k7 e1))] ?_
   cases hm
   exact A.ret qE
  exact qF c1<|A.skip<|qGs [(1,hto (inc hx1 hb1))] [6,21] [(6,i6 ((j1+1:Nat):Int))]<|qX () hm
 rintro j1 ⟨⟩ hj1 hl1 hm
 rw[hK1]at hm
 refine A.seq<|qDs [(3,hto (lnE aM d.aC))] [] [(11,.bool (decide ((j1:Int)<(d.aC.length:Int))))] ?_
 refine qF (ltF hl1)<|A.exit<|qD [] [1,2,6,11] [(5,.bool false)] [75002] [] ?_
 cases hm
 exact A.ret qE
end Go.Proofs.YtjdopimopgpagaaGreat
