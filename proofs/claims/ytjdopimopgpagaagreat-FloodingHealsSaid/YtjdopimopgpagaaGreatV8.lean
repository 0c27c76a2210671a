/- The eN of cu of the program. No condition but bH bq stand in each. -/
import Derived.Test.YtjdopimopgpagaaGreatV2
import Derived.Test.YtjdopimopgpagaaGreatV7
namespace Go.Proofs.YtjdopimopgpagaaGreat
open Go Go.Proofs.Tryz
set_option maxRecDepth 100000
set_option linter.all false
theorem vL{d:aF}{r:Int}(hm:iM d=some r):RO prog 76 [] [.agg (k8 d)] (i6 r):=by
 refine aZ func76 rfl rfl ?_
 unfold iM at hm
 refine qS [(0,.al 76001)] [(1,.ptr 76001 0)] [(76001,.cells 51 (k8 d))]<|A.seq<|qDs [(2,hto (lnE aQ d.aG))] [] [(8,.bool (decide (99<(d.aG.length:Int))))] ?_
 rcases az hm with⟨c1,hm⟩|⟨c1,hm⟩
 ·refine qT c1<|qS [] [(2,i6 3)] [] ?_
  cases hm
  exact A.ret qE
 refine qF c1<|A.skip<|A.seq<|qDs [] [8] [(3,i6 0)]<|A.block<|A.bC 1 0 rfl rfl rfl λhb1=>?_
 obtain⟨B1,K1,hB1,hK1,hm⟩:=bF hm
 refine A.lpI (l:=d.aG) (j0:=0) (B:=B1) (K:=K1) hm (λj1=>λ()=>[(1,.ptr 76001 0),(3,i6 (j1:Int))]) (λj1=>λ()=>[(76001,.cells 51 (k8 d))]) ?_ ?_ ?_
 ·exact qW
 ·rintro j1 e1 Z1 ⟨⟩ hj1 hx1 hm
  rw[hB1]at hm
  refine A.seq<|qDs [(3,hto (lnE aQ d.aG))] [] [(13,.bool (decide ((j1:Int)<(d.aG.length:Int))))] ?_
  refine qT (ltT hx1)<|A.skip<|A.seq<|A.block ?_
  obtain⟨ah,h1,hm⟩:=aa hm
  refine qDs [(3,hix (ix aQ (bh hx1))),(5,hro (vK h1) akx)] [13] [(22,.bool (!ah))] ?_
  rcases az hm with⟨c2,hm⟩|⟨c2,hm⟩
  ·refine qT c2<|qS [] [(2,i6 1)] [] ?_
   cases hm
   exact A.ret qE
  exact qF c2<|A.skip<|qGs [(1,hto (inc hx1 hb1))] [3,22] [(3,i6 ((j1+1:Nat):Int))]<|qX () hm
 rintro j1 ⟨⟩ hj1 hl1 hm
 rw[hK1]at hm
 refine A.seq<|qDs [(3,hto (lnE aQ d.aG))] [] [(13,.bool (decide ((j1:Int)<(d.aG.length:Int))))] ?_
 refine qF (ltF hl1)<|A.exit<|A.seq<|qDs [] [3,13] [(4,i6 1)]<|A.block<|A.bC 1 0 rfl rfl rfl λhb2=>?_
 obtain⟨B2,K2,hB2,hK2,hm⟩:=bF hm
 refine A.lpI (l:=d.aG) (j0:=1) (B:=B2) (K:=K2) hm (λj2=>λ()=>[(1,.ptr 76001 0),(4,i6 (j2:Int))]) (λj2=>λ()=>[(76001,.cells 51 (k8 d))]) ?_ ?_ ?_
 ·exact qW
 ·rintro j2 e2 Z2 ⟨⟩ hj2 hx2 hm
  rw[hB2]at hm
  refine A.seq<|qDs [(3,hto (lnE aQ d.aG))] [] [(27,.bool (decide ((j2:Int)<(d.aG.length:Int))))] ?_
  refine qT (ltT hx2)<|A.skip<|A.seq<|A.block ?_
  obtain⟨e_1,h2,hm⟩:=aa hm
  refine qDs [(4,hix (ix aQ h2)),(10,hix (ix aQ (bh hx2)))] [27] [(43,.bool (decide (e2.af≤e_1.af)))] ?_
  rcases az hm with⟨c3,hm⟩|⟨c3,hm⟩
  ·refine qT c3<|qS [] [(2,i6 25)] [] ?_
   cases hm
   exact A.ret qE
  exact qF c3<|A.skip<|qGs [(1,hto (inc hx2 hb2))] [4,43] [(4,i6 ((j2+1:Nat):Int))]<|qX () hm
 rintro j2 ⟨⟩ hj2 hl2 hm
 rw[hK2]at hm
 refine A.seq<|qDs [(3,hto (lnE aQ d.aG))] [] [(27,.bool (decide ((j2:Int)<(d.aG.length:Int))))] ?_
 refine qF (ltF hl2)<|A.exit<|qS [] [(2,i6 0)] [] ?_
 cases hm
 exact A.ret qE
end Go.Proofs.YtjdopimopgpagaaGreat
