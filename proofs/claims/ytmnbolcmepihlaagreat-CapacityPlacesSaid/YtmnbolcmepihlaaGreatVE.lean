/- The walks of cE of the program. No condition but bf aM stand in each. -/
import Derived.Test.YtmnbolcmepihlaaGreatVX
namespace Go.Proofs.YtmnbolcmepihlaaGreat
open Go Go.Proofs.Tryz
set_option maxRecDepth 100000
set_option linter.all false
variable {t:ai}{xa1:aT}
theorem mo{receivers:List Int}{r:Int}(hm:gp t xa1 receivers=some r):RO prog 21 [] [.agg (k2 t),.agg (k6 xa1),lf ak receivers] (i6 r):=by
 refine aZ func21 rfl rfl ?_;unfold gp at hm;refine qS [(0,.al 21003),(1,.al 21004)] [(2,lf ak receivers),(3,.ptr 21003 0),(4,.ptr 21004 0)] [(21003,.cells 28 (k2 t)),(21004,.cells 36 (k6 xa1))]<|A.seq ?_
 obtain⟨aq,h1,hm⟩:=aa hm;refine qDs [(1,hro (jF h1) acT)] [] [(19,.bool (!decide (aq=0)))] ?_;rcases aA hm with⟨c1,hm⟩|⟨c1,hm⟩
 ·refine qT c1<|qS [] [(6,i6 1)] [] ?_
  cases hm;exact A.ret qE
 refine qF c1<|A.skip<|A.seq ?_
 obtain⟨aF,h2,hm⟩:=aa hm;refine qDs [(1,hro (pQ h2) apq)] [19] [(7,i6 aF)]<|qDs [] [] [(23,.bool (!decide (aF=0)))] ?_
 rcases aA hm with⟨c2,hm⟩|⟨c2,hm⟩
 ·refine qT c2<|qS [] [(6,i6 aF)] [] ?_
  cases hm;exact A.ret qE
 refine qF c2<|A.skip<|A.seq ?_
 obtain⟨bx,h3,hm⟩:=aa hm;refine qDs [(3,hro (qp h3) aif)] [7,23] [(29,.bool (!bx))] ?_;rcases aA hm with⟨c3,hm⟩|⟨c3,hm⟩
 ·refine qT c3<|qS [] [(6,i6 4)] [] ?_
  cases hm;exact A.ret qE
 refine qF c3<|A.skip<|A.seq<|qDs [(1,hto (lnE ak receivers))] [29] [(30,lf ak receivers),(31,i6 (receivers.length:Int)),(32,i6 0)]<|A.block<|A.bS 2 rfl λhb1=>?_
 obtain⟨B1,K1,hB1,hK1,hm⟩:=bh hm;refine A.lpI (l:=receivers) (j0:=0) (B:=B1) (K:=K1) hm (λj1=>λ()=>[(2,lf ak receivers),(3,.ptr 21003 0),(4,.ptr 21004 0),(30,lf ak receivers),(31,i6 (receivers.length:Int)),(32,i6 (j1:Int))]) (λj1=>λ()=>[(21003,.cells 28 (k2 t)),(21004,.cells 36 (k6 xa1))]) ?_ ?_ ?_
 ·exact qW
 ·rintro j1 e1 Z1 ⟨⟩ hj1 hx1 hm;rw[hB1]at hm;refine qDs [] [] [(33,.bool (decide ((j1:Int)<(receivers.length:Int))))]<|A.seq<|qT (ltT hx1)<|A.skip<|A.seq<|A.block<|qDs [(0,hix (ix ak (bu hx1)))] [33] [(9,i6 e1)] ?_
  obtain⟨bV,h4,hm⟩:=aa hm;refine qDs [(2,hro (qp h4) aif)] [9] [(39,.bool (!bV))] ?_;rcases aA hm with⟨c4,hm⟩|⟨c4,hm⟩
  ·refine qT c4<|qS [] [(6,i6 4)] [] ?_
   cases hm;exact A.ret qE
  exact qF c4<|A.skip<|qGs [(0,hto (inc hx1 hb1))] [32,39] [(32,i6 ((j1+1:Nat):Int))]<|qX () hm
 rintro j1 ⟨⟩ hj1 hl1 hm;rw[hK1]at hm;refine qDs [] [] [(33,.bool (decide ((j1:Int)<(receivers.length:Int))))]<|A.seq<|qF (ltF hl1)<|A.exit<|A.seq<|qDs [(2,hto (lnE aJ xa1.Links))] [30,31,32,33] [(42,lf aJ xa1.Links),(43,i6 (xa1.Links.length:Int)),(44,i6 0)]<|A.block<|A.bS 42 rfl λhb2=>?_
 obtain⟨B2,K2,hB2,hK2,hm⟩:=bh hm;refine A.lpI (l:=xa1.Links) (j0:=0) (B:=B2) (K:=K2) hm (λj2=>λ()=>[(2,lf ak receivers),(3,.ptr 21003 0),(4,.ptr 21004 0),(42,lf aJ xa1.Links),(43,i6 (xa1.Links.length:Int)),(44,i6 (j2:Int))]) (λj2=>λ()=>[(21003,.cells 28 (k2 t)),(21004,.cells 36 (k6 xa1))]) ?_ ?_ ?_
 ·exact qW
 ·rintro j2 e2 Z2 ⟨⟩ hj2 hx2 hm;rw[hB2]at hm;refine qDs [] [] [(45,.bool (decide ((j2:Int)<(xa1.Links.length:Int))))]<|A.seq<|qT (ltT hx2)<|A.skip<|A.seq<|A.block<|qD [(0,hix (ix aJ (bu hx2))),(2,.al 21011)] [45] [(11,.ptr 21011 0)] [] [(21011,.cells 84 (k3 e2))] ?_
  obtain⟨cK,h5,hm⟩:=aa hm;refine qD [(5,hro (tg h5) apr)] [11] [(13,.bool cK.2)] [21011] []<|qDs [] [13] [(58,.bool (!cK.2))] ?_
  rcases aA hm with⟨c5,hm⟩|⟨c5,hm⟩
  ·refine qT c5<|qS [] [(6,i6 4)] [] ?_
   cases hm;exact A.ret qE
  exact qF c5<|A.skip<|qGs [(0,hto (inc hx2 hb2))] [44,58] [(44,i6 ((j2+1:Nat):Int))]<|qX () hm
 rintro j2 ⟨⟩ hj2 hl2 hm;rw[hK2]at hm;refine qDs [] [] [(45,.bool (decide ((j2:Int)<(xa1.Links.length:Int))))]<|A.seq<|qF (ltF hl2)<|A.exit<|A.seq ?_
 obtain⟨cQ,h6,hm⟩:=aa hm;refine qD [(1,hro (pR h6) aps)] [3,42,43,44,45] [(62,.bool (!cQ))] [21003] [] ?_;rcases aA hm with⟨c6,hm⟩|⟨c6,hm⟩
 ·refine qT c6<|qS [] [(6,i6 25)] [] ?_
  cases hm;exact A.ret qE
 refine qF c6<|A.skip ?_
 obtain⟨dy,h7,hm⟩:=aa hm;refine qD [(1,hro (w6 h7) ck82)] [4,62] [(14,lf ak dy)] [21004] []<|A.seq<|qDs [(1,hto (lnE ak receivers))] [2] [(65,lf ak receivers),(66,i6 (receivers.length:Int)),(67,i6 0)]<|A.block<|A.bS 65 rfl λhb3=>?_
 obtain⟨B3,K3,hB3,hK3,hm⟩:=bh hm;refine A.lpI (l:=receivers) (j0:=0) (B:=B3) (K:=K3) hm (λj3=>λ()=>[(14,lf ak dy),(65,lf ak receivers),(66,i6 (receivers.length:Int)),(67,i6 (j3:Int))]) (λj3=>λ()=>[]) ?_ ?_ ?_
 ·exact qW
 ·rintro j3 e3 Z3 ⟨⟩ hj3 hx3 hm;rw[hB3]at hm;refine qDs [] [] [(68,.bool (decide ((j3:Int)<(receivers.length:Int))))]<|A.seq<|qT (ltT hx3)<|A.skip<|A.seq<|A.block<|qDs [(0,hix (ix ak (bu hx3)))] [68] [(16,i6 e3)] ?_
  obtain⟨lR,h8,hm⟩:=aa hm;refine qDs [(2,hro (dX h8) tM)] [16] [(74,.bool (!lR))] ?_;rcases aA hm with⟨c7,hm⟩|⟨c7,hm⟩
  ·refine qT c7<|qS [] [(6,i6 9)] [] ?_
   cases hm;exact A.ret qE
  exact qF c7<|A.skip<|qGs [(0,hto (inc hx3 hb3))] [67,74] [(67,i6 ((j3+1:Nat):Int))]<|qX () hm
 rintro j3 ⟨⟩ hj3 hl3 hm;rw[hK3]at hm;refine qDs [] [] [(68,.bool (decide ((j3:Int)<(receivers.length:Int))))]<|A.seq<|qF (ltF hl3)<|A.exit<|qS [] [(6,i6 0)] [] ?_
 cases hm;exact A.ret qE
theorem z7{r:Int×Int}(hm:nB t xa1=some r):RO prog 29 [] [.agg (k2 t),.agg (k6 xa1)] (.tup [i6 r.1,i6 r.2]):=by
 refine aZ func29 rfl rfl ?_;unfold nB at hm;refine qS [(0,.al 29002),(1,.al 29003)] [(2,.ptr 29002 0),(3,.ptr 29003 0)] [(29002,.cells 28 (k2 t)),(29003,.cells 36 (k6 xa1))]<|A.seq ?_
 obtain⟨aq,h1,hm⟩:=aa hm;refine qDs [(2,hro (mo h1) aib)] [] [(6,i6 aq)]<|qDs [] [] [(16,.bool (!decide (aq=0)))] ?_
 rcases aA hm with⟨c1,hm⟩|⟨c1,hm⟩
 ·refine qT c1<|qS [] [(4,i6 0),(5,i6 aq)] [] ?_
  cases hm;exact A.ret qE
 refine qF c1<|A.skip<|qDs [] [6,16] [(7,i6 0)]<|A.seq<|qD [(2,hto (lnE aJ xa1.Links))] [3] [(19,lf aJ xa1.Links),(20,i6 (xa1.Links.length:Int)),(21,i6 0)] [29003] []<|A.block<|A.bS 19 rfl λhb1=>?_
 obtain⟨B1,K1,hB1,hK1,hm⟩:=bh hm;refine A.lpI (l:=xa1.Links) (j0:=0) (B:=B1) (K:=K1) hm (λj1=>λn_1=>[(2,.ptr 29002 0),(7,i6 n_1),(19,lf aJ xa1.Links),(20,i6 (xa1.Links.length:Int)),(21,i6 (j1:Int))]) (λj1=>λn_1=>[(29002,.cells 28 (k2 t))]) ?_ ?_ ?_
 ·exact qW
 ·rintro j1 e1 Z1 n_1 hj1 hx1 hm;rw[hB1]at hm;refine qDs [] [] [(22,.bool (decide ((j1:Int)<(xa1.Links.length:Int))))]<|A.seq<|qT (ltT hx1)<|A.skip<|A.seq<|A.block<|qD [(0,hix (ix aJ (bu hx1))),(2,.al 29009)] [22] [(9,.ptr 29009 0)] [] [(29009,.cells 84 (k3 e1))] ?_
  obtain⟨aF,h2,hm⟩:=aa hm;exact qD [(5,hro (tg h2) apr)] [9] [(10,i6 aF.1)] [29009] []<|qGs [] [7,10] [(7,i6 (w64 (n_1+aF.1)))]<|qGs [(0,hto (inc hx1 hb1))] [21] [(21,i6 ((j1+1:Nat):Int))]<|qX (w64 (n_1+aF.1)) hm
 rintro j1 n_1 hj1 hl1 hm;rw[hK1]at hm;refine qDs [] [] [(22,.bool (decide ((j1:Int)<(xa1.Links.length:Int))))]<|A.seq<|qF (ltF hl1)<|A.exit<|qS [] [(4,i6 n_1),(5,i6 0)] [] ?_
 cases hm;exact A.ret qE
end Go.Proofs.YtmnbolcmepihlaaGreat
