/- The walks of cz of the program. No condition but aX aL stand in each. -/
import Derived.Test.YtmnbolcmepihlaaGreatVX
namespace Go.Proofs.YtmnbolcmepihlaaGreat
open Go Go.Proofs.Tryz
set_option maxRecDepth 100000
set_option linter.all false
variable {r:Int}{receivers:List Int}{t:af}{xa1:aQ}
theorem vj(hm:jj t xa1 receivers=some r):RO prog 21 [] [.agg (k2 t),.agg (k6 xa1),lf aj receivers] (i6 r):=by
 refine aY func21 rfl rfl ?_;unfold jj at hm;refine qS [(0,.al 21003),(1,.al 21004)] [(2,lf aj receivers),(3,.ptr 21003 0),(4,.ptr 21004 0)] [(21003,.cells 28 (k2 t)),(21004,.cells 36 (k6 xa1))]<|A.seq ?_
 obtain⟨az,h1,hm⟩:=aa hm;refine qDs [(1,hro (jG h1) acQ)] [] [(19,.bool (!decide (az=0)))] ?_;rcases aB hm with⟨c1,hm⟩|⟨c1,hm⟩
 ·refine qT c1<|qS [] [(6,i6 1)] [] ?_
  cases hm;exact A.ret qE
 refine qF c1<|A.skip<|A.seq ?_
 obtain⟨aH,h2,hm⟩:=aa hm;refine qDs [(1,hro (pG h2) apl)] [19] [(7,i6 aH)]<|qDs [] [] [(23,.bool (!decide (aH=0)))] ?_
 rcases aB hm with⟨c2,hm⟩|⟨c2,hm⟩
 ·refine qT c2<|qS [] [(6,i6 aH)] [] ?_
  cases hm;exact A.ret qE
 refine qF c2<|A.skip<|A.seq ?_
 obtain⟨bA,h3,hm⟩:=aa hm;refine qDs [(3,hro (jv h3) aas)] [7,23] [(29,.bool (!bA))] ?_;rcases aB hm with⟨c3,hm⟩|⟨c3,hm⟩
 ·refine qT c3<|qS [] [(6,i6 4)] [] ?_
  cases hm;exact A.ret qE
 refine qF c3<|A.skip<|A.seq<|qDs [(1,hto (lnE aj receivers))] [29] [(30,lf aj receivers),(31,i6 (receivers.length:Int)),(32,i6 0)]<|A.block<|A.bS 2 rfl λhb1=>?_
 obtain⟨B1,K1,hB1,hK1,hm⟩:=bh hm;refine A.lpI (l:=receivers) (j0:=0) (B:=B1) (K:=K1) hm (λj1=>λ()=>[(2,lf aj receivers),(3,.ptr 21003 0),(4,.ptr 21004 0),(30,lf aj receivers),(31,i6 (receivers.length:Int)),(32,i6 (j1:Int))]) (λj1=>λ()=>[(21003,.cells 28 (k2 t)),(21004,.cells 36 (k6 xa1))]) ?_ ?_ ?_
 ·exact qW
 ·rintro j1 e1 Z1 ⟨⟩ hj1 hx1 hm;rw[hB1]at hm;refine qDs [] [] [(33,.bool (decide ((j1:Int)<(receivers.length:Int))))]<|A.seq<|qT (ltT hx1)<|A.skip<|A.seq<|A.block<|qDs [(0,hix (ix aj (bn hx1)))] [33] [(9,i6 e1)] ?_
  obtain⟨bU,h4,hm⟩:=aa hm;refine qDs [(2,hro (jv h4) aas)] [9] [(39,.bool (!bU))] ?_;rcases aB hm with⟨c4,hm⟩|⟨c4,hm⟩
  ·refine qT c4<|qS [] [(6,i6 4)] [] ?_
   cases hm;exact A.ret qE
  exact qF c4<|A.skip<|qGs [(0,hto (inc hx1 hb1))] [32,39] [(32,i6 ((j1+1:Nat):Int))]<|qX () hm
 rintro j1 ⟨⟩ hj1 hl1 hm;rw[hK1]at hm;refine qDs [] [] [(33,.bool (decide ((j1:Int)<(receivers.length:Int))))]<|A.seq<|qF (ltF hl1)<|A.exit<|A.seq<|qDs [(2,hto (lnE aK xa1.Links))] [30,31,32,33] [(42,lf aK xa1.Links),(43,i6 (xa1.Links.length:Int)),(44,i6 0)]<|A.block<|A.bS 42 rfl λhb2=>?_
 obtain⟨B2,K2,hB2,hK2,hm⟩:=bh hm;refine A.lpI (l:=xa1.Links) (j0:=0) (B:=B2) (K:=K2) hm (λj2=>λ()=>[(2,lf aj receivers),(3,.ptr 21003 0),(4,.ptr 21004 0),(42,lf aK xa1.Links),(43,i6 (xa1.Links.length:Int)),(44,i6 (j2:Int))]) (λj2=>λ()=>[(21003,.cells 28 (k2 t)),(21004,.cells 36 (k6 xa1))]) ?_ ?_ ?_
 ·exact qW
 ·rintro j2 e2 Z2 ⟨⟩ hj2 hx2 hm;rw[hB2]at hm;refine qDs [] [] [(45,.bool (decide ((j2:Int)<(xa1.Links.length:Int))))]<|A.seq<|qT (ltT hx2)<|A.skip<|A.seq<|A.block<|qD [(0,hix (ix aK (bn hx2))),(2,.al 21011)] [45] [(11,.ptr 21011 0)] [] [(21011,.cells 84 (k3 e2))] ?_
  obtain⟨dP,h5,hm⟩:=aa hm;refine qD [(5,hro (sY h5) apm)] [11] [(13,.bool dP.2)] [21011] []<|qDs [] [13] [(58,.bool (!dP.2))] ?_
  rcases aB hm with⟨c5,hm⟩|⟨c5,hm⟩
  ·refine qT c5<|qS [] [(6,i6 4)] [] ?_
   cases hm;exact A.ret qE
  exact qF c5<|A.skip<|qGs [(0,hto (inc hx2 hb2))] [44,58] [(44,i6 ((j2+1:Nat):Int))]<|qX () hm
 rintro j2 ⟨⟩ hj2 hl2 hm;rw[hK2]at hm;refine qDs [] [] [(45,.bool (decide ((j2:Int)<(xa1.Links.length:Int))))]<|A.seq<|qF (ltF hl2)<|A.exit<|A.seq ?_
 obtain⟨cV,h6,hm⟩:=aa hm;refine qD [(1,hro (pH h6) apn)] [3,42,43,44,45] [(62,.bool (!cV))] [21003] [] ?_;rcases aB hm with⟨c6,hm⟩|⟨c6,hm⟩
 ·refine qT c6<|qS [] [(6,i6 25)] [] ?_
  cases hm;exact A.ret qE
 refine qF c6<|A.skip ?_
 obtain⟨cB,h7,hm⟩:=aa hm;refine qD [(1,hro (wV h7) ck82)] [4,62] [(14,lf aj cB)] [21004] []<|A.seq<|qDs [(1,hto (lnE aj receivers))] [2] [(65,lf aj receivers),(66,i6 (receivers.length:Int)),(67,i6 0)]<|A.block<|A.bS 65 rfl λhb3=>?_
 obtain⟨B3,K3,hB3,hK3,hm⟩:=bh hm;refine A.lpI (l:=receivers) (j0:=0) (B:=B3) (K:=K3) hm (λj3=>λ()=>[(14,lf aj cB),(65,lf aj receivers),(66,i6 (receivers.length:Int)),(67,i6 (j3:Int))]) (λj3=>λ()=>[]) ?_ ?_ ?_
 ·exact qW
 ·rintro j3 e3 Z3 ⟨⟩ hj3 hx3 hm;rw[hB3]at hm;refine qDs [] [] [(68,.bool (decide ((j3:Int)<(receivers.length:Int))))]<|A.seq<|qT (ltT hx3)<|A.skip<|A.seq<|A.block<|qDs [(0,hix (ix aj (bn hx3)))] [68] [(16,i6 e3)] ?_
  obtain⟨gd,h8,hm⟩:=aa hm;refine qDs [(2,hro (iq h8) acP)] [16] [(74,.bool (!gd))] ?_;rcases aB hm with⟨c7,hm⟩|⟨c7,hm⟩
  ·refine qT c7<|qS [] [(6,i6 9)] [] ?_
   cases hm;exact A.ret qE
  exact qF c7<|A.skip<|qGs [(0,hto (inc hx3 hb3))] [67,74] [(67,i6 ((j3+1:Nat):Int))]<|qX () hm
 rintro j3 ⟨⟩ hj3 hl3 hm;rw[hK3]at hm;refine qDs [] [] [(68,.bool (decide ((j3:Int)<(receivers.length:Int))))]<|A.seq<|qF (ltF hl3)<|A.exit<|qS [] [(6,i6 0)] [] ?_
 cases hm;exact A.ret qE
theorem zP{r:Int×Int}(hm:jH t xa1=some r):RO prog 29 [] [.agg (k2 t),.agg (k6 xa1)] (.tup [i6 r.1,i6 r.2]):=by
 refine aY func29 rfl rfl ?_;unfold jH at hm;refine qS [(0,.al 29002),(1,.al 29003)] [(2,.ptr 29002 0),(3,.ptr 29003 0)] [(29002,.cells 28 (k2 t)),(29003,.cells 36 (k6 xa1))]<|A.seq ?_
 obtain⟨az,h1,hm⟩:=aa hm;refine qDs [(2,hro (vj h1) ck21)] [] [(6,i6 az)]<|qDs [] [] [(16,.bool (!decide (az=0)))] ?_
 rcases aB hm with⟨c1,hm⟩|⟨c1,hm⟩
 ·refine qT c1<|qS [] [(4,i6 0),(5,i6 az)] [] ?_
  cases hm;exact A.ret qE
 refine qF c1<|A.skip<|qDs [] [6,16] [(7,i6 0)]<|A.seq<|qD [(2,hto (lnE aK xa1.Links))] [3] [(19,lf aK xa1.Links),(20,i6 (xa1.Links.length:Int)),(21,i6 0)] [29003] []<|A.block<|A.bS 19 rfl λhb1=>?_
 obtain⟨B1,K1,hB1,hK1,hm⟩:=bh hm;refine A.lpI (l:=xa1.Links) (j0:=0) (B:=B1) (K:=K1) hm (λj1=>λn_1=>[(2,.ptr 29002 0),(7,i6 n_1),(19,lf aK xa1.Links),(20,i6 (xa1.Links.length:Int)),(21,i6 (j1:Int))]) (λj1=>λn_1=>[(29002,.cells 28 (k2 t))]) ?_ ?_ ?_
 ·exact qW
 ·rintro j1 e1 Z1 n_1 hj1 hx1 hm;rw[hB1]at hm;refine qDs [] [] [(22,.bool (decide ((j1:Int)<(xa1.Links.length:Int))))]<|A.seq<|qT (ltT hx1)<|A.skip<|A.seq<|A.block<|qD [(0,hix (ix aK (bn hx1))),(2,.al 29009)] [22] [(9,.ptr 29009 0)] [] [(29009,.cells 84 (k3 e1))] ?_
  obtain⟨aH,h2,hm⟩:=aa hm;exact qD [(5,hro (sY h2) apm)] [9] [(10,i6 aH.1)] [29009] []<|qGs [] [7,10] [(7,i6 (w64 (n_1+aH.1)))]<|qGs [(0,hto (inc hx1 hb1))] [21] [(21,i6 ((j1+1:Nat):Int))]<|qX (w64 (n_1+aH.1)) hm
 rintro j1 n_1 hj1 hl1 hm;rw[hK1]at hm;refine qDs [] [] [(22,.bool (decide ((j1:Int)<(xa1.Links.length:Int))))]<|A.seq<|qF (ltF hl1)<|A.exit<|qS [] [(4,i6 n_1),(5,i6 0)] [] ?_
 cases hm;exact A.ret qE
theorem yR{root:Int}(hm:mC t root receivers=some r):RO prog 65 [] [.agg (k2 t),i6 root,lf aj receivers] (i6 r):=by
 refine aY func65 rfl rfl ?_;unfold mC at hm;refine qS [(0,.al 65003)] [(1,i6 root),(2,lf aj receivers),(3,.ptr 65003 0)] [(65003,.cells 28 (k2 t))]<|A.seq ?_
 obtain⟨az,h1,hm⟩:=aa hm;refine qDs [(1,hro (jG h1) acQ)] [] [(11,.bool (!decide (az=0)))] ?_;rcases aB hm with⟨c1,hm⟩|⟨c1,hm⟩
 ·refine qT c1<|qS [] [(6,i6 1)] [] ?_
  cases hm;exact A.ret qE
 refine qF c1<|A.skip<|A.seq ?_
 obtain⟨aH,h2,hm⟩:=aa hm;refine qDs [(1,hro (pH h2) apn)] [11] [(14,.bool (!aH))] ?_;rcases aB hm with⟨c2,hm⟩|⟨c2,hm⟩
 ·refine qT c2<|qS [] [(6,i6 25)] [] ?_
  cases hm;exact A.ret qE
 refine qF c2<|A.skip<|A.seq ?_
 obtain⟨l_1,h3,hm⟩:=aa hm;refine qD [(1,.al 65016),(3,hap 65518 (ap aj (bytes:=8) (by decide) h3)),(4,hto (lnE aj l_1))] [1,2,14] [(18,.own 65518),(19,i6 (l_1.length:Int)),(20,i6 0)] [] [(65518,.slice 3 1 (ml aj l_1) 0 false)]<|A.block<|A.bW 18 rfl rfl λhb1=>?_
 obtain⟨B1,K1,hB1,hK1,hm⟩:=bh hm;refine A.lpI (l:=l_1) (j0:=0) (B:=B1) (K:=K1) hm (λj1=>λ()=>[(3,.ptr 65003 0),(18,.own 65518),(19,i6 (l_1.length:Int)),(20,i6 (j1:Int))]) (λj1=>λ()=>[(65003,.cells 28 (k2 t)),(65518,.slice 3 1 (ml aj l_1) 0 false)]) ?_ ?_ ?_
 ·exact qW
 ·rintro j1 e1 Z1 ⟨⟩ hj1 hx1 hm;rw[hB1]at hm;refine qDs [] [] [(21,.bool (decide ((j1:Int)<(l_1.length:Int))))]<|A.seq<|qT (ltT hx1)<|A.skip<|A.seq<|A.block<|qDs [(0,hix (ix aj (bn hx1))),(1,hlo 65518 0 (ix aj (bn hx1)))] [21] [(8,i6 e1)] ?_
  obtain⟨bA,h4,hm⟩:=aa hm;refine qDs [(2,hro (jv h4) aas)] [8] [(27,.bool (!bA))] ?_;rcases aB hm with⟨c3,hm⟩|⟨c3,hm⟩
  ·refine qT c3<|qS [] [(6,i6 4)] [] ?_
   cases hm;exact A.ret qE
  exact qF c3<|A.skip<|qGs [(0,hto (inc hx1 hb1))] [20,27] [(20,i6 ((j1+1:Nat):Int))]<|qX () hm
 rintro j1 ⟨⟩ hj1 hl1 hm;rw[hK1]at hm;refine qDs [] [] [(21,.bool (decide ((j1:Int)<(l_1.length:Int))))]<|A.seq<|qF (ltF hl1)<|A.exit<|qS [] [(6,i6 0)] [] ?_
 cases hm;exact A.ret qE
end Go.Proofs.YtmnbolcmepihlaaGreat
