/- The gW of dB of the program. No condition but bk aJ stand in each. -/
import Derived.Test.YtmnbolcmepihlaaGreatVQ
import Derived.Test.YtmnbolcmepihlaaGreatVJ
namespace Go.Proofs.YtmnbolcmepihlaaGreat
open Go Go.Proofs.Tryz
set_option maxRecDepth 100000
set_option linter.all false
variable {r:Bool}
theorem gL{l:List Int}(hm:eR l=some r):RO prog 74 [] [lf ai l] (.bool r):=by
 refine aY func74 rfl rfl ?_
 unfold eR at hm
 refine qS [] [(0,lf ai l)] []<|A.seq<|qDs [] [] [(3,i6 1)]<|A.block<|A.bS 0 rfl λhb1=>?_
 obtain⟨B1,K1,hB1,hK1,hm⟩:=bf hm
 refine A.lpI (l:=l) (j0:=1) (B:=B1) (K:=K1) hm (λj1=>λ()=>[(0,lf ai l),(3,i6 (j1:Int))]) (λj1=>λ()=>[]) ?_ ?_ ?_
 ·exact qW
 ·rintro j1 e1 Z1 ⟨⟩ hj1 hx1 hm
  rw[hB1]at hm
  refine A.seq<|qDs [(2,hto (lnE ai l))] [] [(7,.bool (decide ((j1:Int)<(l.length:Int))))] ?_
  refine qT (ltT hx1)<|A.skip<|A.seq<|A.block ?_
  obtain⟨e_1,h1,hm⟩:=aa hm
  refine qDs [(3,hix (ix ai h1)),(7,hix (ix ai (bh hx1)))] [7] [(19,.bool (decide (e1≤e_1)))] ?_
  rcases aB hm with⟨c1,hm⟩|⟨c1,hm⟩
  ·refine qT c1<|qS [] [(2,.bool false)] [] ?_
   cases hm
   exact A.ret qE
  exact qF c1<|A.skip<|qGs [(1,hto (inc hx1 hb1))] [3,19] [(3,i6 ((j1+1:Nat):Int))]<|qX () hm
 rintro j1 ⟨⟩ hj1 hl1 hm
 rw[hK1]at hm
 refine A.seq<|qDs [(2,hto (lnE ai l))] [] [(7,.bool (decide ((j1:Int)<(l.length:Int))))] ?_
 refine qF (ltF hl1)<|A.exit<|qS [] [(2,.bool true)] [] ?_
 cases hm
 exact A.ret qE
variable {receivers:List Int}{t:aj}
theorem oS{root:Int}{r:Int}(hm:ic t root receivers=some r):RO prog 62 [] [.agg (k2 t),i6 root,lf ai receivers] (i6 r):=by
 refine aY func62 rfl rfl ?_
 unfold ic at hm
 refine qS [(0,.al 62003)] [(1,i6 root),(2,lf ai receivers),(3,.ptr 62003 0)] [(62003,.cells 28 (k2 t))]<|A.seq ?_
 obtain⟨az,h1,hm⟩:=aa hm
 refine qDs [(1,hro (kX h1) ae4)] [] [(11,.bool (!decide (az=0)))] ?_
 rcases aB hm with⟨c1,hm⟩|⟨c1,hm⟩
 ·refine qT c1<|qS [] [(6,i6 1)] [] ?_
  cases hm
  exact A.ret qE
 refine qF c1<|A.skip<|A.seq ?_
 obtain⟨aD,h2,hm⟩:=aa hm
 refine qDs [(1,hro (gL h2) acp)] [11] [(14,.bool (!aD))] ?_
 rcases aB hm with⟨c2,hm⟩|⟨c2,hm⟩
 ·refine qT c2<|qS [] [(6,i6 25)] [] ?_
  cases hm
  exact A.ret qE
 refine qF c2<|A.skip<|A.seq ?_
 obtain⟨l_1,h3,hm⟩:=aa hm
 refine qD [(1,.al 62016),(3,hap 62518 (ap ai (bytes:=8) (by decide) h3)),(4,hto (lnE ai l_1))] [1,2,14] [(18,.own 62518),(19,i6 (l_1.length:Int)),(20,i6 0)] [] [(62518,.slice 3 1 (ml ai l_1) 0 false)]<|A.block<|A.bW 18 rfl rfl λhb1=>?_
 obtain⟨B1,K1,hB1,hK1,hm⟩:=bf hm
 refine A.lpI (l:=l_1) (j0:=0) (B:=B1) (K:=K1) hm (λj1=>λ()=>[(3,.ptr 62003 0),(18,.own 62518),(19,i6 (l_1.length:Int)),(20,i6 (j1:Int))]) (λj1=>λ()=>[(62003,.cells 28 (k2 t)),(62518,.slice 3 1 (ml ai l_1) 0 false)]) ?_ ?_ ?_
 ·exact qW
 ·rintro j1 e1 Z1 ⟨⟩ hj1 hx1 hm
  rw[hB1]at hm
  refine qDs [] [] [(21,.bool (decide ((j1:Int)<(l_1.length:Int))))]<|A.seq<|qT (ltT hx1)<|A.skip<|A.seq<|A.block<|qDs [(0,hix (ix ai (bh hx1))),(1,hlo 62518 0 (ix ai (bh hx1)))] [21] [(8,i6 e1)] ?_
  obtain⟨bt,h4,hm⟩:=aa hm
  refine qDs [(2,hro (me h4) ae5)] [8] [(27,.bool (!bt))] ?_
  rcases aB hm with⟨c3,hm⟩|⟨c3,hm⟩
  ·refine qT c3<|qS [] [(6,i6 4)] [] ?_
   cases hm
   exact A.ret qE
  exact qF c3<|A.skip<|qGs [(0,hto (inc hx1 hb1))] [20,27] [(20,i6 ((j1+1:Nat):Int))]<|qX () hm
 rintro j1 ⟨⟩ hj1 hl1 hm
 rw[hK1]at hm
 refine qDs [] [] [(21,.bool (decide ((j1:Int)<(l_1.length:Int))))]<|A.seq<|qF (ltF hl1)<|A.exit<|qS [] [(6,i6 0)] [] ?_
 cases hm
 exact A.ret qE
variable {xa1:bV}
theorem gM{r:Int}(hm:fA t xa1 receivers=some r):RO prog 20 [] [.agg (k2 t),.agg (k6 xa1),lf ai receivers] (i6 r):=by
 refine aY func20 rfl rfl ?_
 unfold fA at hm
 refine qS [(0,.al 20003),(1,.al 20004)] [(2,lf ai receivers),(3,.ptr 20003 0),(4,.ptr 20004 0)] [(20003,.cells 28 (k2 t)),(20004,.cells 36 (k6 xa1))]<|A.seq ?_
 obtain⟨az,h1,hm⟩:=aa hm
 refine qDs [(1,hro (kX h1) ae4)] [] [(19,.bool (!decide (az=0)))] ?_
 rcases aB hm with⟨c1,hm⟩|⟨c1,hm⟩
 ·refine qT c1<|qS [] [(6,i6 1)] [] ?_
  cases hm
  exact A.ret qE
 refine qF c1<|A.skip<|A.seq ?_
 obtain⟨aD,h2,hm⟩:=aa hm
 refine qDs [(1,hro (lP h2) alz)] [19] [(7,i6 aD)]<|qDs [] [] [(23,.bool (!decide (aD=0)))] ?_
 rcases aB hm with⟨c2,hm⟩|⟨c2,hm⟩
 ·refine qT c2<|qS [] [(6,i6 aD)] [] ?_
  cases hm
  exact A.ret qE
 refine qF c2<|A.skip<|A.seq ?_
 obtain⟨l_1,h3,hm⟩:=aa hm
 refine qD [(2,.al 20027),(4,hap 20529 (ap ai (bytes:=8) (by decide) h3)),(5,hto (lnE ai l_1))] [7,23] [(29,.own 20529),(30,i6 (l_1.length:Int)),(31,i6 0)] [] [(20529,.slice 3 1 (ml ai l_1) 0 false)]<|A.block<|A.bW 29 rfl rfl λhb1=>?_
 obtain⟨B1,K1,hB1,hK1,hm⟩:=bf hm
 refine A.lpI (l:=l_1) (j0:=0) (B:=B1) (K:=K1) hm (λj1=>λ()=>[(2,lf ai receivers),(3,.ptr 20003 0),(4,.ptr 20004 0),(29,.own 20529),(30,i6 (l_1.length:Int)),(31,i6 (j1:Int))]) (λj1=>λ()=>[(20003,.cells 28 (k2 t)),(20004,.cells 36 (k6 xa1)),(20529,.slice 3 1 (ml ai l_1) 0 false)]) ?_ ?_ ?_
 ·exact qW
 ·rintro j1 e1 Z1 ⟨⟩ hj1 hx1 hm
  rw[hB1]at hm
  refine qDs [] [] [(32,.bool (decide ((j1:Int)<(l_1.length:Int))))]<|A.seq<|qT (ltT hx1)<|A.skip<|A.seq<|A.block<|qDs [(0,hix (ix ai (bh hx1))),(1,hlo 20529 0 (ix ai (bh hx1)))] [32] [(9,i6 e1)] ?_
  obtain⟨bt,h4,hm⟩:=aa hm
  refine qDs [(2,hro (me h4) ae5)] [9] [(38,.bool (!bt))] ?_
  rcases aB hm with⟨c3,hm⟩|⟨c3,hm⟩
  ·refine qT c3<|qS [] [(6,i6 4)] [] ?_
   cases hm
   exact A.ret qE
  exact qF c3<|A.skip<|qGs [(0,hto (inc hx1 hb1))] [31,38] [(31,i6 ((j1+1:Nat):Int))]<|qX () hm
 rintro j1 ⟨⟩ hj1 hl1 hm
 rw[hK1]at hm
 refine qDs [] [] [(32,.bool (decide ((j1:Int)<(l_1.length:Int))))]<|A.seq<|qF (ltF hl1)<|A.exit<|A.seq<|qD [(2,hto (lnE br xa1.Links))] [29,30,31,32] [(41,lf br xa1.Links),(42,i6 (xa1.Links.length:Int)),(43,i6 0)] [20529] []<|A.block<|A.bS 41 rfl λhb2=>?_
 obtain⟨B2,K2,hB2,hK2,hm⟩:=bf hm
 refine A.lpI (l:=xa1.Links) (j0:=0) (B:=B2) (K:=K2) hm (λj2=>λ()=>[(2,lf ai receivers),(3,.ptr 20003 0),(4,.ptr 20004 0),(41,lf br xa1.Links),(42,i6 (xa1.Links.length:Int)),(43,i6 (j2:Int))]) (λj2=>λ()=>[(20003,.cells 28 (k2 t)),(20004,.cells 36 (k6 xa1))]) ?_ ?_ ?_
 ·exact qW
 ·rintro j2 e2 Z2 ⟨⟩ hj2 hx2 hm
  rw[hB2]at hm
  refine qDs [] [] [(44,.bool (decide ((j2:Int)<(xa1.Links.length:Int))))]<|A.seq<|qT (ltT hx2)<|A.skip<|A.seq<|A.block<|qD [(0,hix (ix br (bh hx2))),(2,.al 20011)] [44] [(11,.ptr 20011 0)] [] [(20011,.cells 84 (k3 e2))] ?_
  obtain⟨bJ,h5,hm⟩:=aa hm
  refine qD [(5,hro (oR h5) aly)] [11] [(13,.bool bJ.2)] [20011] []<|qDs [] [13] [(57,.bool (!bJ.2))] ?_
  rcases aB hm with⟨c4,hm⟩|⟨c4,hm⟩
  ·refine qT c4<|qS [] [(6,i6 4)] [] ?_
   cases hm
   exact A.ret qE
  exact qF c4<|A.skip<|qGs [(0,hto (inc hx2 hb2))] [43,57] [(43,i6 ((j2+1:Nat):Int))]<|qX () hm
 rintro j2 ⟨⟩ hj2 hl2 hm
 rw[hK2]at hm
 refine qDs [] [] [(44,.bool (decide ((j2:Int)<(xa1.Links.length:Int))))]<|A.seq<|qF (ltF hl2)<|A.exit<|A.seq ?_
 obtain⟨cc,h6,hm⟩:=aa hm
 refine qD [(1,hro (gL h6) acp)] [3,41,42,43,44] [(61,.bool (!cc))] [20003] [] ?_
 rcases aB hm with⟨c5,hm⟩|⟨c5,hm⟩
 ·refine qT c5<|qS [] [(6,i6 25)] [] ?_
  cases hm
  exact A.ret qE
 refine qF c5<|A.skip ?_
 obtain⟨dh,h7,hm⟩:=aa hm
 refine qD [(1,hro (rB h7) ck75)] [4,61] [(14,lf ai dh)] [20004] []<|A.seq<|qDs [(1,hto (lnE ai receivers))] [2] [(64,lf ai receivers),(65,i6 (receivers.length:Int)),(66,i6 0)]<|A.block<|A.bS 64 rfl λhb3=>?_
 obtain⟨B3,K3,hB3,hK3,hm⟩:=bf hm
 refine A.lpI (l:=receivers) (j0:=0) (B:=B3) (K:=K3) hm (λj3=>λ()=>[(14,lf ai dh),(64,lf ai receivers),(65,i6 (receivers.length:Int)),(66,i6 (j3:Int))]) (λj3=>λ()=>[]) ?_ ?_ ?_
 ·exact qW
 ·rintro j3 e3 Z3 ⟨⟩ hj3 hx3 hm
  rw[hB3]at hm
  refine qDs [] [] [(67,.bool (decide ((j3:Int)<(receivers.length:Int))))]<|A.seq<|qT (ltT hx3)<|A.skip<|A.seq<|A.block<|qDs [(0,hix (ix ai (bh hx3)))] [67] [(16,i6 e3)] ?_
  obtain⟨cU,h8,hm⟩:=aa hm
  refine qDs [(2,hro (dn h8) x5)] [16] [(73,.bool (!cU))] ?_
  rcases aB hm with⟨c6,hm⟩|⟨c6,hm⟩
  ·refine qT c6<|qS [] [(6,i6 9)] [] ?_
   cases hm
   exact A.ret qE
  exact qF c6<|A.skip<|qGs [(0,hto (inc hx3 hb3))] [66,73] [(66,i6 ((j3+1:Nat):Int))]<|qX () hm
 rintro j3 ⟨⟩ hj3 hl3 hm
 rw[hK3]at hm
 refine qDs [] [] [(67,.bool (decide ((j3:Int)<(receivers.length:Int))))]<|A.seq<|qF (ltF hl3)<|A.exit<|qS [] [(6,i6 0)] [] ?_
 cases hm
 exact A.ret qE
theorem vp{r:Int×Int}(hm:jW t xa1=some r):RO prog 19 [] [.agg (k2 t),.agg (k6 xa1)] (.tup [i6 r.1,i6 r.2]):=by
 refine aY func19 rfl rfl ?_
 unfold jW at hm
 refine qS [(0,.al 19002),(1,.al 19003)] [(2,.ptr 19002 0),(3,.ptr 19003 0)] [(19002,.cells 28 (k2 t)),(19003,.cells 36 (k6 xa1))]<|A.seq ?_
 obtain⟨az,h1,hm⟩:=aa hm
 refine qDs [(2,hro (gM h1) acn)] [] [(6,i6 az)]<|qDs [] [] [(16,.bool (!decide (az=0)))] ?_
 rcases aB hm with⟨c1,hm⟩|⟨c1,hm⟩
 ·refine qT c1<|qS [] [(4,i6 0),(5,i6 az)] [] ?_
  cases hm
  exact A.ret qE
 refine qF c1<|A.skip<|qDs [] [6,16] [(7,i6 0)]<|A.seq<|qD [(2,hto (lnE br xa1.Links))] [3] [(19,lf br xa1.Links),(20,i6 (xa1.Links.length:Int)),(21,i6 0)] [19003] []<|A.block<|A.bS 19 rfl λhb1=>?_
 obtain⟨B1,K1,hB1,hK1,hm⟩:=bf hm
 refine A.lpI (l:=xa1.Links) (j0:=0) (B:=B1) (K:=K1) hm (λj1=>λdF=>[(2,.ptr 19002 0),(7,i6 dF),(19,lf br xa1.Links),(20,i6 (xa1.Links.length:Int)),(21,i6 (j1:Int))]) (λj1=>λdF=>[(19002,.cells 28 (k2 t))]) ?_ ?_ ?_
 ·exact qW
 ·rintro j1 e1 Z1 dF hj1 hx1 hm
  rw[hB1]at hm
  refine qDs [] [] [(22,.bool (decide ((j1:Int)<(xa1.Links.length:Int))))]<|A.seq<|qT (ltT hx1)<|A.skip<|A.seq<|A.block<|qD [(0,hix (ix br (bh hx1))),(2,.al 19009)] [22] [(9,.ptr 19009 0)] [] [(19009,.cells 84 (k3 e1))] ?_
  obtain⟨aD,h2,hm⟩:=aa hm
  exact qD [(5,hro (oR h2) aly)] [9] [(10,i6 aD.1)] [19009] []<|qGs [] [7,10] [(7,i6 (w64 (dF+aD.1)))]<|qGs [(0,hto (inc hx1 hb1))] [21] [(21,i6 ((j1+1:Nat):Int))]<|qX (w64 (dF+aD.1)) hm
 rintro j1 dF hj1 hl1 hm
 rw[hK1]at hm
 refine qDs [] [] [(22,.bool (decide ((j1:Int)<(xa1.Links.length:Int))))]<|A.seq<|qF (ltF hl1)<|A.exit<|qS [] [(4,i6 dF),(5,i6 0)] [] ?_
 cases hm
 exact A.ret qE
theorem rC{ra0:Int}{c_0:jR}(hm:kZ ra0 c_0=some r):RO prog 171 [] [i6 ra0,.cD (k7 c_0)] (.bool r):=by
 refine aY func171 rfl rfl ?_
 unfold kZ at hm
 refine qS [] [(0,i6 ra0),(1,.cD (k7 c_0))] [] ?_
 obtain⟨az,h1,hm⟩:=aa hm
 refine qS [(3,hro (dn h1) x5)] [(3,.bool az)] [] ?_
 cases hm
 exact A.ret qE
variable {l:List jR}
theorem s4{root:Int}(hm:mj t root receivers l=some r):RO prog 108 [] [.agg (k2 t),i6 root,lf ai receivers,lf eN l] (.bool r):=by
 refine aY func108 rfl rfl ?_
 unfold mj at hm
 refine qS [(0,.al 108004)] [(1,i6 root),(2,lf ai receivers),(3,lf eN l),(4,.ptr 108004 0)] [(108004,.cells 28 (k2 t))]<|A.seq<|qDs [(1,hto (lnE eN l))] [] [(20,.bool (decide (200<(l.length:Int))))] ?_
 rcases aB hm with⟨c1,hm⟩|⟨c1,hm⟩
 ·refine qT c1<|qS [] [(8,.bool false)] [] ?_
  cases hm
  exact A.ret qE
 refine qF c1<|A.skip<|A.seq<|qDs [(1,hto (lnE eN l))] [20] [(21,lf eN l),(22,i6 (l.length:Int)),(23,i6 0)]<|A.block<|A.bS 3 rfl λhb1=>?_
 obtain⟨B1,K1,hB1,hK1,hm⟩:=bf hm
 refine A.lpI (l:=l) (j0:=0) (B:=B1) (K:=K1) hm (λj1=>λ()=>[(1,i6 root),(2,lf ai receivers),(3,lf eN l),(4,.ptr 108004 0),(21,lf eN l),(22,i6 (l.length:Int)),(23,i6 (j1:Int))]) (λj1=>λ()=>[(108004,.cells 28 (k2 t))]) ?_ ?_ ?_
 ·exact qW
 ·rintro j1 e1 Z1 ⟨⟩ hj1 hx1 hm
  rw[hB1]at hm
  refine qDs [] [] [(24,.bool (decide ((j1:Int)<(l.length:Int))))]<|A.seq<|qT (ltT hx1)<|A.skip<|A.seq<|A.block<|qD [(0,hix (ix eN (bh hx1))),(2,.al 108010)] [24] [(10,.ptr 108010 0)] [] [(108010,.cells 120 (k7 e1))]<|A.seq ?_
  obtain⟨J1,hJ1,hm⟩:=cV hm
  refine A.J (J:=J1) (r:=r) (λv_1=>[(1,i6 root),(2,lf ai receivers),(3,lf eN l),(4,.ptr 108004 0),(10,.ptr 108010 0),(21,lf eN l),(22,i6 (l.length:Int)),(23,i6 (j1:Int)),(46,.bool v_1)]) (λv_1=>[(108004,.cells 28 (k2 t)),(108010,.cells 120 (k7 e1))]) ?_ ?_
  ·rcases aB hm with⟨c2,hm⟩|⟨c2,hm⟩
   ·exact qGs [(3,hto (bE c2))] [] [(46,.bool true)]<|qX true hm
   rcases aB hm with⟨c3,hm⟩|⟨c3,hm⟩
   ·exact qGs [(3,hto (bE c2)),(8,hto (bE c3))] [] [(46,.bool true)]<|qX true hm
   obtain⟨az,h1,hm⟩:=aa hm
   rcases aB hm with⟨c4,hm⟩|⟨c4,hm⟩
   ·exact qGs [(3,hto (bE c2)),(8,hto (bE c3)),(11,hro (gL h1) acp),(14,hto (bE c4))] [] [(46,.bool true)]<|qX true hm
   obtain⟨aD,h2,hm⟩:=aa hm
   exact qGs [(3,hto (bE c2)),(8,hto (bE c3)),(11,hro (gL h1) acp),(14,hto (bE c4)),(18,hro (dn h2) x5)] [] [(46,.bool aD)]<|qX aD hm
  rintro v_1 hm
  rw[hJ1]at hm
  rcases aB hm with⟨c5,hm⟩|⟨c5,hm⟩
  ·refine qT c5<|qS [] [(8,.bool false)] [] ?_
   cases hm
   exact A.ret qE
  refine qF c5<|A.skip<|A.seq<|qDs [(2,hto (lnE ai e1.ak))] [46] [(48,lf ai e1.ak),(49,i6 (e1.ak.length:Int)),(50,i6 0)]<|A.block<|A.bS 48 rfl λhb2=>?_
  obtain⟨B2,K2,hB2,hK2,hm⟩:=bf hm
  refine A.lpI (l:=e1.ak) (j0:=0) (B:=B2) (K:=K2) hm (λj2=>λ()=>[(1,i6 root),(2,lf ai receivers),(3,lf eN l),(4,.ptr 108004 0),(10,.ptr 108010 0),(21,lf eN l),(22,i6 (l.length:Int)),(23,i6 (j1:Int)),(48,lf ai e1.ak),(49,i6 (e1.ak.length:Int)),(50,i6 (j2:Int))]) (λj2=>λ()=>[(108004,.cells 28 (k2 t)),(108010,.cells 120 (k7 e1))]) ?_ ?_ ?_
  ·exact qW
  ·rintro j2 e2 Z2 ⟨⟩ hj2 hx2 hm
   rw[hB2]at hm
   refine qDs [] [] [(51,.bool (decide ((j2:Int)<(e1.ak.length:Int))))]<|A.seq<|qT (ltT hx2)<|A.skip<|A.seq<|A.block<|qDs [(0,hix (ix ai (bh hx2)))] [51] [(12,i6 e2)] ?_
   obtain⟨bt,h3,hm⟩:=aa hm
   refine qDs [(2,hro (me h3) ae5)] [12] [(57,.bool (!bt))] ?_
   rcases aB hm with⟨c6,hm⟩|⟨c6,hm⟩
   ·refine qT c6<|qS [] [(8,.bool false)] [] ?_
    cases hm
    exact A.ret qE
   exact qF c6<|A.skip<|qGs [(0,hto (inc hx2 hb2))] [50,57] [(50,i6 ((j2+1:Nat):Int))]<|qX () hm
  rintro j2 ⟨⟩ hj2 hl2 hm
  rw[hK2]at hm
  refine qDs [] [] [(51,.bool (decide ((j2:Int)<(e1.ak.length:Int))))]<|A.seq<|qF (ltF hl2)<|A.exit ?_
  obtain⟨bJ,h4,hm⟩:=aa hm
  refine qD [(2,hle [108010] (mA (f_g:=171) (f_c:=[.cD (k7 e1)]) (f_k:=aoq) (f_f:=λ_ _ h=>rC h) h4) aop)] [10,48,49,50,51] [(62,.bool (!bJ))] [108010] [] ?_
  rcases aB hm with⟨c7,hm⟩|⟨c7,hm⟩
  ·refine qT c7<|qS [] [(8,.bool false)] [] ?_
   cases hm
   exact A.ret qE
  exact qF c7<|A.skip<|qGs [(0,hto (inc hx1 hb1))] [23,62] [(23,i6 ((j1+1:Nat):Int))]<|qX () hm
 rintro j1 ⟨⟩ hj1 hl1 hm
 rw[hK1]at hm
 refine qDs [] [] [(24,.bool (decide ((j1:Int)<(l.length:Int))))]<|A.seq<|qF (ltF hl1)<|A.exit<|A.seq ?_
 obtain⟨cc,h5,hm⟩:=aa hm
 refine qS [(1,hro (tM h5) alw),(2,hto (lnE aR cc))] [(3,lf eN l),(65,lf aR cc),(66,i6 (cc.length:Int)),(67,i6 0)] []<|A.block<|A.bS 65 rfl λhb3=>?_
 obtain⟨B3,K3,hB3,hK3,hm⟩:=bf hm
 refine A.lpI (l:=cc) (j0:=0) (B:=B3) (K:=K3) hm (λj3=>λ()=>[(3,lf eN l),(65,lf aR cc),(66,i6 (cc.length:Int)),(67,i6 (j3:Int))]) (λj3=>λ()=>[]) ?_ ?_ ?_
 ·exact qW
 ·rintro j3 e3 Z3 ⟨⟩ hj3 hx3 hm
  rw[hB3]at hm
  refine qDs [] [] [(68,.bool (decide ((j3:Int)<(cc.length:Int))))]<|A.seq<|qT (ltT hx3)<|A.skip<|A.seq<|A.block<|qD [(0,hix (ix aR (bh hx3))),(2,.al 108014)] [68] [(14,.ptr 108014 0)] [] [(108014,.cells 175 (k4 e3))]<|qDs [] [] [(15,i6 0)]<|A.seq<|qDs [(1,hto (lnE eN l))] [] [(71,lf eN l),(72,i6 (l.length:Int)),(73,i6 0)]<|A.block<|A.bS 3 rfl λhb4=>?_
  obtain⟨B4,K4,hB4,hK4,hm⟩:=bf hm
  refine A.lpI (l:=l) (j0:=0) (B:=B4) (K:=K4) hm (λj4=>λdF=>[(3,lf eN l),(14,.ptr 108014 0),(15,i6 dF),(65,lf aR cc),(66,i6 (cc.length:Int)),(67,i6 (j3:Int)),(71,lf eN l),(72,i6 (l.length:Int)),(73,i6 (j4:Int))]) (λj4=>λdF=>[(108014,.cells 175 (k4 e3))]) ?_ ?_ ?_
  ·exact qW
  ·rintro j4 e4 Z4 dF hj4 hx4 hm
   rw[hB4]at hm
   refine qDs [] [] [(74,.bool (decide ((j4:Int)<(l.length:Int))))]<|A.seq<|qT (ltT hx4)<|A.skip ?_
   obtain⟨J2,hJ2,hm⟩:=cV hm
   refine A.J (J:=J2) (r:=r) (λvk=>[(3,lf eN l),(14,.ptr 108014 0),(15,i6 vk),(65,lf aR cc),(66,i6 (cc.length:Int)),(67,i6 (j3:Int)),(71,lf eN l),(72,i6 (l.length:Int)),(73,i6 (j4:Int))]) (λvk=>[(108014,.cells 175 (k4 e3))]) ?_ ?_
   ·refine A.block<|qD [(0,hix (ix eN (bh hx4))),(2,.al 108017)] [74] [(17,.ptr 108017 0)] [] [(108017,.cells 120 (k7 e4))] ?_
    obtain⟨J3,hJ3,hm⟩:=cV hm
    refine A.J (J:=J3) (r:=r) (λv_2=>[(3,lf eN l),(14,.ptr 108014 0),(15,i6 dF),(17,.ptr 108017 0),(65,lf aR cc),(66,i6 (cc.length:Int)),(67,i6 (j3:Int)),(71,lf eN l),(72,i6 (l.length:Int)),(73,i6 (j4:Int)),(91,.bool v_2)]) (λv_2=>[(108014,.cells 175 (k4 e3)),(108017,.cells 120 (k7 e4))]) ?_ ?_
    ·obtain⟨dh,h6,hm⟩:=aa hm
     rcases aB hm with⟨c8,hm⟩|⟨c8,hm⟩
     ·obtain⟨cU,h7,hm⟩:=aa hm
      exact qGs [(5,hro (dn h6) x5),(6,hto (bE c8)),(12,hro (dn h7) x5)] [] [(91,.bool (!cU))]<|qX (!cU) hm
     exact qGs [(5,hro (dn h6) x5),(6,hto (bE c8))] [] [(91,.bool false)]<|qX false hm
    rintro v_2 hm
    rw[hJ3]at hm
    rcases aB hm with⟨c9,hm⟩|⟨c9,hm⟩
    ·exact qT c9<|qG [] [15,17,91] [(15,i6 (w64 (dF+e4.Value)))] [108017] []<|qX (w64 (dF+e4.Value)) hm
    exact qF c9<|A.skip<|qX dF hm
   rintro vk hm
   rw[hJ2]at hm
   exact qGs [(0,hto (inc hx4 hb4))] [73] [(73,i6 ((j4+1:Nat):Int))]<|qX vk hm
  rintro j4 dF hj4 hl4 hm
  rw[hK4]at hm
  refine qDs [] [] [(74,.bool (decide ((j4:Int)<(l.length:Int))))]<|A.seq<|qF (ltF hl4)<|A.exit<|qD [] [14,15,71,72,73,74] [(100,.bool (decide (e3.bO<dF)))] [108014] [] ?_
  rcases aB hm with⟨c10,hm⟩|⟨c10,hm⟩
  ·refine qT c10<|qS [] [(8,.bool false)] [] ?_
   cases hm
   exact A.ret qE
  exact qF c10<|A.skip<|qGs [(0,hto (inc hx3 hb3))] [67,100] [(67,i6 ((j3+1:Nat):Int))]<|qX () hm
 rintro j3 ⟨⟩ hj3 hl3 hm
 rw[hK3]at hm
 refine qDs [] [] [(68,.bool (decide ((j3:Int)<(cc.length:Int))))]<|A.seq<|qF (ltF hl3)<|A.exit<|qS [] [(8,.bool true)] [] ?_
 cases hm
 exact A.ret qE
theorem qy{root:Int}{r:Int×Int}(hm:iC t root receivers l=some r):RO prog 48 [] [.agg (k2 t),i6 root,lf ai receivers,lf eN l] (.tup [i6 r.1,i6 r.2]):=by
 refine aY func48 rfl rfl ?_
 unfold iC at hm
 refine qS [(0,.al 48004)] [(1,i6 root),(2,lf ai receivers),(3,lf eN l),(4,.ptr 48004 0)] [(48004,.cells 28 (k2 t))]<|A.seq ?_
 obtain⟨az,h1,hm⟩:=aa hm
 refine qDs [(3,hro (oS h1) alv)] [] [(10,i6 az)]<|qDs [] [] [(19,.bool (!decide (az=0)))] ?_
 rcases aB hm with⟨c1,hm⟩|⟨c1,hm⟩
 ·refine qT c1<|qS [] [(8,i6 0),(9,i6 az)] [] ?_
  cases hm
  exact A.ret qE
 refine qF c1<|A.skip<|A.seq ?_
 obtain⟨aD,h2,hm⟩:=aa hm
 refine qS [(4,hro (s4 h2) an7)] [(3,lf eN l),(26,.bool (!aD))] [] ?_
 rcases aB hm with⟨c2,hm⟩|⟨c2,hm⟩
 ·refine qT c2<|qS [] [(8,i6 0),(9,i6 1)] [] ?_
  cases hm
  exact A.ret qE
 refine qF c2<|A.skip<|qDs [] [26] [(11,i6 0)]<|A.seq<|qDs [(1,hto (lnE eN l))] [3] [(27,lf eN l),(28,i6 (l.length:Int)),(29,i6 0)]<|A.block<|A.bS 27 rfl λhb1=>?_
 obtain⟨B1,K1,hB1,hK1,hm⟩:=bf hm
 refine A.lpI (l:=l) (j0:=0) (B:=B1) (K:=K1) hm (λj1=>λdF=>[(11,i6 dF),(27,lf eN l),(28,i6 (l.length:Int)),(29,i6 (j1:Int))]) (λj1=>λdF=>[]) ?_ ?_ ?_
 ·exact qW
 ·rintro j1 e1 Z1 dF hj1 hx1 hm
  rw[hB1]at hm
  exact qDs [] [] [(30,.bool (decide ((j1:Int)<(l.length:Int))))]<|A.seq<|qT (ltT hx1)<|A.skip<|A.seq<|A.block<|qD [(0,hix (ix eN (bh hx1))),(2,.al 48013)] [30] [(13,.ptr 48013 0)] [] [(48013,.cells 120 (k7 e1))]<|qG [] [11,13] [(11,i6 (w64 (dF+e1.Value)))] [48013] []<|qGs [(0,hto (inc hx1 hb1))] [29] [(29,i6 ((j1+1:Nat):Int))]<|qX (w64 (dF+e1.Value)) hm
 rintro j1 dF hj1 hl1 hm
 rw[hK1]at hm
 refine qDs [] [] [(30,.bool (decide ((j1:Int)<(l.length:Int))))]<|A.seq<|qF (ltF hl1)<|A.exit<|qS [] [(8,i6 dF),(9,i6 0)] [] ?_
 cases hm
 exact A.ret qE
end Go.Proofs.YtmnbolcmepihlaaGreat
