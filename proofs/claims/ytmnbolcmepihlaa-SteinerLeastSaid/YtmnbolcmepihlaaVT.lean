/- The gi of cW of the program. No condition but aX aH stand in each. -/
import Derived.Test.YtmnbolcmepihlaaVQ
namespace Go.Proofs.Ytmnbolcmepihlaa
open Go Go.Proofs.Try
set_option maxRecDepth 100000
set_option linter.all false
variable {r:Bool}
theorem gK{l:List Int}(hm:er l=some r):RO prog 22 [] [lf aB l] (.bool r):=by
 refine bw func22 rfl rfl ?_
 unfold er at hm
 refine qS [] [(0,lf aB l)] []<|A.seq<|qDs [] [] [(3,i6 1)]<|A.block<|A.bS 0 rfl λhb1=>?_
 obtain⟨B1,K1,hB1,hK1,hm⟩:=cH hm
 refine A.lpI (l:=l) (j0:=1) (B:=B1) (K:=K1) hm (λj1=>λ()=>[(0,lf aB l),(3,i6 (j1:Int))]) (λj1=>λ()=>[]) ?_ ?_ ?_
 ·exact qW
 ·rintro j1 e1 Z1 ⟨⟩ hj1 hx1 hm
  rw[hB1]at hm
  refine A.seq<|qDs [(2,hto (lnE aB l))] [] [(7,.bool (decide ((j1:Int)<(l.length:Int))))] ?_
  refine qT (ltT hx1)<|A.skip<|A.seq<|A.block ?_
  obtain⟨e_1,h1,hm⟩:=ak hm
  refine qDs [(3,hix (ix aB h1)),(7,hix (ix aB (dG hx1)))] [7] [(19,.bool (decide (e1≤e_1)))] ?_
  rcases aQ hm with⟨c1,hm⟩|⟨c1,hm⟩
  ·refine qT c1<|qS [] [(2,.bool false)] [] ?_
   cases hm
   exact A.ret qE
  exact qF c1<|A.skip<|qGs [(1,hto (inc hx1 hb1))] [3,19] [(3,i6 ((j1+1:Nat):Int))]<|qX () hm
 rintro j1 ⟨⟩ hj1 hl1 hm
 rw[hK1]at hm
 refine A.seq<|qDs [(2,hto (lnE aB l))] [] [(7,.bool (decide ((j1:Int)<(l.length:Int))))] ?_
 refine qF (ltF hl1)<|A.exit<|qS [] [(2,.bool true)] [] ?_
 cases hm
 exact A.ret qE
variable {receivers:List Int}{t:az}
theorem lE{root:Int}{r:Int}(hm:fJ t root receivers=some r):RO prog 16 [] [.agg (k2 t),i6 root,lf aB receivers] (i6 r):=by
 refine bw func16 rfl rfl ?_
 unfold fJ at hm
 refine qS [(0,.al 16003)] [(1,i6 root),(2,lf aB receivers),(3,.ptr 16003 0)] [(16003,.cells 28 (k2 t))]<|A.seq ?_
 obtain⟨aq,h1,hm⟩:=ak hm
 refine qDs [(1,hro (kL h1) af7)] [] [(11,.bool (!decide (aq=0)))] ?_
 rcases aQ hm with⟨c1,hm⟩|⟨c1,hm⟩
 ·refine qT c1<|qS [] [(6,i6 1)] [] ?_
  cases hm
  exact A.ret qE
 refine qF c1<|A.skip<|A.seq ?_
 obtain⟨aL,h2,hm⟩:=ak hm
 refine qDs [(1,hro (gK h2) z8)] [11] [(14,.bool (!aL))] ?_
 rcases aQ hm with⟨c2,hm⟩|⟨c2,hm⟩
 ·refine qT c2<|qS [] [(6,i6 25)] [] ?_
  cases hm
  exact A.ret qE
 refine qF c2<|A.skip<|A.seq ?_
 obtain⟨l_1,h3,hm⟩:=ak hm
 refine qD [(1,.al 16016),(3,hap 16518 (ap aB (bytes:=8) (by decide) h3)),(4,hto (lnE aB l_1))] [1,2,14] [(18,.own 16518),(19,i6 (l_1.length:Int)),(20,i6 0)] [] [(16518,.slice 3 1 (ml aB l_1) 0 false)]<|A.block<|A.bW 18 rfl rfl λhb1=>?_
 obtain⟨B1,K1,hB1,hK1,hm⟩:=cH hm
 refine A.lpI (l:=l_1) (j0:=0) (B:=B1) (K:=K1) hm (λj1=>λ()=>[(3,.ptr 16003 0),(18,.own 16518),(19,i6 (l_1.length:Int)),(20,i6 (j1:Int))]) (λj1=>λ()=>[(16003,.cells 28 (k2 t)),(16518,.slice 3 1 (ml aB l_1) 0 false)]) ?_ ?_ ?_
 ·exact qW
 ·rintro j1 e1 Z1 ⟨⟩ hj1 hx1 hm
  rw[hB1]at hm
  refine qDs [] [] [(21,.bool (decide ((j1:Int)<(l_1.length:Int))))]<|A.seq<|qT (ltT hx1)<|A.skip<|A.seq<|A.block<|qDs [(0,hix (ix aB (dG hx1))),(1,hlo 16518 0 (ix aB (dG hx1)))] [21] [(8,i6 e1)] ?_
  obtain⟨bM,h4,hm⟩:=ak hm
  refine qDs [(2,hro (lR h4) af8)] [8] [(27,.bool (!bM))] ?_
  rcases aQ hm with⟨c3,hm⟩|⟨c3,hm⟩
  ·refine qT c3<|qS [] [(6,i6 4)] [] ?_
   cases hm
   exact A.ret qE
  exact qF c3<|A.skip<|qGs [(0,hto (inc hx1 hb1))] [20,27] [(20,i6 ((j1+1:Nat):Int))]<|qX () hm
 rintro j1 ⟨⟩ hj1 hl1 hm
 rw[hK1]at hm
 refine qDs [] [] [(21,.bool (decide ((j1:Int)<(l_1.length:Int))))]<|A.seq<|qF (ltF hl1)<|A.exit<|qS [] [(6,i6 0)] [] ?_
 cases hm
 exact A.ret qE
theorem nE{ra0:Int}{c_0:hU}(hm:iN ra0 c_0=some r):RO prog 55 [] [i6 ra0,.bV (k6 c_0)] (.bool r):=by
 refine bw func55 rfl rfl ?_
 unfold iN at hm
 refine qS [] [(0,i6 ra0),(1,.bV (k6 c_0))] [] ?_
 obtain⟨aq,h1,hm⟩:=ak hm
 refine qS [(3,hro (de h1) vN)] [(3,.bool aq)] [] ?_
 cases hm
 exact A.ret qE
variable {l:List hU}
theorem oN{root:Int}(hm:jy t root receivers l=some r):RO prog 35 [] [.agg (k2 t),i6 root,lf aB receivers,lf dS l] (.bool r):=by
 refine bw func35 rfl rfl ?_
 unfold jy at hm
 refine qS [(0,.al 35004)] [(1,i6 root),(2,lf aB receivers),(3,lf dS l),(4,.ptr 35004 0)] [(35004,.cells 28 (k2 t))]<|A.seq<|qDs [(1,hto (lnE dS l))] [] [(20,.bool (decide (200<(l.length:Int))))] ?_
 rcases aQ hm with⟨c1,hm⟩|⟨c1,hm⟩
 ·refine qT c1<|qS [] [(8,.bool false)] [] ?_
  cases hm
  exact A.ret qE
 refine qF c1<|A.skip<|A.seq<|qDs [(1,hto (lnE dS l))] [20] [(21,lf dS l),(22,i6 (l.length:Int)),(23,i6 0)]<|A.block<|A.bS 3 rfl λhb1=>?_
 obtain⟨B1,K1,hB1,hK1,hm⟩:=cH hm
 refine A.lpI (l:=l) (j0:=0) (B:=B1) (K:=K1) hm (λj1=>λ()=>[(1,i6 root),(2,lf aB receivers),(3,lf dS l),(4,.ptr 35004 0),(21,lf dS l),(22,i6 (l.length:Int)),(23,i6 (j1:Int))]) (λj1=>λ()=>[(35004,.cells 28 (k2 t))]) ?_ ?_ ?_
 ·exact qW
 ·rintro j1 e1 Z1 ⟨⟩ hj1 hx1 hm
  rw[hB1]at hm
  refine qDs [] [] [(24,.bool (decide ((j1:Int)<(l.length:Int))))]<|A.seq<|qT (ltT hx1)<|A.skip<|A.seq<|A.block<|qD [(0,hix (ix dS (dG hx1))),(2,.al 35010)] [24] [(10,.ptr 35010 0)] [] [(35010,.cells 63 (k6 e1))]<|A.seq ?_
  obtain⟨J1,hJ1,hm⟩:=eF hm
  refine A.J (J:=J1) (r:=r) (λv_1=>[(1,i6 root),(2,lf aB receivers),(3,lf dS l),(4,.ptr 35004 0),(10,.ptr 35010 0),(21,lf dS l),(22,i6 (l.length:Int)),(23,i6 (j1:Int)),(46,.bool v_1)]) (λv_1=>[(35004,.cells 28 (k2 t)),(35010,.cells 63 (k6 e1))]) ?_ ?_
  ·rcases aQ hm with⟨c2,hm⟩|⟨c2,hm⟩
   ·exact qGs [(3,hto (bE c2))] [] [(46,.bool true)]<|qX true hm
   rcases aQ hm with⟨c3,hm⟩|⟨c3,hm⟩
   ·exact qGs [(3,hto (bE c2)),(8,hto (bE c3))] [] [(46,.bool true)]<|qX true hm
   obtain⟨aq,h1,hm⟩:=ak hm
   rcases aQ hm with⟨c4,hm⟩|⟨c4,hm⟩
   ·exact qGs [(3,hto (bE c2)),(8,hto (bE c3)),(11,hro (gK h1) z8),(14,hto (bE c4))] [] [(46,.bool true)]<|qX true hm
   obtain⟨aL,h2,hm⟩:=ak hm
   exact qGs [(3,hto (bE c2)),(8,hto (bE c3)),(11,hro (gK h1) z8),(14,hto (bE c4)),(18,hro (de h2) vN)] [] [(46,.bool aL)]<|qX aL hm
  rintro v_1 hm
  rw[hJ1]at hm
  rcases aQ hm with⟨c5,hm⟩|⟨c5,hm⟩
  ·refine qT c5<|qS [] [(8,.bool false)] [] ?_
   cases hm
   exact A.ret qE
  refine qF c5<|A.skip<|A.seq<|qDs [(2,hto (lnE aB e1.ay))] [46] [(48,lf aB e1.ay),(49,i6 (e1.ay.length:Int)),(50,i6 0)]<|A.block<|A.bS 48 rfl λhb2=>?_
  obtain⟨B2,K2,hB2,hK2,hm⟩:=cH hm
  refine A.lpI (l:=e1.ay) (j0:=0) (B:=B2) (K:=K2) hm (λj2=>λ()=>[(1,i6 root),(2,lf aB receivers),(3,lf dS l),(4,.ptr 35004 0),(10,.ptr 35010 0),(21,lf dS l),(22,i6 (l.length:Int)),(23,i6 (j1:Int)),(48,lf aB e1.ay),(49,i6 (e1.ay.length:Int)),(50,i6 (j2:Int))]) (λj2=>λ()=>[(35004,.cells 28 (k2 t)),(35010,.cells 63 (k6 e1))]) ?_ ?_ ?_
  ·exact qW
  ·rintro j2 e2 Z2 ⟨⟩ hj2 hx2 hm
   rw[hB2]at hm
   refine qDs [] [] [(51,.bool (decide ((j2:Int)<(e1.ay.length:Int))))]<|A.seq<|qT (ltT hx2)<|A.skip<|A.seq<|A.block<|qDs [(0,hix (ix aB (dG hx2)))] [51] [(12,i6 e2)] ?_
   obtain⟨bM,h3,hm⟩:=ak hm
   refine qDs [(2,hro (lR h3) af8)] [12] [(57,.bool (!bM))] ?_
   rcases aQ hm with⟨c6,hm⟩|⟨c6,hm⟩
   ·refine qT c6<|qS [] [(8,.bool false)] [] ?_
    cases hm
    exact A.ret qE
   exact qF c6<|A.skip<|qGs [(0,hto (inc hx2 hb2))] [50,57] [(50,i6 ((j2+1:Nat):Int))]<|qX () hm
  rintro j2 ⟨⟩ hj2 hl2 hm
  rw[hK2]at hm
  refine qDs [] [] [(51,.bool (decide ((j2:Int)<(e1.ay.length:Int))))]<|A.seq<|qF (ltF hl2)<|A.exit ?_
  obtain⟨bF,h4,hm⟩:=ak hm
  refine qD [(2,hle [35010] (jG (f_g:=55) (f_c:=[.bV (k6 e1)]) (f_k:=ck55) (f_f:=λ_ _ h=>nE h) h4) ck54)] [10,48,49,50,51] [(62,.bool (!bF))] [35010] [] ?_
  rcases aQ hm with⟨c7,hm⟩|⟨c7,hm⟩
  ·refine qT c7<|qS [] [(8,.bool false)] [] ?_
   cases hm
   exact A.ret qE
  exact qF c7<|A.skip<|qGs [(0,hto (inc hx1 hb1))] [23,62] [(23,i6 ((j1+1:Nat):Int))]<|qX () hm
 rintro j1 ⟨⟩ hj1 hl1 hm
 rw[hK1]at hm
 refine qDs [] [] [(24,.bool (decide ((j1:Int)<(l.length:Int))))]<|A.seq<|qF (ltF hl1)<|A.exit<|A.seq ?_
 obtain⟨bY,h5,hm⟩:=ak hm
 refine qS [(1,hro (o6 h5) af5),(2,hto (lnE aG bY))] [(3,lf dS l),(65,lf aG bY),(66,i6 (bY.length:Int)),(67,i6 0)] []<|A.block<|A.bS 65 rfl λhb3=>?_
 obtain⟨B3,K3,hB3,hK3,hm⟩:=cH hm
 refine A.lpI (l:=bY) (j0:=0) (B:=B3) (K:=K3) hm (λj3=>λ()=>[(3,lf dS l),(65,lf aG bY),(66,i6 (bY.length:Int)),(67,i6 (j3:Int))]) (λj3=>λ()=>[]) ?_ ?_ ?_
 ·exact qW
 ·rintro j3 e3 Z3 ⟨⟩ hj3 hx3 hm
  rw[hB3]at hm
  refine qDs [] [] [(68,.bool (decide ((j3:Int)<(bY.length:Int))))]<|A.seq<|qT (ltT hx3)<|A.skip<|A.seq<|A.block<|qD [(0,hix (ix aG (dG hx3))),(2,.al 35014)] [68] [(14,.ptr 35014 0)] [] [(35014,.cells 85 (k5 e3))]<|qDs [] [] [(15,i6 0)]<|A.seq<|qDs [(1,hto (lnE dS l))] [] [(71,lf dS l),(72,i6 (l.length:Int)),(73,i6 0)]<|A.block<|A.bS 3 rfl λhb4=>?_
  obtain⟨B4,K4,hB4,hK4,hm⟩:=cH hm
  refine A.lpI (l:=l) (j0:=0) (B:=B4) (K:=K4) hm (λj4=>λep=>[(3,lf dS l),(14,.ptr 35014 0),(15,i6 ep),(65,lf aG bY),(66,i6 (bY.length:Int)),(67,i6 (j3:Int)),(71,lf dS l),(72,i6 (l.length:Int)),(73,i6 (j4:Int))]) (λj4=>λep=>[(35014,.cells 85 (k5 e3))]) ?_ ?_ ?_
  ·exact qW
  ·rintro j4 e4 Z4 ep hj4 hx4 hm
   rw[hB4]at hm
   refine qDs [] [] [(74,.bool (decide ((j4:Int)<(l.length:Int))))]<|A.seq<|qT (ltT hx4)<|A.skip ?_
   obtain⟨J2,hJ2,hm⟩:=eF hm
   refine A.J (J:=J2) (r:=r) (λqv=>[(3,lf dS l),(14,.ptr 35014 0),(15,i6 qv),(65,lf aG bY),(66,i6 (bY.length:Int)),(67,i6 (j3:Int)),(71,lf dS l),(72,i6 (l.length:Int)),(73,i6 (j4:Int))]) (λqv=>[(35014,.cells 85 (k5 e3))]) ?_ ?_
   ·refine A.block<|qD [(0,hix (ix dS (dG hx4))),(2,.al 35017)] [74] [(17,.ptr 35017 0)] [] [(35017,.cells 63 (k6 e4))] ?_
    obtain⟨J3,hJ3,hm⟩:=eF hm
    refine A.J (J:=J3) (r:=r) (λv_2=>[(3,lf dS l),(14,.ptr 35014 0),(15,i6 ep),(17,.ptr 35017 0),(65,lf aG bY),(66,i6 (bY.length:Int)),(67,i6 (j3:Int)),(71,lf dS l),(72,i6 (l.length:Int)),(73,i6 (j4:Int)),(91,.bool v_2)]) (λv_2=>[(35014,.cells 85 (k5 e3)),(35017,.cells 63 (k6 e4))]) ?_ ?_
    ·obtain⟨fm,h6,hm⟩:=ak hm
     rcases aQ hm with⟨c8,hm⟩|⟨c8,hm⟩
     ·obtain⟨dR,h7,hm⟩:=ak hm
      exact qGs [(5,hro (de h6) vN),(6,hto (bE c8)),(12,hro (de h7) vN)] [] [(91,.bool (!dR))]<|qX (!dR) hm
     exact qGs [(5,hro (de h6) vN),(6,hto (bE c8))] [] [(91,.bool false)]<|qX false hm
    rintro v_2 hm
    rw[hJ3]at hm
    rcases aQ hm with⟨c9,hm⟩|⟨c9,hm⟩
    ·exact qT c9<|qG [] [15,17,91] [(15,i6 (w64 (ep+e4.Value)))] [35017] []<|qX (w64 (ep+e4.Value)) hm
    exact qF c9<|A.skip<|qX ep hm
   rintro qv hm
   rw[hJ2]at hm
   exact qGs [(0,hto (inc hx4 hb4))] [73] [(73,i6 ((j4+1:Nat):Int))]<|qX qv hm
  rintro j4 ep hj4 hl4 hm
  rw[hK4]at hm
  refine qDs [] [] [(74,.bool (decide ((j4:Int)<(l.length:Int))))]<|A.seq<|qF (ltF hl4)<|A.exit<|qD [] [14,15,71,72,73,74] [(100,.bool (decide (e3.bI<ep)))] [35014] [] ?_
  rcases aQ hm with⟨c10,hm⟩|⟨c10,hm⟩
  ·refine qT c10<|qS [] [(8,.bool false)] [] ?_
   cases hm
   exact A.ret qE
  exact qF c10<|A.skip<|qGs [(0,hto (inc hx3 hb3))] [67,100] [(67,i6 ((j3+1:Nat):Int))]<|qX () hm
 rintro j3 ⟨⟩ hj3 hl3 hm
 rw[hK3]at hm
 refine qDs [] [] [(68,.bool (decide ((j3:Int)<(bY.length:Int))))]<|A.seq<|qF (ltF hl3)<|A.exit<|qS [] [(8,.bool true)] [] ?_
 cases hm
 exact A.ret qE
theorem mV{root:Int}{r:Int×Int}(hm:fT t root receivers l=some r):RO prog 20 [] [.agg (k2 t),i6 root,lf aB receivers,lf dS l] (.tup [i6 r.1,i6 r.2]):=by
 refine bw func20 rfl rfl ?_
 unfold fT at hm
 refine qS [(0,.al 20004)] [(1,i6 root),(2,lf aB receivers),(3,lf dS l),(4,.ptr 20004 0)] [(20004,.cells 28 (k2 t))]<|A.seq ?_
 obtain⟨aq,h1,hm⟩:=ak hm
 refine qDs [(3,hro (lE h1) af4)] [] [(10,i6 aq)]<|qDs [] [] [(19,.bool (!decide (aq=0)))] ?_
 rcases aQ hm with⟨c1,hm⟩|⟨c1,hm⟩
 ·refine qT c1<|qS [] [(8,i6 0),(9,i6 aq)] [] ?_
  cases hm
  exact A.ret qE
 refine qF c1<|A.skip<|A.seq ?_
 obtain⟨aL,h2,hm⟩:=ak hm
 refine qS [(4,hro (oN h2) ck35)] [(3,lf dS l),(26,.bool (!aL))] [] ?_
 rcases aQ hm with⟨c2,hm⟩|⟨c2,hm⟩
 ·refine qT c2<|qS [] [(8,i6 0),(9,i6 1)] [] ?_
  cases hm
  exact A.ret qE
 refine qF c2<|A.skip<|qDs [] [26] [(11,i6 0)]<|A.seq<|qDs [(1,hto (lnE dS l))] [3] [(27,lf dS l),(28,i6 (l.length:Int)),(29,i6 0)]<|A.block<|A.bS 27 rfl λhb1=>?_
 obtain⟨B1,K1,hB1,hK1,hm⟩:=cH hm
 refine A.lpI (l:=l) (j0:=0) (B:=B1) (K:=K1) hm (λj1=>λep=>[(11,i6 ep),(27,lf dS l),(28,i6 (l.length:Int)),(29,i6 (j1:Int))]) (λj1=>λep=>[]) ?_ ?_ ?_
 ·exact qW
 ·rintro j1 e1 Z1 ep hj1 hx1 hm
  rw[hB1]at hm
  exact qDs [] [] [(30,.bool (decide ((j1:Int)<(l.length:Int))))]<|A.seq<|qT (ltT hx1)<|A.skip<|A.seq<|A.block<|qD [(0,hix (ix dS (dG hx1))),(2,.al 20013)] [30] [(13,.ptr 20013 0)] [] [(20013,.cells 63 (k6 e1))]<|qG [] [11,13] [(11,i6 (w64 (ep+e1.Value)))] [20013] []<|qGs [(0,hto (inc hx1 hb1))] [29] [(29,i6 ((j1+1:Nat):Int))]<|qX (w64 (ep+e1.Value)) hm
 rintro j1 ep hj1 hl1 hm
 rw[hK1]at hm
 refine qDs [] [] [(30,.bool (decide ((j1:Int)<(l.length:Int))))]<|A.seq<|qF (ltF hl1)<|A.exit<|qS [] [(8,i6 ep),(9,i6 0)] [] ?_
 cases hm
 exact A.ret qE
end Go.Proofs.Ytmnbolcmepihlaa
