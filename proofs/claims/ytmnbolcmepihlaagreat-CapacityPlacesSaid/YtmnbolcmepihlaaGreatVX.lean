/- The walks of cE of the program. No condition but bf aM stand in each. -/
import Derived.Test.YtmnbolcmepihlaaGreatV2
import Derived.Test.YtmnbolcmepihlaaGreatVW
namespace Go.Proofs.YtmnbolcmepihlaaGreat
open Go Go.Proofs.Tryz
set_option maxRecDepth 100000
set_option linter.all false
theorem lB{n:Int}{r:Bool}(hm:jt n=some r):RO prog 149 [] [i6 n] (.bool r):=by
 refine aZ func149 rfl rfl ?_;unfold jt at hm;refine qS [] [(0,i6 n)] []<|A.mid [(2,.bool ((decide (1≤n))&&(decide (n≤99))))] [] (λhk=>?_) ?_
 ·rcases tf (decide (1≤n))with c1|c1
  ·exact qS [(2,hto (bE c1)),(6,hto (oF (q:=decide (n≤99)) c1))] _ _ hk
  exact qS [(2,hto (bE c1)),(6,hto (oG (q:=decide (n≤99)) c1))] _ _ hk
 cases hm;exact A.ret qE
theorem pQ{t:aT}{r:Int}(hm:gX t=some r):RO prog 78 [] [.agg (k6 t)] (i6 r):=by
 refine aZ func78 rfl rfl ?_;unfold gX at hm;refine qS [(0,.al 78001)] [(1,.ptr 78001 0)] [(78001,.cells 36 (k6 t))] ?_;obtain⟨aq,h1,hm⟩:=aa hm;refine qDs [(2,hro (lB h1) ab6)] [] [(3,.bool aq)]<|A.seq<|qDs [(2,hto (lnE aJ t.Links))] [] [(23,lf aJ t.Links),(24,i6 (t.Links.length:Int)),(25,i6 0)]<|A.block<|A.bS 23 rfl λhb1=>?_
 obtain⟨B1,K1,hB1,hK1,hm⟩:=bh hm;refine A.lpI (l:=t.Links) (j0:=0) (B:=B1) (K:=K1) hm (λj1=>λvv=>[(1,.ptr 78001 0),(3,.bool vv),(23,lf aJ t.Links),(24,i6 (t.Links.length:Int)),(25,i6 (j1:Int))]) (λj1=>λvv=>[(78001,.cells 36 (k6 t))]) ?_ ?_ ?_
 ·exact qW
 ·rintro j1 e1 Z1 vv hj1 hx1 hm;rw[hB1]at hm;refine qDs [] [] [(26,.bool (decide ((j1:Int)<(t.Links.length:Int))))]<|A.seq<|qT (ltT hx1)<|A.skip<|A.seq<|A.block<|qD [(0,hix (ix aJ (bu hx1))),(2,.al 78005)] [26] [(5,.ptr 78005 0)] [] [(78005,.cells 84 (k3 e1))] ?_
  rcases aA hm with⟨c1,hm⟩|⟨c1,hm⟩
  ·obtain⟨aF,h2,hm⟩:=aa hm;rcases aA hm with⟨c2,hm⟩|⟨c2,hm⟩
   ·obtain⟨bx,h3,hm⟩:=aa hm;exact qG [(1,hto (bE c1)),(4,hro (lB h2) ab6),(6,hto (bE c2)),(9,hro (lB h3) ab6)] [3,5] [(3,.bool bx)] [78005] []<|qGs [(0,hto (inc hx1 hb1))] [25] [(25,i6 ((j1+1:Nat):Int))]<|qX bx hm
   exact qG [(1,hto (bE c1)),(4,hro (lB h2) ab6),(6,hto (bE c2))] [3,5] [(3,.bool false)] [78005] []<|qGs [(0,hto (inc hx1 hb1))] [25] [(25,i6 ((j1+1:Nat):Int))]<|qX false hm
  exact qG [(1,hto (bE c1))] [3,5] [(3,.bool false)] [78005] []<|qGs [(0,hto (inc hx1 hb1))] [25] [(25,i6 ((j1+1:Nat):Int))]<|qX false hm
 rintro j1 vv hj1 hl1 hm;rw[hK1]at hm;refine qDs [] [] [(26,.bool (decide ((j1:Int)<(t.Links.length:Int))))]<|A.seq<|qF (ltF hl1)<|A.exit<|A.seq<|qDs [] [3,23,24,25,26] [(42,.bool (!vv))] ?_
 rcases aA hm with⟨c3,hm⟩|⟨c3,hm⟩
 ·refine qT c3<|qS [] [(2,i6 2)] [] ?_
  cases hm;exact A.ret qE
 refine qF c3<|A.skip<|A.seq<|qDs [] [42] [(6,i6 1)]<|A.block<|A.bC 1 1 rfl rfl rfl λhb2=>?_
 obtain⟨B2,K2,hB2,hK2,hm⟩:=bh hm;refine A.lpI (l:=t.Links) (j0:=1) (B:=B2) (K:=K2) hm (λj2=>λ()=>[(1,.ptr 78001 0),(6,i6 (j2:Int))]) (λj2=>λ()=>[(78001,.cells 36 (k6 t))]) ?_ ?_ ?_
 ·exact qW
 ·rintro j2 e2 Z2 ⟨⟩ hj2 hx2 hm;rw[hB2]at hm;refine A.seq<|qDs [(3,hto (lnE aJ t.Links))] [] [(47,.bool (decide ((j2:Int)<(t.Links.length:Int))))] ?_
  refine qT (ltT hx2)<|A.skip<|A.seq<|A.block ?_
  obtain⟨e_1,h4,hm⟩:=aa hm;refine qD [(4,hix (ix aJ h4)),(9,hix (ix aJ (bu hx2))),(11,.al 78007),(12,.al 78008)] [47] [(7,.ptr 78007 0),(8,.ptr 78008 0)] [] [(78007,.cells 84 (k3 e_1)),(78008,.cells 84 (k3 e2))]<|A.mid [(1,.ptr 78001 0),(6,i6 (j2:Int)),(79,.bool ((decide (e2.aD<e_1.aD))||((decide (e_1.aD=e2.aD))&&(decide (e2.To≤e_1.To)))))] [(78001,.cells 36 (k6 t))] (λhk=>?_) ?_
  ·rcases tf (decide (e2.aD<e_1.aD))with c4|c4
   ·exact qS [(5,hto (bE c4)),(18,hto (orT (q:=((decide (e_1.aD=e2.aD))&&(decide (e2.To≤e_1.To)))) c4))] _ _ hk
   rcases tf (decide (e_1.aD=e2.aD))with c5|c5
   ·exact qS [(5,hto (bE c4)),(11,hto (bE c5)),(18,hto ((oF (q:=decide (e2.To≤e_1.To)) c5).trans (orF (q:=((decide (e_1.aD=e2.aD))&&(decide (e2.To≤e_1.To)))) c4)))] _ _ hk
   exact qS [(5,hto (bE c4)),(11,hto (bE c5)),(18,hto ((oG (q:=decide (e2.To≤e_1.To)) c5).trans (orF (q:=((decide (e_1.aD=e2.aD))&&(decide (e2.To≤e_1.To)))) c4)))] _ _ hk
  rcases aA hm with⟨c6,hm⟩|⟨c6,hm⟩
  ·refine qT c6<|qS [] [(2,i6 25)] [] ?_
   cases hm;exact A.ret qE
  exact qF c6<|A.skip<|qGs [(1,hto (inc hx2 hb2))] [6,79] [(6,i6 ((j2+1:Nat):Int))]<|qX () hm
 rintro j2 ⟨⟩ hj2 hl2 hm;rw[hK2]at hm;refine A.seq<|qDs [(3,hto (lnE aJ t.Links))] [] [(47,.bool (decide ((j2:Int)<(t.Links.length:Int))))] ?_
 refine qF (ltF hl2)<|A.exit<|A.seq<|qDs [(2,hto (lnE aJ t.Links))] [6,47] [(81,lf aJ t.Links),(82,i6 (t.Links.length:Int)),(83,i6 0)]<|A.block<|A.bS 81 rfl λhb3=>?_
 obtain⟨B3,K3,hB3,hK3,hm⟩:=bh hm;refine A.lpI (l:=t.Links) (j0:=0) (B:=B3) (K:=K3) hm (λj3=>λ()=>[(1,.ptr 78001 0),(81,lf aJ t.Links),(82,i6 (t.Links.length:Int)),(83,i6 (j3:Int))]) (λj3=>λ()=>[(78001,.cells 36 (k6 t))]) ?_ ?_ ?_
 ·exact qW
 ·rintro j3 e3 Z3 ⟨⟩ hj3 hx3 hm;rw[hB3]at hm;refine qDs [] [] [(84,.bool (decide ((j3:Int)<(t.Links.length:Int))))]<|A.seq<|qT (ltT hx3)<|A.skip<|A.seq<|A.block<|qD [(1,hix (ix aJ (bu hx3))),(3,.al 78010)] [84] [(10,.ptr 78010 0),(9,i6 (j3:Int))] [] [(78010,.cells 84 (k3 e3))]<|A.seq ?_
  obtain⟨l_1,h5,hm⟩:=aa hm;refine qDs [(3,hsl (sl aJ h5)),(4,hto (lnE aJ l_1))] [9] [(91,lf aJ l_1),(92,i6 (l_1.length:Int)),(93,i6 0)]<|A.block<|A.bS 91 rfl λhb4=>?_
  obtain⟨B4,K4,hB4,hK4,hm⟩:=bh hm;refine A.lpI (l:=l_1) (j0:=0) (B:=B4) (K:=K4) hm (λj4=>λ()=>[(1,.ptr 78001 0),(10,.ptr 78010 0),(81,lf aJ t.Links),(82,i6 (t.Links.length:Int)),(83,i6 (j3:Int)),(91,lf aJ l_1),(92,i6 (l_1.length:Int)),(93,i6 (j4:Int))]) (λj4=>λ()=>[(78001,.cells 36 (k6 t)),(78010,.cells 84 (k3 e3))]) ?_ ?_ ?_
  ·exact qW
  ·rintro j4 e4 Z4 ⟨⟩ hj4 hx4 hm;rw[hB4]at hm;refine qDs [] [] [(94,.bool (decide ((j4:Int)<(l_1.length:Int))))]<|A.seq<|qT (ltT hx4)<|A.skip<|A.seq<|A.block<|qD [(0,hix (ix aJ (bu hx4))),(2,.al 78012)] [94] [(12,.ptr 78012 0)] [] [(78012,.cells 84 (k3 e4))]<|qD [] [12] [(101,.bool (decide (e4.To=e3.To)))] [78012] [] ?_
   rcases aA hm with⟨c7,hm⟩|⟨c7,hm⟩
   ·refine qT c7<|qS [] [(2,i6 8)] [] ?_
    cases hm;exact A.ret qE
   exact qF c7<|A.skip<|qGs [(0,hto (inc hx4 hb4))] [93,101] [(93,i6 ((j4+1:Nat):Int))]<|qX () hm
  rintro j4 ⟨⟩ hj4 hl4 hm;rw[hK4]at hm;refine qDs [] [] [(94,.bool (decide ((j4:Int)<(l_1.length:Int))))]<|A.seq<|qF (ltF hl4)<|A.exit<|qD [] [10,91,92,93,94] [(107,.bool (decide (e3.To=t.bw)))] [78010] [] ?_
  rcases aA hm with⟨c8,hm⟩|⟨c8,hm⟩
  ·refine qT c8<|qS [] [(2,i6 8)] [] ?_
   cases hm;exact A.ret qE
  exact qF c8<|A.skip<|qGs [(0,hto (inc hx3 hb3))] [83,107] [(83,i6 ((j3+1:Nat):Int))]<|qX () hm
 rintro j3 ⟨⟩ hj3 hl3 hm;rw[hK3]at hm;refine qDs [] [] [(84,.bool (decide ((j3:Int)<(t.Links.length:Int))))]<|A.seq<|qF (ltF hl3)<|A.exit<|qD [(2,.al 78111)] [81,82,83,84] [(13,.own 78111)] [] [(78111,.slice 3 1 (ml ak ([t.bw]:List Int)) 0 false)]<|A.seq<|qDs [] [] [(14,.bool true)]<|A.block ?_
 obtain⟨F5,n5,hF5,hm⟩:=fW hm;refine A.lpW (F:=F5) hm (λ(ny,gG)=>[(1,.ptr 78001 0),(13,.own 600078013),(14,.bool gG)]) (λ(ny,gG)=>[(78001,.cells 36 (k6 t)),(600078013,.slice 3 1 (ml ak ny) 0 false)]) ?_ ?_
 ·exact aU.go [.sw 78111 600078013] [] (by kernel_rfl)
 rintro Z5 ⟨ny,gG⟩ hm;rw[hF5]at hm;refine A.seq<|qDs [] [] [(112,.bool gG)] ?_
 rcases aA hm with⟨c9,hm⟩|⟨c9,hm⟩
 ·refine qT c9<|A.skip<|A.block<|qDs [] [14,112] [(14,.bool false)]<|qDs [(2,hto (lnE aJ t.Links))] [] [(114,lf aJ t.Links),(115,i6 (t.Links.length:Int)),(116,i6 0)]<|A.block<|A.bS 114 rfl λhb6=>?_
  obtain⟨B6,K6,hB6,hK6,hm⟩:=bh hm;refine A.lpI (l:=t.Links) (j0:=0) (B:=B6) (K:=K6) hm (λj6=>λ(gr,ep)=>[(1,.ptr 78001 0),(13,.own 600078013),(14,.bool ep),(114,lf aJ t.Links),(115,i6 (t.Links.length:Int)),(116,i6 (j6:Int))]) (λj6=>λ(gr,ep)=>[(78001,.cells 36 (k6 t)),(600078013,.slice 3 1 (ml ak gr) 0 false)]) ?_ ?_ ?_
  ·exact qW
  ·rintro j6 e6 Z6 ⟨gr,ep⟩ hj6 hx6 hm;rw[hB6]at hm;refine qDs [] [] [(117,.bool (decide ((j6:Int)<(t.Links.length:Int))))]<|A.seq<|qT (ltT hx6)<|A.skip ?_
   obtain⟨J1,hJ1,hm⟩:=cO hm;refine A.J (J:=J1) (r:=r) (λ(oZ,eV)=>[(1,.ptr 78001 0),(13,.own 600078013),(14,.bool eV),(114,lf aJ t.Links),(115,i6 (t.Links.length:Int)),(116,i6 (j6:Int))]) (λ(oZ,eV)=>[(78001,.cells 36 (k6 t)),(600078013,.slice 3 1 (ml ak oZ) 0 false)]) ?_ ?_
   ·refine A.block<|qD [(0,hix (ix aJ (bu hx6))),(2,.al 78016)] [117] [(16,.ptr 78016 0)] [] [(78016,.cells 84 (k3 e6))] ?_
    obtain⟨J2,hJ2,hm⟩:=cO hm;refine A.J (J:=J2) (r:=r) (λv_1=>[(1,.ptr 78001 0),(13,.own 600078013),(14,.bool ep),(16,.ptr 78016 0),(114,lf aJ t.Links),(115,i6 (t.Links.length:Int)),(116,i6 (j6:Int)),(130,.bool v_1)]) (λv_1=>[(78001,.cells 36 (k6 t)),(600078013,.slice 3 1 (ml ak gr) 0 false),(78016,.cells 84 (k3 e6))]) ?_ ?_
    ·obtain⟨bV,h6,hm⟩:=aa hm;rcases aA hm with⟨c10,hm⟩|⟨c10,hm⟩
     ·obtain⟨cK,h7,hm⟩:=aa hm;exact qGs [(3,hle [600078013] (dX h6) tM),(4,hto (bE c10)),(8,hle [600078013] (dX h7) tM)] [] [(130,.bool (!cK))]<|qX (!cK) hm
     exact qGs [(3,hle [600078013] (dX h6) tM),(4,hto (bE c10))] [] [(130,.bool false)]<|qX false hm
    rintro v_1 hm;rw[hJ2]at hm;rcases aA hm with⟨c11,hm⟩|⟨c11,hm⟩
    ·refine qT c11 ?_;obtain⟨l_2,h8,hm⟩:=aa hm;exact qG [(4,hap 78635 (ap ak (bytes:=8) (by decide) h8))] [13,14,16,130] [(13,.own 78635),(14,.bool true)] [600078013,78016] [(78635,.slice 3 1 (ml ak l_2) 0 false)]<|Exists.intro (l_2,true) (And.intro hm (aU.go [.sw 78635 600078013] [] (by kernel_rfl)))
    exact qF c11<|A.skip<|qX (gr,ep) hm
   rintro⟨oZ,eV⟩ hm;rw[hJ1]at hm;exact qGs [(0,hto (inc hx6 hb6))] [116] [(116,i6 ((j6+1:Nat):Int))]<|qX (oZ,eV) hm
  rintro j6 ⟨gr,ep⟩ hj6 hl6 hm;rw[hK6]at hm;exact qDs [] [] [(117,.bool (decide ((j6:Int)<(t.Links.length:Int))))]<|A.seq<|qF (ltF hl6)<|A.exit<|qX (gr,ep) hm
 refine qF c9<|A.exit<|A.seq<|qD [(2,hto (lnE aJ t.Links))] [1,14,112] [(138,lf aJ t.Links),(139,i6 (t.Links.length:Int)),(140,i6 0)] [78001] []<|A.block<|A.bS 138 rfl λhb7=>?_
 obtain⟨B7,K7,hB7,hK7,hm⟩:=bh hm;refine A.lpI (l:=t.Links) (j0:=0) (B:=B7) (K:=K7) hm (λj7=>λ()=>[(13,.own 600078013),(138,lf aJ t.Links),(139,i6 (t.Links.length:Int)),(140,i6 (j7:Int))]) (λj7=>λ()=>[(600078013,.slice 3 1 (ml ak ny) 0 false)]) ?_ ?_ ?_
 ·exact qW
 ·rintro j7 e7 Z7 ⟨⟩ hj7 hx7 hm;rw[hB7]at hm;refine qDs [] [] [(141,.bool (decide ((j7:Int)<(t.Links.length:Int))))]<|A.seq<|qT (ltT hx7)<|A.skip<|A.seq<|A.block<|qD [(0,hix (ix aJ (bu hx7))),(2,.al 78018)] [141] [(18,.ptr 78018 0)] [] [(78018,.cells 84 (k3 e7))] ?_
  obtain⟨cQ,h9,hm⟩:=aa hm;refine qD [(3,hle [600078013] (dX h9) tM)] [18] [(148,.bool (!cQ))] [78018] [] ?_;rcases aA hm with⟨c12,hm⟩|⟨c12,hm⟩
  ·refine qT c12<|qS [] [(2,i6 10)] [] ?_
   cases hm;exact A.ret qE
  exact qF c12<|A.skip<|qGs [(0,hto (inc hx7 hb7))] [140,148] [(140,i6 ((j7+1:Nat):Int))]<|qX () hm
 rintro j7 ⟨⟩ hj7 hl7 hm;rw[hK7]at hm;refine qDs [] [] [(141,.bool (decide ((j7:Int)<(t.Links.length:Int))))]<|A.seq<|qF (ltF hl7)<|A.exit<|qS [] [(2,i6 0)] [] ?_
 cases hm;exact A.ret qE
theorem w6{t:aT}{r:(List Int)}(hm:kG t=some r):RO prog 82 [] [.agg (k6 t)] (lf ak r):=by
 refine aZ func82 rfl rfl ?_;unfold kG at hm;refine qS [(0,.al 82001)] [(1,.ptr 82001 0)] [(82001,.cells 36 (k6 t))]<|A.seq ?_
 obtain⟨aq,h1,hm⟩:=aa hm;refine qDs [(1,hro (pQ h1) apq)] [] [(8,.bool (!decide (aq=0)))] ?_;rcases aA hm with⟨c1,hm⟩|⟨c1,hm⟩
 ·refine qT c1<|qS [] [(2,.bI)] [] ?_
  cases hm;exact A.ret qE
 refine qF c1<|A.skip<|qDs [] [8] [(3,.lst true (ml ak ([t.bw]:List Int)))]<|A.seq<|qD [(2,hto (lnE aJ t.Links))] [1] [(13,lf aJ t.Links),(14,i6 (t.Links.length:Int)),(15,i6 0)] [82001] []<|A.block<|A.bS 13 rfl λhb1=>?_
 obtain⟨B1,K1,hB1,hK1,hm⟩:=bh hm;refine A.lpI (l:=t.Links) (j0:=0) (B:=B1) (K:=K1) hm (λj1=>λbK=>[(3,lf ak bK),(13,lf aJ t.Links),(14,i6 (t.Links.length:Int)),(15,i6 (j1:Int))]) (λj1=>λbK=>[]) ?_ ?_ ?_
 ·exact aU.go [] [3] (by kernel_rfl)
 ·rintro j1 e1 Z1 bK hj1 hx1 hm;rw[hB1]at hm;refine qDs [] [] [(16,.bool (decide ((j1:Int)<(t.Links.length:Int))))]<|A.seq<|qT (ltT hx1)<|A.skip<|A.seq<|A.block<|qD [(0,hix (ix aJ (bu hx1))),(2,.al 82005)] [16] [(5,.ptr 82005 0)] [] [(82005,.cells 84 (k3 e1))] ?_
  obtain⟨aF,h2,hm⟩:=aa hm;exact qG [(3,hro (jj h2) ae6)] [3,5] [(3,lf ak aF)] [82005] []<|qGs [(0,hto (inc hx1 hb1))] [15] [(15,i6 ((j1+1:Nat):Int))]<|Exists.intro aF (And.intro hm (aU.go [] [3] (by kernel_rfl)))
 rintro j1 bK hj1 hl1 hm;rw[hK1]at hm;refine qDs [] [] [(16,.bool (decide ((j1:Int)<(t.Links.length:Int))))]<|A.seq<|qF (ltF hl1)<|A.exit<|qS [] [(2,lf ak bK)] [] ?_
 cases hm;exact A.ret qE
theorem pR{l:List Int}{r:Bool}(hm:gY l=some r):RO prog 81 [] [lf ak l] (.bool r):=by
 refine aZ func81 rfl rfl ?_;unfold gY at hm;refine qS [] [(0,lf ak l)] []<|A.seq<|qDs [] [] [(3,i6 1)]<|A.block<|A.bS 0 rfl λhb1=>?_
 obtain⟨B1,K1,hB1,hK1,hm⟩:=bh hm;refine A.lpI (l:=l) (j0:=1) (B:=B1) (K:=K1) hm (λj1=>λ()=>[(0,lf ak l),(3,i6 (j1:Int))]) (λj1=>λ()=>[]) ?_ ?_ ?_
 ·exact qW
 ·rintro j1 e1 Z1 ⟨⟩ hj1 hx1 hm;rw[hB1]at hm;refine A.seq<|qDs [(2,hto (lnE ak l))] [] [(7,.bool (decide ((j1:Int)<(l.length:Int))))] ?_
  refine qT (ltT hx1)<|A.skip<|A.seq<|A.block ?_
  obtain⟨e_1,h1,hm⟩:=aa hm;refine qDs [(3,hix (ix ak h1)),(7,hix (ix ak (bu hx1)))] [7] [(19,.bool (decide (e1≤e_1)))] ?_;rcases aA hm with⟨c1,hm⟩|⟨c1,hm⟩
  ·refine qT c1<|qS [] [(2,.bool false)] [] ?_
   cases hm;exact A.ret qE
  exact qF c1<|A.skip<|qGs [(1,hto (inc hx1 hb1))] [3,19] [(3,i6 ((j1+1:Nat):Int))]<|qX () hm
 rintro j1 ⟨⟩ hj1 hl1 hm;rw[hK1]at hm;refine A.seq<|qDs [(2,hto (lnE ak l))] [] [(7,.bool (decide ((j1:Int)<(l.length:Int))))] ?_
 refine qF (ltF hl1)<|A.exit<|qS [] [(2,.bool true)] [] ?_
 cases hm;exact A.ret qE
end Go.Proofs.YtmnbolcmepihlaaGreat
