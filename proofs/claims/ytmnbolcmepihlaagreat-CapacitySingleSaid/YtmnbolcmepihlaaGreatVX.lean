/- The walks of cz of the program. No condition but aX aL stand in each. -/
import Derived.Test.YtmnbolcmepihlaaGreatV2
import Derived.Test.YtmnbolcmepihlaaGreatVW
namespace Go.Proofs.YtmnbolcmepihlaaGreat
open Go Go.Proofs.Tryz
set_option maxRecDepth 100000
set_option linter.all false
variable {r:Bool}
theorem lB{n:Int}(hm:jy n=some r):RO prog 149 [] [i6 n] (.bool r):=by
 refine aY func149 rfl rfl ?_;unfold jy at hm;refine qS [] [(0,i6 n)] []<|A.mid [(2,.bool ((decide (1≤n))&&(decide (n≤99))))] [] (λhk=>?_) ?_
 ·rcases tf (decide (1≤n))with c1|c1
  ·exact qS [(2,hto (bE c1)),(6,hto (o9 (q:=decide (n≤99)) c1))] _ _ hk
  exact qS [(2,hto (bE c1)),(6,hto (qf (q:=decide (n≤99)) c1))] _ _ hk
 cases hm;exact A.ret qE
variable {t:aQ}
theorem pG{r:Int}(hm:gV t=some r):RO prog 78 [] [.agg (k6 t)] (i6 r):=by
 refine aY func78 rfl rfl ?_;unfold gV at hm;refine qS [(0,.al 78001)] [(1,.ptr 78001 0)] [(78001,.cells 36 (k6 t))] ?_;obtain⟨az,h1,hm⟩:=aa hm;refine qDs [(2,hro (lB h1) ab2)] [] [(3,.bool az)]<|A.seq<|qDs [(2,hto (lnE aK t.Links))] [] [(23,lf aK t.Links),(24,i6 (t.Links.length:Int)),(25,i6 0)]<|A.block<|A.bS 23 rfl λhb1=>?_
 obtain⟨B1,K1,hB1,hK1,hm⟩:=bh hm;refine A.lpI (l:=t.Links) (j0:=0) (B:=B1) (K:=K1) hm (λj1=>λvf=>[(1,.ptr 78001 0),(3,.bool vf),(23,lf aK t.Links),(24,i6 (t.Links.length:Int)),(25,i6 (j1:Int))]) (λj1=>λvf=>[(78001,.cells 36 (k6 t))]) ?_ ?_ ?_
 ·exact qW
 ·rintro j1 e1 Z1 vf hj1 hx1 hm;rw[hB1]at hm;refine qDs [] [] [(26,.bool (decide ((j1:Int)<(t.Links.length:Int))))]<|A.seq<|qT (ltT hx1)<|A.skip<|A.seq<|A.block<|qD [(0,hix (ix aK (bn hx1))),(2,.al 78005)] [26] [(5,.ptr 78005 0)] [] [(78005,.cells 84 (k3 e1))] ?_
  rcases aB hm with⟨c1,hm⟩|⟨c1,hm⟩
  ·obtain⟨aH,h2,hm⟩:=aa hm;rcases aB hm with⟨c2,hm⟩|⟨c2,hm⟩
   ·obtain⟨bA,h3,hm⟩:=aa hm;exact qG [(1,hto (bE c1)),(4,hro (lB h2) ab2),(6,hto (bE c2)),(9,hro (lB h3) ab2)] [3,5] [(3,.bool bA)] [78005] []<|qGs [(0,hto (inc hx1 hb1))] [25] [(25,i6 ((j1+1:Nat):Int))]<|qX bA hm
   exact qG [(1,hto (bE c1)),(4,hro (lB h2) ab2),(6,hto (bE c2))] [3,5] [(3,.bool false)] [78005] []<|qGs [(0,hto (inc hx1 hb1))] [25] [(25,i6 ((j1+1:Nat):Int))]<|qX false hm
  exact qG [(1,hto (bE c1))] [3,5] [(3,.bool false)] [78005] []<|qGs [(0,hto (inc hx1 hb1))] [25] [(25,i6 ((j1+1:Nat):Int))]<|qX false hm
 rintro j1 vf hj1 hl1 hm;rw[hK1]at hm;refine qDs [] [] [(26,.bool (decide ((j1:Int)<(t.Links.length:Int))))]<|A.seq<|qF (ltF hl1)<|A.exit<|A.seq<|qDs [] [3,23,24,25,26] [(42,.bool (!vf))] ?_
 rcases aB hm with⟨c3,hm⟩|⟨c3,hm⟩
 ·refine qT c3<|qS [] [(2,i6 2)] [] ?_
  cases hm;exact A.ret qE
 refine qF c3<|A.skip<|A.seq<|qDs [] [42] [(6,i6 1)]<|A.block<|A.bC 1 1 rfl rfl rfl λhb2=>?_
 obtain⟨B2,K2,hB2,hK2,hm⟩:=bh hm;refine A.lpI (l:=t.Links) (j0:=1) (B:=B2) (K:=K2) hm (λj2=>λ()=>[(1,.ptr 78001 0),(6,i6 (j2:Int))]) (λj2=>λ()=>[(78001,.cells 36 (k6 t))]) ?_ ?_ ?_
 ·exact qW
 ·rintro j2 e2 Z2 ⟨⟩ hj2 hx2 hm;rw[hB2]at hm;refine A.seq<|qDs [(3,hto (lnE aK t.Links))] [] [(47,.bool (decide ((j2:Int)<(t.Links.length:Int))))] ?_
  refine qT (ltT hx2)<|A.skip<|A.seq<|A.block ?_
  obtain⟨e_1,h4,hm⟩:=aa hm;refine qD [(4,hix (ix aK h4)),(9,hix (ix aK (bn hx2))),(11,.al 78007),(12,.al 78008)] [47] [(7,.ptr 78007 0),(8,.ptr 78008 0)] [] [(78007,.cells 84 (k3 e_1)),(78008,.cells 84 (k3 e2))]<|A.mid [(1,.ptr 78001 0),(6,i6 (j2:Int)),(79,.bool ((decide (e2.aD<e_1.aD))||((decide (e_1.aD=e2.aD))&&(decide (e2.To≤e_1.To)))))] [(78001,.cells 36 (k6 t))] (λhk=>?_) ?_
  ·rcases tf (decide (e2.aD<e_1.aD))with c4|c4
   ·exact qS [(5,hto (bE c4)),(18,hto (orT (q:=((decide (e_1.aD=e2.aD))&&(decide (e2.To≤e_1.To)))) c4))] _ _ hk
   rcases tf (decide (e_1.aD=e2.aD))with c5|c5
   ·exact qS [(5,hto (bE c4)),(11,hto (bE c5)),(18,hto ((o9 (q:=decide (e2.To≤e_1.To)) c5).trans (orF (q:=((decide (e_1.aD=e2.aD))&&(decide (e2.To≤e_1.To)))) c4)))] _ _ hk
   exact qS [(5,hto (bE c4)),(11,hto (bE c5)),(18,hto ((qf (q:=decide (e2.To≤e_1.To)) c5).trans (orF (q:=((decide (e_1.aD=e2.aD))&&(decide (e2.To≤e_1.To)))) c4)))] _ _ hk
  rcases aB hm with⟨c6,hm⟩|⟨c6,hm⟩
  ·refine qT c6<|qS [] [(2,i6 25)] [] ?_
   cases hm;exact A.ret qE
  exact qF c6<|A.skip<|qGs [(1,hto (inc hx2 hb2))] [6,79] [(6,i6 ((j2+1:Nat):Int))]<|qX () hm
 rintro j2 ⟨⟩ hj2 hl2 hm;rw[hK2]at hm;refine A.seq<|qDs [(3,hto (lnE aK t.Links))] [] [(47,.bool (decide ((j2:Int)<(t.Links.length:Int))))] ?_
 refine qF (ltF hl2)<|A.exit<|A.seq<|qDs [(2,hto (lnE aK t.Links))] [6,47] [(81,lf aK t.Links),(82,i6 (t.Links.length:Int)),(83,i6 0)]<|A.block<|A.bS 81 rfl λhb3=>?_
 obtain⟨B3,K3,hB3,hK3,hm⟩:=bh hm;refine A.lpI (l:=t.Links) (j0:=0) (B:=B3) (K:=K3) hm (λj3=>λ()=>[(1,.ptr 78001 0),(81,lf aK t.Links),(82,i6 (t.Links.length:Int)),(83,i6 (j3:Int))]) (λj3=>λ()=>[(78001,.cells 36 (k6 t))]) ?_ ?_ ?_
 ·exact qW
 ·rintro j3 e3 Z3 ⟨⟩ hj3 hx3 hm;rw[hB3]at hm;refine qDs [] [] [(84,.bool (decide ((j3:Int)<(t.Links.length:Int))))]<|A.seq<|qT (ltT hx3)<|A.skip<|A.seq<|A.block<|qD [(1,hix (ix aK (bn hx3))),(3,.al 78010)] [84] [(10,.ptr 78010 0),(9,i6 (j3:Int))] [] [(78010,.cells 84 (k3 e3))]<|A.seq ?_
  obtain⟨l_1,h5,hm⟩:=aa hm;refine qDs [(3,hsl (sl aK h5)),(4,hto (lnE aK l_1))] [9] [(91,lf aK l_1),(92,i6 (l_1.length:Int)),(93,i6 0)]<|A.block<|A.bS 91 rfl λhb4=>?_
  obtain⟨B4,K4,hB4,hK4,hm⟩:=bh hm;refine A.lpI (l:=l_1) (j0:=0) (B:=B4) (K:=K4) hm (λj4=>λ()=>[(1,.ptr 78001 0),(10,.ptr 78010 0),(81,lf aK t.Links),(82,i6 (t.Links.length:Int)),(83,i6 (j3:Int)),(91,lf aK l_1),(92,i6 (l_1.length:Int)),(93,i6 (j4:Int))]) (λj4=>λ()=>[(78001,.cells 36 (k6 t)),(78010,.cells 84 (k3 e3))]) ?_ ?_ ?_
  ·exact qW
  ·rintro j4 e4 Z4 ⟨⟩ hj4 hx4 hm;rw[hB4]at hm;refine qDs [] [] [(94,.bool (decide ((j4:Int)<(l_1.length:Int))))]<|A.seq<|qT (ltT hx4)<|A.skip<|A.seq<|A.block<|qD [(0,hix (ix aK (bn hx4))),(2,.al 78012)] [94] [(12,.ptr 78012 0)] [] [(78012,.cells 84 (k3 e4))]<|qD [] [12] [(101,.bool (decide (e4.To=e3.To)))] [78012] [] ?_
   rcases aB hm with⟨c7,hm⟩|⟨c7,hm⟩
   ·refine qT c7<|qS [] [(2,i6 8)] [] ?_
    cases hm;exact A.ret qE
   exact qF c7<|A.skip<|qGs [(0,hto (inc hx4 hb4))] [93,101] [(93,i6 ((j4+1:Nat):Int))]<|qX () hm
  rintro j4 ⟨⟩ hj4 hl4 hm;rw[hK4]at hm;refine qDs [] [] [(94,.bool (decide ((j4:Int)<(l_1.length:Int))))]<|A.seq<|qF (ltF hl4)<|A.exit<|qD [] [10,91,92,93,94] [(107,.bool (decide (e3.To=t.bx)))] [78010] [] ?_
  rcases aB hm with⟨c8,hm⟩|⟨c8,hm⟩
  ·refine qT c8<|qS [] [(2,i6 8)] [] ?_
   cases hm;exact A.ret qE
  exact qF c8<|A.skip<|qGs [(0,hto (inc hx3 hb3))] [83,107] [(83,i6 ((j3+1:Nat):Int))]<|qX () hm
 rintro j3 ⟨⟩ hj3 hl3 hm;rw[hK3]at hm;refine qDs [] [] [(84,.bool (decide ((j3:Int)<(t.Links.length:Int))))]<|A.seq<|qF (ltF hl3)<|A.exit<|qD [(2,.al 78111)] [81,82,83,84] [(13,.own 78111)] [] [(78111,.slice 3 1 (ml aj ([t.bx]:List Int)) 0 false)]<|A.seq<|qDs [] [] [(14,.bool true)]<|A.block ?_
 obtain⟨F5,n5,hF5,hm⟩:=fP hm;refine A.lpW (F:=F5) hm (λ(nh,gC)=>[(1,.ptr 78001 0),(13,.own 600078013),(14,.bool gC)]) (λ(nh,gC)=>[(78001,.cells 36 (k6 t)),(600078013,.slice 3 1 (ml aj nh) 0 false)]) ?_ ?_
 ·exact aZ.go [.sw 78111 600078013] [] (by kernel_rfl)
 rintro Z5 ⟨nh,gC⟩ hm;rw[hF5]at hm;refine A.seq<|qDs [] [] [(112,.bool gC)] ?_
 rcases aB hm with⟨c9,hm⟩|⟨c9,hm⟩
 ·refine qT c9<|A.skip<|A.block<|qDs [] [14,112] [(14,.bool false)]<|qDs [(2,hto (lnE aK t.Links))] [] [(114,lf aK t.Links),(115,i6 (t.Links.length:Int)),(116,i6 0)]<|A.block<|A.bS 114 rfl λhb6=>?_
  obtain⟨B6,K6,hB6,hK6,hm⟩:=bh hm;refine A.lpI (l:=t.Links) (j0:=0) (B:=B6) (K:=K6) hm (λj6=>λ(gj,ef)=>[(1,.ptr 78001 0),(13,.own 600078013),(14,.bool ef),(114,lf aK t.Links),(115,i6 (t.Links.length:Int)),(116,i6 (j6:Int))]) (λj6=>λ(gj,ef)=>[(78001,.cells 36 (k6 t)),(600078013,.slice 3 1 (ml aj gj) 0 false)]) ?_ ?_ ?_
  ·exact qW
  ·rintro j6 e6 Z6 ⟨gj,ef⟩ hj6 hx6 hm;rw[hB6]at hm;refine qDs [] [] [(117,.bool (decide ((j6:Int)<(t.Links.length:Int))))]<|A.seq<|qT (ltT hx6)<|A.skip ?_
   obtain⟨J1,hJ1,hm⟩:=dF hm;refine A.J (J:=J1) (r:=r) (λ(oL,eR)=>[(1,.ptr 78001 0),(13,.own 600078013),(14,.bool eR),(114,lf aK t.Links),(115,i6 (t.Links.length:Int)),(116,i6 (j6:Int))]) (λ(oL,eR)=>[(78001,.cells 36 (k6 t)),(600078013,.slice 3 1 (ml aj oL) 0 false)]) ?_ ?_
   ·refine A.block<|qD [(0,hix (ix aK (bn hx6))),(2,.al 78016)] [117] [(16,.ptr 78016 0)] [] [(78016,.cells 84 (k3 e6))] ?_
    obtain⟨J2,hJ2,hm⟩:=dF hm;refine A.J (J:=J2) (r:=r) (λv_1=>[(1,.ptr 78001 0),(13,.own 600078013),(14,.bool ef),(16,.ptr 78016 0),(114,lf aK t.Links),(115,i6 (t.Links.length:Int)),(116,i6 (j6:Int)),(130,.bool v_1)]) (λv_1=>[(78001,.cells 36 (k6 t)),(600078013,.slice 3 1 (ml aj gj) 0 false),(78016,.cells 84 (k3 e6))]) ?_ ?_
    ·obtain⟨bU,h6,hm⟩:=aa hm;rcases aB hm with⟨c10,hm⟩|⟨c10,hm⟩
     ·obtain⟨dP,h7,hm⟩:=aa hm;exact qGs [(3,hle [600078013] (iq h6) acP),(4,hto (bE c10)),(8,hle [600078013] (iq h7) acP)] [] [(130,.bool (!dP))]<|qX (!dP) hm
     exact qGs [(3,hle [600078013] (iq h6) acP),(4,hto (bE c10))] [] [(130,.bool false)]<|qX false hm
    rintro v_1 hm;rw[hJ2]at hm;rcases aB hm with⟨c11,hm⟩|⟨c11,hm⟩
    ·refine qT c11 ?_;obtain⟨l_2,h8,hm⟩:=aa hm;exact qG [(4,hap 78635 (ap aj (bytes:=8) (by decide) h8))] [13,14,16,130] [(13,.own 78635),(14,.bool true)] [600078013,78016] [(78635,.slice 3 1 (ml aj l_2) 0 false)]<|Exists.intro (l_2,true) (And.intro hm (aZ.go [.sw 78635 600078013] [] (by kernel_rfl)))
    exact qF c11<|A.skip<|qX (gj,ef) hm
   rintro⟨oL,eR⟩ hm;rw[hJ1]at hm;exact qGs [(0,hto (inc hx6 hb6))] [116] [(116,i6 ((j6+1:Nat):Int))]<|qX (oL,eR) hm
  rintro j6 ⟨gj,ef⟩ hj6 hl6 hm;rw[hK6]at hm;exact qDs [] [] [(117,.bool (decide ((j6:Int)<(t.Links.length:Int))))]<|A.seq<|qF (ltF hl6)<|A.exit<|qX (gj,ef) hm
 refine qF c9<|A.exit<|A.seq<|qD [(2,hto (lnE aK t.Links))] [1,14,112] [(138,lf aK t.Links),(139,i6 (t.Links.length:Int)),(140,i6 0)] [78001] []<|A.block<|A.bS 138 rfl λhb7=>?_
 obtain⟨B7,K7,hB7,hK7,hm⟩:=bh hm;refine A.lpI (l:=t.Links) (j0:=0) (B:=B7) (K:=K7) hm (λj7=>λ()=>[(13,.own 600078013),(138,lf aK t.Links),(139,i6 (t.Links.length:Int)),(140,i6 (j7:Int))]) (λj7=>λ()=>[(600078013,.slice 3 1 (ml aj nh) 0 false)]) ?_ ?_ ?_
 ·exact qW
 ·rintro j7 e7 Z7 ⟨⟩ hj7 hx7 hm;rw[hB7]at hm;refine qDs [] [] [(141,.bool (decide ((j7:Int)<(t.Links.length:Int))))]<|A.seq<|qT (ltT hx7)<|A.skip<|A.seq<|A.block<|qD [(0,hix (ix aK (bn hx7))),(2,.al 78018)] [141] [(18,.ptr 78018 0)] [] [(78018,.cells 84 (k3 e7))] ?_
  obtain⟨cV,h9,hm⟩:=aa hm;refine qD [(3,hle [600078013] (iq h9) acP)] [18] [(148,.bool (!cV))] [78018] [] ?_;rcases aB hm with⟨c12,hm⟩|⟨c12,hm⟩
  ·refine qT c12<|qS [] [(2,i6 10)] [] ?_
   cases hm;exact A.ret qE
  exact qF c12<|A.skip<|qGs [(0,hto (inc hx7 hb7))] [140,148] [(140,i6 ((j7+1:Nat):Int))]<|qX () hm
 rintro j7 ⟨⟩ hj7 hl7 hm;rw[hK7]at hm;refine qDs [] [] [(141,.bool (decide ((j7:Int)<(t.Links.length:Int))))]<|A.seq<|qF (ltF hl7)<|A.exit<|qS [] [(2,i6 0)] [] ?_
 cases hm;exact A.ret qE
theorem wV{r:(List Int)}(hm:kM t=some r):RO prog 82 [] [.agg (k6 t)] (lf aj r):=by
 refine aY func82 rfl rfl ?_;unfold kM at hm;refine qS [(0,.al 82001)] [(1,.ptr 82001 0)] [(82001,.cells 36 (k6 t))]<|A.seq ?_
 obtain⟨az,h1,hm⟩:=aa hm;refine qDs [(1,hro (pG h1) apl)] [] [(8,.bool (!decide (az=0)))] ?_;rcases aB hm with⟨c1,hm⟩|⟨c1,hm⟩
 ·refine qT c1<|qS [] [(2,.bF)] [] ?_
  cases hm;exact A.ret qE
 refine qF c1<|A.skip<|qDs [] [8] [(3,.lst true (ml aj ([t.bx]:List Int)))]<|A.seq<|qD [(2,hto (lnE aK t.Links))] [1] [(13,lf aK t.Links),(14,i6 (t.Links.length:Int)),(15,i6 0)] [82001] []<|A.block<|A.bS 13 rfl λhb1=>?_
 obtain⟨B1,K1,hB1,hK1,hm⟩:=bh hm;refine A.lpI (l:=t.Links) (j0:=0) (B:=B1) (K:=K1) hm (λj1=>λb9=>[(3,lf aj b9),(13,lf aK t.Links),(14,i6 (t.Links.length:Int)),(15,i6 (j1:Int))]) (λj1=>λb9=>[]) ?_ ?_ ?_
 ·exact aZ.go [] [3] (by kernel_rfl)
 ·rintro j1 e1 Z1 b9 hj1 hx1 hm;rw[hB1]at hm;refine qDs [] [] [(16,.bool (decide ((j1:Int)<(t.Links.length:Int))))]<|A.seq<|qT (ltT hx1)<|A.skip<|A.seq<|A.block<|qD [(0,hix (ix aK (bn hx1))),(2,.al 82005)] [16] [(5,.ptr 82005 0)] [] [(82005,.cells 84 (k3 e1))] ?_
  obtain⟨aH,h2,hm⟩:=aa hm;exact qG [(3,hro (pF h2) aph)] [3,5] [(3,lf aj aH)] [82005] []<|qGs [(0,hto (inc hx1 hb1))] [15] [(15,i6 ((j1+1:Nat):Int))]<|Exists.intro aH (And.intro hm (aZ.go [] [3] (by kernel_rfl)))
 rintro j1 b9 hj1 hl1 hm;rw[hK1]at hm;refine qDs [] [] [(16,.bool (decide ((j1:Int)<(t.Links.length:Int))))]<|A.seq<|qF (ltF hl1)<|A.exit<|qS [] [(2,lf aj b9)] [] ?_
 cases hm;exact A.ret qE
theorem pH{l:List Int}(hm:gW l=some r):RO prog 81 [] [lf aj l] (.bool r):=by
 refine aY func81 rfl rfl ?_;unfold gW at hm;refine qS [] [(0,lf aj l)] []<|A.seq<|qDs [] [] [(3,i6 1)]<|A.block<|A.bS 0 rfl λhb1=>?_
 obtain⟨B1,K1,hB1,hK1,hm⟩:=bh hm;refine A.lpI (l:=l) (j0:=1) (B:=B1) (K:=K1) hm (λj1=>λ()=>[(0,lf aj l),(3,i6 (j1:Int))]) (λj1=>λ()=>[]) ?_ ?_ ?_
 ·exact qW
 ·rintro j1 e1 Z1 ⟨⟩ hj1 hx1 hm;rw[hB1]at hm;refine A.seq<|qDs [(2,hto (lnE aj l))] [] [(7,.bool (decide ((j1:Int)<(l.length:Int))))] ?_
  refine qT (ltT hx1)<|A.skip<|A.seq<|A.block ?_
  obtain⟨e_1,h1,hm⟩:=aa hm;refine qDs [(3,hix (ix aj h1)),(7,hix (ix aj (bn hx1)))] [7] [(19,.bool (decide (e1≤e_1)))] ?_;rcases aB hm with⟨c1,hm⟩|⟨c1,hm⟩
  ·refine qT c1<|qS [] [(2,.bool false)] [] ?_
   cases hm;exact A.ret qE
  exact qF c1<|A.skip<|qGs [(1,hto (inc hx1 hb1))] [3,19] [(3,i6 ((j1+1:Nat):Int))]<|qX () hm
 rintro j1 ⟨⟩ hj1 hl1 hm;rw[hK1]at hm;refine A.seq<|qDs [(2,hto (lnE aj l))] [] [(7,.bool (decide ((j1:Int)<(l.length:Int))))] ?_
 refine qF (ltF hl1)<|A.exit<|qS [] [(2,.bool true)] [] ?_
 cases hm;exact A.ret qE
theorem pW{a:aQ}{b:aQ}(hm:iI a b=some r):RO prog 30 [] [.agg (k6 a),.agg (k6 b)] (.bool r):=by
 refine aY func30 rfl rfl ?_;unfold iI at hm;refine qS [(0,.al 30002),(1,.al 30003)] [(2,.ptr 30002 0),(3,.ptr 30003 0)] [(30002,.cells 36 (k6 a)),(30003,.cells 36 (k6 b))]<|A.seq<|A.mid [(2,.ptr 30002 0),(3,.ptr 30003 0),(19,.bool ((!decide (a.bx=b.bx))||(!decide ((a.Links.length:Int)=(b.Links.length:Int)))))] [(30002,.cells 36 (k6 a)),(30003,.cells 36 (k6 b))] (λhk=>?_) ?_
 ·rcases tf (!decide (a.bx=b.bx))with c1|c1
  ·exact qS [(5,hto (bE c1)),(13,hto (orT (q:=!decide ((a.Links.length:Int)=(b.Links.length:Int))) c1))] _ _ hk
  exact qS [(5,hto (bE c1)),(8,hto (lnE aK a.Links)),(11,hto (lnE aK b.Links)),(13,hto (orF (q:=!decide ((a.Links.length:Int)=(b.Links.length:Int))) c1))] _ _ hk
 rcases aB hm with⟨c2,hm⟩|⟨c2,hm⟩
 ·refine qT c2<|qS [] [(4,.bool false)] [] ?_
  cases hm;exact A.ret qE
 refine qF c2<|A.skip<|A.seq<|qDs [(2,hto (lnE aK a.Links))] [19] [(22,i6 (a.Links.length:Int)),(23,i6 0)]<|A.block<|A.bC 2 1 rfl rfl rfl λhb1=>?_
 obtain⟨B1,K1,hB1,hK1,hm⟩:=bh hm;refine A.lpI (l:=a.Links) (j0:=0) (B:=B1) (K:=K1) hm (λj1=>λ()=>[(2,.ptr 30002 0),(3,.ptr 30003 0),(22,i6 (a.Links.length:Int)),(23,i6 (j1:Int))]) (λj1=>λ()=>[(30002,.cells 36 (k6 a)),(30003,.cells 36 (k6 b))]) ?_ ?_ ?_
 ·exact qW
 ·rintro j1 e1 Z1 ⟨⟩ hj1 hx1 hm;rw[hB1]at hm;refine qDs [] [] [(24,.bool (decide ((j1:Int)<(a.Links.length:Int))))]<|A.seq<|qT (ltT hx1)<|A.skip<|A.seq<|A.block<|qDs [] [24] [(5,i6 (j1:Int))] ?_
  obtain⟨e_1,h1,hm⟩:=aa hm;refine qDs [(3,hix (ix aK (bn hx1))),(8,hix (ix aK h1)),(10,.sq true 84 (.agg (k3 e1)) (.agg (k3 e_1)) (!(bt e1 e_1)) (λx y w=>ahb x y _ _ _ _ w))] [5] [(36,.bool (!(bt e1 e_1)))] ?_;rcases aB hm with⟨c3,hm⟩|⟨c3,hm⟩
  ·refine qT c3<|qS [] [(4,.bool false)] [] ?_
   cases hm;exact A.ret qE
  exact qF c3<|A.skip<|qGs [(0,hto (inc hx1 hb1))] [23,36] [(23,i6 ((j1+1:Nat):Int))]<|qX () hm
 rintro j1 ⟨⟩ hj1 hl1 hm;rw[hK1]at hm;refine qDs [] [] [(24,.bool (decide ((j1:Int)<(a.Links.length:Int))))]<|A.seq<|qF (ltF hl1)<|A.exit<|qS [] [(4,.bool true)] [] ?_
 cases hm;exact A.ret qE
end Go.Proofs.YtmnbolcmepihlaaGreat
