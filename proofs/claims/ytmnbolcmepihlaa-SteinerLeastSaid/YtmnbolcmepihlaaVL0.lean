/- The gi of cW of the program. No condition but aX aH stand in each. -/
import Derived.Test.YtmnbolcmepihlaaDL0
import Derived.Test.YtmnbolcmepihlaaVL
namespace Go.Proofs.Ytmnbolcmepihlaa
open Go Go.Proofs.Try
set_option maxRecDepth 100000
set_option linter.all false
theorem mW{t:List Int}{r:Bool}(hm:fV t=some r):RO prog 3 [] [lf aB t] (.bool r):=by
 refine bw func3 rfl rfl ?_
 unfold fV at hm
 refine qS [] [(0,lf aB t)] [] ?_
 obtain⟨aq,h1,hm⟩:=ak hm
 refine qS [(1,hdc [900000048] (oK h1) ck4)] [(3,.ptr 900000048 0)] [(900000048,.cells 48 (k3 aq))] ?_
 obtain⟨aL,h2,hm⟩:=ak hm
 refine qD [(1,hdc [] (qA h2) ck5),(2,.al 3004)] [] [(4,.ptr 3004 0)] [900000048] [(900000048,.cells 48 (k3 aL.2)),(3004,.cells 28 (k2 aL.1))] ?_
 obtain⟨l_1,h3,hm⟩:=ak hm
 refine qD [(4,hto (lnE bz aL.1.Links)),(6,hsl (sl bz h3))] [] [] [3004] [(3004,.cells 28 [lf aP aL.1.ay,lf bz l_1])] ?_
 obtain⟨bM,h4,hm⟩:=ak hm
 obtain⟨e_1,h5,hm⟩:=ak hm
 refine qD [(5,hto (lnE aP aL.1.ay)),(6,hdc [] (bK h4) ck6),(7,hix (ix aP h5))] [] [(5,i6 e_1.ID)] [900000048] [(900000048,.cells 48 (k3 bM.2))] ?_
 obtain⟨bF,h6,hm⟩:=ak hm
 refine qD [(2,hdc [] (uS h6) ck7)] [3] [(6,lf aB bF.1)] [900000048] []<|A.RY W0 3 [4,5,6,7,8,9,10,11] [] [] (jX hm) ck8 (by kernel_rfl) (by kernel_rfl) (by kernel_rfl) (by rintro _ _ ⟨rfl,_,_,rfl⟩;exact⟨rfl,rfl⟩) ?_
 rintro _ _ ⟨rfl,bY,hm,rfl⟩
 try dsimp only at hm
 refine⟨[(8,.al 3007)],[(4,.ptr 3004 0),(5,i6 e_1.ID),(6,lf aB bF.1),(8,i6 bY.2.1),(9,i6 bY.2.2)],[(3004,.cells 28 [lf aP aL.1.ay,lf bz l_1])],by kernel_rfl,?_⟩
 refine qS [] [(4,.ptr 3004 0),(5,i6 e_1.ID),(6,lf aB bF.1),(8,i6 bY.2.1),(9,i6 bY.2.2),(10,i6 (-1))] [(3004,.cells 28 [lf aP aL.1.ay,lf bz l_1])]<|A.seq<|qDs [] [] [(11,i6 0)]<|A.block ?_
 obtain⟨F1,n1,hF1,hm⟩:=mF hm
 refine A.lpW (F:=F1) hm (λ(cI,dg)=>[(4,.ptr 3004 0),(5,i6 e_1.ID),(6,lf aB bF.1),(8,i6 bY.2.1),(9,i6 bY.2.2),(10,i6 cI),(11,i6 dg)]) (λ(cI,dg)=>[(3004,.cells 28 [lf aP aL.1.ay,lf bz l_1])]) ?_ ?_
 ·exact qW
 rintro Z1 ⟨cI,dg⟩ hm
 rw[hF1]at hm
 refine A.seq ?_
 obtain⟨h7,hm⟩:=ff hm
 refine qDs [(3,hto (lnE bz l_1)),(6,.sh (IntKind.wrap .u64 (w64 ((2:Int)*(l_1.length:Int)))) (of_decide_eq_true h7))] [] [(62,.bool (decide (dg<IntKind.wrap .i64 ((1:Int)*2 ^ min (IntKind.wrap .u64 (w64 ((2:Int)*(l_1.length:Int)))).toNat 64))))] ?_
 rcases aQ hm with⟨c1,hm⟩|⟨c1,hm⟩
 ·refine qT c1<|A.skip ?_
  obtain⟨J1,hJ1,hm⟩:=eF hm
  refine A.J (J:=J1) (r:=r) (λme=>[(4,.ptr 3004 0),(5,i6 e_1.ID),(6,lf aB bF.1),(8,i6 bY.2.1),(9,i6 bY.2.2),(10,i6 me),(11,i6 dg)]) (λme=>[(3004,.cells 28 [lf aP aL.1.ay,lf bz l_1])]) ?_ ?_
  ·refine A.block<|qDs [] [62] [(12,.lst true (ml aB ([e_1.ID]:List Int))),(13,i6 0)] ?_
   refine A.seq<|qDs [(2,hto (lnE bz l_1))] [] [(68,lf bz l_1),(69,i6 (l_1.length:Int)),(70,i6 0)] ?_
   refine A.block<|A.bS 68 rfl λhb2=>?_
   obtain⟨B2,K2,hB2,hK2,hm⟩:=cH hm
   refine A.lpI (l:=l_1) (j0:=0) (B:=B2) (K:=K2) hm (λj2=>λn_1=>[(4,.ptr 3004 0),(5,i6 e_1.ID),(6,lf aB bF.1),(8,i6 bY.2.1),(9,i6 bY.2.2),(10,i6 cI),(11,i6 dg),(12,.lst true (ml aB ([e_1.ID]:List Int))),(13,i6 n_1),(68,lf bz l_1),(69,i6 (l_1.length:Int)),(70,i6 (j2:Int))]) (λj2=>λn_1=>[(3004,.cells 28 [lf aP aL.1.ay,lf bz l_1])]) ?_ ?_ ?_
   ·exact qW
   ·rintro j2 e2 Z2 n_1 hj2 hx2 hm
    rw[hB2]at hm
    refine qDs [] [] [(71,.bool (decide ((j2:Int)<(l_1.length:Int))))]<|A.seq<|qT (ltT hx2)<|A.skip<|A.seq<|A.block<|qD [(1,hix (ix bz (dG hx2))),(3,.al 3015)] [71] [(15,.ptr 3015 0),(14,i6 (j2:Int))] [] [(3015,.cells 42 (k1 e2))] ?_
    obtain⟨h8,hm⟩:=ff hm
    refine qDs [(5,.sh (IntKind.wrap .u64 (w64 ((2:Int)*(j2:Int)))) (of_decide_eq_true h8))] [13] [(13,i6 (w64 (n_1+(w64 ((cQ .and .i64 (Int.fdiv dg (2 ^ min (IntKind.wrap .u64 (w64 ((2:Int)*(j2:Int)))).toNat 64)) (1:Int))*e2.fc)))))] ?_
    obtain⟨h9,hm⟩:=ff hm
    exact qG [(6,.sh (IntKind.wrap .u64 (w64 ((w64 ((2:Int)*(j2:Int)))+(1:Int)))) (of_decide_eq_true h9))] [13,15,14] [(13,i6 (w64 ((w64 (n_1+(w64 ((cQ .and .i64 (Int.fdiv dg (2 ^ min (IntKind.wrap .u64 (w64 ((2:Int)*(j2:Int)))).toNat 64)) (1:Int))*e2.fc))))+(w64 ((cQ .and .i64 (Int.fdiv dg (2 ^ min (IntKind.wrap .u64 (w64 ((w64 ((2:Int)*(j2:Int)))+(1:Int)))).toNat 64)) (1:Int))*e2.fS)))))] [3015] []<|qGs [(0,hto (inc hx2 hb2))] [70] [(70,i6 ((j2+1:Nat):Int))]<|qX (w64 ((w64 (n_1+(w64 ((cQ .and .i64 (Int.fdiv dg (2 ^ min (IntKind.wrap .u64 (w64 ((2:Int)*(j2:Int)))).toNat 64)) (1:Int))*e2.fc))))+(w64 ((cQ .and .i64 (Int.fdiv dg (2 ^ min (IntKind.wrap .u64 (w64 ((w64 ((2:Int)*(j2:Int)))+(1:Int)))).toNat 64)) (1:Int))*e2.fS)))) hm
   rintro j2 n_1 hj2 hl2 hm
   rw[hK2]at hm
   refine qDs [] [] [(71,.bool (decide ((j2:Int)<(l_1.length:Int))))]<|A.seq<|qF (ltF hl2)<|A.exit<|A.seq<|A.mid [(4,.ptr 3004 0),(5,i6 e_1.ID),(6,lf aB bF.1),(8,i6 bY.2.1),(9,i6 bY.2.2),(10,i6 cI),(11,i6 dg),(12,.lst true (ml aB ([e_1.ID]:List Int))),(13,i6 n_1),(105,.bool ((decide (0≤cI))&&(decide (cI≤n_1))))] [(3004,.cells 28 [lf aP aL.1.ay,lf bz l_1])] (λhk=>?_) ?_
   ·rcases tf (decide (0≤cI))with c2|c2
    ·exact qS [(2,hto (bE c2)),(6,hto (kU (q:=decide (cI≤n_1)) c2))] _ _ hk
    exact qS [(2,hto (bE c2)),(6,hto (rR (q:=decide (cI≤n_1)) c2))] _ _ hk
   rcases aQ hm with⟨c3,hm⟩|⟨c3,hm⟩
   ·exact qT c3<|A.exit<|qX cI hm
   refine qF c3<|A.skip<|A.seq<|qDs [] [105] [(16,i6 0)]<|A.block<|A.bC 4 0 rfl rfl rfl λhb3=>?_
   obtain⟨B3,K3,hB3,hK3,hm⟩:=cH hm
   refine A.lpI (l:=aL.1.ay) (j0:=0) (B:=B3) (K:=K3) hm (λj3=>λl5=>[(4,.ptr 3004 0),(5,i6 e_1.ID),(6,lf aB bF.1),(8,i6 bY.2.1),(9,i6 bY.2.2),(10,i6 cI),(11,i6 dg),(12,lf aB l5),(13,i6 n_1),(16,i6 (j3:Int))]) (λj3=>λl5=>[(3004,.cells 28 [lf aP aL.1.ay,lf bz l_1])]) ?_ ?_ ?_
   ·exact aN.go [] [12] (by kernel_rfl)
   ·rintro j3 e3 Z3 l5 hj3 hx3 hm
    rw[hB3]at hm
    refine A.seq<|qDs [(3,hto (lnE aP aL.1.ay))] [] [(110,.bool (decide ((j3:Int)<(aL.1.ay.length:Int))))] ?_
    refine qT (ltT hx3)<|A.skip<|A.seq<|A.block<|qDs [(2,hto (lnE bz l_1))] [110] [(114,lf bz l_1),(115,i6 (l_1.length:Int)),(116,i6 0)]<|A.block<|A.bS 114 rfl λhb4=>?_
    obtain⟨B4,K4,hB4,hK4,hm⟩:=cH hm
    refine A.lpI (l:=l_1) (j0:=0) (B:=B4) (K:=K4) hm (λj4=>λjq=>[(4,.ptr 3004 0),(5,i6 e_1.ID),(6,lf aB bF.1),(8,i6 bY.2.1),(9,i6 bY.2.2),(10,i6 cI),(11,i6 dg),(12,lf aB jq),(13,i6 n_1),(16,i6 (j3:Int)),(114,lf bz l_1),(115,i6 (l_1.length:Int)),(116,i6 (j4:Int))]) (λj4=>λjq=>[(3004,.cells 28 [lf aP aL.1.ay,lf bz l_1])]) ?_ ?_ ?_
    ·exact aN.go [] [12] (by kernel_rfl)
    ·rintro j4 e4 Z4 jq hj4 hx4 hm
     rw[hB4]at hm
     refine qDs [] [] [(117,.bool (decide ((j4:Int)<(l_1.length:Int))))]<|A.seq<|qT (ltT hx4)<|A.skip ?_
     obtain⟨J2,hJ2,hm⟩:=eF hm
     refine A.J (J:=J2) (r:=r) (λqx=>[(4,.ptr 3004 0),(5,i6 e_1.ID),(6,lf aB bF.1),(8,i6 bY.2.1),(9,i6 bY.2.2),(10,i6 cI),(11,i6 dg),(12,lf aB qx),(13,i6 n_1),(16,i6 (j3:Int)),(114,lf bz l_1),(115,i6 (l_1.length:Int)),(116,i6 (j4:Int))]) (λqx=>[(3004,.cells 28 [lf aP aL.1.ay,lf bz l_1])]) ?_ ?_
     ·refine A.block<|qD [(1,hix (ix bz (dG hx4))),(3,.al 3018)] [117] [(18,.ptr 3018 0),(17,i6 (j4:Int))] [] [(3018,.cells 42 (k1 e4))] ?_
      obtain⟨J3,hJ3,hm⟩:=eF hm
      refine A.J (J:=J3) (r:=r) (λl6=>[(4,.ptr 3004 0),(5,i6 e_1.ID),(6,lf aB bF.1),(8,i6 bY.2.1),(9,i6 bY.2.2),(10,i6 cI),(11,i6 dg),(12,lf aB l6),(13,i6 n_1),(16,i6 (j3:Int)),(17,i6 (j4:Int)),(18,.ptr 3018 0),(114,lf bz l_1),(115,i6 (l_1.length:Int)),(116,i6 (j4:Int))]) (λl6=>[(3004,.cells 28 [lf aP aL.1.ay,lf bz l_1]),(3018,.cells 42 (k1 e4))]) ?_ ?_
      ·obtain⟨J4,hJ4,hm⟩:=eF hm
       refine A.J (J:=J4) (r:=r) (λv_1=>[(4,.ptr 3004 0),(5,i6 e_1.ID),(6,lf aB bF.1),(8,i6 bY.2.1),(9,i6 bY.2.2),(10,i6 cI),(11,i6 dg),(12,lf aB jq),(13,i6 n_1),(16,i6 (j3:Int)),(17,i6 (j4:Int)),(18,.ptr 3018 0),(114,lf bz l_1),(115,i6 (l_1.length:Int)),(116,i6 (j4:Int)),(133,.bool v_1)]) (λv_1=>[(3004,.cells 28 [lf aP aL.1.ay,lf bz l_1]),(3018,.cells 42 (k1 e4))]) ?_ ?_
       ·obtain⟨h10,hm⟩:=ff hm
        rcases aQ hm with⟨c4,hm⟩|⟨c4,hm⟩
        ·obtain⟨fm,h11,hm⟩:=ak hm
         exact qGs [(4,.sh (IntKind.wrap .u64 (w64 ((2:Int)*(j4:Int)))) (of_decide_eq_true h10)),(7,hto (bE c4)),(11,hro (iM h11) ck9)] [] [(133,.bool fm)]<|qX fm hm
        exact qGs [(4,.sh (IntKind.wrap .u64 (w64 ((2:Int)*(j4:Int)))) (of_decide_eq_true h10)),(7,hto (bE c4))] [] [(133,.bool false)]<|qX false hm
       rintro v_1 hm
       rw[hJ4]at hm
       rcases aQ hm with⟨c5,hm⟩|⟨c5,hm⟩
       ·refine qT c5 ?_
        obtain⟨dR,h12,hm⟩:=ak hm
        exact qGs [(3,hro (iA h12) z6)] [12,133] [(12,lf aB dR)]<|Exists.intro dR (And.intro hm (aN.go [] [12] (by kernel_rfl)))
       exact qF c5<|A.skip<|Exists.intro jq (And.intro hm (aN.go [] [12] (by kernel_rfl)))
      rintro l6 hm
      rw[hJ3]at hm
      obtain⟨J5,hJ5,hm⟩:=eF hm
      refine A.J (J:=J5) (r:=r) (λv_2=>[(4,.ptr 3004 0),(5,i6 e_1.ID),(6,lf aB bF.1),(8,i6 bY.2.1),(9,i6 bY.2.2),(10,i6 cI),(11,i6 dg),(12,lf aB l6),(13,i6 n_1),(16,i6 (j3:Int)),(18,.ptr 3018 0),(114,lf bz l_1),(115,i6 (l_1.length:Int)),(116,i6 (j4:Int)),(151,.bool v_2)]) (λv_2=>[(3004,.cells 28 [lf aP aL.1.ay,lf bz l_1]),(3018,.cells 42 (k1 e4))]) ?_ ?_
      ·obtain⟨h13,hm⟩:=ff hm
       rcases aQ hm with⟨c6,hm⟩|⟨c6,hm⟩
       ·obtain⟨ja,h14,hm⟩:=ak hm
        exact qGs [(5,.sh (IntKind.wrap .u64 (w64 ((w64 ((2:Int)*(j4:Int)))+(1:Int)))) (of_decide_eq_true h13)),(8,hto (bE c6)),(12,hro (iM h14) ck9)] [17] [(151,.bool ja)]<|qX ja hm
       exact qGs [(5,.sh (IntKind.wrap .u64 (w64 ((w64 ((2:Int)*(j4:Int)))+(1:Int)))) (of_decide_eq_true h13)),(8,hto (bE c6))] [17] [(151,.bool false)]<|qX false hm
      rintro v_2 hm
      rw[hJ5]at hm
      rcases aQ hm with⟨c7,hm⟩|⟨c7,hm⟩
      ·refine qT c7 ?_
       obtain⟨jb,h15,hm⟩:=ak hm
       exact qG [(3,hro (iA h15) z6)] [12,18,151] [(12,lf aB jb)] [3018] []<|Exists.intro jb (And.intro hm (aN.go [] [12] (by kernel_rfl)))
      exact qF c7<|A.skip<|Exists.intro l6 (And.intro hm (aN.go [] [12] (by kernel_rfl)))
     rintro qx hm
     rw[hJ2]at hm
     exact qGs [(0,hto (inc hx4 hb4))] [116] [(116,i6 ((j4+1:Nat):Int))]<|Exists.intro qx (And.intro hm (aN.go [] [12] (by kernel_rfl)))
    rintro j4 jq hj4 hl4 hm
    rw[hK4]at hm
    exact qDs [] [] [(117,.bool (decide ((j4:Int)<(l_1.length:Int))))]<|A.seq<|qF (ltF hl4)<|A.exit<|qGs [(1,hto (inc hx3 hb3))] [16,114,115,116,117] [(16,i6 ((j3+1:Nat):Int))]<|Exists.intro jq (And.intro hm (aN.go [] [12] (by kernel_rfl)))
   rintro j3 l5 hj3 hl3 hm
   rw[hK3]at hm
   refine A.seq<|qDs [(3,hto (lnE aP aL.1.ay))] [] [(110,.bool (decide ((j3:Int)<(aL.1.ay.length:Int))))] ?_
   refine qF (ltF hl3)<|A.exit<|qDs [] [16,110] [(19,.bool true)]<|A.seq<|qDs [(1,hto (lnE aB bF.1))] [] [(157,lf aB bF.1),(158,i6 (bF.1.length:Int)),(159,i6 0)]<|A.block<|A.bS 6 rfl λhb5=>?_
   obtain⟨B5,K5,hB5,hK5,hm⟩:=cH hm
   refine A.lpI (l:=bF.1) (j0:=0) (B:=B5) (K:=K5) hm (λj5=>λl7=>[(4,.ptr 3004 0),(5,i6 e_1.ID),(6,lf aB bF.1),(8,i6 bY.2.1),(9,i6 bY.2.2),(10,i6 cI),(11,i6 dg),(12,lf aB l5),(13,i6 n_1),(19,.bool l7),(157,lf aB bF.1),(158,i6 (bF.1.length:Int)),(159,i6 (j5:Int))]) (λj5=>λl7=>[(3004,.cells 28 [lf aP aL.1.ay,lf bz l_1])]) ?_ ?_ ?_
   ·exact qW
   ·rintro j5 e5 Z5 l7 hj5 hx5 hm
    rw[hB5]at hm
    refine qDs [] [] [(160,.bool (decide ((j5:Int)<(bF.1.length:Int))))]<|A.seq<|qT (ltT hx5)<|A.skip<|A.seq<|A.block<|qDs [(0,hix (ix aB (dG hx5)))] [160] [(21,i6 e5)] ?_
    rcases aQ hm with⟨c8,hm⟩|⟨c8,hm⟩
    ·obtain⟨nq,h16,hm⟩:=ak hm
     exact qGs [(1,hto (bE c8)),(4,hro (iM h16) ck9)] [19,21] [(19,.bool nq)]<|qGs [(0,hto (inc hx5 hb5))] [159] [(159,i6 ((j5+1:Nat):Int))]<|qX nq hm
    exact qGs [(1,hto (bE c8))] [19,21] [(19,.bool false)]<|qGs [(0,hto (inc hx5 hb5))] [159] [(159,i6 ((j5+1:Nat):Int))]<|qX false hm
   rintro j5 l7 hj5 hl5 hm
   rw[hK5]at hm
   refine qDs [] [] [(160,.bool (decide ((j5:Int)<(bF.1.length:Int))))]<|A.seq<|qF (ltF hl5)<|A.exit<|qDs [] [12,19,157,158,159,160] [(170,.bool l7)] ?_
   rcases aQ hm with⟨c9,hm⟩|⟨c9,hm⟩
   ·exact qT c9<|qGs [] [10,13,170] [(10,i6 n_1)]<|qX n_1 hm
   exact qF c9<|A.skip<|qX cI hm
  rintro me hm
  rw[hJ1]at hm
  exact qGs [] [11] [(11,i6 (w64 (dg+1)))]<|qX (me,w64 (dg+1)) hm
 refine qF c1<|A.exit<|A.seq<|qD [] [4,5,6,11,62] [(173,.bool (decide (cI<0)))] [3004] [] ?_
 rcases aQ hm with⟨c10,hm⟩|⟨c10,hm⟩
 ·refine qT c10 ?_
  rcases aQ hm with⟨c11,hm⟩|⟨c11,hm⟩
  ·obtain⟨jk,h17,hm⟩:=ak hm
   refine qS [(2,hto (bE c11)),(3,hro (mQ h17) af3)] [(2,.bool jk)] [] ?_
   cases hm
   exact A.ret qE
  refine qS [(2,hto (bE c11))] [(2,.bool false)] [] ?_
  cases hm
  exact A.ret qE
 refine qF c10<|A.skip ?_
 rcases aQ hm with⟨c12,hm⟩|⟨c12,hm⟩
 ·rcases aQ hm with⟨c13,hm⟩|⟨c13,hm⟩
  ·obtain⟨oM,h18,hm⟩:=ak hm
   refine qS [(2,hto (bE c12)),(7,hto (bE c13)),(8,hro (mQ h18) af3)] [(2,.bool oM)] [] ?_
   cases hm
   exact A.ret qE
  refine qS [(2,hto (bE c12)),(7,hto (bE c13))] [(2,.bool false)] [] ?_
  cases hm
  exact A.ret qE
 refine qS [(2,hto (bE c12))] [(2,.bool false)] [] ?_
 cases hm
 exact A.ret qE
end Go.Proofs.Ytmnbolcmepihlaa
