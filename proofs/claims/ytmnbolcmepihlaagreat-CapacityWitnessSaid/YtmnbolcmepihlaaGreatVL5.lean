/- The walks of cv of the program. No condition but aT aH stand in each. -/
import Derived.Test.YtmnbolcmepihlaaGreatDL5
import Derived.Test.YtmnbolcmepihlaaGreatVLC
namespace Go.Proofs.YtmnbolcmepihlaaGreat
open Go Go.Proofs.Tryz
set_option maxRecDepth 100000
set_option linter.all false
theorem oD{t:List Int}{r:Bool}(hm:gr t=some r):RO prog 4 [] [lf aB t] (.bool r):=by
 refine bg func4 rfl rfl ?_
 unfold gr at hm
 refine qS [] [(0,lf aB t)] [] ?_
 obtain⟨ay,h1,hm⟩:=ah hm
 refine qS [(1,hdc [900000103] (sF h1) ck12)] [(3,.ptr 900000103 0)] [(900000103,.cells 103 (k5 ay))] ?_
 obtain⟨aI,h2,hm⟩:=ah hm
 refine qD [(1,hdc [500001300] (uZ h2) ck13),(2,.al 4004)] [] [(4,.ptr 4004 0)] [900000103] [(900000103,.cells 103 (k5 aI.2)),(500001300,.slice 62 5 (ml bQ aI.1.Links) 0 false),(4004,.cells 28 [lf bn aI.1.aS,.own 500001300])] ?_
 obtain⟨bk,h3,hm⟩:=ah hm
 refine A.RS W0 [.fz [500001300]] [(2,hdc [] (wg h3) ck22)] [(4,.ptr 4004 0),(5,lf bF bk.1)] [(500001300,.slice 62 5 (ml bQ aI.1.Links) (ml bQ aI.1.Links).length true),(4004,.cells 28 [lf bn aI.1.aS,.own 500001300])] (by kernel_rfl)<|A.RY W0 2 [3,4,5,6,7] [] [] (nw hm) alF (by kernel_rfl) (by kernel_rfl) (by kernel_rfl) (by rintro _ _ ⟨rfl,_,_,rfl⟩;exact⟨rfl,rfl⟩) ?_
 rintro _ _ ⟨rfl,ck,hm,rfl⟩
 try dsimp only at hm
 refine⟨[],[(4,.ptr 4004 0),(5,lf bF bk.1),(6,lf cn ck.1),(7,i6 ck.2)],[(500001300,.slice 62 5 (ml bQ aI.1.Links) (ml bQ aI.1.Links).length true),(4004,.cells 28 [lf bn aI.1.aS,.own 500001300])],by kernel_rfl,?_⟩
 refine A.seq<|A.mid [(4,.ptr 4004 0),(5,lf bF bk.1),(6,lf cn ck.1),(40,.bool ((!decide (ck.2=0))||(!decide ((ck.1.length:Int)=(bk.1.length:Int)))))] [(500001300,.slice 62 5 (ml bQ aI.1.Links) (ml bQ aI.1.Links).length true),(4004,.cells 28 [lf bn aI.1.aS,.own 500001300])] (λhk=>?_) ?_
 ·rcases tf (!decide (ck.2=0))with c1|c1
  ·exact qS [(2,hto (bE c1)),(8,hto (orT (q:=!decide ((ck.1.length:Int)=(bk.1.length:Int))) c1))] _ _ hk
  exact qS [(2,hto (bE c1)),(4,hto (lnE cn ck.1)),(6,hto (lnE bF bk.1)),(8,hto (orF (q:=!decide ((ck.1.length:Int)=(bk.1.length:Int))) c1))] _ _ hk
 rcases aG hm with⟨c2,hm⟩|⟨c2,hm⟩
 ·refine qT c2<|qS [] [(2,.bool false)] [] ?_
  cases hm
  exact A.ret qE
 refine qF c2<|A.skip<|A.seq<|qDs [(1,hto (lnE bF bk.1))] [40] [(41,lf bF bk.1),(42,i6 (bk.1.length:Int)),(43,i6 0)]<|A.block<|A.bS 5 rfl λhb1=>?_
 obtain⟨B1,K1,hB1,hK1,hm⟩:=cg hm
 refine A.lpI (l:=bk.1) (j0:=0) (B:=B1) (K:=K1) hm (λj1=>λ()=>[(4,.ptr 4004 0),(5,lf bF bk.1),(6,lf cn ck.1),(41,lf bF bk.1),(42,i6 (bk.1.length:Int)),(43,i6 (j1:Int))]) (λj1=>λ()=>[(500001300,.slice 62 5 (ml bQ aI.1.Links) (ml bQ aI.1.Links).length true),(4004,.cells 28 [lf bn aI.1.aS,.own 500001300])]) ?_ ?_ ?_
 ·exact qW
 ·rintro j1 e1 Z1 ⟨⟩ hj1 hx1 hm
  rw[hB1]at hm
  refine qDs [] [] [(44,.bool (decide ((j1:Int)<(bk.1.length:Int))))]<|A.seq<|qT (ltT hx1)<|A.skip ?_
  obtain⟨J1,hJ1,hm⟩:=eC hm
  refine A.J (J:=J1) (r:=r) (λ()=>[(4,.ptr 4004 0),(5,lf bF bk.1),(6,lf cn ck.1),(41,lf bF bk.1),(42,i6 (bk.1.length:Int)),(43,i6 (j1:Int))]) (λ()=>[(500001300,.slice 62 5 (ml bQ aI.1.Links) (ml bQ aI.1.Links).length true),(4004,.cells 28 [lf bn aI.1.aS,.own 500001300])]) ?_ ?_
  ·refine A.block<|qD [(1,hix (ix bF (cw hx1))),(3,.al 4009)] [44] [(9,.ptr 4009 0),(8,i6 (j1:Int))] [] [(4009,.cells 52 (k8 e1))] ?_
   refine A.seq ?_
   obtain⟨e_1,h4,hm⟩:=ah hm
   refine qDs [(2,hix (ix cn h4))] [] [(53,.bool (!decide (e_1.bK=0)))] ?_
   rcases aG hm with⟨c3,hm⟩|⟨c3,hm⟩
   ·exact qT c3<|A.exit<|qX () hm
   refine qF c3<|A.skip ?_
   obtain⟨l_1,h5,hm⟩:=ah hm
   obtain⟨dA,h6,hm⟩:=ah hm
   refine qDs [(4,hsl (sl cn h5)),(5,hro (oh h6) alG)] [8,53] [(10,lf dR dA.1),(11,i6 dA.2)] ?_
   obtain⟨dg,h7,hm⟩:=ah hm
   refine qDs [(3,hro (mI h7) alH)] [] [(12,lf aB dg.1),(13,i6 dg.2)]<|A.seq ?_
   obtain⟨J2,hJ2,hm⟩:=eC hm
   refine A.J (J:=J2) (r:=r) (λv_1=>[(4,.ptr 4004 0),(5,lf bF bk.1),(6,lf cn ck.1),(9,.ptr 4009 0),(10,lf dR dA.1),(12,lf aB dg.1),(41,lf bF bk.1),(42,i6 (bk.1.length:Int)),(43,i6 (j1:Int)),(82,.bool v_1)]) (λv_1=>[(500001300,.slice 62 5 (ml bQ aI.1.Links) (ml bQ aI.1.Links).length true),(4004,.cells 28 [lf bn aI.1.aS,.own 500001300]),(4009,.cells 52 (k8 e1))]) ?_ ?_
   ·rcases aG hm with⟨c4,hm⟩|⟨c4,hm⟩
    ·exact qGs [(2,hto (bE c4))] [11,13] [(82,.bool true)]<|qX true hm
    rcases aG hm with⟨c5,hm⟩|⟨c5,hm⟩
    ·exact qGs [(2,hto (bE c4)),(6,hto (bE c5))] [11,13] [(82,.bool true)]<|qX true hm
    obtain⟨dD,h8,hm⟩:=ah hm
    exact qGs [(2,hto (bE c4)),(6,hto (bE c5)),(10,hro (eR h8) vZ)] [11,13] [(82,.bool (!dD))]<|qX (!dD) hm
   rintro v_1 hm
   rw[hJ2]at hm
   rcases aG hm with⟨c6,hm⟩|⟨c6,hm⟩
   ·refine qT c6<|qS [] [(2,.bool false)] [] ?_
    cases hm
    exact A.ret qE
   refine qF c6<|A.skip<|qDs [] [82] [(14,.bool true)]<|A.seq<|qDs [(2,hto (lnE aB e1.bq))] [] [(84,lf aB e1.bq),(85,i6 (e1.bq.length:Int)),(86,i6 0)]<|A.block<|A.bS 84 rfl λhb2=>?_
   obtain⟨B2,K2,hB2,hK2,hm⟩:=cg hm
   refine A.lpI (l:=e1.bq) (j0:=0) (B:=B2) (K:=K2) hm (λj2=>λoV=>[(4,.ptr 4004 0),(5,lf bF bk.1),(6,lf cn ck.1),(9,.ptr 4009 0),(10,lf dR dA.1),(12,lf aB dg.1),(14,.bool oV),(41,lf bF bk.1),(42,i6 (bk.1.length:Int)),(43,i6 (j1:Int)),(84,lf aB e1.bq),(85,i6 (e1.bq.length:Int)),(86,i6 (j2:Int))]) (λj2=>λoV=>[(500001300,.slice 62 5 (ml bQ aI.1.Links) (ml bQ aI.1.Links).length true),(4004,.cells 28 [lf bn aI.1.aS,.own 500001300]),(4009,.cells 52 (k8 e1))]) ?_ ?_ ?_
   ·exact qW
   ·rintro j2 e2 Z2 oV hj2 hx2 hm
    rw[hB2]at hm
    refine qDs [] [] [(87,.bool (decide ((j2:Int)<(e1.bq.length:Int))))]<|A.seq<|qT (ltT hx2)<|A.skip<|A.seq<|A.block<|qDs [(0,hix (ix aB (cw hx2)))] [87] [(16,i6 e2)] ?_
    rcases aG hm with⟨c7,hm⟩|⟨c7,hm⟩
    ·obtain⟨kY,h9,hm⟩:=ah hm
     exact qGs [(1,hto (bE c7)),(4,hro (eR h9) vZ)] [14,16] [(14,.bool kY)]<|qGs [(0,hto (inc hx2 hb2))] [86] [(86,i6 ((j2+1:Nat):Int))]<|qX kY hm
    exact qGs [(1,hto (bE c7))] [14,16] [(14,.bool false)]<|qGs [(0,hto (inc hx2 hb2))] [86] [(86,i6 ((j2+1:Nat):Int))]<|qX false hm
   rintro j2 oV hj2 hl2 hm
   rw[hK2]at hm
   refine qDs [] [] [(87,.bool (decide ((j2:Int)<(e1.bq.length:Int))))]<|A.seq<|qF (ltF hl2)<|A.exit<|A.seq<|qDs [] [14,84,85,86,87] [(97,.bool oV)] ?_
   rcases aG hm with⟨c8,hm⟩|⟨c8,hm⟩
   ·refine qT c8<|qS [] [(2,.bool false)] [] ?_
    cases hm
    exact A.ret qE
   refine qF c8<|A.skip<|qDs [(1,hto (lnE dR dA.1))] [10,97] [(98,lf dR dA.1),(99,i6 (dA.1.length:Int)),(100,i6 0)]<|A.block<|A.bS 98 rfl λhb3=>?_
   obtain⟨B3,K3,hB3,hK3,hm⟩:=cg hm
   refine A.lpI (l:=dA.1) (j0:=0) (B:=B3) (K:=K3) hm (λj3=>λ()=>[(4,.ptr 4004 0),(5,lf bF bk.1),(6,lf cn ck.1),(9,.ptr 4009 0),(12,lf aB dg.1),(41,lf bF bk.1),(42,i6 (bk.1.length:Int)),(43,i6 (j1:Int)),(98,lf dR dA.1),(99,i6 (dA.1.length:Int)),(100,i6 (j3:Int))]) (λj3=>λ()=>[(500001300,.slice 62 5 (ml bQ aI.1.Links) (ml bQ aI.1.Links).length true),(4004,.cells 28 [lf bn aI.1.aS,.own 500001300]),(4009,.cells 52 (k8 e1))]) ?_ ?_ ?_
   ·exact qW
   ·rintro j3 e3 Z3 ⟨⟩ hj3 hx3 hm
    rw[hB3]at hm
    refine qDs [] [] [(101,.bool (decide ((j3:Int)<(dA.1.length:Int))))]<|A.seq<|qT (ltT hx3)<|A.skip<|A.seq<|A.block<|qD [(0,hix (ix dR (cw hx3))),(2,.al 4018)] [101] [(18,.ptr 4018 0)] [] [(4018,.cells 60 (k7 e3))] ?_
    obtain⟨J3,hJ3,hm⟩:=eC hm
    refine A.J (J:=J3) (r:=r) (λv_2=>[(4,.ptr 4004 0),(5,lf bF bk.1),(6,lf cn ck.1),(9,.ptr 4009 0),(12,lf aB dg.1),(41,lf bF bk.1),(42,i6 (bk.1.length:Int)),(43,i6 (j1:Int)),(98,lf dR dA.1),(99,i6 (dA.1.length:Int)),(100,i6 (j3:Int)),(121,.bool v_2)]) (λv_2=>[(500001300,.slice 62 5 (ml bQ aI.1.Links) (ml bQ aI.1.Links).length true),(4004,.cells 28 [lf bn aI.1.aS,.own 500001300]),(4009,.cells 52 (k8 e1))]) ?_ ?_
    ·obtain⟨mm,h10,hm⟩:=ah hm
     rcases aG hm with⟨c9,hm⟩|⟨c9,hm⟩
     ·obtain⟨uR,h11,hm⟩:=ah hm
      rcases aG hm with⟨c10,hm⟩|⟨c10,hm⟩
      ·exact qG [(3,hro (eR h10) vZ),(4,hto (bE c9)),(8,hro (eR h11) vZ),(11,hto (bE c10))] [18] [(121,.bool (decide (e1.eD≤e3.Count)))] [4018] []<|qX (decide (e1.eD≤e3.Count)) hm
      exact qG [(3,hro (eR h10) vZ),(4,hto (bE c9)),(8,hro (eR h11) vZ),(11,hto (bE c10))] [18] [(121,.bool false)] [4018] []<|qX false hm
     exact qG [(3,hro (eR h10) vZ),(4,hto (bE c9))] [18] [(121,.bool false)] [4018] []<|qX false hm
    rintro v_2 hm
    rw[hJ3]at hm
    rcases aG hm with⟨c11,hm⟩|⟨c11,hm⟩
    ·refine qT c11<|qS [] [(2,.bool false)] [] ?_
     cases hm
     exact A.ret qE
    exact qF c11<|A.skip<|qGs [(0,hto (inc hx3 hb3))] [100,121] [(100,i6 ((j3+1:Nat):Int))]<|qX () hm
   rintro j3 ⟨⟩ hj3 hl3 hm
   rw[hK3]at hm
   exact qDs [] [] [(101,.bool (decide ((j3:Int)<(dA.1.length:Int))))]<|A.seq<|qF (ltF hl3)<|A.exit<|qX () hm
  rintro⟨⟩ hm
  rw[hJ1]at hm
  exact qGs [(0,hto (inc hx1 hb1))] [43] [(43,i6 ((j1+1:Nat):Int))]<|qX () hm
 rintro j1 ⟨⟩ hj1 hl1 hm
 rw[hK1]at hm
 refine qDs [] [] [(44,.bool (decide ((j1:Int)<(bk.1.length:Int))))]<|A.seq<|qF (ltF hl1)<|A.exit ?_
 obtain⟨lF,h12,hm⟩:=ah hm
 refine qS [(0,hro (wh h12) ck27)] [(2,.bool lF)] [] ?_
 cases hm
 exact A.ret qE
end Go.Proofs.YtmnbolcmepihlaaGreat
