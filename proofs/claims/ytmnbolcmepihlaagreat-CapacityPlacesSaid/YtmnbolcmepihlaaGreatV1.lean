/- The walks of cE of the program. No condition but bf aM stand in each. -/
import Derived.Test.YtmnbolcmepihlaaGreatDA
namespace Go.Proofs.YtmnbolcmepihlaaGreat
open Go Go.Proofs.Tryz
set_option maxRecDepth 100000
set_option linter.all false
theorem gT{n:Int}{r:Bool}(hm:nw n=some r):RO prog 147 [] [i6 n] (.bool r):=by
 refine aZ func147 rfl rfl ?_;unfold nw at hm;refine qS [] [(0,i6 n)] []<|A.mid [(2,.bool ((decide (1≤n))&&(decide (n≤1000))))] [] (λhk=>?_) ?_
 ·rcases tf (decide (1≤n))with c1|c1
  ·exact qS [(2,hto (bE c1)),(6,hto (oF (q:=decide (n≤1000)) c1))] _ _ hk
  exact qS [(2,hto (bE c1)),(6,hto (oG (q:=decide (n≤1000)) c1))] _ _ hk
 cases hm;exact A.ret qE
theorem nP{t:ai}{ra1:Int}{r:Bool}(hm:kW t ra1=some r):RO prog 148 [] [.agg (k2 t),i6 ra1] (.bool r):=by
 refine aZ func148 rfl rfl ?_;unfold kW at hm;refine qS [(0,.al 148002)] [(1,i6 ra1),(2,.ptr 148002 0)] [(148002,.cells 28 (k2 t))]<|A.seq<|qDs [] [] [(5,i6 0)]<|A.block<|A.bC 2 0 rfl rfl rfl λhb1=>?_
 obtain⟨B1,K1,hB1,hK1,hm⟩:=bh hm;refine A.lpI (l:=t.aC) (j0:=0) (B:=B1) (K:=K1) hm (λj1=>λ()=>[(1,i6 ra1),(2,.ptr 148002 0),(5,i6 (j1:Int))]) (λj1=>λ()=>[(148002,.cells 28 (k2 t))]) ?_ ?_ ?_
 ·exact qW
 ·rintro j1 e1 Z1 ⟨⟩ hj1 hx1 hm;rw[hB1]at hm;refine A.seq<|qDs [(3,hto (lnE bt t.aC))] [] [(10,.bool (decide ((j1:Int)<(t.aC.length:Int))))] ?_
  refine qT (ltT hx1)<|A.skip<|A.seq<|A.block<|qDs [(3,hix (ix bt (bu hx1)))] [10] [(20,.bool (decide (e1.ID=ra1)))] ?_
  rcases aA hm with⟨c1,hm⟩|⟨c1,hm⟩
  ·refine qT c1<|qS [] [(4,.bool true)] [] ?_
   cases hm;exact A.ret qE
  exact qF c1<|A.skip<|qGs [(1,hto (inc hx1 hb1))] [5,20] [(5,i6 ((j1+1:Nat):Int))]<|qX () hm
 rintro j1 ⟨⟩ hj1 hl1 hm;rw[hK1]at hm;refine A.seq<|qDs [(3,hto (lnE bt t.aC))] [] [(10,.bool (decide ((j1:Int)<(t.aC.length:Int))))] ?_
 refine qF (ltF hl1)<|A.exit<|qS [] [(4,.bool false)] [] ?_
 cases hm;exact A.ret qE
theorem yX{t:ai}{cv:Int}{dJ:Int}{r:Int×Bool}(hm:mG t cv dJ=some r):RO prog 150 [] [.agg (k2 t),i6 cv,i6 dJ] (.tup [i6 r.1,.bool r.2]):=by
 refine aZ func150 rfl rfl ?_;unfold mG at hm;refine qS [(0,.al 150003)] [(1,i6 cv),(2,i6 dJ),(3,.ptr 150003 0)] [(150003,.cells 28 (k2 t))]<|A.seq<|qDs [] [] [(8,i6 0)]<|A.block<|A.bC 3 1 rfl rfl rfl λhb1=>?_
 obtain⟨B1,K1,hB1,hK1,hm⟩:=bh hm;refine A.lpI (l:=t.Links) (j0:=0) (B:=B1) (K:=K1) hm (λj1=>λ()=>[(1,i6 cv),(2,i6 dJ),(3,.ptr 150003 0),(8,i6 (j1:Int))]) (λj1=>λ()=>[(150003,.cells 28 (k2 t))]) ?_ ?_ ?_
 ·exact qW
 ·rintro j1 e1 Z1 ⟨⟩ hj1 hx1 hm;rw[hB1]at hm;refine A.seq<|qDs [(3,hto (lnE bD t.Links))] [] [(14,.bool (decide ((j1:Int)<(t.Links.length:Int))))] ?_
  refine qT (ltT hx1)<|A.skip<|A.seq<|A.block<|qD [(3,hix (ix bD (bu hx1))),(5,.al 150009)] [14] [(9,.ptr 150009 0)] [] [(150009,.cells 62 (k1 e1))]<|A.seq<|A.mid [(1,i6 cv),(2,i6 dJ),(3,.ptr 150003 0),(8,i6 (j1:Int)),(9,.ptr 150009 0),(31,.bool ((decide (e1.A=cv))&&(decide (e1.B=dJ))))] [(150003,.cells 28 (k2 t)),(150009,.cells 62 (k1 e1))] (λhk=>?_) ?_
  ·rcases tf (decide (e1.A=cv))with c1|c1
   ·exact qS [(4,hto (bE c1)),(9,hto (oF (q:=decide (e1.B=dJ)) c1))] _ _ hk
   exact qS [(4,hto (bE c1)),(9,hto (oG (q:=decide (e1.B=dJ)) c1))] _ _ hk
  rcases aA hm with⟨c2,hm⟩|⟨c2,hm⟩
  ·refine qT c2<|qS [] [(6,i6 e1.eZ),(7,.bool true)] [] ?_
   cases hm;exact A.ret qE
  refine qF c2<|A.skip<|A.mid [(1,i6 cv),(2,i6 dJ),(3,.ptr 150003 0),(8,i6 (j1:Int)),(9,.ptr 150009 0),(43,.bool ((decide (e1.B=cv))&&(decide (e1.A=dJ))))] [(150003,.cells 28 (k2 t)),(150009,.cells 62 (k1 e1))] (λhk=>?_) ?_
  ·rcases tf (decide (e1.B=cv))with c3|c3
   ·exact qS [(4,hto (bE c3)),(9,hto (oF (q:=decide (e1.A=dJ)) c3))] _ _ hk
   exact qS [(4,hto (bE c3)),(9,hto (oG (q:=decide (e1.A=dJ)) c3))] _ _ hk
  rcases aA hm with⟨c4,hm⟩|⟨c4,hm⟩
  ·refine qT c4<|qS [] [(6,i6 e1.gj),(7,.bool true)] [] ?_
   cases hm;exact A.ret qE
  exact qF c4<|A.skip<|qG [(1,hto (inc hx1 hb1))] [8,9,43] [(8,i6 ((j1+1:Nat):Int))] [150009] []<|qX () hm
 rintro j1 ⟨⟩ hj1 hl1 hm;rw[hK1]at hm;refine A.seq<|qDs [(3,hto (lnE bD t.Links))] [] [(14,.bool (decide ((j1:Int)<(t.Links.length:Int))))] ?_
 refine qF (ltF hl1)<|A.exit<|qS [] [(6,i6 0),(7,.bool false)] [] ?_
 cases hm;exact A.ret qE
theorem jF{t:ai}{r:Int}(hm:gZ t=some r):RO prog 77 [] [.agg (k2 t)] (i6 r):=by
 refine aZ func77 rfl rfl ?_;unfold gZ at hm;refine qS [(0,.al 77001)] [(1,.ptr 77001 0)] [(77001,.cells 28 (k2 t))]<|A.seq<|A.mid [(1,.ptr 77001 0),(21,.bool ((decide (24<(t.aC.length:Int)))||(decide (60<(t.Links.length:Int)))))] [(77001,.cells 28 (k2 t))] (λhk=>?_) ?_
 ·rcases tf (decide (24<(t.aC.length:Int)))with c1|c1
  ·exact qS [(2,hto (lnE bt t.aC)),(4,hto (bE c1)),(9,hto (orT (q:=decide (60<(t.Links.length:Int))) c1))] _ _ hk
  exact qS [(2,hto (lnE bt t.aC)),(4,hto (bE c1)),(7,hto (lnE bD t.Links)),(9,hto (orF (q:=decide (60<(t.Links.length:Int))) c1))] _ _ hk
 rcases aA hm with⟨c2,hm⟩|⟨c2,hm⟩
 ·refine qT c2<|qS [] [(2,i6 3)] [] ?_
  cases hm;exact A.ret qE
 refine qF c2<|A.skip<|A.seq<|qDs [] [21] [(3,i6 0)]<|A.block<|A.bC 1 0 rfl rfl rfl λhb1=>?_
 obtain⟨B1,K1,hB1,hK1,hm⟩:=bh hm;refine A.lpI (l:=t.aC) (j0:=0) (B:=B1) (K:=K1) hm (λj1=>λ()=>[(1,.ptr 77001 0),(3,i6 (j1:Int))]) (λj1=>λ()=>[(77001,.cells 28 (k2 t))]) ?_ ?_ ?_
 ·exact qW
 ·rintro j1 e1 Z1 ⟨⟩ hj1 hx1 hm;rw[hB1]at hm;refine A.seq<|qDs [(3,hto (lnE bt t.aC))] [] [(26,.bool (decide ((j1:Int)<(t.aC.length:Int))))] ?_
  refine qT (ltT hx1)<|A.skip<|A.seq<|A.block<|A.mid [(1,.ptr 77001 0),(3,i6 (j1:Int)),(44,.bool ((decide (e1.ID<1))||(decide (99<e1.ID))))] [(77001,.cells 28 (k2 t))] (λhk=>?_) ?_
  ·rcases tf (decide (e1.ID<1))with c3|c3
   ·exact qS [(3,hix (ix bt (bu hx1))),(7,hto (bE c3)),(15,hto (orT (q:=decide (99<e1.ID)) c3))] _ _ hk
   exact qS [(3,hix (ix bt (bu hx1))),(7,hto (bE c3)),(11,hix (ix bt (bu hx1))),(15,hto (orF (q:=decide (99<e1.ID)) c3))] _ _ hk
  rcases aA hm with⟨c4,hm⟩|⟨c4,hm⟩
  ·refine qT c4<|qS [] [(2,i6 2)] [] ?_
   cases hm;exact A.ret qE
  exact qF c4<|A.skip<|qGs [(1,hto (inc hx1 hb1))] [3,44] [(3,i6 ((j1+1:Nat):Int))]<|qX () hm
 rintro j1 ⟨⟩ hj1 hl1 hm;rw[hK1]at hm;refine A.seq<|qDs [(3,hto (lnE bt t.aC))] [] [(26,.bool (decide ((j1:Int)<(t.aC.length:Int))))] ?_
 refine qF (ltF hl1)<|A.exit<|A.seq<|qDs [] [3,26] [(4,i6 1)]<|A.block<|A.bC 1 0 rfl rfl rfl λhb2=>?_
 obtain⟨B2,K2,hB2,hK2,hm⟩:=bh hm;refine A.lpI (l:=t.aC) (j0:=1) (B:=B2) (K:=K2) hm (λj2=>λ()=>[(1,.ptr 77001 0),(4,i6 (j2:Int))]) (λj2=>λ()=>[(77001,.cells 28 (k2 t))]) ?_ ?_ ?_
 ·exact qW
 ·rintro j2 e2 Z2 ⟨⟩ hj2 hx2 hm;rw[hB2]at hm;refine A.seq<|qDs [(3,hto (lnE bt t.aC))] [] [(49,.bool (decide ((j2:Int)<(t.aC.length:Int))))] ?_
  refine qT (ltT hx2)<|A.skip<|A.seq<|A.block ?_
  obtain⟨e_1,h1,hm⟩:=aa hm;refine qDs [(4,hix (ix bt h1)),(10,hix (ix bt (bu hx2)))] [49] [(65,.bool (decide (e2.ID≤e_1.ID)))] ?_;rcases aA hm with⟨c5,hm⟩|⟨c5,hm⟩
  ·refine qT c5<|qS [] [(2,i6 25)] [] ?_
   cases hm;exact A.ret qE
  exact qF c5<|A.skip<|qGs [(1,hto (inc hx2 hb2))] [4,65] [(4,i6 ((j2+1:Nat):Int))]<|qX () hm
 rintro j2 ⟨⟩ hj2 hl2 hm;rw[hK2]at hm;refine A.seq<|qDs [(3,hto (lnE bt t.aC))] [] [(49,.bool (decide ((j2:Int)<(t.aC.length:Int))))] ?_
 refine qF (ltF hl2)<|A.exit<|A.seq<|qDs [] [4,49] [(5,i6 0)]<|A.block<|A.bC 1 1 rfl rfl rfl λhb3=>?_
 obtain⟨B3,K3,hB3,hK3,hm⟩:=bh hm;refine A.lpI (l:=t.Links) (j0:=0) (B:=B3) (K:=K3) hm (λj3=>λ()=>[(1,.ptr 77001 0),(5,i6 (j3:Int))]) (λj3=>λ()=>[(77001,.cells 28 (k2 t))]) ?_ ?_ ?_
 ·exact qW
 ·rintro j3 e3 Z3 ⟨⟩ hj3 hx3 hm;rw[hB3]at hm;refine A.seq<|qDs [(3,hto (lnE bD t.Links))] [] [(70,.bool (decide ((j3:Int)<(t.Links.length:Int))))] ?_
  refine qT (ltT hx3)<|A.skip<|A.seq<|A.block<|qD [(3,hix (ix bD (bu hx3))),(5,.al 77006)] [70] [(6,.ptr 77006 0)] [] [(77006,.cells 62 (k1 e3))] ?_
  obtain⟨J1,hJ1,hm⟩:=cO hm;refine A.J (J:=J1) (r:=r) (λv_1=>[(1,.ptr 77001 0),(5,i6 (j3:Int)),(97,.bool v_1)]) (λv_1=>[(77001,.cells 28 (k2 t))]) ?_ ?_
  ·obtain⟨aq,h2,hm⟩:=aa hm;rcases aA hm with⟨c6,hm⟩|⟨c6,hm⟩
   ·exact qG [(2,hro (gT h2) vp),(4,hto (bE c6))] [6] [(97,.bool true)] [77006] []<|qX true hm
   obtain⟨aF,h3,hm⟩:=aa hm;rcases aA hm with⟨c7,hm⟩|⟨c7,hm⟩
   ·exact qG [(2,hro (gT h2) vp),(4,hto (bE c6)),(7,hro (gT h3) vp),(10,hto (bE c7))] [6] [(97,.bool true)] [77006] []<|qX true hm
   rcases aA hm with⟨c8,hm⟩|⟨c8,hm⟩
   ·exact qG [(2,hro (gT h2) vp),(4,hto (bE c6)),(7,hro (gT h3) vp),(10,hto (bE c7)),(15,hto (bE c8))] [6] [(97,.bool true)] [77006] []<|qX true hm
   exact qG [(2,hro (gT h2) vp),(4,hto (bE c6)),(7,hro (gT h3) vp),(10,hto (bE c7)),(15,hto (bE c8))] [6] [(97,.bool (decide (1000<e3.dZ)))] [77006] []<|qX (decide (1000<e3.dZ)) hm
  rintro v_1 hm;rw[hJ1]at hm;rcases aA hm with⟨c9,hm⟩|⟨c9,hm⟩
  ·refine qT c9<|qS [] [(2,i6 2)] [] ?_
   cases hm;exact A.ret qE
  exact qF c9<|A.skip<|qGs [(1,hto (inc hx3 hb3))] [5,97] [(5,i6 ((j3+1:Nat):Int))]<|qX () hm
 rintro j3 ⟨⟩ hj3 hl3 hm;rw[hK3]at hm;refine A.seq<|qDs [(3,hto (lnE bD t.Links))] [] [(70,.bool (decide ((j3:Int)<(t.Links.length:Int))))] ?_
 refine qF (ltF hl3)<|A.exit<|A.seq<|qDs [] [5,70] [(7,i6 0)]<|A.block<|A.bC 1 1 rfl rfl rfl λhb4=>?_
 obtain⟨B4,K4,hB4,hK4,hm⟩:=bh hm;refine A.lpI (l:=t.Links) (j0:=0) (B:=B4) (K:=K4) hm (λj4=>λ()=>[(1,.ptr 77001 0),(7,i6 (j4:Int))]) (λj4=>λ()=>[(77001,.cells 28 (k2 t))]) ?_ ?_ ?_
 ·exact qW
 ·rintro j4 e4 Z4 ⟨⟩ hj4 hx4 hm;rw[hB4]at hm;refine A.seq<|qDs [(3,hto (lnE bD t.Links))] [] [(102,.bool (decide ((j4:Int)<(t.Links.length:Int))))] ?_
  refine qT (ltT hx4)<|A.skip<|A.seq<|A.block ?_
  obtain⟨J2,hJ2,hm⟩:=cO hm;refine A.J (J:=J2) (r:=r) (λv_2=>[(1,.ptr 77001 0),(7,i6 (j4:Int)),(124,.bool v_2)]) (λv_2=>[(77001,.cells 28 (k2 t))]) ?_ ?_
  ·obtain⟨bx,h4,hm⟩:=aa hm;rcases aA hm with⟨c10,hm⟩|⟨c10,hm⟩
   ·exact qGs [(4,hix (ix bD (bu hx4))),(7,hro (nP h4) ab5),(9,hto (bE c10))] [102] [(124,.bool true)]<|qX true hm
   obtain⟨bV,h5,hm⟩:=aa hm;exact qGs [(4,hix (ix bD (bu hx4))),(7,hro (nP h4) ab5),(9,hto (bE c10)),(14,hix (ix bD (bu hx4))),(17,hro (nP h5) ab5)] [102] [(124,.bool (!bV))]<|qX (!bV) hm
  rintro v_2 hm;rw[hJ2]at hm;rcases aA hm with⟨c11,hm⟩|⟨c11,hm⟩
  ·refine qT c11<|qS [] [(2,i6 4)] [] ?_
   cases hm;exact A.ret qE
  exact qF c11<|A.skip<|qGs [(1,hto (inc hx4 hb4))] [7,124] [(7,i6 ((j4+1:Nat):Int))]<|qX () hm
 rintro j4 ⟨⟩ hj4 hl4 hm;rw[hK4]at hm;refine A.seq<|qDs [(3,hto (lnE bD t.Links))] [] [(102,.bool (decide ((j4:Int)<(t.Links.length:Int))))] ?_
 refine qF (ltF hl4)<|A.exit<|A.seq<|qDs [] [7,102] [(8,i6 0)]<|A.block<|A.bC 1 1 rfl rfl rfl λhb5=>?_
 obtain⟨B5,K5,hB5,hK5,hm⟩:=bh hm;refine A.lpI (l:=t.Links) (j0:=0) (B:=B5) (K:=K5) hm (λj5=>λ()=>[(1,.ptr 77001 0),(8,i6 (j5:Int))]) (λj5=>λ()=>[(77001,.cells 28 (k2 t))]) ?_ ?_ ?_
 ·exact qW
 ·rintro j5 e5 Z5 ⟨⟩ hj5 hx5 hm;rw[hB5]at hm;refine A.seq<|qDs [(3,hto (lnE bD t.Links))] [] [(129,.bool (decide ((j5:Int)<(t.Links.length:Int))))] ?_
  refine qT (ltT hx5)<|A.skip<|A.seq<|A.block<|qDs [(3,hix (ix bD (bu hx5))),(9,hix (ix bD (bu hx5)))] [129] [(144,.bool (decide (e5.B≤e5.A)))] ?_
  rcases aA hm with⟨c12,hm⟩|⟨c12,hm⟩
  ·refine qT c12<|qS [] [(2,i6 8)] [] ?_
   cases hm;exact A.ret qE
  exact qF c12<|A.skip<|qGs [(1,hto (inc hx5 hb5))] [8,144] [(8,i6 ((j5+1:Nat):Int))]<|qX () hm
 rintro j5 ⟨⟩ hj5 hl5 hm;rw[hK5]at hm;refine A.seq<|qDs [(3,hto (lnE bD t.Links))] [] [(129,.bool (decide ((j5:Int)<(t.Links.length:Int))))] ?_
 refine qF (ltF hl5)<|A.exit<|A.seq<|qDs [] [8,129] [(9,i6 1)]<|A.block<|A.bC 1 1 rfl rfl rfl λhb6=>?_
 obtain⟨B6,K6,hB6,hK6,hm⟩:=bh hm;refine A.lpI (l:=t.Links) (j0:=1) (B:=B6) (K:=K6) hm (λj6=>λ()=>[(1,.ptr 77001 0),(9,i6 (j6:Int))]) (λj6=>λ()=>[(77001,.cells 28 (k2 t))]) ?_ ?_ ?_
 ·exact qW
 ·rintro j6 e6 Z6 ⟨⟩ hj6 hx6 hm;rw[hB6]at hm;refine A.seq<|qDs [(3,hto (lnE bD t.Links))] [] [(149,.bool (decide ((j6:Int)<(t.Links.length:Int))))] ?_
  refine qT (ltT hx6)<|A.skip<|A.seq<|A.block ?_
  obtain⟨e_2,h6,hm⟩:=aa hm;refine qD [(4,hix (ix bD h6)),(9,hix (ix bD (bu hx6))),(11,.al 77010),(12,.al 77011)] [149] [(10,.ptr 77010 0),(11,.ptr 77011 0)] [] [(77010,.cells 62 (k1 e_2)),(77011,.cells 62 (k1 e6))]<|A.mid [(1,.ptr 77001 0),(9,i6 (j6:Int)),(181,.bool ((decide (e6.A<e_2.A))||((decide (e_2.A=e6.A))&&(decide (e6.B≤e_2.B)))))] [(77001,.cells 28 (k2 t))] (λhk=>?_) ?_
  ·rcases tf (decide (e6.A<e_2.A))with c13|c13
   ·exact qS [(5,hto (bE c13)),(18,hto (orT (q:=((decide (e_2.A=e6.A))&&(decide (e6.B≤e_2.B)))) c13))] _ _ hk
   rcases tf (decide (e_2.A=e6.A))with c14|c14
   ·exact qS [(5,hto (bE c13)),(11,hto (bE c14)),(18,hto ((oF (q:=decide (e6.B≤e_2.B)) c14).trans (orF (q:=((decide (e_2.A=e6.A))&&(decide (e6.B≤e_2.B)))) c13)))] _ _ hk
   exact qS [(5,hto (bE c13)),(11,hto (bE c14)),(18,hto ((oG (q:=decide (e6.B≤e_2.B)) c14).trans (orF (q:=((decide (e_2.A=e6.A))&&(decide (e6.B≤e_2.B)))) c13)))] _ _ hk
  rcases aA hm with⟨c15,hm⟩|⟨c15,hm⟩
  ·refine qT c15<|qS [] [(2,i6 25)] [] ?_
   cases hm;exact A.ret qE
  exact qF c15<|A.skip<|qGs [(1,hto (inc hx6 hb6))] [9,181] [(9,i6 ((j6+1:Nat):Int))]<|qX () hm
 rintro j6 ⟨⟩ hj6 hl6 hm;rw[hK6]at hm;refine A.seq<|qDs [(3,hto (lnE bD t.Links))] [] [(149,.bool (decide ((j6:Int)<(t.Links.length:Int))))] ?_
 refine qF (ltF hl6)<|A.exit<|qS [] [(2,i6 0)] [] ?_
 cases hm;exact A.ret qE
end Go.Proofs.YtmnbolcmepihlaaGreat
