/- The eN of cu of the program. No condition but bH bq stand in each. -/
import Derived.Test.YtjdopimopgpagaaGreatDA
namespace Go.Proofs.YtjdopimopgpagaaGreat
open Go Go.Proofs.Tryz
set_option maxRecDepth 100000
set_option linter.all false
theorem jj{n:Int}{r:Bool}(hm:qc n=some r):RO prog 122 [] [i6 n] (.bool r):=by
 refine aZ func122 rfl rfl ?_
 unfold qc at hm
 refine qS [] [(0,i6 n)] []<|A.mid [(2,.bool ((decide (1≤n))&&(decide (n≤1000))))] [] (λhk=>?_) ?_
 ·rcases tf (decide (1≤n))with c1|c1
  ·exact qS [(2,hto (bE c1)),(6,hto (rO (q:=decide (n≤1000)) c1))] _ _ hk
  exact qS [(2,hto (bE c1)),(6,hto (sM (q:=decide (n≤1000)) c1))] _ _ hk
 cases hm
 exact A.ret qE
variable {t:aB}
theorem qs{ra1:Int}{r:Bool}(hm:nx t ra1=some r):RO prog 123 [] [.agg (k2 t),i6 ra1] (.bool r):=by
 refine aZ func123 rfl rfl ?_
 unfold nx at hm
 refine qS [(0,.al 123002)] [(1,i6 ra1),(2,.ptr 123002 0)] [(123002,.cells 45 (k2 t))]<|A.seq<|qDs [] [] [(5,i6 0)]<|A.block<|A.bC 2 0 rfl rfl rfl λhb1=>?_
 obtain⟨B1,K1,hB1,hK1,hm⟩:=bF hm
 refine A.lpI (l:=t.aI) (j0:=0) (B:=B1) (K:=K1) hm (λj1=>λ()=>[(1,i6 ra1),(2,.ptr 123002 0),(5,i6 (j1:Int))]) (λj1=>λ()=>[(123002,.cells 45 (k2 t))]) ?_ ?_ ?_
 ·exact qW
 ·rintro j1 e1 Z1 ⟨⟩ hj1 hx1 hm
  rw[hB1]at hm
  refine A.seq<|qDs [(3,hto (lnE aX t.aI))] [] [(10,.bool (decide ((j1:Int)<(t.aI.length:Int))))] ?_
  refine qT (ltT hx1)<|A.skip<|A.seq<|A.block<|qDs [(3,hix (ix aX (bh hx1)))] [10] [(20,.bool (decide (e1.ID=ra1)))] ?_
  rcases az hm with⟨c1,hm⟩|⟨c1,hm⟩
  ·refine qT c1<|qS [] [(4,.bool true)] [] ?_
   cases hm
   exact A.ret qE
  exact qF c1<|A.skip<|qGs [(1,hto (inc hx1 hb1))] [5,20] [(5,i6 ((j1+1:Nat):Int))]<|qX () hm
 rintro j1 ⟨⟩ hj1 hl1 hm
 rw[hK1]at hm
 refine A.seq<|qDs [(3,hto (lnE aX t.aI))] [] [(10,.bool (decide ((j1:Int)<(t.aI.length:Int))))] ?_
 refine qF (ltF hl1)<|A.exit<|qS [] [(4,.bool false)] [] ?_
 cases hm
 exact A.ret qE
theorem vD{eU:Int}{ki:Int}{r:Int×Bool}(hm:lu t eU ki=some r):RO prog 103 [] [.agg (k2 t),i6 eU,i6 ki] (.tup [i6 r.1,.bool r.2]):=by
 refine aZ func103 rfl rfl ?_
 unfold lu at hm
 refine qS [(0,.al 103003)] [(1,i6 eU),(2,i6 ki),(3,.ptr 103003 0)] [(103003,.cells 45 (k2 t))]<|A.seq<|qDs [] [] [(8,i6 0)]<|A.block<|A.bC 3 1 rfl rfl rfl λhb1=>?_
 obtain⟨B1,K1,hB1,hK1,hm⟩:=bF hm
 refine A.lpI (l:=t.Links) (j0:=0) (B:=B1) (K:=K1) hm (λj1=>λ()=>[(1,i6 eU),(2,i6 ki),(3,.ptr 103003 0),(8,i6 (j1:Int))]) (λj1=>λ()=>[(103003,.cells 45 (k2 t))]) ?_ ?_ ?_
 ·exact qW
 ·rintro j1 e1 Z1 ⟨⟩ hj1 hx1 hm
  rw[hB1]at hm
  refine A.seq<|qDs [(3,hto (lnE aC t.Links))] [] [(14,.bool (decide ((j1:Int)<(t.Links.length:Int))))] ?_
  refine qT (ltT hx1)<|A.skip<|A.seq<|A.block<|qD [(3,hix (ix aC (bh hx1))),(5,.al 103009)] [14] [(9,.ptr 103009 0)] [] [(103009,.cells 86 (k1 e1))]<|A.seq<|A.mid [(1,i6 eU),(2,i6 ki),(3,.ptr 103003 0),(8,i6 (j1:Int)),(9,.ptr 103009 0),(31,.bool ((decide (e1.A=eU))&&(decide (e1.B=ki))))] [(103003,.cells 45 (k2 t)),(103009,.cells 86 (k1 e1))] (λhk=>?_) ?_
  ·rcases tf (decide (e1.A=eU))with c1|c1
   ·exact qS [(4,hto (bE c1)),(9,hto (rO (q:=decide (e1.B=ki)) c1))] _ _ hk
   exact qS [(4,hto (bE c1)),(9,hto (sM (q:=decide (e1.B=ki)) c1))] _ _ hk
  rcases az hm with⟨c2,hm⟩|⟨c2,hm⟩
  ·refine qT c2<|qS [] [(6,i6 e1.lK),(7,.bool true)] [] ?_
   cases hm
   exact A.ret qE
  refine qF c2<|A.skip<|A.mid [(1,i6 eU),(2,i6 ki),(3,.ptr 103003 0),(8,i6 (j1:Int)),(9,.ptr 103009 0),(43,.bool ((decide (e1.B=eU))&&(decide (e1.A=ki))))] [(103003,.cells 45 (k2 t)),(103009,.cells 86 (k1 e1))] (λhk=>?_) ?_
  ·rcases tf (decide (e1.B=eU))with c3|c3
   ·exact qS [(4,hto (bE c3)),(9,hto (rO (q:=decide (e1.A=ki)) c3))] _ _ hk
   exact qS [(4,hto (bE c3)),(9,hto (sM (q:=decide (e1.A=ki)) c3))] _ _ hk
  rcases az hm with⟨c4,hm⟩|⟨c4,hm⟩
  ·refine qT c4<|qS [] [(6,i6 e1.kP),(7,.bool true)] [] ?_
   cases hm
   exact A.ret qE
  exact qF c4<|A.skip<|qG [(1,hto (inc hx1 hb1))] [8,9,43] [(8,i6 ((j1+1:Nat):Int))] [103009] []<|qX () hm
 rintro j1 ⟨⟩ hj1 hl1 hm
 rw[hK1]at hm
 refine A.seq<|qDs [(3,hto (lnE aC t.Links))] [] [(14,.bool (decide ((j1:Int)<(t.Links.length:Int))))] ?_
 refine qF (ltF hl1)<|A.exit<|qS [] [(6,i6 0),(7,.bool false)] [] ?_
 cases hm
 exact A.ret qE
theorem iP{r:Int}(hm:iL t=some r):RO prog 79 [] [.agg (k2 t)] (i6 r):=by
 refine aZ func79 rfl rfl ?_
 unfold iL at hm
 refine qS [(0,.al 79001)] [(1,.ptr 79001 0)] [(79001,.cells 45 (k2 t))]<|A.seq<|A.mid [(1,.ptr 79001 0),(21,.bool ((decide (24<(t.aI.length:Int)))||(decide (60<(t.Links.length:Int)))))] [(79001,.cells 45 (k2 t))] (λhk=>?_) ?_
 ·rcases tf (decide (24<(t.aI.length:Int)))with c1|c1
  ·exact qS [(2,hto (lnE aX t.aI)),(4,hto (bE c1)),(9,hto (orT (q:=decide (60<(t.Links.length:Int))) c1))] _ _ hk
  exact qS [(2,hto (lnE aX t.aI)),(4,hto (bE c1)),(7,hto (lnE aC t.Links)),(9,hto (orF (q:=decide (60<(t.Links.length:Int))) c1))] _ _ hk
 rcases az hm with⟨c2,hm⟩|⟨c2,hm⟩
 ·refine qT c2<|qS [] [(2,i6 3)] [] ?_
  cases hm
  exact A.ret qE
 refine qF c2<|A.skip<|A.seq<|qDs [] [21] [(3,i6 0)]<|A.block<|A.bC 1 0 rfl rfl rfl λhb1=>?_
 obtain⟨B1,K1,hB1,hK1,hm⟩:=bF hm
 refine A.lpI (l:=t.aI) (j0:=0) (B:=B1) (K:=K1) hm (λj1=>λ()=>[(1,.ptr 79001 0),(3,i6 (j1:Int))]) (λj1=>λ()=>[(79001,.cells 45 (k2 t))]) ?_ ?_ ?_
 ·exact qW
 ·rintro j1 e1 Z1 ⟨⟩ hj1 hx1 hm
  rw[hB1]at hm
  refine A.seq<|qDs [(3,hto (lnE aX t.aI))] [] [(26,.bool (decide ((j1:Int)<(t.aI.length:Int))))] ?_
  refine qT (ltT hx1)<|A.skip<|A.seq<|A.block<|A.mid [(1,.ptr 79001 0),(3,i6 (j1:Int)),(44,.bool ((decide (e1.ID<1))||(decide (99<e1.ID))))] [(79001,.cells 45 (k2 t))] (λhk=>?_) ?_
  ·rcases tf (decide (e1.ID<1))with c3|c3
   ·exact qS [(3,hix (ix aX (bh hx1))),(7,hto (bE c3)),(15,hto (orT (q:=decide (99<e1.ID)) c3))] _ _ hk
   exact qS [(3,hix (ix aX (bh hx1))),(7,hto (bE c3)),(11,hix (ix aX (bh hx1))),(15,hto (orF (q:=decide (99<e1.ID)) c3))] _ _ hk
  rcases az hm with⟨c4,hm⟩|⟨c4,hm⟩
  ·refine qT c4<|qS [] [(2,i6 2)] [] ?_
   cases hm
   exact A.ret qE
  exact qF c4<|A.skip<|qGs [(1,hto (inc hx1 hb1))] [3,44] [(3,i6 ((j1+1:Nat):Int))]<|qX () hm
 rintro j1 ⟨⟩ hj1 hl1 hm
 rw[hK1]at hm
 refine A.seq<|qDs [(3,hto (lnE aX t.aI))] [] [(26,.bool (decide ((j1:Int)<(t.aI.length:Int))))] ?_
 refine qF (ltF hl1)<|A.exit<|A.seq<|qDs [] [3,26] [(4,i6 1)]<|A.block<|A.bC 1 0 rfl rfl rfl λhb2=>?_
 obtain⟨B2,K2,hB2,hK2,hm⟩:=bF hm
 refine A.lpI (l:=t.aI) (j0:=1) (B:=B2) (K:=K2) hm (λj2=>λ()=>[(1,.ptr 79001 0),(4,i6 (j2:Int))]) (λj2=>λ()=>[(79001,.cells 45 (k2 t))]) ?_ ?_ ?_
 ·exact qW
 ·rintro j2 e2 Z2 ⟨⟩ hj2 hx2 hm
  rw[hB2]at hm
  refine A.seq<|qDs [(3,hto (lnE aX t.aI))] [] [(49,.bool (decide ((j2:Int)<(t.aI.length:Int))))] ?_
  refine qT (ltT hx2)<|A.skip<|A.seq<|A.block ?_
  obtain⟨e_1,h1,hm⟩:=aa hm
  refine qDs [(4,hix (ix aX h1)),(10,hix (ix aX (bh hx2)))] [49] [(65,.bool (decide (e2.ID≤e_1.ID)))] ?_
  rcases az hm with⟨c5,hm⟩|⟨c5,hm⟩
  ·refine qT c5<|qS [] [(2,i6 25)] [] ?_
   cases hm
   exact A.ret qE
  exact qF c5<|A.skip<|qGs [(1,hto (inc hx2 hb2))] [4,65] [(4,i6 ((j2+1:Nat):Int))]<|qX () hm
 rintro j2 ⟨⟩ hj2 hl2 hm
 rw[hK2]at hm
 refine A.seq<|qDs [(3,hto (lnE aX t.aI))] [] [(49,.bool (decide ((j2:Int)<(t.aI.length:Int))))] ?_
 refine qF (ltF hl2)<|A.exit<|A.seq<|qDs [] [4,49] [(5,i6 0)]<|A.block<|A.bC 1 1 rfl rfl rfl λhb3=>?_
 obtain⟨B3,K3,hB3,hK3,hm⟩:=bF hm
 refine A.lpI (l:=t.Links) (j0:=0) (B:=B3) (K:=K3) hm (λj3=>λ()=>[(1,.ptr 79001 0),(5,i6 (j3:Int))]) (λj3=>λ()=>[(79001,.cells 45 (k2 t))]) ?_ ?_ ?_
 ·exact qW
 ·rintro j3 e3 Z3 ⟨⟩ hj3 hx3 hm
  rw[hB3]at hm
  refine A.seq<|qDs [(3,hto (lnE aC t.Links))] [] [(70,.bool (decide ((j3:Int)<(t.Links.length:Int))))] ?_
  refine qT (ltT hx3)<|A.skip<|A.seq<|A.block<|qD [(3,hix (ix aC (bh hx3))),(5,.al 79006)] [70] [(6,.ptr 79006 0)] [] [(79006,.cells 86 (k1 e3))] ?_
  obtain⟨J1,hJ1,hm⟩:=bQ hm
  refine A.J (J:=J1) (r:=r) (λv_1=>[(1,.ptr 79001 0),(5,i6 (j3:Int)),(97,.bool v_1)]) (λv_1=>[(79001,.cells 45 (k2 t))]) ?_ ?_
  ·obtain⟨ah,h2,hm⟩:=aa hm
   rcases az hm with⟨c6,hm⟩|⟨c6,hm⟩
   ·exact qG [(2,hro (jj h2) x9),(4,hto (bE c6))] [6] [(97,.bool true)] [79006] []<|qX true hm
   obtain⟨aD,h3,hm⟩:=aa hm
   rcases az hm with⟨c7,hm⟩|⟨c7,hm⟩
   ·exact qG [(2,hro (jj h2) x9),(4,hto (bE c6)),(7,hro (jj h3) x9),(10,hto (bE c7))] [6] [(97,.bool true)] [79006] []<|qX true hm
   rcases az hm with⟨c8,hm⟩|⟨c8,hm⟩
   ·exact qG [(2,hro (jj h2) x9),(4,hto (bE c6)),(7,hro (jj h3) x9),(10,hto (bE c7)),(15,hto (bE c8))] [6] [(97,.bool true)] [79006] []<|qX true hm
   exact qG [(2,hro (jj h2) x9),(4,hto (bE c6)),(7,hro (jj h3) x9),(10,hto (bE c7)),(15,hto (bE c8))] [6] [(97,.bool (decide (1000<e3.cg)))] [79006] []<|qX (decide (1000<e3.cg)) hm
  rintro v_1 hm
  rw[hJ1]at hm
  rcases az hm with⟨c9,hm⟩|⟨c9,hm⟩
  ·refine qT c9<|qS [] [(2,i6 2)] [] ?_
   cases hm
   exact A.ret qE
  exact qF c9<|A.skip<|qGs [(1,hto (inc hx3 hb3))] [5,97] [(5,i6 ((j3+1:Nat):Int))]<|qX () hm
 rintro j3 ⟨⟩ hj3 hl3 hm
 rw[hK3]at hm
 refine A.seq<|qDs [(3,hto (lnE aC t.Links))] [] [(70,.bool (decide ((j3:Int)<(t.Links.length:Int))))] ?_
 refine qF (ltF hl3)<|A.exit<|A.seq<|qDs [] [5,70] [(7,i6 0)]<|A.block<|A.bC 1 1 rfl rfl rfl λhb4=>?_
 obtain⟨B4,K4,hB4,hK4,hm⟩:=bF hm
 refine A.lpI (l:=t.Links) (j0:=0) (B:=B4) (K:=K4) hm (λj4=>λ()=>[(1,.ptr 79001 0),(7,i6 (j4:Int))]) (λj4=>λ()=>[(79001,.cells 45 (k2 t))]) ?_ ?_ ?_
 ·exact qW
 ·rintro j4 e4 Z4 ⟨⟩ hj4 hx4 hm
  rw[hB4]at hm
  refine A.seq<|qDs [(3,hto (lnE aC t.Links))] [] [(102,.bool (decide ((j4:Int)<(t.Links.length:Int))))] ?_
  refine qT (ltT hx4)<|A.skip<|A.seq<|A.block ?_
  obtain⟨J2,hJ2,hm⟩:=bQ hm
  refine A.J (J:=J2) (r:=r) (λv_2=>[(1,.ptr 79001 0),(7,i6 (j4:Int)),(124,.bool v_2)]) (λv_2=>[(79001,.cells 45 (k2 t))]) ?_ ?_
  ·obtain⟨aP,h4,hm⟩:=aa hm
   rcases az hm with⟨c10,hm⟩|⟨c10,hm⟩
   ·exact qGs [(4,hix (ix aC (bh hx4))),(7,hro (qs h4) adP),(9,hto (bE c10))] [102] [(124,.bool true)]<|qX true hm
   obtain⟨bt,h5,hm⟩:=aa hm
   exact qGs [(4,hix (ix aC (bh hx4))),(7,hro (qs h4) adP),(9,hto (bE c10)),(14,hix (ix aC (bh hx4))),(17,hro (qs h5) adP)] [102] [(124,.bool (!bt))]<|qX (!bt) hm
  rintro v_2 hm
  rw[hJ2]at hm
  rcases az hm with⟨c11,hm⟩|⟨c11,hm⟩
  ·refine qT c11<|qS [] [(2,i6 4)] [] ?_
   cases hm
   exact A.ret qE
  exact qF c11<|A.skip<|qGs [(1,hto (inc hx4 hb4))] [7,124] [(7,i6 ((j4+1:Nat):Int))]<|qX () hm
 rintro j4 ⟨⟩ hj4 hl4 hm
 rw[hK4]at hm
 refine A.seq<|qDs [(3,hto (lnE aC t.Links))] [] [(102,.bool (decide ((j4:Int)<(t.Links.length:Int))))] ?_
 refine qF (ltF hl4)<|A.exit<|A.seq<|qDs [] [7,102] [(8,i6 0)]<|A.block<|A.bC 1 1 rfl rfl rfl λhb5=>?_
 obtain⟨B5,K5,hB5,hK5,hm⟩:=bF hm
 refine A.lpI (l:=t.Links) (j0:=0) (B:=B5) (K:=K5) hm (λj5=>λ()=>[(1,.ptr 79001 0),(8,i6 (j5:Int))]) (λj5=>λ()=>[(79001,.cells 45 (k2 t))]) ?_ ?_ ?_
 ·exact qW
 ·rintro j5 e5 Z5 ⟨⟩ hj5 hx5 hm
  rw[hB5]at hm
  refine A.seq<|qDs [(3,hto (lnE aC t.Links))] [] [(129,.bool (decide ((j5:Int)<(t.Links.length:Int))))] ?_
  refine qT (ltT hx5)<|A.skip<|A.seq<|A.block<|qDs [(3,hix (ix aC (bh hx5))),(9,hix (ix aC (bh hx5)))] [129] [(144,.bool (decide (e5.B≤e5.A)))] ?_
  rcases az hm with⟨c12,hm⟩|⟨c12,hm⟩
  ·refine qT c12<|qS [] [(2,i6 8)] [] ?_
   cases hm
   exact A.ret qE
  exact qF c12<|A.skip<|qGs [(1,hto (inc hx5 hb5))] [8,144] [(8,i6 ((j5+1:Nat):Int))]<|qX () hm
 rintro j5 ⟨⟩ hj5 hl5 hm
 rw[hK5]at hm
 refine A.seq<|qDs [(3,hto (lnE aC t.Links))] [] [(129,.bool (decide ((j5:Int)<(t.Links.length:Int))))] ?_
 refine qF (ltF hl5)<|A.exit<|A.seq<|qDs [] [8,129] [(9,i6 1)]<|A.block<|A.bC 1 1 rfl rfl rfl λhb6=>?_
 obtain⟨B6,K6,hB6,hK6,hm⟩:=bF hm
 refine A.lpI (l:=t.Links) (j0:=1) (B:=B6) (K:=K6) hm (λj6=>λ()=>[(1,.ptr 79001 0),(9,i6 (j6:Int))]) (λj6=>λ()=>[(79001,.cells 45 (k2 t))]) ?_ ?_ ?_
 ·exact qW
 ·rintro j6 e6 Z6 ⟨⟩ hj6 hx6 hm
  rw[hB6]at hm
  refine A.seq<|qDs [(3,hto (lnE aC t.Links))] [] [(149,.bool (decide ((j6:Int)<(t.Links.length:Int))))] ?_
  refine qT (ltT hx6)<|A.skip<|A.seq<|A.block ?_
  obtain⟨e_2,h6,hm⟩:=aa hm
  refine qD [(4,hix (ix aC h6)),(9,hix (ix aC (bh hx6))),(11,.al 79010),(12,.al 79011)] [149] [(10,.ptr 79010 0),(11,.ptr 79011 0)] [] [(79010,.cells 86 (k1 e_2)),(79011,.cells 86 (k1 e6))]<|A.mid [(1,.ptr 79001 0),(9,i6 (j6:Int)),(181,.bool ((decide (e6.A<e_2.A))||((decide (e_2.A=e6.A))&&(decide (e6.B≤e_2.B)))))] [(79001,.cells 45 (k2 t))] (λhk=>?_) ?_
  ·rcases tf (decide (e6.A<e_2.A))with c13|c13
   ·exact qS [(5,hto (bE c13)),(18,hto (orT (q:=((decide (e_2.A=e6.A))&&(decide (e6.B≤e_2.B)))) c13))] _ _ hk
   rcases tf (decide (e_2.A=e6.A))with c14|c14
   ·exact qS [(5,hto (bE c13)),(11,hto (bE c14)),(18,hto ((rO (q:=decide (e6.B≤e_2.B)) c14).trans (orF (q:=((decide (e_2.A=e6.A))&&(decide (e6.B≤e_2.B)))) c13)))] _ _ hk
   exact qS [(5,hto (bE c13)),(11,hto (bE c14)),(18,hto ((sM (q:=decide (e6.B≤e_2.B)) c14).trans (orF (q:=((decide (e_2.A=e6.A))&&(decide (e6.B≤e_2.B)))) c13)))] _ _ hk
  rcases az hm with⟨c15,hm⟩|⟨c15,hm⟩
  ·refine qT c15<|qS [] [(2,i6 25)] [] ?_
   cases hm
   exact A.ret qE
  exact qF c15<|A.skip<|qGs [(1,hto (inc hx6 hb6))] [9,181] [(9,i6 ((j6+1:Nat):Int))]<|qX () hm
 rintro j6 ⟨⟩ hj6 hl6 hm
 rw[hK6]at hm
 refine A.seq<|qDs [(3,hto (lnE aC t.Links))] [] [(149,.bool (decide ((j6:Int)<(t.Links.length:Int))))] ?_
 refine qF (ltF hl6)<|A.exit<|qS [] [(2,i6 0)] [] ?_
 cases hm
 exact A.ret qE
theorem aaz{xa0:Int}{n:Int}{r:Int}(hm:qd xa0 n=some r):RO prog 62 [] [i6 xa0,i6 n] (i6 r):=by
 refine aZ func62 rfl rfl ?_
 unfold qd at hm
 refine qS [] [(0,i6 xa0),(1,i6 n)] []<|A.seq<|qDs [] [] [(6,.bool (decide (n<1)))] ?_
 rcases az hm with⟨c1,hm⟩|⟨c1,hm⟩
 ·refine qT c1<|qS [] [(4,i6 0)] [] ?_
  cases hm
  exact A.ret qE
 refine qF c1<|A.skip ?_
 obtain⟨h1,hm⟩:=iB hm
 refine qDs [(2,.qr n (of_decide_eq_true h1))] [0,6] [(0,i6 (Int.tmod xa0 n))] ?_
 obtain⟨J1,hJ1,hm⟩:=bQ hm
 refine A.J (J:=J1) (r:=r) (λah=>[(0,i6 ah)]) (λah=>[]) ?_ ?_
 ·refine qDs [] [] [(11,.bool (decide (Int.tmod xa0 n<0)))] ?_
  rcases az hm with⟨c2,hm⟩|⟨c2,hm⟩
  ·exact qT c2<|qR [] [(0,i6 (w64 ((Int.tmod xa0 n)+n)))] []<|qX (w64 ((Int.tmod xa0 n)+n)) hm
  exact qF c2<|A.skip<|qX (Int.tmod xa0 n) hm
 rintro ah hm
 rw[hJ1]at hm
 refine qS [] [(4,i6 ah)] [] ?_
 cases hm
 exact A.ret qE
variable {r:Int×aU}
theorem aa6{t:aU}(hm:oS t=some r):bM prog 108 [(900000083,.cells 83 (k3 t))] [.ptr 900000083 0] (λa σ'=>a=i6 r.1∧σ'=[(900000083,.cells 83 (k3 r.2))]):=by
 refine aZ func108 rfl rfl ?_
 unfold oS at hm
 refine qS [] [(0,.ptr 900000083 0)] [(900000083,.cells 83 (k3 t))]<|A.seq<|qDs [(8,hto (lnE bK t.L))] [] [(12,.bool (decide ((t.L.length:Int)≤t.At)))] ?_
 rcases az hm with⟨c1,hm⟩|⟨c1,hm⟩
 ·refine qT c1<|qDs [] [0,12] [(2,i6 0)] ?_
  cases hm
  exact A.ret qE
 refine qF c1<|A.skip<|qD [] [12] [] [900000083] [(900000083,.cells 83 [lf bK t.L,i6 (w64 (t.At+1))])] ?_
 obtain⟨e_1,h1,hm⟩:=aa hm
 refine qDs [(9,hix (ix bK h1))] [0] [(2,i6 e_1)] ?_
 cases hm
 exact A.ret qE
theorem bO{t:aU}{n:Int}(hm:bR t n=some r):bM prog 55 [(900000083,.cells 83 (k3 t))] [.ptr 900000083 0,i6 n] (λa σ'=>a=i6 r.1∧σ'=[(900000083,.cells 83 (k3 r.2))]):=by
 refine aZ func55 rfl rfl ?_
 unfold bR at hm
 refine qS [] [(0,.ptr 900000083 0),(1,i6 n)] [(900000083,.cells 83 (k3 t))] ?_
 obtain⟨ah,h1,hm⟩:=aa hm
 obtain⟨aD,h2,hm⟩:=aa hm
 refine qS [(1,hdc [] (aa6 h1) asK),(3,hro (aaz h2) apC)] [(4,i6 aD)] [(900000083,.cells 83 (k3 ah.2))] ?_
 cases hm
 exact A.ret qE
theorem eD{t:aU}{low:Int}{high:Int}(hm:dS t low high=some r):bM prog 33 [(900000083,.cells 83 (k3 t))] [.ptr 900000083 0,i6 low,i6 high] (λa σ'=>a=i6 r.1∧σ'=[(900000083,.cells 83 (k3 r.2))]):=by
 refine aZ func33 rfl rfl ?_
 unfold dS at hm
 refine qS [] [(0,.ptr 900000083 0),(1,i6 low),(2,i6 high)] [(900000083,.cells 83 (k3 t))] ?_
 obtain⟨ah,h1,hm⟩:=aa hm
 refine qS [(6,hdc [] (bO h1) jb)] [(6,i6 (w64 (low+ah.1)))] [(900000083,.cells 83 (k3 ah.2))] ?_
 cases hm
 exact A.ret qE
end Go.Proofs.YtjdopimopgpagaaGreat
