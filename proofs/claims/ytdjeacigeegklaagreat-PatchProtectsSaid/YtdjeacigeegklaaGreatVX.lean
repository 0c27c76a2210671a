/- The iJ of ee of the program. No condition but bJ aY stand in each. -/
import Derived.Test.YtdjeacigeegklaaGreatV2
import Derived.Test.YtdjeacigeegklaaGreatVW
namespace Go.Proofs.YtdjeacigeegklaaGreat
open Go Go.Proofs.Tryz
set_option maxRecDepth 100000
set_option linter.all false
variable {r:Bool}
theorem uN{n:Int}(hm:mB n=some r):RO prog 64 [] [i6 n] (.bool r):=by
 refine bh func64 rfl rfl ?_
 unfold mB at hm
 refine qS [] [(0,i6 n)] []<|A.mid [(2,.bool ((decide (n=8))||((decide (n=16))||((decide (n=32))||(decide (n=64))))))] [] (λhk=>?_) ?_
 ·rcases tf (decide (n=8))with c1|c1
  ·exact qS [(2,hto (bE c1)),(14,hto (orT (q:=((decide (n=16))||((decide (n=32))||(decide (n=64))))) c1))] _ _ hk
  rcases tf (decide (n=16))with c2|c2
  ·exact qS [(2,hto (bE c1)),(6,hto (bE c2)),(14,hto ((orT (q:=((decide (n=32))||(decide (n=64)))) c2).trans (orF (q:=((decide (n=16))||((decide (n=32))||(decide (n=64))))) c1)))] _ _ hk
  rcases tf (decide (n=32))with c3|c3
  ·exact qS [(2,hto (bE c1)),(6,hto (bE c2)),(10,hto (bE c3)),(14,hto (((orT (q:=decide (n=64)) c3).trans (orF (q:=((decide (n=32))||(decide (n=64)))) c2)).trans (orF (q:=((decide (n=16))||((decide (n=32))||(decide (n=64))))) c1)))] _ _ hk
  exact qS [(2,hto (bE c1)),(6,hto (bE c2)),(10,hto (bE c3)),(14,hto (((orF (q:=decide (n=64)) c3).trans (orF (q:=((decide (n=32))||(decide (n=64)))) c2)).trans (orF (q:=((decide (n=16))||((decide (n=32))||(decide (n=64))))) c1)))] _ _ hk
 cases hm
 exact A.ret qE
theorem iG{n:Int}(hm:ir n=some r):RO prog 90 [] [i6 n] (.bool r):=by
 refine bh func90 rfl rfl ?_
 unfold ir at hm
 refine qS [] [(0,i6 n)] []<|A.mid [(2,.bool ((decide (1≤n))&&(decide (n≤99))))] [] (λhk=>?_) ?_
 ·rcases tf (decide (1≤n))with c1|c1
  ·exact qS [(2,hto (bE c1)),(6,hto (nO (q:=decide (n≤99)) c1))] _ _ hk
  exact qS [(2,hto (bE c1)),(6,hto (oK (q:=decide (n≤99)) c1))] _ _ hk
 cases hm
 exact A.ret qE
theorem tu{e:aC}{r:Int}(hm:gD e=some r):RO prog 54 [] [.agg (k7 e)] (i6 r):=by
 refine bh func54 rfl rfl ?_
 unfold gD at hm
 refine qS [(0,.al 54001)] [(1,.ptr 54001 0)] [(54001,.cells 32 (k7 e))] ?_
 obtain⟨ai,h1,hm⟩:=af hm
 refine qDs [(2,hro (uN h1) aun)] [] [(3,.bool ai)]<|A.seq<|qDs [(2,hto (lnE aF e.List))] [] [(19,lf aF e.List),(20,i6 (e.List.length:Int)),(21,i6 0)]<|A.block<|A.bS 19 rfl λhb1=>?_
 obtain⟨B1,K1,hB1,hK1,hm⟩:=bu hm
 refine A.lpI (l:=e.List) (j0:=0) (B:=B1) (K:=K1) hm (λj1=>λoO=>[(1,.ptr 54001 0),(3,.bool oO),(19,lf aF e.List),(20,i6 (e.List.length:Int)),(21,i6 (j1:Int))]) (λj1=>λoO=>[(54001,.cells 32 (k7 e))]) ?_ ?_ ?_
 ·exact qW
 ·rintro j1 e1 Z1 oO hj1 hx1 hm
  rw[hB1]at hm
  refine qDs [] [] [(22,.bool (decide ((j1:Int)<(e.List.length:Int))))]<|A.seq<|qT (ltT hx1)<|A.skip<|A.seq<|A.block<|qD [(0,hix (ix aF (bt hx1))),(2,.al 54005)] [22] [(5,.ptr 54005 0)] [] [(54005,.cells 38 (k5 e1))] ?_
  rcases ak hm with⟨c1,hm⟩|⟨c1,hm⟩
  ·rcases ak hm with⟨c2,hm⟩|⟨c2,hm⟩
   ·rcases ak hm with⟨c3,hm⟩|⟨c3,hm⟩
    ·obtain⟨aI,h2,hm⟩:=af hm
     rcases ak hm with⟨c4,hm⟩|⟨c4,hm⟩
     ·obtain⟨bf,h3,hm⟩:=af hm
      exact qG [(1,hto (bE c1)),(6,hto (bE c2)),(13,hto (bE c3)),(16,hro (iG h2) acd),(18,hto (bE c4)),(21,hro (iG h3) acd)] [3,5] [(3,.bool bf)] [54005] []<|qGs [(0,hto (inc hx1 hb1))] [21] [(21,i6 ((j1+1:Nat):Int))]<|qX bf hm
     exact qG [(1,hto (bE c1)),(6,hto (bE c2)),(13,hto (bE c3)),(16,hro (iG h2) acd),(18,hto (bE c4))] [3,5] [(3,.bool false)] [54005] []<|qGs [(0,hto (inc hx1 hb1))] [21] [(21,i6 ((j1+1:Nat):Int))]<|qX false hm
    exact qG [(1,hto (bE c1)),(6,hto (bE c2)),(13,hto (bE c3))] [3,5] [(3,.bool false)] [54005] []<|qGs [(0,hto (inc hx1 hb1))] [21] [(21,i6 ((j1+1:Nat):Int))]<|qX false hm
   exact qG [(1,hto (bE c1)),(6,hto (bE c2))] [3,5] [(3,.bool false)] [54005] []<|qGs [(0,hto (inc hx1 hb1))] [21] [(21,i6 ((j1+1:Nat):Int))]<|qX false hm
  exact qG [(1,hto (bE c1))] [3,5] [(3,.bool false)] [54005] []<|qGs [(0,hto (inc hx1 hb1))] [21] [(21,i6 ((j1+1:Nat):Int))]<|qX false hm
 rintro j1 oO hj1 hl1 hm
 rw[hK1]at hm
 refine qDs [] [] [(22,.bool (decide ((j1:Int)<(e.List.length:Int))))]<|A.seq<|qF (ltF hl1)<|A.exit<|A.seq<|qDs [] [3,19,20,21,22] [(50,.bool (!oO))] ?_
 rcases ak hm with⟨c5,hm⟩|⟨c5,hm⟩
 ·refine qT c5<|qS [] [(2,i6 2)] [] ?_
  cases hm
  exact A.ret qE
 refine qF c5<|A.skip<|A.seq<|qDs [(2,hto (lnE aF e.List))] [50] [(52,lf aF e.List),(53,i6 (e.List.length:Int)),(54,i6 0)]<|A.block<|A.bS 52 rfl λhb2=>?_
 obtain⟨B2,K2,hB2,hK2,hm⟩:=bu hm
 refine A.lpI (l:=e.List) (j0:=0) (B:=B2) (K:=K2) hm (λj2=>λ()=>[(1,.ptr 54001 0),(52,lf aF e.List),(53,i6 (e.List.length:Int)),(54,i6 (j2:Int))]) (λj2=>λ()=>[(54001,.cells 32 (k7 e))]) ?_ ?_ ?_
 ·exact qW
 ·rintro j2 e2 Z2 ⟨⟩ hj2 hx2 hm
  rw[hB2]at hm
  refine qDs [] [] [(55,.bool (decide ((j2:Int)<(e.List.length:Int))))]<|A.seq<|qT (ltT hx2)<|A.skip<|A.seq<|A.block<|qD [(0,hix (ix aF (bt hx2))),(2,.al 54007)] [55] [(7,.ptr 54007 0)] [] [(54007,.cells 38 (k5 e2))]<|A.mid [(1,.ptr 54001 0),(52,lf aF e.List),(53,i6 (e.List.length:Int)),(54,i6 (j2:Int)),(65,.bool ((decide (e2.Kind<1))||(decide (3<e2.Kind))))] [(54001,.cells 32 (k7 e))] (λhk=>?_) ?_
  ·rcases tf (decide (e2.Kind<1))with c6|c6
   ·exact qS [(3,hto (bE c6)),(7,hto (orT (q:=decide (3<e2.Kind)) c6))] _ _ hk
   exact qS [(3,hto (bE c6)),(7,hto (orF (q:=decide (3<e2.Kind)) c6))] _ _ hk
  rcases ak hm with⟨c7,hm⟩|⟨c7,hm⟩
  ·refine qT c7<|qS [] [(2,i6 1)] [] ?_
   cases hm
   exact A.ret qE
  exact qF c7<|A.skip<|qGs [(0,hto (inc hx2 hb2))] [54,65] [(54,i6 ((j2+1:Nat):Int))]<|qX () hm
 rintro j2 ⟨⟩ hj2 hl2 hm
 rw[hK2]at hm
 refine qDs [] [] [(55,.bool (decide ((j2:Int)<(e.List.length:Int))))]<|A.seq<|qF (ltF hl2)<|A.exit<|A.seq<|qDs [(2,hto (lnE aF e.List))] [52,53,54,55] [(68,lf aF e.List),(69,i6 (e.List.length:Int)),(70,i6 0)]<|A.block<|A.bS 68 rfl λhb3=>?_
 obtain⟨B3,K3,hB3,hK3,hm⟩:=bu hm
 refine A.lpI (l:=e.List) (j0:=0) (B:=B3) (K:=K3) hm (λj3=>λ()=>[(1,.ptr 54001 0),(68,lf aF e.List),(69,i6 (e.List.length:Int)),(70,i6 (j3:Int))]) (λj3=>λ()=>[(54001,.cells 32 (k7 e))]) ?_ ?_ ?_
 ·exact qW
 ·rintro j3 e3 Z3 ⟨⟩ hj3 hx3 hm
  rw[hB3]at hm
  refine qDs [] [] [(71,.bool (decide ((j3:Int)<(e.List.length:Int))))]<|A.seq<|qT (ltT hx3)<|A.skip<|A.seq<|A.block<|qD [(0,hix (ix aF (bt hx3))),(2,.al 54009)] [71] [(9,.ptr 54009 0)] [] [(54009,.cells 38 (k5 e3))]<|qD [] [9] [(82,.bool (!((decide (e3.To=e3.aO))==(decide (e3.Kind=3)))))] [54009] [] ?_
  rcases ak hm with⟨c8,hm⟩|⟨c8,hm⟩
  ·refine qT c8<|qS [] [(2,i6 8)] [] ?_
   cases hm
   exact A.ret qE
  exact qF c8<|A.skip<|qGs [(0,hto (inc hx3 hb3))] [70,82] [(70,i6 ((j3+1:Nat):Int))]<|qX () hm
 rintro j3 ⟨⟩ hj3 hl3 hm
 rw[hK3]at hm
 refine qDs [] [] [(71,.bool (decide ((j3:Int)<(e.List.length:Int))))]<|A.seq<|qF (ltF hl3)<|A.exit<|A.seq<|qDs [] [68,69,70,71] [(10,i6 1)]<|A.block<|A.bC 1 1 rfl rfl rfl λhb4=>?_
 obtain⟨B4,K4,hB4,hK4,hm⟩:=bu hm
 refine A.lpI (l:=e.List) (j0:=1) (B:=B4) (K:=K4) hm (λj4=>λ()=>[(1,.ptr 54001 0),(10,i6 (j4:Int))]) (λj4=>λ()=>[(54001,.cells 32 (k7 e))]) ?_ ?_ ?_
 ·exact qW
 ·rintro j4 e4 Z4 ⟨⟩ hj4 hx4 hm
  rw[hB4]at hm
  refine A.seq<|qDs [(3,hto (lnE aF e.List))] [] [(88,.bool (decide ((j4:Int)<(e.List.length:Int))))] ?_
  refine qT (ltT hx4)<|A.skip<|A.seq<|A.block ?_
  obtain⟨e_1,h4,hm⟩:=af hm
  refine qDs [(4,hix (ix aF h4)),(10,hix (ix aF (bt hx4)))] [88] [(104,.bool (decide (e4.Bit≤e_1.Bit)))] ?_
  rcases ak hm with⟨c9,hm⟩|⟨c9,hm⟩
  ·refine qT c9<|qS [] [(2,i6 25)] [] ?_
   cases hm
   exact A.ret qE
  exact qF c9<|A.skip<|qGs [(1,hto (inc hx4 hb4))] [10,104] [(10,i6 ((j4+1:Nat):Int))]<|qX () hm
 rintro j4 ⟨⟩ hj4 hl4 hm
 rw[hK4]at hm
 refine A.seq<|qDs [(3,hto (lnE aF e.List))] [] [(88,.bool (decide ((j4:Int)<(e.List.length:Int))))] ?_
 refine qF (ltF hl4)<|A.exit<|A.seq<|qDs [(2,hto (lnE aF e.List))] [10,88] [(106,lf aF e.List),(107,i6 (e.List.length:Int)),(108,i6 0)]<|A.block<|A.bS 106 rfl λhb5=>?_
 obtain⟨B5,K5,hB5,hK5,hm⟩:=bu hm
 refine A.lpI (l:=e.List) (j0:=0) (B:=B5) (K:=K5) hm (λj5=>λ()=>[(1,.ptr 54001 0),(106,lf aF e.List),(107,i6 (e.List.length:Int)),(108,i6 (j5:Int))]) (λj5=>λ()=>[(54001,.cells 32 (k7 e))]) ?_ ?_ ?_
 ·exact qW
 ·rintro j5 e5 Z5 ⟨⟩ hj5 hx5 hm
  rw[hB5]at hm
  refine qDs [] [] [(109,.bool (decide ((j5:Int)<(e.List.length:Int))))]<|A.seq<|qT (ltT hx5)<|A.skip<|A.seq<|A.block<|qD [(1,hix (ix aF (bt hx5))),(3,.al 54012)] [109] [(12,.ptr 54012 0),(11,i6 (j5:Int))] [] [(54012,.cells 38 (k5 e5))] ?_
  obtain⟨l_1,h5,hm⟩:=af hm
  refine qDs [(3,hsl (sl aF h5)),(4,hto (lnE aF l_1))] [11] [(116,lf aF l_1),(117,i6 (l_1.length:Int)),(118,i6 0)]<|A.block<|A.bS 116 rfl λhb6=>?_
  obtain⟨B6,K6,hB6,hK6,hm⟩:=bu hm
  refine A.lpI (l:=l_1) (j0:=0) (B:=B6) (K:=K6) hm (λj6=>λ()=>[(1,.ptr 54001 0),(12,.ptr 54012 0),(106,lf aF e.List),(107,i6 (e.List.length:Int)),(108,i6 (j5:Int)),(116,lf aF l_1),(117,i6 (l_1.length:Int)),(118,i6 (j6:Int))]) (λj6=>λ()=>[(54001,.cells 32 (k7 e)),(54012,.cells 38 (k5 e5))]) ?_ ?_ ?_
  ·exact qW
  ·rintro j6 e6 Z6 ⟨⟩ hj6 hx6 hm
   rw[hB6]at hm
   refine qDs [] [] [(119,.bool (decide ((j6:Int)<(l_1.length:Int))))]<|A.seq<|qT (ltT hx6)<|A.skip<|A.seq<|A.block<|qD [(0,hix (ix aF (bt hx6))),(2,.al 54014)] [119] [(14,.ptr 54014 0)] [] [(54014,.cells 38 (k5 e6))]<|A.mid [(1,.ptr 54001 0),(12,.ptr 54012 0),(106,lf aF e.List),(107,i6 (e.List.length:Int)),(108,i6 (j5:Int)),(116,lf aF l_1),(117,i6 (l_1.length:Int)),(118,i6 (j6:Int)),(140,.bool ((decide (e5.aO=e6.aO))&&((decide (e5.Kind=e6.Kind))&&(decide (e5.To=e6.To)))))] [(54001,.cells 32 (k7 e)),(54012,.cells 38 (k5 e5))] (λhk=>?_) ?_
   ·rcases tf (decide (e5.aO=e6.aO))with c10|c10
    ·rcases tf (decide (e5.Kind=e6.Kind))with c11|c11
     ·exact qS [(5,hto (bE c10)),(12,hto (bE c11)),(18,hto ((nO (q:=decide (e5.To=e6.To)) c11).trans (nO (q:=((decide (e5.Kind=e6.Kind))&&(decide (e5.To=e6.To)))) c10)))] _ _ hk
     exact qS [(5,hto (bE c10)),(12,hto (bE c11)),(18,hto ((oK (q:=decide (e5.To=e6.To)) c11).trans (nO (q:=((decide (e5.Kind=e6.Kind))&&(decide (e5.To=e6.To)))) c10)))] _ _ hk
    exact qS [(5,hto (bE c10)),(18,hto (oK (q:=((decide (e5.Kind=e6.Kind))&&(decide (e5.To=e6.To)))) c10))] _ _ hk
   rcases ak hm with⟨c12,hm⟩|⟨c12,hm⟩
   ·refine qT c12<|qS [] [(2,i6 5)] [] ?_
    cases hm
    exact A.ret qE
   exact qF c12<|A.skip<|qGs [(0,hto (inc hx6 hb6))] [118,140] [(118,i6 ((j6+1:Nat):Int))]<|qX () hm
  rintro j6 ⟨⟩ hj6 hl6 hm
  rw[hK6]at hm
  exact qDs [] [] [(119,.bool (decide ((j6:Int)<(l_1.length:Int))))]<|A.seq<|qF (ltF hl6)<|A.exit<|qG [(0,hto (inc hx5 hb5))] [12,108,116,117,118,119] [(108,i6 ((j5+1:Nat):Int))] [54012] []<|qX () hm
 rintro j5 ⟨⟩ hj5 hl5 hm
 rw[hK5]at hm
 refine qDs [] [] [(109,.bool (decide ((j5:Int)<(e.List.length:Int))))]<|A.seq<|qF (ltF hl5)<|A.exit<|qS [] [(2,i6 0)] [] ?_
 cases hm
 exact A.ret qE
theorem w5{e:aC}{ra1:Int}{kind:Int}{tN:Int}{r:Int×Bool}(hm:ov e ra1 kind tN=some r):RO prog 110 [] [.agg (k7 e),i6 ra1,i6 kind,i6 tN] (.tup [i6 r.1,.bool r.2]):=by
 refine bh func110 rfl rfl ?_
 unfold ov at hm
 refine qS [(0,.al 110004)] [(1,i6 ra1),(2,i6 kind),(3,i6 tN),(4,.ptr 110004 0)] [(110004,.cells 32 (k7 e))] ?_
 obtain⟨J1,hJ1,hm⟩:=cw hm
 refine A.J (J:=J1) (r:=r) (λ()=>[]) (λ()=>[]) ?_ ?_
 ·obtain⟨ai,h1,hm⟩:=af hm
  refine qDs [(1,hro (tu h1) auk)] [] [(14,.bool (decide (ai=0)))] ?_
  rcases ak hm with⟨c1,hm⟩|⟨c1,hm⟩
  ·refine qT c1<|qD [(2,hto (lnE aF e.List))] [4,14] [(16,lf aF e.List),(17,i6 (e.List.length:Int)),(18,i6 0)] [110004] []<|A.block<|A.bS 16 rfl λhb1=>?_
   obtain⟨B1,K1,hB1,hK1,hm⟩:=bu hm
   refine A.lpI (l:=e.List) (j0:=0) (B:=B1) (K:=K1) hm (λj1=>λ()=>[(1,i6 ra1),(2,i6 kind),(3,i6 tN),(16,lf aF e.List),(17,i6 (e.List.length:Int)),(18,i6 (j1:Int))]) (λj1=>λ()=>[]) ?_ ?_ ?_
   ·exact qW
   ·rintro j1 e1 Z1 ⟨⟩ hj1 hx1 hm
    rw[hB1]at hm
    refine qDs [] [] [(19,.bool (decide ((j1:Int)<(e.List.length:Int))))]<|A.seq<|qT (ltT hx1)<|A.skip<|A.seq<|A.block<|qD [(0,hix (ix aF (bt hx1))),(2,.al 110011)] [19] [(11,.ptr 110011 0)] [] [(110011,.cells 38 (k5 e1))]<|A.mid [(1,i6 ra1),(2,i6 kind),(3,i6 tN),(16,lf aF e.List),(17,i6 (e.List.length:Int)),(18,i6 (j1:Int)),(11,.ptr 110011 0),(37,.bool ((decide (e1.aO=ra1))&&((decide (e1.Kind=kind))&&(decide (e1.To=tN)))))] [(110011,.cells 38 (k5 e1))] (λhk=>?_) ?_
    ·rcases tf (decide (e1.aO=ra1))with c2|c2
     ·rcases tf (decide (e1.Kind=kind))with c3|c3
      ·exact qS [(4,hto (bE c2)),(10,hto (bE c3)),(15,hto ((nO (q:=decide (e1.To=tN)) c3).trans (nO (q:=((decide (e1.Kind=kind))&&(decide (e1.To=tN)))) c2)))] _ _ hk
      exact qS [(4,hto (bE c2)),(10,hto (bE c3)),(15,hto ((oK (q:=decide (e1.To=tN)) c3).trans (nO (q:=((decide (e1.Kind=kind))&&(decide (e1.To=tN)))) c2)))] _ _ hk
     exact qS [(4,hto (bE c2)),(15,hto (oK (q:=((decide (e1.Kind=kind))&&(decide (e1.To=tN)))) c2))] _ _ hk
    rcases ak hm with⟨c4,hm⟩|⟨c4,hm⟩
    ·refine qT c4<|qS [] [(8,i6 e1.Bit),(9,.bool true)] [] ?_
     cases hm
     exact A.ret qE
    exact qF c4<|A.skip<|qG [(0,hto (inc hx1 hb1))] [18,11,37] [(18,i6 ((j1+1:Nat):Int))] [110011] []<|qX () hm
   rintro j1 ⟨⟩ hj1 hl1 hm
   rw[hK1]at hm
   exact qDs [] [] [(19,.bool (decide ((j1:Int)<(e.List.length:Int))))]<|A.seq<|qF (ltF hl1)<|A.exit<|qX () hm
  exact qF c1<|A.skip<|qX () hm
 rintro⟨⟩ hm
 rw[hJ1]at hm
 refine qS [] [(8,i6 0),(9,.bool false)] [] ?_
 cases hm
 exact A.ret qE
theorem w6{t:aa}{n:Int}{r:aC×Int}(hm:mN t n=some r):RO prog 19 [] [.agg (k2 t),i6 n] (.tup [.agg (k7 r.1),i6 r.2]):=by
 refine bh func19 rfl rfl ?_
 unfold mN at hm
 refine qS [(0,.al 19002),(1,.al 19004)] [(1,i6 n),(2,.ptr 19002 0),(4,.ptr 19004 0)] [(19002,.cells 28 (k2 t)),(19004,.cells 32 [i6 0,.aQ])]<|A.seq ?_
 obtain⟨ai,h1,hm⟩:=af hm
 refine qDs [(1,hro (kK h1) adP)] [] [(13,.bool (!decide (ai=0)))] ?_
 rcases ak hm with⟨c1,hm⟩|⟨c1,hm⟩
 ·refine qT c1<|qD [] [1,2,13] [(5,i6 1)] [19002] [] ?_
  cases hm
  exact A.ret qE
 refine qF c1<|A.skip<|A.seq ?_
 obtain⟨aI,h2,hm⟩:=af hm
 refine qDs [(1,hro (uN h2) aun)] [13] [(17,.bool (!aI))] ?_
 rcases ak hm with⟨c2,hm⟩|⟨c2,hm⟩
 ·refine qT c2<|qD [] [1,2,17] [(5,i6 2)] [19002] [] ?_
  cases hm
  exact A.ret qE
 refine qF c2<|A.skip<|qD [(2,.al 19006)] [17] [(6,.ptr 19006 0)] [] [(19006,.cells 32 [i6 n,.aQ])]<|A.seq<|qDs [(2,hto (lnE aJ t.ah))] [] [(22,lf aJ t.ah),(23,i6 (t.ah.length:Int)),(24,i6 0)]<|A.block<|A.bS 22 rfl λhb1=>?_
 obtain⟨B1,K1,hB1,hK1,hm⟩:=bu hm
 refine A.lpI (l:=t.ah) (j0:=0) (B:=B1) (K:=K1) hm (λj1=>λm_1=>[(1,i6 n),(2,.ptr 19002 0),(4,.ptr 19004 0),(6,.ptr 19006 0),(22,lf aJ t.ah),(23,i6 (t.ah.length:Int)),(24,i6 (j1:Int))]) (λj1=>λm_1=>[(19002,.cells 28 (k2 t)),(19004,.cells 32 [i6 0,.aQ]),(19006,.cells 32 [i6 n,.own 701900601]),(701900601,.slice 38 4 (ml aF m_1) 0 false)]) ?_ ?_ ?_
 ·exact bx.go [.ac 19006 701900601 38 4 1] [] (by kernel_rfl)
 ·rintro j1 e1 Z1 m_1 hj1 hx1 hm
  rw[hB1]at hm
  refine qDs [] [] [(25,.bool (decide ((j1:Int)<(t.ah.length:Int))))]<|A.seq<|qT (ltT hx1)<|A.skip<|A.seq<|A.block<|qD [(0,hix (ix aJ (bt hx1))),(2,.al 19008)] [25] [(8,.ptr 19008 0)] [] [(19008,.cells 42 (k0 e1))] ?_
  obtain⟨l_1,h3,hm⟩:=af hm
  refine qD [(4,hto (lnE aF m_1)),(11,hap 19539 (ap aF (bytes:=32) (by decide) h3))] [] [] [19006,701900601] [(19006,.cells 32 [i6 n,.own 19539]),(19539,.slice 38 4 (ml aF l_1) 0 false)] ?_
  obtain⟨bf,h4,hm⟩:=af hm
  refine qDs [(3,hro (xX h4) ck43),(4,hto (lnE aA bf))] [] [(44,lf aA bf),(45,i6 (bf.length:Int)),(46,i6 0)]<|A.block<|A.bS 44 rfl λhb2=>?_
  obtain⟨B2,K2,hB2,hK2,hm⟩:=bu hm
  refine A.lpI (l:=bf) (j0:=0) (B:=B2) (K:=K2) hm (λj2=>λm_2=>[(1,i6 n),(2,.ptr 19002 0),(4,.ptr 19004 0),(6,.ptr 19006 0),(8,.ptr 19008 0),(22,lf aJ t.ah),(23,i6 (t.ah.length:Int)),(24,i6 (j1:Int)),(44,lf aA bf),(45,i6 (bf.length:Int)),(46,i6 (j2:Int))]) (λj2=>λm_2=>[(19002,.cells 28 (k2 t)),(19004,.cells 32 [i6 0,.aQ]),(19006,.cells 32 [i6 n,.own 701900601]),(19008,.cells 42 (k0 e1)),(701900601,.slice 38 4 (ml aF m_2) 0 false)]) ?_ ?_ ?_
  ·exact bx.go [.sw 19539 701900601] [] (by kernel_rfl)
  ·rintro j2 e2 Z2 m_2 hj2 hx2 hm
   rw[hB2]at hm
   refine qDs [] [] [(47,.bool (decide ((j2:Int)<(bf.length:Int))))]<|A.seq<|qT (ltT hx2)<|A.skip<|A.seq<|A.block<|qDs [(0,hix (ix aA (bt hx2)))] [47] [(10,i6 e2)] ?_
   obtain⟨l_2,h5,hm⟩:=af hm
   exact qG [(4,hto (lnE aF m_2)),(10,hap 19560 (ap aF (bytes:=32) (by decide) h5))] [10] [] [19006,701900601] [(19006,.cells 32 [i6 n,.own 19560]),(19560,.slice 38 4 (ml aF l_2) 0 false)]<|qGs [(0,hto (inc hx2 hb2))] [46] [(46,i6 ((j2+1:Nat):Int))]<|Exists.intro l_2 (And.intro hm (bx.go [.sw 19560 701900601] [] (by kernel_rfl)))
  rintro j2 m_2 hj2 hl2 hm
  rw[hK2]at hm
  exact qDs [] [] [(47,.bool (decide ((j2:Int)<(bf.length:Int))))]<|A.seq<|qF (ltF hl2)<|A.exit<|qG [(0,hto (inc hx1 hb1))] [8,24,44,45,46,47] [(24,i6 ((j1+1:Nat):Int))] [19008] []<|qX m_2 hm
 rintro j1 m_1 hj1 hl1 hm
 rw[hK1]at hm
 refine qDs [] [] [(25,.bool (decide ((j1:Int)<(t.ah.length:Int))))]<|A.seq<|qF (ltF hl1)<|A.exit<|A.seq<|qD [(2,hto (lnE aF m_1))] [1,2,22,23,24,25] [(68,.bool (decide (n<(m_1.length:Int))))] [19002] [] ?_
 rcases ak hm with⟨c3,hm⟩|⟨c3,hm⟩
 ·refine qT c3<|qD [] [6,68] [(5,i6 3)] [19006,701900601] [] ?_
  cases hm
  exact A.ret qE
 refine qF c3<|A.skip<|qD [] [6,68] [(5,i6 0)] [19004,19006] [(19004,.cells 32 [i6 n,.own 701900601])]<|A.ret ?_
 obtain rfl:=some_inj hm
 exact A.fin W0 [.fz [701900601]] rfl (by kernel_rfl)
variable {t:dz}
theorem sX{r:Int}(hm:jO t=some r):RO prog 66 [] [.agg (k8 t)] (i6 r):=by
 refine bh func66 rfl rfl ?_
 unfold jO at hm
 refine qS [(0,.al 66001)] [(1,.ptr 66001 0)] [(66001,.cells 63 (k8 t))] ?_
 obtain⟨ai,h1,hm⟩:=af hm
 refine qDs [(2,hro (iG h1) acd)] [] [(3,.bool ai)]<|A.seq<|qDs [(2,hto (lnE bz t.Links))] [] [(23,lf bz t.Links),(24,i6 (t.Links.length:Int)),(25,i6 0)]<|A.block<|A.bS 23 rfl λhb1=>?_
 obtain⟨B1,K1,hB1,hK1,hm⟩:=bu hm
 refine A.lpI (l:=t.Links) (j0:=0) (B:=B1) (K:=K1) hm (λj1=>λyP=>[(1,.ptr 66001 0),(3,.bool yP),(23,lf bz t.Links),(24,i6 (t.Links.length:Int)),(25,i6 (j1:Int))]) (λj1=>λyP=>[(66001,.cells 63 (k8 t))]) ?_ ?_ ?_
 ·exact qW
 ·rintro j1 e1 Z1 yP hj1 hx1 hm
  rw[hB1]at hm
  refine qDs [] [] [(26,.bool (decide ((j1:Int)<(t.Links.length:Int))))]<|A.seq<|qT (ltT hx1)<|A.skip<|A.seq<|A.block<|qD [(0,hix (ix bz (bt hx1))),(2,.al 66005)] [26] [(5,.ptr 66005 0)] [] [(66005,.cells 67 (k3 e1))] ?_
  rcases ak hm with⟨c1,hm⟩|⟨c1,hm⟩
  ·obtain⟨aI,h2,hm⟩:=af hm
   rcases ak hm with⟨c2,hm⟩|⟨c2,hm⟩
   ·obtain⟨bf,h3,hm⟩:=af hm
    exact qG [(1,hto (bE c1)),(4,hro (iG h2) acd),(6,hto (bE c2)),(9,hro (iG h3) acd)] [3,5] [(3,.bool bf)] [66005] []<|qGs [(0,hto (inc hx1 hb1))] [25] [(25,i6 ((j1+1:Nat):Int))]<|qX bf hm
   exact qG [(1,hto (bE c1)),(4,hro (iG h2) acd),(6,hto (bE c2))] [3,5] [(3,.bool false)] [66005] []<|qGs [(0,hto (inc hx1 hb1))] [25] [(25,i6 ((j1+1:Nat):Int))]<|qX false hm
  exact qG [(1,hto (bE c1))] [3,5] [(3,.bool false)] [66005] []<|qGs [(0,hto (inc hx1 hb1))] [25] [(25,i6 ((j1+1:Nat):Int))]<|qX false hm
 rintro j1 yP hj1 hl1 hm
 rw[hK1]at hm
 refine qDs [] [] [(26,.bool (decide ((j1:Int)<(t.Links.length:Int))))]<|A.seq<|qF (ltF hl1)<|A.exit<|A.seq<|qDs [] [3,23,24,25,26] [(42,.bool (!yP))] ?_
 rcases ak hm with⟨c3,hm⟩|⟨c3,hm⟩
 ·refine qT c3<|qS [] [(2,i6 2)] [] ?_
  cases hm
  exact A.ret qE
 refine qF c3<|A.skip<|A.seq<|qDs [] [42] [(6,i6 1)]<|A.block<|A.bC 1 1 rfl rfl rfl λhb2=>?_
 obtain⟨B2,K2,hB2,hK2,hm⟩:=bu hm
 refine A.lpI (l:=t.Links) (j0:=1) (B:=B2) (K:=K2) hm (λj2=>λ()=>[(1,.ptr 66001 0),(6,i6 (j2:Int))]) (λj2=>λ()=>[(66001,.cells 63 (k8 t))]) ?_ ?_ ?_
 ·exact qW
 ·rintro j2 e2 Z2 ⟨⟩ hj2 hx2 hm
  rw[hB2]at hm
  refine A.seq<|qDs [(3,hto (lnE bz t.Links))] [] [(47,.bool (decide ((j2:Int)<(t.Links.length:Int))))] ?_
  refine qT (ltT hx2)<|A.skip<|A.seq<|A.block ?_
  obtain⟨e_1,h4,hm⟩:=af hm
  refine qD [(4,hix (ix bz h4)),(9,hix (ix bz (bt hx2))),(11,.al 66007),(12,.al 66008)] [47] [(7,.ptr 66007 0),(8,.ptr 66008 0)] [] [(66007,.cells 67 (k3 e_1)),(66008,.cells 67 (k3 e2))]<|A.mid [(1,.ptr 66001 0),(6,i6 (j2:Int)),(79,.bool ((decide (e2.bn<e_1.bn))||((decide (e_1.bn=e2.bn))&&(decide (e2.To≤e_1.To)))))] [(66001,.cells 63 (k8 t))] (λhk=>?_) ?_
  ·rcases tf (decide (e2.bn<e_1.bn))with c4|c4
   ·exact qS [(5,hto (bE c4)),(18,hto (orT (q:=((decide (e_1.bn=e2.bn))&&(decide (e2.To≤e_1.To)))) c4))] _ _ hk
   rcases tf (decide (e_1.bn=e2.bn))with c5|c5
   ·exact qS [(5,hto (bE c4)),(11,hto (bE c5)),(18,hto ((nO (q:=decide (e2.To≤e_1.To)) c5).trans (orF (q:=((decide (e_1.bn=e2.bn))&&(decide (e2.To≤e_1.To)))) c4)))] _ _ hk
   exact qS [(5,hto (bE c4)),(11,hto (bE c5)),(18,hto ((oK (q:=decide (e2.To≤e_1.To)) c5).trans (orF (q:=((decide (e_1.bn=e2.bn))&&(decide (e2.To≤e_1.To)))) c4)))] _ _ hk
  rcases ak hm with⟨c6,hm⟩|⟨c6,hm⟩
  ·refine qT c6<|qS [] [(2,i6 25)] [] ?_
   cases hm
   exact A.ret qE
  exact qF c6<|A.skip<|qGs [(1,hto (inc hx2 hb2))] [6,79] [(6,i6 ((j2+1:Nat):Int))]<|qX () hm
 rintro j2 ⟨⟩ hj2 hl2 hm
 rw[hK2]at hm
 refine A.seq<|qDs [(3,hto (lnE bz t.Links))] [] [(47,.bool (decide ((j2:Int)<(t.Links.length:Int))))] ?_
 refine qF (ltF hl2)<|A.exit<|A.seq<|qDs [(2,hto (lnE bz t.Links))] [6,47] [(81,lf bz t.Links),(82,i6 (t.Links.length:Int)),(83,i6 0)]<|A.block<|A.bS 81 rfl λhb3=>?_
 obtain⟨B3,K3,hB3,hK3,hm⟩:=bu hm
 refine A.lpI (l:=t.Links) (j0:=0) (B:=B3) (K:=K3) hm (λj3=>λ()=>[(1,.ptr 66001 0),(81,lf bz t.Links),(82,i6 (t.Links.length:Int)),(83,i6 (j3:Int))]) (λj3=>λ()=>[(66001,.cells 63 (k8 t))]) ?_ ?_ ?_
 ·exact qW
 ·rintro j3 e3 Z3 ⟨⟩ hj3 hx3 hm
  rw[hB3]at hm
  refine qDs [] [] [(84,.bool (decide ((j3:Int)<(t.Links.length:Int))))]<|A.seq<|qT (ltT hx3)<|A.skip<|A.seq<|A.block<|qD [(1,hix (ix bz (bt hx3))),(3,.al 66010)] [84] [(10,.ptr 66010 0),(9,i6 (j3:Int))] [] [(66010,.cells 67 (k3 e3))]<|A.seq ?_
  obtain⟨l_1,h5,hm⟩:=af hm
  refine qDs [(3,hsl (sl bz h5)),(4,hto (lnE bz l_1))] [9] [(91,lf bz l_1),(92,i6 (l_1.length:Int)),(93,i6 0)]<|A.block<|A.bS 91 rfl λhb4=>?_
  obtain⟨B4,K4,hB4,hK4,hm⟩:=bu hm
  refine A.lpI (l:=l_1) (j0:=0) (B:=B4) (K:=K4) hm (λj4=>λ()=>[(1,.ptr 66001 0),(10,.ptr 66010 0),(81,lf bz t.Links),(82,i6 (t.Links.length:Int)),(83,i6 (j3:Int)),(91,lf bz l_1),(92,i6 (l_1.length:Int)),(93,i6 (j4:Int))]) (λj4=>λ()=>[(66001,.cells 63 (k8 t)),(66010,.cells 67 (k3 e3))]) ?_ ?_ ?_
  ·exact qW
  ·rintro j4 e4 Z4 ⟨⟩ hj4 hx4 hm
   rw[hB4]at hm
   refine qDs [] [] [(94,.bool (decide ((j4:Int)<(l_1.length:Int))))]<|A.seq<|qT (ltT hx4)<|A.skip<|A.seq<|A.block<|qD [(0,hix (ix bz (bt hx4))),(2,.al 66012)] [94] [(12,.ptr 66012 0)] [] [(66012,.cells 67 (k3 e4))]<|qD [] [12] [(101,.bool (decide (e4.To=e3.To)))] [66012] [] ?_
   rcases ak hm with⟨c7,hm⟩|⟨c7,hm⟩
   ·refine qT c7<|qS [] [(2,i6 8)] [] ?_
    cases hm
    exact A.ret qE
   exact qF c7<|A.skip<|qGs [(0,hto (inc hx4 hb4))] [93,101] [(93,i6 ((j4+1:Nat):Int))]<|qX () hm
  rintro j4 ⟨⟩ hj4 hl4 hm
  rw[hK4]at hm
  refine qDs [] [] [(94,.bool (decide ((j4:Int)<(l_1.length:Int))))]<|A.seq<|qF (ltF hl4)<|A.exit<|qD [] [10,91,92,93,94] [(107,.bool (decide (e3.To=t.cz)))] [66010] [] ?_
  rcases ak hm with⟨c8,hm⟩|⟨c8,hm⟩
  ·refine qT c8<|qS [] [(2,i6 8)] [] ?_
   cases hm
   exact A.ret qE
  exact qF c8<|A.skip<|qGs [(0,hto (inc hx3 hb3))] [83,107] [(83,i6 ((j3+1:Nat):Int))]<|qX () hm
 rintro j3 ⟨⟩ hj3 hl3 hm
 rw[hK3]at hm
 refine qDs [] [] [(84,.bool (decide ((j3:Int)<(t.Links.length:Int))))]<|A.seq<|qF (ltF hl3)<|A.exit<|qD [(2,.al 66111)] [81,82,83,84] [(13,.own 66111)] [] [(66111,.slice 3 1 (ml aA ([t.cz]:List Int)) 0 false)]<|A.seq<|qDs [] [] [(14,.bool true)]<|A.block ?_
 obtain⟨F5,n5,hF5,hm⟩:=jA hm
 refine A.lpW (F:=F5) hm (λ(pY,rT)=>[(1,.ptr 66001 0),(13,.own 600066013),(14,.bool rT)]) (λ(pY,rT)=>[(66001,.cells 63 (k8 t)),(600066013,.slice 3 1 (ml aA pY) 0 false)]) ?_ ?_
 ·exact bx.go [.sw 66111 600066013] [] (by kernel_rfl)
 rintro Z5 ⟨pY,rT⟩ hm
 rw[hF5]at hm
 refine A.seq<|qDs [] [] [(112,.bool rT)] ?_
 rcases ak hm with⟨c9,hm⟩|⟨c9,hm⟩
 ·refine qT c9<|A.skip<|A.block<|qDs [] [14,112] [(14,.bool false)]<|qDs [(2,hto (lnE bz t.Links))] [] [(114,lf bz t.Links),(115,i6 (t.Links.length:Int)),(116,i6 0)]<|A.block<|A.bS 114 rfl λhb6=>?_
  obtain⟨B6,K6,hB6,hK6,hm⟩:=bu hm
  refine A.lpI (l:=t.Links) (j0:=0) (B:=B6) (K:=K6) hm (λj6=>λ(iK,lE)=>[(1,.ptr 66001 0),(13,.own 600066013),(14,.bool lE),(114,lf bz t.Links),(115,i6 (t.Links.length:Int)),(116,i6 (j6:Int))]) (λj6=>λ(iK,lE)=>[(66001,.cells 63 (k8 t)),(600066013,.slice 3 1 (ml aA iK) 0 false)]) ?_ ?_ ?_
  ·exact qW
  ·rintro j6 e6 Z6 ⟨iK,lE⟩ hj6 hx6 hm
   rw[hB6]at hm
   refine qDs [] [] [(117,.bool (decide ((j6:Int)<(t.Links.length:Int))))]<|A.seq<|qT (ltT hx6)<|A.skip ?_
   obtain⟨J1,hJ1,hm⟩:=cw hm
   refine A.J (J:=J1) (r:=r) (λ(rU,rV)=>[(1,.ptr 66001 0),(13,.own 600066013),(14,.bool rV),(114,lf bz t.Links),(115,i6 (t.Links.length:Int)),(116,i6 (j6:Int))]) (λ(rU,rV)=>[(66001,.cells 63 (k8 t)),(600066013,.slice 3 1 (ml aA rU) 0 false)]) ?_ ?_
   ·refine A.block<|qD [(0,hix (ix bz (bt hx6))),(2,.al 66016)] [117] [(16,.ptr 66016 0)] [] [(66016,.cells 67 (k3 e6))] ?_
    obtain⟨J2,hJ2,hm⟩:=cw hm
    refine A.J (J:=J2) (r:=r) (λv_1=>[(1,.ptr 66001 0),(13,.own 600066013),(14,.bool lE),(16,.ptr 66016 0),(114,lf bz t.Links),(115,i6 (t.Links.length:Int)),(116,i6 (j6:Int)),(130,.bool v_1)]) (λv_1=>[(66001,.cells 63 (k8 t)),(600066013,.slice 3 1 (ml aA iK) 0 false),(66016,.cells 67 (k3 e6))]) ?_ ?_
    ·obtain⟨bB,h6,hm⟩:=af hm
     rcases ak hm with⟨c10,hm⟩|⟨c10,hm⟩
     ·obtain⟨bD,h7,hm⟩:=af hm
      exact qGs [(3,hle [600066013] (eZ h6) xC),(4,hto (bE c10)),(8,hle [600066013] (eZ h7) xC)] [] [(130,.bool (!bD))]<|qX (!bD) hm
     exact qGs [(3,hle [600066013] (eZ h6) xC),(4,hto (bE c10))] [] [(130,.bool false)]<|qX false hm
    rintro v_1 hm
    rw[hJ2]at hm
    rcases ak hm with⟨c11,hm⟩|⟨c11,hm⟩
    ·refine qT c11 ?_
     obtain⟨l_2,h8,hm⟩:=af hm
     exact qG [(4,hap 66635 (ap aA (bytes:=8) (by decide) h8))] [13,14,16,130] [(13,.own 66635),(14,.bool true)] [600066013,66016] [(66635,.slice 3 1 (ml aA l_2) 0 false)]<|Exists.intro (l_2,true) (And.intro hm (bx.go [.sw 66635 600066013] [] (by kernel_rfl)))
    exact qF c11<|A.skip<|qX (iK,lE) hm
   rintro⟨rU,rV⟩ hm
   rw[hJ1]at hm
   exact qGs [(0,hto (inc hx6 hb6))] [116] [(116,i6 ((j6+1:Nat):Int))]<|qX (rU,rV) hm
  rintro j6 ⟨iK,lE⟩ hj6 hl6 hm
  rw[hK6]at hm
  exact qDs [] [] [(117,.bool (decide ((j6:Int)<(t.Links.length:Int))))]<|A.seq<|qF (ltF hl6)<|A.exit<|qX (iK,lE) hm
 refine qF c9<|A.exit<|A.seq<|qD [(2,hto (lnE bz t.Links))] [1,14,112] [(138,lf bz t.Links),(139,i6 (t.Links.length:Int)),(140,i6 0)] [66001] []<|A.block<|A.bS 138 rfl λhb7=>?_
 obtain⟨B7,K7,hB7,hK7,hm⟩:=bu hm
 refine A.lpI (l:=t.Links) (j0:=0) (B:=B7) (K:=K7) hm (λj7=>λ()=>[(13,.own 600066013),(138,lf bz t.Links),(139,i6 (t.Links.length:Int)),(140,i6 (j7:Int))]) (λj7=>λ()=>[(600066013,.slice 3 1 (ml aA pY) 0 false)]) ?_ ?_ ?_
 ·exact qW
 ·rintro j7 e7 Z7 ⟨⟩ hj7 hx7 hm
  rw[hB7]at hm
  refine qDs [] [] [(141,.bool (decide ((j7:Int)<(t.Links.length:Int))))]<|A.seq<|qT (ltT hx7)<|A.skip<|A.seq<|A.block<|qD [(0,hix (ix bz (bt hx7))),(2,.al 66018)] [141] [(18,.ptr 66018 0)] [] [(66018,.cells 67 (k3 e7))] ?_
  obtain⟨cW,h9,hm⟩:=af hm
  refine qD [(3,hle [600066013] (eZ h9) xC)] [18] [(148,.bool (!cW))] [66018] [] ?_
  rcases ak hm with⟨c12,hm⟩|⟨c12,hm⟩
  ·refine qT c12<|qS [] [(2,i6 10)] [] ?_
   cases hm
   exact A.ret qE
  exact qF c12<|A.skip<|qGs [(0,hto (inc hx7 hb7))] [140,148] [(140,i6 ((j7+1:Nat):Int))]<|qX () hm
 rintro j7 ⟨⟩ hj7 hl7 hm
 rw[hK7]at hm
 refine qDs [] [] [(141,.bool (decide ((j7:Int)<(t.Links.length:Int))))]<|A.seq<|qF (ltF hl7)<|A.exit<|qS [] [(2,i6 0)] [] ?_
 cases hm
 exact A.ret qE
theorem ur{r:(List Int)}(hm:lN t=some r):RO prog 22 [] [.agg (k8 t)] (lf aA r):=by
 refine bh func22 rfl rfl ?_
 unfold lN at hm
 refine qS [(0,.al 22001)] [(1,.ptr 22001 0)] [(22001,.cells 63 (k8 t))]<|A.seq ?_
 obtain⟨ai,h1,hm⟩:=af hm
 refine qDs [(1,hro (sX h1) auo)] [] [(8,.bool (!decide (ai=0)))] ?_
 rcases ak hm with⟨c1,hm⟩|⟨c1,hm⟩
 ·refine qT c1<|qS [] [(2,.aQ)] [] ?_
  cases hm
  exact A.ret qE
 refine qF c1<|A.skip<|qDs [] [8] [(3,.lst true (ml aA ([t.cz]:List Int)))]<|A.seq<|qD [(2,hto (lnE bz t.Links))] [1] [(13,lf bz t.Links),(14,i6 (t.Links.length:Int)),(15,i6 0)] [22001] []<|A.block<|A.bS 13 rfl λhb1=>?_
 obtain⟨B1,K1,hB1,hK1,hm⟩:=bu hm
 refine A.lpI (l:=t.Links) (j0:=0) (B:=B1) (K:=K1) hm (λj1=>λbp=>[(3,lf aA bp),(13,lf bz t.Links),(14,i6 (t.Links.length:Int)),(15,i6 (j1:Int))]) (λj1=>λbp=>[]) ?_ ?_ ?_
 ·exact bx.go [] [3] (by kernel_rfl)
 ·rintro j1 e1 Z1 bp hj1 hx1 hm
  rw[hB1]at hm
  refine qDs [] [] [(16,.bool (decide ((j1:Int)<(t.Links.length:Int))))]<|A.seq<|qT (ltT hx1)<|A.skip<|A.seq<|A.block<|qD [(0,hix (ix bz (bt hx1))),(2,.al 22005)] [16] [(5,.ptr 22005 0)] [] [(22005,.cells 67 (k3 e1))] ?_
  obtain⟨aI,h2,hm⟩:=af hm
  exact qG [(3,hro (sW h2) auj)] [3,5] [(3,lf aA aI)] [22005] []<|qGs [(0,hto (inc hx1 hb1))] [15] [(15,i6 ((j1+1:Nat):Int))]<|Exists.intro aI (And.intro hm (bx.go [] [3] (by kernel_rfl)))
 rintro j1 bp hj1 hl1 hm
 rw[hK1]at hm
 refine qDs [] [] [(16,.bool (decide ((j1:Int)<(t.Links.length:Int))))]<|A.seq<|qF (ltF hl1)<|A.exit<|qS [] [(2,lf aA bp)] [] ?_
 cases hm
 exact A.ret qE
theorem yQ{l:List Int}(hm:l9 l=some r):RO prog 109 [] [lf aA l] (.bool r):=by
 refine bh func109 rfl rfl ?_
 unfold l9 at hm
 refine qS [] [(0,lf aA l)] []<|A.seq<|qDs [] [] [(3,i6 1)]<|A.block<|A.bS 0 rfl λhb1=>?_
 obtain⟨B1,K1,hB1,hK1,hm⟩:=bu hm
 refine A.lpI (l:=l) (j0:=1) (B:=B1) (K:=K1) hm (λj1=>λ()=>[(0,lf aA l),(3,i6 (j1:Int))]) (λj1=>λ()=>[]) ?_ ?_ ?_
 ·exact qW
 ·rintro j1 e1 Z1 ⟨⟩ hj1 hx1 hm
  rw[hB1]at hm
  refine A.seq<|qDs [(2,hto (lnE aA l))] [] [(7,.bool (decide ((j1:Int)<(l.length:Int))))] ?_
  refine qT (ltT hx1)<|A.skip<|A.seq<|A.block ?_
  obtain⟨e_1,h1,hm⟩:=af hm
  refine qDs [(3,hix (ix aA h1)),(7,hix (ix aA (bt hx1)))] [7] [(19,.bool (decide (e1≤e_1)))] ?_
  rcases ak hm with⟨c1,hm⟩|⟨c1,hm⟩
  ·refine qT c1<|qS [] [(2,.bool false)] [] ?_
   cases hm
   exact A.ret qE
  exact qF c1<|A.skip<|qGs [(1,hto (inc hx1 hb1))] [3,19] [(3,i6 ((j1+1:Nat):Int))]<|qX () hm
 rintro j1 ⟨⟩ hj1 hl1 hm
 rw[hK1]at hm
 refine A.seq<|qDs [(2,hto (lnE aA l))] [] [(7,.bool (decide ((j1:Int)<(l.length:Int))))] ?_
 refine qF (ltF hl1)<|A.exit<|qS [] [(2,.bool true)] [] ?_
 cases hm
 exact A.ret qE
theorem w8{e:aC}{receivers:List Int}{r:Int×Int}(hm:mO e t receivers=some r):RO prog 62 [] [.agg (k7 e),.agg (k8 t),lf aA receivers] (.tup [.int .u64 r.1,i6 r.2]):=by
 refine bh func62 rfl rfl ?_
 unfold mO at hm
 refine qS [(0,.al 62003),(1,.al 62004)] [(2,lf aA receivers),(3,.ptr 62003 0),(4,.ptr 62004 0)] [(62003,.cells 32 (k7 e)),(62004,.cells 63 (k8 t))]<|A.seq ?_
 obtain⟨ai,h1,hm⟩:=af hm
 refine qDs [(1,hro (tu h1) auk)] [] [(8,i6 ai)]<|qDs [] [] [(25,.bool (!decide (ai=0)))] ?_
 rcases ak hm with⟨c1,hm⟩|⟨c1,hm⟩
 ·refine qT c1<|qS [] [(6,.int .u64 (0:Int)),(7,i6 ai)] [] ?_
  cases hm
  exact A.ret qE
 refine qF c1<|A.skip<|A.seq ?_
 obtain⟨aI,h2,hm⟩:=af hm
 refine qDs [(1,hro (sX h2) auo)] [8,25] [(9,i6 aI)]<|qDs [] [] [(30,.bool (!decide (aI=0)))] ?_
 rcases ak hm with⟨c2,hm⟩|⟨c2,hm⟩
 ·refine qT c2<|qS [] [(6,.int .u64 (0:Int)),(7,i6 aI)] [] ?_
  cases hm
  exact A.ret qE
 refine qF c2<|A.skip<|A.seq ?_
 obtain⟨bf,h3,hm⟩:=af hm
 refine qDs [(1,hro (yQ h3) axu)] [9,30] [(34,.bool (!bf))] ?_
 rcases ak hm with⟨c3,hm⟩|⟨c3,hm⟩
 ·refine qT c3<|qS [] [(6,.int .u64 (0:Int)),(7,i6 25)] [] ?_
  cases hm
  exact A.ret qE
 refine qF c3<|A.skip ?_
 obtain⟨bB,h4,hm⟩:=af hm
 refine qDs [(1,hro (ur h4) aui)] [34] [(10,lf aA bB)]<|A.seq<|qDs [(1,hto (lnE aA receivers))] [] [(37,lf aA receivers),(38,i6 (receivers.length:Int)),(39,i6 0)]<|A.block<|A.bS 2 rfl λhb1=>?_
 obtain⟨B1,K1,hB1,hK1,hm⟩:=bu hm
 refine A.lpI (l:=receivers) (j0:=0) (B:=B1) (K:=K1) hm (λj1=>λ()=>[(2,lf aA receivers),(3,.ptr 62003 0),(4,.ptr 62004 0),(10,lf aA bB),(37,lf aA receivers),(38,i6 (receivers.length:Int)),(39,i6 (j1:Int))]) (λj1=>λ()=>[(62003,.cells 32 (k7 e)),(62004,.cells 63 (k8 t))]) ?_ ?_ ?_
 ·exact qW
 ·rintro j1 e1 Z1 ⟨⟩ hj1 hx1 hm
  rw[hB1]at hm
  refine qDs [] [] [(40,.bool (decide ((j1:Int)<(receivers.length:Int))))]<|A.seq<|qT (ltT hx1)<|A.skip<|A.seq<|A.block<|qDs [(0,hix (ix aA (bt hx1)))] [40] [(12,i6 e1)] ?_
  obtain⟨bD,h5,hm⟩:=af hm
  refine qDs [(2,hro (eZ h5) xC)] [12] [(46,.bool (!bD))] ?_
  rcases ak hm with⟨c4,hm⟩|⟨c4,hm⟩
  ·refine qT c4<|qS [] [(6,.int .u64 (0:Int)),(7,i6 8)] [] ?_
   cases hm
   exact A.ret qE
  exact qF c4<|A.skip<|qGs [(0,hto (inc hx1 hb1))] [39,46] [(39,i6 ((j1+1:Nat):Int))]<|qX () hm
 rintro j1 ⟨⟩ hj1 hl1 hm
 rw[hK1]at hm
 refine qDs [] [] [(40,.bool (decide ((j1:Int)<(receivers.length:Int))))]<|A.seq<|qF (ltF hl1)<|A.exit<|qDs [] [10,37,38,39,40] [(13,.int .u64 (0:Int))]<|A.seq<|qD [(2,hto (lnE bz t.Links))] [4] [(49,lf bz t.Links),(50,i6 (t.Links.length:Int)),(51,i6 0)] [62004] []<|A.block<|A.bS 49 rfl λhb2=>?_
 obtain⟨B2,K2,hB2,hK2,hm⟩:=bu hm
 refine A.lpI (l:=t.Links) (j0:=0) (B:=B2) (K:=K2) hm (λj2=>λbp=>[(2,lf aA receivers),(3,.ptr 62003 0),(13,.int .u64 bp),(49,lf bz t.Links),(50,i6 (t.Links.length:Int)),(51,i6 (j2:Int))]) (λj2=>λbp=>[(62003,.cells 32 (k7 e))]) ?_ ?_ ?_
 ·exact qW
 ·rintro j2 e2 Z2 bp hj2 hx2 hm
  rw[hB2]at hm
  refine qDs [] [] [(52,.bool (decide ((j2:Int)<(t.Links.length:Int))))]<|A.seq<|qT (ltT hx2)<|A.skip<|A.seq<|A.block<|qD [(0,hix (ix bz (bt hx2))),(2,.al 62015)] [52] [(15,.ptr 62015 0)] [] [(62015,.cells 67 (k3 e2))] ?_
  obtain⟨cW,h6,hm⟩:=af hm
  refine qD [(5,hro (w5 h6) anu)] [15] [(16,i6 cW.1),(17,.bool cW.2)] [62015] []<|A.seq<|qDs [] [17] [(65,.bool (!cW.2))] ?_
  rcases ak hm with⟨c5,hm⟩|⟨c5,hm⟩
  ·refine qT c5<|qS [] [(6,.int .u64 (0:Int)),(7,i6 4)] [] ?_
   cases hm
   exact A.ret qE
  refine qF c5<|A.skip ?_
  obtain⟨h7,hm⟩:=fI hm
  exact qGs [(3,.sh (IntKind.wrap .u64 cW.1) (of_decide_eq_true h7))] [13,16,65] [(13,.int .u64 (br .or .u64 bp (IntKind.wrap .u64 ((1:Int)*2 ^ min (IntKind.wrap .u64 cW.1).toNat 64))))]<|qGs [(0,hto (inc hx2 hb2))] [51] [(51,i6 ((j2+1:Nat):Int))]<|qX (br .or .u64 bp (IntKind.wrap .u64 ((1:Int)*2 ^ min (IntKind.wrap .u64 cW.1).toNat 64))) hm
 rintro j2 bp hj2 hl2 hm
 rw[hK2]at hm
 refine qDs [] [] [(52,.bool (decide ((j2:Int)<(t.Links.length:Int))))]<|A.seq<|qF (ltF hl2)<|A.exit<|A.seq<|qDs [(1,hto (lnE aA receivers))] [2,49,50,51,52] [(72,lf aA receivers),(73,i6 (receivers.length:Int)),(74,i6 0)]<|A.block<|A.bS 72 rfl λhb3=>?_
 obtain⟨B3,K3,hB3,hK3,hm⟩:=bu hm
 refine A.lpI (l:=receivers) (j0:=0) (B:=B3) (K:=K3) hm (λj3=>λcZ=>[(3,.ptr 62003 0),(13,.int .u64 cZ),(72,lf aA receivers),(73,i6 (receivers.length:Int)),(74,i6 (j3:Int))]) (λj3=>λcZ=>[(62003,.cells 32 (k7 e))]) ?_ ?_ ?_
 ·exact qW
 ·rintro j3 e3 Z3 cZ hj3 hx3 hm
  rw[hB3]at hm
  refine qDs [] [] [(75,.bool (decide ((j3:Int)<(receivers.length:Int))))]<|A.seq<|qT (ltT hx3)<|A.skip<|A.seq<|A.block<|qDs [(0,hix (ix aA (bt hx3)))] [75] [(19,i6 e3)] ?_
  obtain⟨bH,h8,hm⟩:=af hm
  refine qDs [(3,hro (w5 h8) anu)] [19] [(20,i6 bH.1),(21,.bool bH.2)]<|A.seq<|qDs [] [21] [(86,.bool (!bH.2))] ?_
  rcases ak hm with⟨c6,hm⟩|⟨c6,hm⟩
  ·refine qT c6<|qS [] [(6,.int .u64 (0:Int)),(7,i6 4)] [] ?_
   cases hm
   exact A.ret qE
  refine qF c6<|A.skip ?_
  obtain⟨h9,hm⟩:=fI hm
  exact qGs [(3,.sh (IntKind.wrap .u64 bH.1) (of_decide_eq_true h9))] [13,20,86] [(13,.int .u64 (br .or .u64 cZ (IntKind.wrap .u64 ((1:Int)*2 ^ min (IntKind.wrap .u64 bH.1).toNat 64))))]<|qGs [(0,hto (inc hx3 hb3))] [74] [(74,i6 ((j3+1:Nat):Int))]<|qX (br .or .u64 cZ (IntKind.wrap .u64 ((1:Int)*2 ^ min (IntKind.wrap .u64 bH.1).toNat 64))) hm
 rintro j3 cZ hj3 hl3 hm
 rw[hK3]at hm
 refine qDs [] [] [(75,.bool (decide ((j3:Int)<(receivers.length:Int))))]<|A.seq<|qF (ltF hl3)<|A.exit<|qS [] [(6,.int .u64 cZ),(7,i6 0)] [] ?_
 cases hm
 exact A.ret qE
end Go.Proofs.YtdjeacigeegklaaGreat
