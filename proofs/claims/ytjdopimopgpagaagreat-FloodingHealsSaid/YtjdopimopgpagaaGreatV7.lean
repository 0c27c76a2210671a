/- The eN of cu of the program. No condition but bH bq stand in each. -/
import Derived.Test.YtjdopimopgpagaaGreatDA
namespace Go.Proofs.YtjdopimopgpagaaGreat
open Go Go.Proofs.Tryz
set_option maxRecDepth 100000
set_option linter.all false
variable {r:Bool}
theorem nD{n:Int}(hm:mj n=some r):RO prog 156 [] [i6 n] (.bool r):=by
 refine aZ func156 rfl rfl ?_
 unfold mj at hm
 refine qS [] [(0,i6 n)] []<|A.mid [(2,.bool ((decide (n=8))||((decide (n=16))||((decide (n=32))||(decide (n=64))))))] [] (λhk=>?_) ?_
 ·rcases tf (decide (n=8))with c1|c1
  ·exact qS [(2,hto (bE c1)),(14,hto (orT (q:=((decide (n=16))||((decide (n=32))||(decide (n=64))))) c1))] _ _ hk
  rcases tf (decide (n=16))with c2|c2
  ·exact qS [(2,hto (bE c1)),(6,hto (bE c2)),(14,hto ((orT (q:=((decide (n=32))||(decide (n=64)))) c2).trans (orF (q:=((decide (n=16))||((decide (n=32))||(decide (n=64))))) c1)))] _ _ hk
  rcases tf (decide (n=32))with c3|c3
  ·exact qS [(2,hto (bE c1)),(6,hto (bE c2)),(10,hto (bE c3)),(14,hto (((orT (q:=decide (n=64)) c3).trans (orF (q:=((decide (n=32))||(decide (n=64)))) c2)).trans (orF (q:=((decide (n=16))||((decide (n=32))||(decide (n=64))))) c1)))] _ _ hk
  exact qS [(2,hto (bE c1)),(6,hto (bE c2)),(10,hto (bE c3)),(14,hto (((orF (q:=decide (n=64)) c3).trans (orF (q:=((decide (n=32))||(decide (n=64)))) c2)).trans (orF (q:=((decide (n=16))||((decide (n=32))||(decide (n=64))))) c1)))] _ _ hk
 cases hm
 exact A.ret qE
theorem bX{n:Int}{low:Int}{high:Int}(hm:gj n low high=some r):RO prog 155 [] [i6 n,i6 low,i6 high] (.bool r):=by
 refine aZ func155 rfl rfl ?_
 unfold gj at hm
 refine qS [] [(0,i6 n),(1,i6 low),(2,i6 high)] []<|A.mid [(6,.bool ((decide (low≤n))&&(decide (n≤high))))] [] (λhk=>?_) ?_
 ·rcases tf (decide (low≤n))with c1|c1
  ·exact qS [(3,hto (bE c1)),(8,hto (rO (q:=decide (n≤high)) c1))] _ _ hk
  exact qS [(3,hto (bE c1)),(8,hto (sM (q:=decide (n≤high)) c1))] _ _ hk
 cases hm
 exact A.ret qE
theorem nE{l:List bG}(hm:iI l=some r):RO prog 111 [] [lf bn l] (.bool r):=by
 refine aZ func111 rfl rfl ?_
 unfold iI at hm
 refine qS [] [(0,lf bn l)] []<|A.seq<|qDs [(1,hto (lnE bn l))] [] [(6,.bool (decide (8<(l.length:Int))))] ?_
 rcases az hm with⟨c1,hm⟩|⟨c1,hm⟩
 ·refine qT c1<|qS [] [(2,.bool false)] [] ?_
  cases hm
  exact A.ret qE
 refine qF c1<|A.skip<|A.seq<|qDs [] [6] [(3,i6 0)]<|A.block<|A.bS 0 rfl λhb1=>?_
 obtain⟨B1,K1,hB1,hK1,hm⟩:=bF hm
 refine A.lpI (l:=l) (j0:=0) (B:=B1) (K:=K1) hm (λj1=>λ()=>[(0,lf bn l),(3,i6 (j1:Int))]) (λj1=>λ()=>[]) ?_ ?_ ?_
 ·exact qW
 ·rintro j1 e1 Z1 ⟨⟩ hj1 hx1 hm
  rw[hB1]at hm
  refine A.seq<|qDs [(2,hto (lnE bn l))] [] [(10,.bool (decide ((j1:Int)<(l.length:Int))))] ?_
  refine qT (ltT hx1)<|A.skip<|A.seq<|A.block ?_
  obtain⟨J1,hJ1,hm⟩:=bQ hm
  refine A.J (J:=J1) (r:=r) (λv_1=>[(0,lf bn l),(3,i6 (j1:Int)),(55,.bool v_1)]) (λv_1=>[]) ?_ ?_
  ·obtain⟨ah,h1,hm⟩:=aa hm
   rcases az hm with⟨c2,hm⟩|⟨c2,hm⟩
   ·exact qGs [(2,hix (ix bn (bh hx1))),(5,hro (bX h1) ig),(7,hto (bE c2))] [10] [(55,.bool true)]<|qX true hm
   obtain⟨aD,h2,hm⟩:=aa hm
   rcases az hm with⟨c3,hm⟩|⟨c3,hm⟩
   ·exact qGs [(2,hix (ix bn (bh hx1))),(5,hro (bX h1) ig),(7,hto (bE c2)),(10,hix (ix bn (bh hx1))),(13,hro (bX h2) ig),(16,hto (bE c3))] [10] [(55,.bool true)]<|qX true hm
   obtain⟨aP,h3,hm⟩:=aa hm
   rcases az hm with⟨c4,hm⟩|⟨c4,hm⟩
   ·exact qGs [(2,hix (ix bn (bh hx1))),(5,hro (bX h1) ig),(7,hto (bE c2)),(10,hix (ix bn (bh hx1))),(13,hro (bX h2) ig),(16,hto (bE c3)),(19,hix (ix bn (bh hx1))),(22,hro (nD h3) agH),(25,hto (bE c4))] [10] [(55,.bool true)]<|qX true hm
   rcases az hm with⟨c5,hm⟩|⟨c5,hm⟩
   ·obtain⟨e_1,h4,hm⟩:=aa hm
    exact qGs [(2,hix (ix bn (bh hx1))),(5,hro (bX h1) ig),(7,hto (bE c2)),(10,hix (ix bn (bh hx1))),(13,hro (bX h2) ig),(16,hto (bE c3)),(19,hix (ix bn (bh hx1))),(22,hro (nD h3) agH),(25,hto (bE c4)),(28,hto (bE c5)),(32,hix (ix bn h4)),(37,hix (ix bn (bh hx1)))] [10] [(55,.bool (decide (e1.bZ≤e_1.bZ)))]<|qX (decide (e1.bZ≤e_1.bZ)) hm
   exact qGs [(2,hix (ix bn (bh hx1))),(5,hro (bX h1) ig),(7,hto (bE c2)),(10,hix (ix bn (bh hx1))),(13,hro (bX h2) ig),(16,hto (bE c3)),(19,hix (ix bn (bh hx1))),(22,hro (nD h3) agH),(25,hto (bE c4)),(28,hto (bE c5))] [10] [(55,.bool false)]<|qX false hm
  rintro v_1 hm
  rw[hJ1]at hm
  rcases az hm with⟨c6,hm⟩|⟨c6,hm⟩
  ·refine qT c6<|qS [] [(2,.bool false)] [] ?_
   cases hm
   exact A.ret qE
  exact qF c6<|A.skip<|qGs [(1,hto (inc hx1 hb1))] [3,55] [(3,i6 ((j1+1:Nat):Int))]<|qX () hm
 rintro j1 ⟨⟩ hj1 hl1 hm
 rw[hK1]at hm
 refine A.seq<|qDs [(2,hto (lnE bn l))] [] [(10,.bool (decide ((j1:Int)<(l.length:Int))))] ?_
 refine qF (ltF hl1)<|A.exit<|qS [] [(2,.bool true)] [] ?_
 cases hm
 exact A.ret qE
theorem vK{a:ai}(hm:ic a=some r):RO prog 120 [] [.agg (k7 a)] (.bool r):=by
 refine aZ func120 rfl rfl ?_
 unfold ic at hm
 refine qS [(0,.al 120001)] [(1,.ptr 120001 0)] [(120001,.cells 66 (k7 a))]<|A.seq ?_
 obtain⟨J1,hJ1,hm⟩:=bQ hm
 refine A.J (J:=J1) (r:=r) (λv_1=>[(1,.ptr 120001 0),(20,.bool v_1)]) (λv_1=>[(120001,.cells 66 (k7 a))]) ?_ ?_
 ·obtain⟨ah,h1,hm⟩:=aa hm
  rcases az hm with⟨c1,hm⟩|⟨c1,hm⟩
  ·exact qGs [(2,hro (bX h1) ig),(4,hto (bE c1))] [] [(20,.bool true)]<|qX true hm
  obtain⟨aD,h2,hm⟩:=aa hm
  rcases az hm with⟨c2,hm⟩|⟨c2,hm⟩
  ·exact qGs [(2,hro (bX h1) ig),(4,hto (bE c1)),(7,hro (bX h2) ig),(10,hto (bE c2))] [] [(20,.bool true)]<|qX true hm
  exact qGs [(2,hro (bX h1) ig),(4,hto (bE c1)),(7,hro (bX h2) ig),(10,hto (bE c2)),(13,hto (lnE bx a.Links))] [] [(20,.bool (decide (23<(a.Links.length:Int))))]<|qX (decide (23<(a.Links.length:Int))) hm
 rintro v_1 hm
 rw[hJ1]at hm
 rcases az hm with⟨c3,hm⟩|⟨c3,hm⟩
 ·refine qT c3<|qS [] [(2,.bool false)] [] ?_
  cases hm
  exact A.ret qE
 refine qF c3<|A.skip<|A.seq<|qDs [] [20] [(3,i6 0)]<|A.block<|A.bC 1 3 rfl rfl rfl λhb1=>?_
 obtain⟨B1,K1,hB1,hK1,hm⟩:=bF hm
 refine A.lpI (l:=a.Links) (j0:=0) (B:=B1) (K:=K1) hm (λj1=>λ()=>[(1,.ptr 120001 0),(3,i6 (j1:Int))]) (λj1=>λ()=>[(120001,.cells 66 (k7 a))]) ?_ ?_ ?_
 ·exact qW
 ·rintro j1 e1 Z1 ⟨⟩ hj1 hx1 hm
  rw[hB1]at hm
  refine A.seq<|qDs [(3,hto (lnE bx a.Links))] [] [(25,.bool (decide ((j1:Int)<(a.Links.length:Int))))] ?_
  refine qT (ltT hx1)<|A.skip<|A.seq<|A.block<|qD [(3,hix (ix bx (bh hx1))),(5,.al 120004)] [25] [(4,.ptr 120004 0)] [] [(120004,.cells 105 (k6 e1))] ?_
  obtain⟨J2,hJ2,hm⟩:=bQ hm
  refine A.J (J:=J2) (r:=r) (λv_2=>[(1,.ptr 120001 0),(3,i6 (j1:Int)),(71,.bool v_2)]) (λv_2=>[(120001,.cells 66 (k7 a))]) ?_ ?_
  ·obtain⟨aP,h3,hm⟩:=aa hm
   rcases az hm with⟨c4,hm⟩|⟨c4,hm⟩
   ·exact qG [(2,hro (bX h3) ig),(4,hto (bE c4))] [4] [(71,.bool true)] [120004] []<|qX true hm
   rcases az hm with⟨c5,hm⟩|⟨c5,hm⟩
   ·exact qG [(2,hro (bX h3) ig),(4,hto (bE c4)),(11,hto (bE c5))] [4] [(71,.bool true)] [120004] []<|qX true hm
   obtain⟨bt,h4,hm⟩:=aa hm
   rcases az hm with⟨c6,hm⟩|⟨c6,hm⟩
   ·exact qG [(2,hro (bX h3) ig),(4,hto (bE c4)),(11,hto (bE c5)),(14,hro (bX h4) ig),(17,hto (bE c6))] [4] [(71,.bool true)] [120004] []<|qX true hm
   obtain⟨bL,h5,hm⟩:=aa hm
   rcases az hm with⟨c7,hm⟩|⟨c7,hm⟩
   ·exact qG [(2,hro (bX h3) ig),(4,hto (bE c4)),(11,hto (bE c5)),(14,hro (bX h4) ig),(17,hto (bE c6)),(20,hro (bX h5) ig),(23,hto (bE c7))] [4] [(71,.bool true)] [120004] []<|qX true hm
   rcases az hm with⟨c8,hm⟩|⟨c8,hm⟩
   ·obtain⟨e_1,h6,hm⟩:=aa hm
    exact qG [(2,hro (bX h3) ig),(4,hto (bE c4)),(11,hto (bE c5)),(14,hro (bX h4) ig),(17,hto (bE c6)),(20,hro (bX h5) ig),(23,hto (bE c7)),(26,hto (bE c8)),(31,hix (ix bx h6))] [4] [(71,.bool (decide (e1.bu≤e_1.bu)))] [120004] []<|qX (decide (e1.bu≤e_1.bu)) hm
   exact qG [(2,hro (bX h3) ig),(4,hto (bE c4)),(11,hto (bE c5)),(14,hro (bX h4) ig),(17,hto (bE c6)),(20,hro (bX h5) ig),(23,hto (bE c7)),(26,hto (bE c8))] [4] [(71,.bool false)] [120004] []<|qX false hm
  rintro v_2 hm
  rw[hJ2]at hm
  rcases az hm with⟨c9,hm⟩|⟨c9,hm⟩
  ·refine qT c9<|qS [] [(2,.bool false)] [] ?_
   cases hm
   exact A.ret qE
  exact qF c9<|A.skip<|qGs [(1,hto (inc hx1 hb1))] [3,71] [(3,i6 ((j1+1:Nat):Int))]<|qX () hm
 rintro j1 ⟨⟩ hj1 hl1 hm
 rw[hK1]at hm
 refine A.seq<|qDs [(3,hto (lnE bx a.Links))] [] [(25,.bool (decide ((j1:Int)<(a.Links.length:Int))))] ?_
 refine qF (ltF hl1)<|A.exit ?_
 obtain⟨cq,h7,hm⟩:=aa hm
 refine qS [(2,hro (nE h7) agD)] [(2,.bool cq)] [] ?_
 cases hm
 exact A.ret qE
end Go.Proofs.YtjdopimopgpagaaGreat
