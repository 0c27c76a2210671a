/- The gi of cW of the program. No condition but aX aH stand in each. -/
import Derived.Test.YtmnbolcmepihlaaDL
import Derived.Test.YtmnbolcmepihlaaVS2
import Derived.Test.YtmnbolcmepihlaaVN
namespace Go.Proofs.Ytmnbolcmepihlaa
open Go Go.Proofs.Try
set_option maxRecDepth 100000
set_option linter.all false
theorem nt{r:az}(hm:jd=some r):RO prog 19 [] [] (.agg (k2 r)):=by
 refine bw func19 rfl rfl ?_
 unfold jd at hm
 refine qS [(0,.al 19000)] [(0,.ptr 19000 0)] [(19000,.cells 28 [.aZ,.aZ])]<|qD [(0,.al 19001)] [] [(1,.ptr 19001 0)] [] [(19001,.cells 28 [.aZ,.aZ])]<|A.seq<|qDs [] [] [(2,i6 1)]<|A.block ?_
 obtain⟨B1,K1,hB1,hK1,hm⟩:=jV hm
 refine A.lpN (hi:=(5:Int)) (B:=B1) (K:=K1) hm rfl (λj1=>λm_1=>[(0,.ptr 19000 0),(1,.ptr 19001 0),(2,i6 (j1:Int))]) (λj1=>λm_1=>[(19000,.cells 28 [.aZ,.aZ]),(19001,.cells 28 [.own 701900100,.aZ]),(701900100,.slice 31 2 (ml aP m_1) 0 false)]) ?_ ?_ ?_
 ·exact aN.go [.ac 19001 701900100 31 2 0] [] (by kernel_rfl)
 ·rintro j1 Z1 m_1 hj1 hx1 hm
  rw[hB1]at hm
  refine A.seq<|qDs [] [] [(6,.bool (decide ((j1:Int)≤(4:Int))))] ?_
  refine A.cT rfl (leT hx1)<|A.skip<|A.seq<|A.block ?_
  obtain⟨l_1,h1,hm⟩:=ak hm
  exact qG [(5,hap 19514 (ap aP (bytes:=16) (by decide) h1))] [6] [] [19001,701900100] [(19001,.cells 28 [.own 19514,.aZ]),(19514,.slice 31 2 (ml aP l_1) 0 false)]<|qGs [(1,hto (tv (by omega) hx1 (by decide)))] [2] [(2,i6 (j1+1:Int))]<|Exists.intro l_1 (And.intro hm (aN.go [.sw 19514 701900100] [] (by kernel_rfl)))
 rintro j1 m_1 hj1 hl1 hm
 rw[hK1]at hm
 refine A.seq<|qDs [] [] [(6,.bool (decide ((j1:Int)≤(4:Int))))] ?_
 refine A.cF rfl (gtF hl1)<|A.exit<|A.seq<|qDs [(0,hba (vH (n:=3) rJ underlying88 sizeOf3)),(1,hba (vH (n:=3) rJ underlying88 sizeOf3)),(2,hba (vH (n:=3) rJ underlying88 sizeOf3)),(3,hba (vH (n:=3) rJ underlying88 sizeOf3)),(4,hba (vH (n:=3) rJ underlying88 sizeOf3)),(6,hto (lnE lW ([(aO.mk (1:Int) (2:Int) (2:Int)),(aO.mk (1:Int) (3:Int) (3:Int)),(aO.mk (1:Int) (4:Int) (3:Int)),(aO.mk (2:Int) (3:Int) (2:Int)),(aO.mk (2:Int) (4:Int) (2:Int))]:List aO)))] [2,6] [(21,.lst true (ml lW ([(aO.mk (1:Int) (2:Int) (2:Int)),(aO.mk (1:Int) (3:Int) (3:Int)),(aO.mk (1:Int) (4:Int) (3:Int)),(aO.mk (2:Int) (3:Int) (2:Int)),(aO.mk (2:Int) (4:Int) (2:Int))]:List aO))),(22,i6 (([(aO.mk (1:Int) (2:Int) (2:Int)),(aO.mk (1:Int) (3:Int) (3:Int)),(aO.mk (1:Int) (4:Int) (3:Int)),(aO.mk (2:Int) (3:Int) (2:Int)),(aO.mk (2:Int) (4:Int) (2:Int))]:List aO).length:Int)),(23,i6 0)]<|A.block<|A.bS 21 rfl λhb2=>?_
 obtain⟨B2,K2,hB2,hK2,hm⟩:=cH hm
 refine A.lpI (l:=([(aO.mk (1:Int) (2:Int) (2:Int)),(aO.mk (1:Int) (3:Int) (3:Int)),(aO.mk (1:Int) (4:Int) (3:Int)),(aO.mk (2:Int) (3:Int) (2:Int)),(aO.mk (2:Int) (4:Int) (2:Int))]:List aO)) (j0:=0) (B:=B2) (K:=K2) hm (λj2=>λm_2=>[(0,.ptr 19000 0),(1,.ptr 19001 0),(21,.lst true (ml lW ([(aO.mk (1:Int) (2:Int) (2:Int)),(aO.mk (1:Int) (3:Int) (3:Int)),(aO.mk (1:Int) (4:Int) (3:Int)),(aO.mk (2:Int) (3:Int) (2:Int)),(aO.mk (2:Int) (4:Int) (2:Int))]:List aO))),(22,i6 (([(aO.mk (1:Int) (2:Int) (2:Int)),(aO.mk (1:Int) (3:Int) (3:Int)),(aO.mk (1:Int) (4:Int) (3:Int)),(aO.mk (2:Int) (3:Int) (2:Int)),(aO.mk (2:Int) (4:Int) (2:Int))]:List aO).length:Int)),(23,i6 (j2:Int))]) (λj2=>λm_2=>[(19000,.cells 28 [.aZ,.aZ]),(19001,.cells 28 [.own 701900100,.own 701900101]),(701900100,.slice 31 2 (ml aP m_1) 0 false),(701900101,.slice 42 5 (ml bz m_2) 0 false)]) ?_ ?_ ?_
 ·exact aN.go [.ac 19001 701900101 42 5 1] [] (by kernel_rfl)
 ·rintro j2 e2 Z2 m_2 hj2 hx2 hm
  rw[hB2]at hm
  refine qDs [] [] [(24,.bool (decide ((j2:Int)<(([(aO.mk (1:Int) (2:Int) (2:Int)),(aO.mk (1:Int) (3:Int) (3:Int)),(aO.mk (1:Int) (4:Int) (3:Int)),(aO.mk (2:Int) (3:Int) (2:Int)),(aO.mk (2:Int) (4:Int) (2:Int))]:List aO).length:Int))))]<|A.seq<|qT (ltT hx2)<|A.skip<|A.seq<|A.block<|qD [(0,hix (ix lW (dG hx2))),(2,.al 19004)] [24] [(4,.ptr 19004 0)] [] [(19004,.cells 88 [i6 e2.E0,i6 e2.E1,i6 e2.E2])] ?_
  obtain⟨l_2,h2,hm⟩:=ak hm
  exact qG [(2,hia underlying88 sizeOf3),(4,hia underlying88 sizeOf3),(6,hia underlying88 sizeOf3),(8,hia underlying88 sizeOf3),(12,hap 19539 (ap bz (bytes:=40) (by decide) h2))] [4] [] [19001,701900101,19004] [(19001,.cells 28 [.own 701900100,.own 19539]),(19539,.slice 42 5 (ml bz l_2) 0 false)]<|qGs [(0,hto (inc hx2 hb2))] [23] [(23,i6 ((j2+1:Nat):Int))]<|Exists.intro l_2 (And.intro hm (aN.go [.sw 19539 701900101] [] (by kernel_rfl)))
 rintro j2 m_2 hj2 hl2 hm
 rw[hK2]at hm
 refine qDs [] [] [(24,.bool (decide ((j2:Int)<(([(aO.mk (1:Int) (2:Int) (2:Int)),(aO.mk (1:Int) (3:Int) (3:Int)),(aO.mk (1:Int) (4:Int) (3:Int)),(aO.mk (2:Int) (3:Int) (2:Int)),(aO.mk (2:Int) (4:Int) (2:Int))]:List aO).length:Int))))]<|A.seq<|qF (ltF hl2)<|A.exit<|qD [] [1,21,22,23,24] [] [19000,19001] [(19000,.cells 28 [.own 701900100,.own 701900101])]<|A.ret ?_
 obtain rfl:=some_inj hm
 exact A.fin W0 [.fz [701900100,701900101]] rfl (by kernel_rfl)
theorem mQ{r:Bool}(hm:gn=some r):RO prog 11 [] [] (.bool r):=by
 refine bw func11 rfl rfl ?_
 unfold gn at hm
 refine qS [] [] [] ?_
 obtain⟨aq,h1,hm⟩:=ak hm
 refine A.RY W0 2 [3,4,5,6,7,8,9,10] [] [(0,hro (nt h1) af6)] (jX hm) ck8 (by kernel_rfl) (by kernel_rfl) (by kernel_rfl) (by rintro _ _ ⟨rfl,_,_,rfl⟩;exact⟨rfl,rfl⟩) ?_
 rintro _ _ ⟨rfl,aL,hm,rfl⟩
 try dsimp only at hm
 refine⟨[(7,.al 11001)],[(1,.ptr 11001 0),(2,i6 aL.2.1),(3,i6 aL.2.2)],[(11001,.cells 36 (k7 aL.1))],by kernel_rfl,?_⟩
 obtain⟨bM,h2,hm⟩:=ak hm
 obtain⟨bF,h3,hm⟩:=ak hm
 refine qS [(0,hro (nt h2) af6),(9,hro (mV h3) ck20)] [(1,.ptr 11001 0),(2,i6 aL.2.1),(3,i6 aL.2.2),(4,i6 bF.1),(5,i6 bF.2)] [(11001,.cells 36 (k7 aL.1))]<|A.mid [(0,.bool ((decide (aL.2.2=0))&&((decide (bF.2=0))&&((decide (aL.2.1=6))&&((decide (bF.1=5))&&(decide (1<(aL.1.Links.length:Int))))))))] [] (λhk=>?_) ?_
 ·rcases tf (decide (aL.2.2=0))with c1|c1
  ·rcases tf (decide (bF.2=0))with c2|c2
   ·rcases tf (decide (aL.2.1=6))with c3|c3
    ·rcases tf (decide (bF.1=5))with c4|c4
     ·exact qS [(2,hto (bE c1)),(6,hto (bE c2)),(10,hto (bE c3)),(14,hto (bE c4)),(17,hto (lnE fu aL.1.Links)),(20,hto ((((kU (q:=decide (1<(aL.1.Links.length:Int))) c4).trans (kU (q:=((decide (bF.1=5))&&(decide (1<(aL.1.Links.length:Int))))) c3)).trans (kU (q:=((decide (aL.2.1=6))&&((decide (bF.1=5))&&(decide (1<(aL.1.Links.length:Int)))))) c2)).trans (kU (q:=((decide (bF.2=0))&&((decide (aL.2.1=6))&&((decide (bF.1=5))&&(decide (1<(aL.1.Links.length:Int))))))) c1)))] _ _ hk
     exact qS [(2,hto (bE c1)),(6,hto (bE c2)),(10,hto (bE c3)),(14,hto (bE c4)),(20,hto ((((rR (q:=decide (1<(aL.1.Links.length:Int))) c4).trans (kU (q:=((decide (bF.1=5))&&(decide (1<(aL.1.Links.length:Int))))) c3)).trans (kU (q:=((decide (aL.2.1=6))&&((decide (bF.1=5))&&(decide (1<(aL.1.Links.length:Int)))))) c2)).trans (kU (q:=((decide (bF.2=0))&&((decide (aL.2.1=6))&&((decide (bF.1=5))&&(decide (1<(aL.1.Links.length:Int))))))) c1)))] _ _ hk
    exact qS [(2,hto (bE c1)),(6,hto (bE c2)),(10,hto (bE c3)),(20,hto (((rR (q:=((decide (bF.1=5))&&(decide (1<(aL.1.Links.length:Int))))) c3).trans (kU (q:=((decide (aL.2.1=6))&&((decide (bF.1=5))&&(decide (1<(aL.1.Links.length:Int)))))) c2)).trans (kU (q:=((decide (bF.2=0))&&((decide (aL.2.1=6))&&((decide (bF.1=5))&&(decide (1<(aL.1.Links.length:Int))))))) c1)))] _ _ hk
   exact qS [(2,hto (bE c1)),(6,hto (bE c2)),(20,hto ((rR (q:=((decide (aL.2.1=6))&&((decide (bF.1=5))&&(decide (1<(aL.1.Links.length:Int)))))) c2).trans (kU (q:=((decide (bF.2=0))&&((decide (aL.2.1=6))&&((decide (bF.1=5))&&(decide (1<(aL.1.Links.length:Int))))))) c1)))] _ _ hk
  exact qS [(2,hto (bE c1)),(20,hto (rR (q:=((decide (bF.2=0))&&((decide (aL.2.1=6))&&((decide (bF.1=5))&&(decide (1<(aL.1.Links.length:Int))))))) c1))] _ _ hk
 cases hm
 exact A.ret qE
end Go.Proofs.Ytmnbolcmepihlaa
