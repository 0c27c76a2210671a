/- The gW of dB of the program. No condition but bk aJ stand in each. -/
import Derived.Test.YtmnbolcmepihlaaGreatDL
import Derived.Test.YtmnbolcmepihlaaGreatVS2
import Derived.Test.YtmnbolcmepihlaaGreatVN
namespace Go.Proofs.YtmnbolcmepihlaaGreat
open Go Go.Proofs.Tryz
set_option maxRecDepth 100000
set_option linter.all false
theorem qQ{r:aj}(hm:lS=some r):RO prog 69 [] [] (.agg (k2 r)):=by
 refine aY func69 rfl rfl ?_
 unfold lS at hm
 refine qS [(0,.al 69000)] [(0,.ptr 69000 0)] [(69000,.cells 28 [.bn,.bn])]<|qD [(0,.al 69001)] [] [(1,.ptr 69001 0)] [] [(69001,.cells 28 [.bn,.bn])]<|A.seq<|qDs [] [] [(2,i6 1)]<|A.block ?_
 obtain⟨B1,K1,hB1,hK1,hm⟩:=jg hm
 refine A.lpN (hi:=(5:Int)) (B:=B1) (K:=K1) hm rfl (λj1=>λm_1=>[(0,.ptr 69000 0),(1,.ptr 69001 0),(2,i6 (j1:Int))]) (λj1=>λm_1=>[(69000,.cells 28 [.bn,.bn]),(69001,.cells 28 [.own 706900100,.bn]),(706900100,.slice 31 2 (ml aQ m_1) 0 false)]) ?_ ?_ ?_
 ·exact aV.go [.ac 69001 706900100 31 2 0] [] (by kernel_rfl)
 ·rintro j1 Z1 m_1 hj1 hx1 hm
  rw[hB1]at hm
  refine A.seq<|qDs [] [] [(6,.bool (decide ((j1:Int)≤(4:Int))))] ?_
  refine A.cT rfl (leT hx1)<|A.skip<|A.seq<|A.block ?_
  obtain⟨l_1,h1,hm⟩:=aa hm
  exact qG [(5,hap 69514 (ap aQ (bytes:=16) (by decide) h1))] [6] [] [69001,706900100] [(69001,.cells 28 [.own 69514,.bn]),(69514,.slice 31 2 (ml aQ l_1) 0 false)]<|qGs [(1,hto (sE (by omega) hx1 (by decide)))] [2] [(2,i6 (j1+1:Int))]<|Exists.intro l_1 (And.intro hm (aV.go [.sw 69514 706900100] [] (by kernel_rfl)))
 rintro j1 m_1 hj1 hl1 hm
 rw[hK1]at hm
 refine A.seq<|qDs [] [] [(6,.bool (decide ((j1:Int)≤(4:Int))))] ?_
 refine A.cF rfl (gtF hl1)<|A.exit<|A.seq<|qDs [(0,hba (aah (n:=3) sD underlying179 sizeOf3)),(1,hba (aah (n:=3) sD underlying179 sizeOf3)),(2,hba (aah (n:=3) sD underlying179 sizeOf3)),(3,hba (aah (n:=3) sD underlying179 sizeOf3)),(4,hba (aah (n:=3) sD underlying179 sizeOf3)),(6,hto (lnE pG ([(aZ.mk (1:Int) (2:Int) (2:Int)),(aZ.mk (1:Int) (3:Int) (3:Int)),(aZ.mk (1:Int) (4:Int) (3:Int)),(aZ.mk (2:Int) (3:Int) (2:Int)),(aZ.mk (2:Int) (4:Int) (2:Int))]:List aZ)))] [2,6] [(21,.lst true (ml pG ([(aZ.mk (1:Int) (2:Int) (2:Int)),(aZ.mk (1:Int) (3:Int) (3:Int)),(aZ.mk (1:Int) (4:Int) (3:Int)),(aZ.mk (2:Int) (3:Int) (2:Int)),(aZ.mk (2:Int) (4:Int) (2:Int))]:List aZ))),(22,i6 (([(aZ.mk (1:Int) (2:Int) (2:Int)),(aZ.mk (1:Int) (3:Int) (3:Int)),(aZ.mk (1:Int) (4:Int) (3:Int)),(aZ.mk (2:Int) (3:Int) (2:Int)),(aZ.mk (2:Int) (4:Int) (2:Int))]:List aZ).length:Int)),(23,i6 0)]<|A.block<|A.bS 21 rfl λhb2=>?_
 obtain⟨B2,K2,hB2,hK2,hm⟩:=bf hm
 refine A.lpI (l:=([(aZ.mk (1:Int) (2:Int) (2:Int)),(aZ.mk (1:Int) (3:Int) (3:Int)),(aZ.mk (1:Int) (4:Int) (3:Int)),(aZ.mk (2:Int) (3:Int) (2:Int)),(aZ.mk (2:Int) (4:Int) (2:Int))]:List aZ)) (j0:=0) (B:=B2) (K:=K2) hm (λj2=>λm_2=>[(0,.ptr 69000 0),(1,.ptr 69001 0),(21,.lst true (ml pG ([(aZ.mk (1:Int) (2:Int) (2:Int)),(aZ.mk (1:Int) (3:Int) (3:Int)),(aZ.mk (1:Int) (4:Int) (3:Int)),(aZ.mk (2:Int) (3:Int) (2:Int)),(aZ.mk (2:Int) (4:Int) (2:Int))]:List aZ))),(22,i6 (([(aZ.mk (1:Int) (2:Int) (2:Int)),(aZ.mk (1:Int) (3:Int) (3:Int)),(aZ.mk (1:Int) (4:Int) (3:Int)),(aZ.mk (2:Int) (3:Int) (2:Int)),(aZ.mk (2:Int) (4:Int) (2:Int))]:List aZ).length:Int)),(23,i6 (j2:Int))]) (λj2=>λm_2=>[(69000,.cells 28 [.bn,.bn]),(69001,.cells 28 [.own 706900100,.own 706900101]),(706900100,.slice 31 2 (ml aQ m_1) 0 false),(706900101,.slice 62 5 (ml bG m_2) 0 false)]) ?_ ?_ ?_
 ·exact aV.go [.ac 69001 706900101 62 5 1] [] (by kernel_rfl)
 ·rintro j2 e2 Z2 m_2 hj2 hx2 hm
  rw[hB2]at hm
  refine qDs [] [] [(24,.bool (decide ((j2:Int)<(([(aZ.mk (1:Int) (2:Int) (2:Int)),(aZ.mk (1:Int) (3:Int) (3:Int)),(aZ.mk (1:Int) (4:Int) (3:Int)),(aZ.mk (2:Int) (3:Int) (2:Int)),(aZ.mk (2:Int) (4:Int) (2:Int))]:List aZ).length:Int))))]<|A.seq<|qT (ltT hx2)<|A.skip<|A.seq<|A.block<|qD [(0,hix (ix pG (bh hx2))),(2,.al 69004)] [24] [(4,.ptr 69004 0)] [] [(69004,.cells 179 [i6 e2.E0,i6 e2.E1,i6 e2.E2])] ?_
  obtain⟨l_2,h2,hm⟩:=aa hm
  exact qG [(2,hia underlying179 sizeOf3),(4,hia underlying179 sizeOf3),(6,hia underlying179 sizeOf3),(8,hia underlying179 sizeOf3),(12,hap 69539 (ap bG (bytes:=40) (by decide) h2))] [4] [] [69001,706900101,69004] [(69001,.cells 28 [.own 706900100,.own 69539]),(69539,.slice 62 5 (ml bG l_2) 0 false)]<|qGs [(0,hto (inc hx2 hb2))] [23] [(23,i6 ((j2+1:Nat):Int))]<|Exists.intro l_2 (And.intro hm (aV.go [.sw 69539 706900101] [] (by kernel_rfl)))
 rintro j2 m_2 hj2 hl2 hm
 rw[hK2]at hm
 refine qDs [] [] [(24,.bool (decide ((j2:Int)<(([(aZ.mk (1:Int) (2:Int) (2:Int)),(aZ.mk (1:Int) (3:Int) (3:Int)),(aZ.mk (1:Int) (4:Int) (3:Int)),(aZ.mk (2:Int) (3:Int) (2:Int)),(aZ.mk (2:Int) (4:Int) (2:Int))]:List aZ).length:Int))))]<|A.seq<|qF (ltF hl2)<|A.exit<|qD [] [1,21,22,23,24] [] [69000,69001] [(69000,.cells 28 [.own 706900100,.own 706900101])]<|A.ret ?_
 obtain rfl:=some_inj hm
 exact A.fin W0 [.fz [706900100,706900101]] rfl (by kernel_rfl)
theorem qt{r:Bool}(hm:iY=some r):RO prog 18 [] [] (.bool r):=by
 refine aY func18 rfl rfl ?_
 unfold iY at hm
 refine qS [] [] [] ?_
 obtain⟨az,h1,hm⟩:=aa hm
 refine A.RY W0 2 [3,4,5,6,7,8,9,10] [] [(0,hro (qQ h1) alx)] (nj hm) alq (by kernel_rfl) (by kernel_rfl) (by kernel_rfl) (by rintro _ _ ⟨rfl,_,_,rfl⟩;exact⟨rfl,rfl⟩) ?_
 rintro _ _ ⟨rfl,aD,hm,rfl⟩
 try dsimp only at hm
 refine⟨[(7,.al 18001)],[(1,.ptr 18001 0),(2,i6 aD.2.1),(3,i6 aD.2.2)],[(18001,.cells 36 (k6 aD.1))],by kernel_rfl,?_⟩
 obtain⟨bt,h2,hm⟩:=aa hm
 obtain⟨bJ,h3,hm⟩:=aa hm
 refine qS [(0,hro (qQ h2) alx),(9,hro (qy h3) ck48)] [(1,.ptr 18001 0),(2,i6 aD.2.1),(3,i6 aD.2.2),(4,i6 bJ.1),(5,i6 bJ.2)] [(18001,.cells 36 (k6 aD.1))]<|A.mid [(0,.bool ((decide (aD.2.2=0))&&((decide (bJ.2=0))&&((decide (aD.2.1=6))&&((decide (bJ.1=5))&&(decide (1<(aD.1.Links.length:Int))))))))] [] (λhk=>?_) ?_
 ·rcases tf (decide (aD.2.2=0))with c1|c1
  ·rcases tf (decide (bJ.2=0))with c2|c2
   ·rcases tf (decide (aD.2.1=6))with c3|c3
    ·rcases tf (decide (bJ.1=5))with c4|c4
     ·exact qS [(2,hto (bE c1)),(6,hto (bE c2)),(10,hto (bE c3)),(14,hto (bE c4)),(17,hto (lnE br aD.1.Links)),(20,hto ((((jC (q:=decide (1<(aD.1.Links.length:Int))) c4).trans (jC (q:=((decide (bJ.1=5))&&(decide (1<(aD.1.Links.length:Int))))) c3)).trans (jC (q:=((decide (aD.2.1=6))&&((decide (bJ.1=5))&&(decide (1<(aD.1.Links.length:Int)))))) c2)).trans (jC (q:=((decide (bJ.2=0))&&((decide (aD.2.1=6))&&((decide (bJ.1=5))&&(decide (1<(aD.1.Links.length:Int))))))) c1)))] _ _ hk
     exact qS [(2,hto (bE c1)),(6,hto (bE c2)),(10,hto (bE c3)),(14,hto (bE c4)),(20,hto ((((mN (q:=decide (1<(aD.1.Links.length:Int))) c4).trans (jC (q:=((decide (bJ.1=5))&&(decide (1<(aD.1.Links.length:Int))))) c3)).trans (jC (q:=((decide (aD.2.1=6))&&((decide (bJ.1=5))&&(decide (1<(aD.1.Links.length:Int)))))) c2)).trans (jC (q:=((decide (bJ.2=0))&&((decide (aD.2.1=6))&&((decide (bJ.1=5))&&(decide (1<(aD.1.Links.length:Int))))))) c1)))] _ _ hk
    exact qS [(2,hto (bE c1)),(6,hto (bE c2)),(10,hto (bE c3)),(20,hto (((mN (q:=((decide (bJ.1=5))&&(decide (1<(aD.1.Links.length:Int))))) c3).trans (jC (q:=((decide (aD.2.1=6))&&((decide (bJ.1=5))&&(decide (1<(aD.1.Links.length:Int)))))) c2)).trans (jC (q:=((decide (bJ.2=0))&&((decide (aD.2.1=6))&&((decide (bJ.1=5))&&(decide (1<(aD.1.Links.length:Int))))))) c1)))] _ _ hk
   exact qS [(2,hto (bE c1)),(6,hto (bE c2)),(20,hto ((mN (q:=((decide (aD.2.1=6))&&((decide (bJ.1=5))&&(decide (1<(aD.1.Links.length:Int)))))) c2).trans (jC (q:=((decide (bJ.2=0))&&((decide (aD.2.1=6))&&((decide (bJ.1=5))&&(decide (1<(aD.1.Links.length:Int))))))) c1)))] _ _ hk
  exact qS [(2,hto (bE c1)),(20,hto (mN (q:=((decide (bJ.2=0))&&((decide (aD.2.1=6))&&((decide (bJ.1=5))&&(decide (1<(aD.1.Links.length:Int))))))) c1))] _ _ hk
 cases hm
 exact A.ret qE
end Go.Proofs.YtmnbolcmepihlaaGreat
