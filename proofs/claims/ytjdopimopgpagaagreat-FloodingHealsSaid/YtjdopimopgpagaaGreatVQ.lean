/- The eN of cu of the program. No condition but bH bq stand in each. -/
import Derived.Test.YtjdopimopgpagaaGreatVX
import Derived.Test.YtjdopimopgpagaaGreatVO
namespace Go.Proofs.YtjdopimopgpagaaGreat
open Go Go.Proofs.Tryz
set_option maxRecDepth 100000
set_option linter.all false
variable {f:aj}
theorem mm{r:aB}(hm:eE f=some r):RO prog 23 [] [.agg (k12 f)] (.agg (k2 r)):=by
 refine aZ func23 rfl rfl ?_
 unfold eE at hm
 refine qS [(0,.al 23001),(1,.al 23002)] [(1,.ptr 23001 0),(2,.ptr 23002 0)] [(23001,.cells 27 (k12 f)),(23002,.cells 45 [.aH,.aH])]<|qD [(3,.al 23003)] [] [(3,.ptr 23003 0)] [] [(23003,.cells 45 [.aH,lf aC f.Links])]<|A.seq<|qDs [] [] [(4,i6 0)]<|A.block<|A.bC 1 1 rfl rfl rfl λhb1=>?_
 obtain⟨B1,K1,hB1,hK1,hm⟩:=bF hm
 refine A.lpI (l:=f.aA) (j0:=0) (B:=B1) (K:=K1) hm (λj1=>λm_1=>[(1,.ptr 23001 0),(2,.ptr 23002 0),(3,.ptr 23003 0),(4,i6 (j1:Int))]) (λj1=>λm_1=>[(23001,.cells 27 (k12 f)),(23002,.cells 45 [.aH,.aH]),(23003,.cells 45 [.own 702300300,lf aC f.Links]),(702300300,.slice 93 2 (ml aX m_1) 0 false)]) ?_ ?_ ?_
 ·exact bA.go [.ac 23003 702300300 93 2 0] [] (by kernel_rfl)
 ·rintro j1 e1 Z1 m_1 hj1 hx1 hm
  rw[hB1]at hm
  refine A.seq<|qDs [(3,hto (lnE aN f.aA))] [] [(12,.bool (decide ((j1:Int)<(f.aA.length:Int))))] ?_
  refine qT (ltT hx1)<|A.skip<|A.seq<|A.block ?_
  obtain⟨l_1,h1,hm⟩:=aa hm
  exact qG [(5,hix (ix aN (bh hx1))),(11,hix (ix aN (bh hx1))),(16,hap 23531 (ap aX (bytes:=16) (by decide) h1))] [12] [] [23003,702300300] [(23003,.cells 45 [.own 23531,lf aC f.Links]),(23531,.slice 93 2 (ml aX l_1) 0 false)]<|qGs [(1,hto (inc hx1 hb1))] [4] [(4,i6 ((j1+1:Nat):Int))]<|Exists.intro l_1 (And.intro hm (bA.go [.sw 23531 702300300] [] (by kernel_rfl)))
 rintro j1 m_1 hj1 hl1 hm
 rw[hK1]at hm
 refine A.seq<|qDs [(3,hto (lnE aN f.aA))] [] [(12,.bool (decide ((j1:Int)<(f.aA.length:Int))))] ?_
 refine qF (ltF hl1)<|A.exit<|qD [] [1,3,4,12] [] [23001,23002,23003] [(23002,.cells 45 [.own 702300300,lf aC f.Links])]<|A.ret ?_
 obtain rfl:=some_inj hm
 exact A.fin W0 [.fz [702300300]] rfl (by kernel_rfl)
theorem gZ{aM:Int}{r:Int}(hm:jC f aM=some r):RO prog 89 [] [.agg (k12 f),i6 aM] (i6 r):=by
 refine aZ func89 rfl rfl ?_
 unfold jC at hm
 refine qS [(0,.al 89002)] [(1,i6 aM),(2,.ptr 89002 0)] [(89002,.cells 27 (k12 f))]<|A.seq<|qDs [] [] [(5,i6 0)]<|A.block<|A.bC 2 1 rfl rfl rfl λhb1=>?_
 obtain⟨B1,K1,hB1,hK1,hm⟩:=bF hm
 refine A.lpI (l:=f.aA) (j0:=0) (B:=B1) (K:=K1) hm (λj1=>λ()=>[(1,i6 aM),(2,.ptr 89002 0),(5,i6 (j1:Int))]) (λj1=>λ()=>[(89002,.cells 27 (k12 f))]) ?_ ?_ ?_
 ·exact qW
 ·rintro j1 e1 Z1 ⟨⟩ hj1 hx1 hm
  rw[hB1]at hm
  refine A.seq<|qDs [(3,hto (lnE aN f.aA))] [] [(10,.bool (decide ((j1:Int)<(f.aA.length:Int))))] ?_
  refine qT (ltT hx1)<|A.skip<|A.seq<|A.block<|qDs [(3,hix (ix aN (bh hx1)))] [10] [(20,.bool (decide (e1.af=aM)))] ?_
  rcases az hm with⟨c1,hm⟩|⟨c1,hm⟩
  ·refine qT c1<|qS [] [(4,i6 (j1:Int))] [] ?_
   cases hm
   exact A.ret qE
  exact qF c1<|A.skip<|qGs [(1,hto (inc hx1 hb1))] [5,20] [(5,i6 ((j1+1:Nat):Int))]<|qX () hm
 rintro j1 ⟨⟩ hj1 hl1 hm
 rw[hK1]at hm
 refine A.seq<|qDs [(3,hto (lnE aN f.aA))] [] [(10,.bool (decide ((j1:Int)<(f.aA.length:Int))))] ?_
 refine qF (ltF hl1)<|A.exit<|qS [] [(4,i6 (-1))] [] ?_
 cases hm
 exact A.ret qE
theorem rR{r:Bool}(hm:o5 f=some r):RO prog 66 [] [.agg (k12 f)] (.bool r):=by
 refine aZ func66 rfl rfl ?_
 unfold o5 at hm
 refine qS [(0,.al 66001)] [(1,.ptr 66001 0)] [(66001,.cells 27 (k12 f))]<|A.seq ?_
 obtain⟨J1,hJ1,hm⟩:=bQ hm
 refine A.J (J:=J1) (r:=r) (λv_1=>[(1,.ptr 66001 0),(16,.bool v_1)]) (λv_1=>[(66001,.cells 27 (k12 f))]) ?_ ?_
 ·obtain⟨ah,h1,hm⟩:=aa hm
  obtain⟨aD,h2,hm⟩:=aa hm
  rcases az hm with⟨c1,hm⟩|⟨c1,hm⟩
  ·exact qGs [(1,hro (mm h1) aen),(2,hro (iP h2) aa4),(4,hto (bE c1))] [] [(16,.bool true)]<|qX true hm
  exact qGs [(1,hro (mm h1) aen),(2,hro (iP h2) aa4),(4,hto (bE c1)),(7,hto (lnE aJ f.aq))] [] [(16,.bool (decide (400<(f.aq.length:Int))))]<|qX (decide (400<(f.aq.length:Int))) hm
 rintro v_1 hm
 rw[hJ1]at hm
 rcases az hm with⟨c2,hm⟩|⟨c2,hm⟩
 ·refine qT c2<|qS [] [(2,.bool false)] [] ?_
  cases hm
  exact A.ret qE
 refine qF c2<|A.skip<|A.seq<|qDs [] [16] [(3,i6 0)]<|A.block<|A.bC 1 1 rfl rfl rfl λhb1=>?_
 obtain⟨B1,K1,hB1,hK1,hm⟩:=bF hm
 refine A.lpI (l:=f.aA) (j0:=0) (B:=B1) (K:=K1) hm (λj1=>λ()=>[(1,.ptr 66001 0),(3,i6 (j1:Int))]) (λj1=>λ()=>[(66001,.cells 27 (k12 f))]) ?_ ?_ ?_
 ·exact qW
 ·rintro j1 e1 Z1 ⟨⟩ hj1 hx1 hm
  rw[hB1]at hm
  refine A.seq<|qDs [(3,hto (lnE aN f.aA))] [] [(21,.bool (decide ((j1:Int)<(f.aA.length:Int))))] ?_
  refine qT (ltT hx1)<|A.skip<|A.seq<|A.block<|qD [(3,hix (ix aN (bh hx1))),(5,.al 66004)] [21] [(4,.ptr 66004 0)] [] [(66004,.cells 53 (k9 e1))] ?_
  obtain⟨J2,hJ2,hm⟩:=bQ hm
  refine A.J (J:=J2) (r:=r) (λv_2=>[(1,.ptr 66001 0),(3,i6 (j1:Int)),(48,.bool v_2)]) (λv_2=>[(66001,.cells 27 (k12 f))]) ?_ ?_
  ·rcases az hm with⟨c3,hm⟩|⟨c3,hm⟩
   ·exact qG [(3,hto (bE c3))] [4] [(48,.bool true)] [66004] []<|qX true hm
   rcases az hm with⟨c4,hm⟩|⟨c4,hm⟩
   ·exact qG [(3,hto (bE c3)),(8,hto (bE c4))] [4] [(48,.bool true)] [66004] []<|qX true hm
   obtain⟨aP,h3,hm⟩:=aa hm
   rcases az hm with⟨c5,hm⟩|⟨c5,hm⟩
   ·exact qG [(3,hto (bE c3)),(8,hto (bE c4)),(11,hro (nE h3) agD),(14,hto (bE c5))] [4] [(48,.bool true)] [66004] []<|qX true hm
   obtain⟨bt,h4,hm⟩:=aa hm
   exact qG [(3,hto (bE c3)),(8,hto (bE c4)),(11,hro (nE h3) agD),(14,hto (bE c5)),(17,hro (vL h4) apH)] [4] [(48,.bool (!decide (bt=0)))] [66004] []<|qX (!decide (bt=0)) hm
  rintro v_2 hm
  rw[hJ2]at hm
  rcases az hm with⟨c6,hm⟩|⟨c6,hm⟩
  ·refine qT c6<|qS [] [(2,.bool false)] [] ?_
   cases hm
   exact A.ret qE
  exact qF c6<|A.skip<|qGs [(1,hto (inc hx1 hb1))] [3,48] [(3,i6 ((j1+1:Nat):Int))]<|qX () hm
 rintro j1 ⟨⟩ hj1 hl1 hm
 rw[hK1]at hm
 refine A.seq<|qDs [(3,hto (lnE aN f.aA))] [] [(21,.bool (decide ((j1:Int)<(f.aA.length:Int))))] ?_
 refine qF (ltF hl1)<|A.exit<|A.seq<|qDs [] [3,21] [(5,i6 0)]<|A.block<|A.bC 1 2 rfl rfl rfl λhb2=>?_
 obtain⟨B2,K2,hB2,hK2,hm⟩:=bF hm
 refine A.lpI (l:=f.aq) (j0:=0) (B:=B2) (K:=K2) hm (λj2=>λ()=>[(1,.ptr 66001 0),(5,i6 (j2:Int))]) (λj2=>λ()=>[(66001,.cells 27 (k12 f))]) ?_ ?_ ?_
 ·exact qW
 ·rintro j2 e2 Z2 ⟨⟩ hj2 hx2 hm
  rw[hB2]at hm
  refine A.seq<|qDs [(3,hto (lnE aJ f.aq))] [] [(53,.bool (decide ((j2:Int)<(f.aq.length:Int))))] ?_
  refine qT (ltT hx2)<|A.skip<|A.seq<|A.block<|qD [(3,hix (ix aJ (bh hx2))),(5,.al 66006)] [53] [(6,.ptr 66006 0)] [] [(66006,.cells 75 (k10 e2))] ?_
  obtain⟨J3,hJ3,hm⟩:=bQ hm
  refine A.J (J:=J3) (r:=r) (λv_3=>[(1,.ptr 66001 0),(5,i6 (j2:Int)),(85,.bool v_3)]) (λv_3=>[(66001,.cells 27 (k12 f))]) ?_ ?_
  ·obtain⟨bL,h5,hm⟩:=aa hm
   rcases az hm with⟨c7,hm⟩|⟨c7,hm⟩
   ·exact qG [(3,hro (gZ h5) zh),(5,hto (bE c7))] [6] [(85,.bool true)] [66006] []<|qX true hm
   obtain⟨cq,h6,hm⟩:=aa hm
   rcases az hm with⟨c8,hm⟩|⟨c8,hm⟩
   ·exact qG [(3,hro (gZ h5) zh),(5,hto (bE c7)),(9,hro (gZ h6) zh),(12,hto (bE c8))] [6] [(85,.bool true)] [66006] []<|qX true hm
   rcases az hm with⟨c9,hm⟩|⟨c9,hm⟩
   ·exact qG [(3,hro (gZ h5) zh),(5,hto (bE c7)),(9,hro (gZ h6) zh),(12,hto (bE c8)),(19,hto (bE c9))] [6] [(85,.bool true)] [66006] []<|qX true hm
   obtain⟨cU,h7,hm⟩:=aa hm
   exact qG [(3,hro (gZ h5) zh),(5,hto (bE c7)),(9,hro (gZ h6) zh),(12,hto (bE c8)),(19,hto (bE c9)),(22,hro (vL h7) apH)] [6] [(85,.bool (!decide (cU=0)))] [66006] []<|qX (!decide (cU=0)) hm
  rintro v_3 hm
  rw[hJ3]at hm
  rcases az hm with⟨c10,hm⟩|⟨c10,hm⟩
  ·refine qT c10<|qS [] [(2,.bool false)] [] ?_
   cases hm
   exact A.ret qE
  exact qF c10<|A.skip<|qGs [(1,hto (inc hx2 hb2))] [5,85] [(5,i6 ((j2+1:Nat):Int))]<|qX () hm
 rintro j2 ⟨⟩ hj2 hl2 hm
 rw[hK2]at hm
 refine A.seq<|qDs [(3,hto (lnE aJ f.aq))] [] [(53,.bool (decide ((j2:Int)<(f.aq.length:Int))))] ?_
 refine qF (ltF hl2)<|A.exit<|qS [] [(2,.bool true)] [] ?_
 cases hm
 exact A.ret qE
end Go.Proofs.YtjdopimopgpagaaGreat
