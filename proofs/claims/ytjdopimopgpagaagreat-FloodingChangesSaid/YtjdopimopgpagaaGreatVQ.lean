/- The ew of cA of the program. No condition but bM bw stand in each. -/
import Derived.Test.YtjdopimopgpagaaGreatVX
import Derived.Test.YtjdopimopgpagaaGreatVO
namespace Go.Proofs.YtjdopimopgpagaaGreat
open Go Go.Proofs.Tryz
set_option maxRecDepth 100000
set_option linter.all false
variable {f:aB}
theorem eA{r:aA}(hm:dM f=some r):RO prog 23 [] [.agg (k12 f)] (.agg (k2 r)):=by
 refine aZ func23 rfl rfl ?_
 unfold dM at hm
 refine qS [(0,.al 23001),(1,.al 23002)] [(1,.ptr 23001 0),(2,.ptr 23002 0)] [(23001,.cells 27 (k12 f)),(23002,.cells 45 [.aI,.aI])]<|qD [(3,.al 23003)] [] [(3,.ptr 23003 0)] [] [(23003,.cells 45 [.aI,lf az f.Links])]<|A.seq<|qDs [] [] [(4,i6 0)]<|A.block<|A.bC 1 1 rfl rfl rfl λhb1=>?_
 obtain⟨B1,K1,hB1,hK1,hm⟩:=bu hm
 refine A.lpI (l:=f.aF) (j0:=0) (B:=B1) (K:=K1) hm (λj1=>λm_1=>[(1,.ptr 23001 0),(2,.ptr 23002 0),(3,.ptr 23003 0),(4,i6 (j1:Int))]) (λj1=>λm_1=>[(23001,.cells 27 (k12 f)),(23002,.cells 45 [.aI,.aI]),(23003,.cells 45 [.own 702300300,lf az f.Links]),(702300300,.slice 93 2 (ml aU m_1) 0 false)]) ?_ ?_ ?_
 ·exact bz.go [.ac 23003 702300300 93 2 0] [] (by kernel_rfl)
 ·rintro j1 e1 Z1 m_1 hj1 hx1 hm
  rw[hB1]at hm
  refine A.seq<|qDs [(3,hto (lnE aL f.aF))] [] [(12,.bool (decide ((j1:Int)<(f.aF.length:Int))))] ?_
  refine qT (ltT hx1)<|A.skip<|A.seq<|A.block ?_
  obtain⟨l_1,h1,hm⟩:=aa hm
  exact qG [(5,hix (ix aL (bf hx1))),(11,hix (ix aL (bf hx1))),(16,hap 23531 (ap aU (bytes:=16) (by decide) h1))] [12] [] [23003,702300300] [(23003,.cells 45 [.own 23531,lf az f.Links]),(23531,.slice 93 2 (ml aU l_1) 0 false)]<|qGs [(1,hto (inc hx1 hb1))] [4] [(4,i6 ((j1+1:Nat):Int))]<|Exists.intro l_1 (And.intro hm (bz.go [.sw 23531 702300300] [] (by kernel_rfl)))
 rintro j1 m_1 hj1 hl1 hm
 rw[hK1]at hm
 refine A.seq<|qDs [(3,hto (lnE aL f.aF))] [] [(12,.bool (decide ((j1:Int)<(f.aF.length:Int))))] ?_
 refine qF (ltF hl1)<|A.exit<|qD [] [1,3,4,12] [] [23001,23002,23003] [(23002,.cells 45 [.own 702300300,lf az f.Links])]<|A.ret ?_
 obtain rfl:=some_inj hm
 exact A.fin W0 [.fz [702300300]] rfl (by kernel_rfl)
theorem xS{r:aA}(hm:dM f=some r):RO prog 23 [(506002300,.slice 75 3 (ml aJ f.ay) 0 false)] [.agg [lf az f.Links,lf aL f.aF,.own 506002300]] (.agg (k2 r)):=by
 refine aZ func23 rfl rfl ?_
 unfold dM at hm
 refine qS [(0,.al 23001),(1,.al 23002)] [(1,.ptr 23001 0),(2,.ptr 23002 0)] [(506002300,.slice 75 3 (ml aJ f.ay) 0 false),(23001,.cells 27 [lf az f.Links,lf aL f.aF,.own 506002300]),(23002,.cells 45 [.aI,.aI])]<|qD [(3,.al 23003)] [] [(3,.ptr 23003 0)] [] [(23003,.cells 45 [.aI,lf az f.Links])]<|A.seq<|qDs [] [] [(4,i6 0)]<|A.block<|A.bC 1 1 rfl rfl rfl λhb1=>?_
 obtain⟨B1,K1,hB1,hK1,hm⟩:=bu hm
 refine A.lpI (l:=f.aF) (j0:=0) (B:=B1) (K:=K1) hm (λj1=>λm_1=>[(1,.ptr 23001 0),(2,.ptr 23002 0),(3,.ptr 23003 0),(4,i6 (j1:Int))]) (λj1=>λm_1=>[(506002300,.slice 75 3 (ml aJ f.ay) 0 false),(23001,.cells 27 [lf az f.Links,lf aL f.aF,.own 506002300]),(23002,.cells 45 [.aI,.aI]),(23003,.cells 45 [.own 702300300,lf az f.Links]),(702300300,.slice 93 2 (ml aU m_1) 0 false)]) ?_ ?_ ?_
 ·exact bz.go [.ac 23003 702300300 93 2 0] [] (by kernel_rfl)
 ·rintro j1 e1 Z1 m_1 hj1 hx1 hm
  rw[hB1]at hm
  refine A.seq<|qDs [(3,hto (lnE aL f.aF))] [] [(12,.bool (decide ((j1:Int)<(f.aF.length:Int))))] ?_
  refine qT (ltT hx1)<|A.skip<|A.seq<|A.block ?_
  obtain⟨l_1,h1,hm⟩:=aa hm
  exact qG [(5,hix (ix aL (bf hx1))),(11,hix (ix aL (bf hx1))),(16,hap 23531 (ap aU (bytes:=16) (by decide) h1))] [12] [] [23003,702300300] [(23003,.cells 45 [.own 23531,lf az f.Links]),(23531,.slice 93 2 (ml aU l_1) 0 false)]<|qGs [(1,hto (inc hx1 hb1))] [4] [(4,i6 ((j1+1:Nat):Int))]<|Exists.intro l_1 (And.intro hm (bz.go [.sw 23531 702300300] [] (by kernel_rfl)))
 rintro j1 m_1 hj1 hl1 hm
 rw[hK1]at hm
 refine A.seq<|qDs [(3,hto (lnE aL f.aF))] [] [(12,.bool (decide ((j1:Int)<(f.aF.length:Int))))] ?_
 refine qF (ltF hl1)<|A.exit<|qD [] [1,3,4,12] [] [23001,23002,23003] [(23002,.cells 45 [.own 702300300,lf az f.Links])]<|A.ret ?_
 obtain rfl:=some_inj hm
 exact A.fin W0 [.fz [702300300]] rfl (by kernel_rfl)
theorem iC{aN:Int}{r:Int}(hm:kR f aN=some r):RO prog 89 [] [.agg (k12 f),i6 aN] (i6 r):=by
 refine aZ func89 rfl rfl ?_
 unfold kR at hm
 refine qS [(0,.al 89002)] [(1,i6 aN),(2,.ptr 89002 0)] [(89002,.cells 27 (k12 f))]<|A.seq<|qDs [] [] [(5,i6 0)]<|A.block<|A.bC 2 1 rfl rfl rfl λhb1=>?_
 obtain⟨B1,K1,hB1,hK1,hm⟩:=bu hm
 refine A.lpI (l:=f.aF) (j0:=0) (B:=B1) (K:=K1) hm (λj1=>λ()=>[(1,i6 aN),(2,.ptr 89002 0),(5,i6 (j1:Int))]) (λj1=>λ()=>[(89002,.cells 27 (k12 f))]) ?_ ?_ ?_
 ·exact qW
 ·rintro j1 e1 Z1 ⟨⟩ hj1 hx1 hm
  rw[hB1]at hm
  refine A.seq<|qDs [(3,hto (lnE aL f.aF))] [] [(10,.bool (decide ((j1:Int)<(f.aF.length:Int))))] ?_
  refine qT (ltT hx1)<|A.skip<|A.seq<|A.block<|qDs [(3,hix (ix aL (bf hx1)))] [10] [(20,.bool (decide (e1.ah=aN)))] ?_
  rcases aq hm with⟨c1,hm⟩|⟨c1,hm⟩
  ·refine qT c1<|qS [] [(4,i6 (j1:Int))] [] ?_
   cases hm
   exact A.ret qE
  exact qF c1<|A.skip<|qGs [(1,hto (inc hx1 hb1))] [5,20] [(5,i6 ((j1+1:Nat):Int))]<|qX () hm
 rintro j1 ⟨⟩ hj1 hl1 hm
 rw[hK1]at hm
 refine A.seq<|qDs [(3,hto (lnE aL f.aF))] [] [(10,.bool (decide ((j1:Int)<(f.aF.length:Int))))] ?_
 refine qF (ltF hl1)<|A.exit<|qS [] [(4,i6 (-1))] [] ?_
 cases hm
 exact A.ret qE
variable {r:Bool}
theorem vA(hm:mh f=some r):RO prog 66 [] [.agg (k12 f)] (.bool r):=by
 refine aZ func66 rfl rfl ?_
 unfold mh at hm
 refine qS [(0,.al 66001)] [(1,.ptr 66001 0)] [(66001,.cells 27 (k12 f))]<|A.seq ?_
 obtain⟨J1,hJ1,hm⟩:=bI hm
 refine A.J (J:=J1) (r:=r) (λv_1=>[(1,.ptr 66001 0),(16,.bool v_1)]) (λv_1=>[(66001,.cells 27 (k12 f))]) ?_ ?_
 ·obtain⟨af,h1,hm⟩:=aa hm
  obtain⟨aD,h2,hm⟩:=aa hm
  rcases aq hm with⟨c1,hm⟩|⟨c1,hm⟩
  ·exact qGs [(1,hro (eA h1) wA),(2,hro (iz h2) aaQ),(4,hto (bE c1))] [] [(16,.bool true)]<|qX true hm
  exact qGs [(1,hro (eA h1) wA),(2,hro (iz h2) aaQ),(4,hto (bE c1)),(7,hto (lnE aJ f.ay))] [] [(16,.bool (decide (400<(f.ay.length:Int))))]<|qX (decide (400<(f.ay.length:Int))) hm
 rintro v_1 hm
 rw[hJ1]at hm
 rcases aq hm with⟨c2,hm⟩|⟨c2,hm⟩
 ·refine qT c2<|qS [] [(2,.bool false)] [] ?_
  cases hm
  exact A.ret qE
 refine qF c2<|A.skip<|A.seq<|qDs [] [16] [(3,i6 0)]<|A.block<|A.bC 1 1 rfl rfl rfl λhb1=>?_
 obtain⟨B1,K1,hB1,hK1,hm⟩:=bu hm
 refine A.lpI (l:=f.aF) (j0:=0) (B:=B1) (K:=K1) hm (λj1=>λ()=>[(1,.ptr 66001 0),(3,i6 (j1:Int))]) (λj1=>λ()=>[(66001,.cells 27 (k12 f))]) ?_ ?_ ?_
 ·exact qW
 ·rintro j1 e1 Z1 ⟨⟩ hj1 hx1 hm
  rw[hB1]at hm
  refine A.seq<|qDs [(3,hto (lnE aL f.aF))] [] [(21,.bool (decide ((j1:Int)<(f.aF.length:Int))))] ?_
  refine qT (ltT hx1)<|A.skip<|A.seq<|A.block<|qD [(3,hix (ix aL (bf hx1))),(5,.al 66004)] [21] [(4,.ptr 66004 0)] [] [(66004,.cells 53 (k9 e1))] ?_
  obtain⟨J2,hJ2,hm⟩:=bI hm
  refine A.J (J:=J2) (r:=r) (λv_2=>[(1,.ptr 66001 0),(3,i6 (j1:Int)),(48,.bool v_2)]) (λv_2=>[(66001,.cells 27 (k12 f))]) ?_ ?_
  ·rcases aq hm with⟨c3,hm⟩|⟨c3,hm⟩
   ·exact qG [(3,hto (bE c3))] [4] [(48,.bool true)] [66004] []<|qX true hm
   rcases aq hm with⟨c4,hm⟩|⟨c4,hm⟩
   ·exact qG [(3,hto (bE c3)),(8,hto (bE c4))] [4] [(48,.bool true)] [66004] []<|qX true hm
   obtain⟨aP,h3,hm⟩:=aa hm
   rcases aq hm with⟨c5,hm⟩|⟨c5,hm⟩
   ·exact qG [(3,hto (bE c3)),(8,hto (bE c4)),(11,hro (mW h3) agd),(14,hto (bE c5))] [4] [(48,.bool true)] [66004] []<|qX true hm
   obtain⟨bt,h4,hm⟩:=aa hm
   exact qG [(3,hto (bE c3)),(8,hto (bE c4)),(11,hro (mW h3) agd),(14,hto (bE c5)),(17,hro (og h4) af9)] [4] [(48,.bool (!decide (bt=0)))] [66004] []<|qX (!decide (bt=0)) hm
  rintro v_2 hm
  rw[hJ2]at hm
  rcases aq hm with⟨c6,hm⟩|⟨c6,hm⟩
  ·refine qT c6<|qS [] [(2,.bool false)] [] ?_
   cases hm
   exact A.ret qE
  exact qF c6<|A.skip<|qGs [(1,hto (inc hx1 hb1))] [3,48] [(3,i6 ((j1+1:Nat):Int))]<|qX () hm
 rintro j1 ⟨⟩ hj1 hl1 hm
 rw[hK1]at hm
 refine A.seq<|qDs [(3,hto (lnE aL f.aF))] [] [(21,.bool (decide ((j1:Int)<(f.aF.length:Int))))] ?_
 refine qF (ltF hl1)<|A.exit<|A.seq<|qDs [] [3,21] [(5,i6 0)]<|A.block<|A.bC 1 2 rfl rfl rfl λhb2=>?_
 obtain⟨B2,K2,hB2,hK2,hm⟩:=bu hm
 refine A.lpI (l:=f.ay) (j0:=0) (B:=B2) (K:=K2) hm (λj2=>λ()=>[(1,.ptr 66001 0),(5,i6 (j2:Int))]) (λj2=>λ()=>[(66001,.cells 27 (k12 f))]) ?_ ?_ ?_
 ·exact qW
 ·rintro j2 e2 Z2 ⟨⟩ hj2 hx2 hm
  rw[hB2]at hm
  refine A.seq<|qDs [(3,hto (lnE aJ f.ay))] [] [(53,.bool (decide ((j2:Int)<(f.ay.length:Int))))] ?_
  refine qT (ltT hx2)<|A.skip<|A.seq<|A.block<|qD [(3,hix (ix aJ (bf hx2))),(5,.al 66006)] [53] [(6,.ptr 66006 0)] [] [(66006,.cells 75 (k10 e2))] ?_
  obtain⟨J3,hJ3,hm⟩:=bI hm
  refine A.J (J:=J3) (r:=r) (λv_3=>[(1,.ptr 66001 0),(5,i6 (j2:Int)),(85,.bool v_3)]) (λv_3=>[(66001,.cells 27 (k12 f))]) ?_ ?_
  ·obtain⟨bF,h5,hm⟩:=aa hm
   rcases aq hm with⟨c7,hm⟩|⟨c7,hm⟩
   ·exact qG [(3,hro (iC h5) aaS),(5,hto (bE c7))] [6] [(85,.bool true)] [66006] []<|qX true hm
   obtain⟨cg,h6,hm⟩:=aa hm
   rcases aq hm with⟨c8,hm⟩|⟨c8,hm⟩
   ·exact qG [(3,hro (iC h5) aaS),(5,hto (bE c7)),(9,hro (iC h6) aaS),(12,hto (bE c8))] [6] [(85,.bool true)] [66006] []<|qX true hm
   rcases aq hm with⟨c9,hm⟩|⟨c9,hm⟩
   ·exact qG [(3,hro (iC h5) aaS),(5,hto (bE c7)),(9,hro (iC h6) aaS),(12,hto (bE c8)),(19,hto (bE c9))] [6] [(85,.bool true)] [66006] []<|qX true hm
   obtain⟨cw,h7,hm⟩:=aa hm
   exact qG [(3,hro (iC h5) aaS),(5,hto (bE c7)),(9,hro (iC h6) aaS),(12,hto (bE c8)),(19,hto (bE c9)),(22,hro (og h7) af9)] [6] [(85,.bool (!decide (cw=0)))] [66006] []<|qX (!decide (cw=0)) hm
  rintro v_3 hm
  rw[hJ3]at hm
  rcases aq hm with⟨c10,hm⟩|⟨c10,hm⟩
  ·refine qT c10<|qS [] [(2,.bool false)] [] ?_
   cases hm
   exact A.ret qE
  exact qF c10<|A.skip<|qGs [(1,hto (inc hx2 hb2))] [5,85] [(5,i6 ((j2+1:Nat):Int))]<|qX () hm
 rintro j2 ⟨⟩ hj2 hl2 hm
 rw[hK2]at hm
 refine A.seq<|qDs [(3,hto (lnE aJ f.ay))] [] [(53,.bool (decide ((j2:Int)<(f.ay.length:Int))))] ?_
 refine qF (ltF hl2)<|A.exit<|qS [] [(2,.bool true)] [] ?_
 cases hm
 exact A.ret qE
variable {i:Int}
theorem tc{seq:Int}{r:ai×Bool}(hm:jS f i seq=some r):RO prog 90 [] [.agg (k12 f),i6 i,i6 seq] (.tup [.agg (k7 r.1),.bool r.2]):=by
 refine aZ func90 rfl rfl ?_
 unfold jS at hm
 refine qS [(0,.al 90003),(1,.al 90006)] [(1,i6 i),(2,i6 seq),(3,.ptr 90003 0),(6,.ptr 90006 0)] [(90003,.cells 27 (k12 f)),(90006,.cells 66 [i6 0,i6 0,.bool false,.aI,.aI])] ?_
 obtain⟨af,h1,hm⟩:=aa hm
 obtain⟨e_1,h2,hm⟩:=aa hm
 obtain⟨aD,h3,hm⟩:=aa hm
 refine qD [(1,hro (eA h1) wA),(5,hix (ix aL h2)),(12,hix (ix aL h2)),(15,hro (adm h3) asE),(19,.al 90008)] [1,2,3] [(8,.ptr 90008 0),(9,i6 aD.2)] [90003] [(90008,.cells 66 (k7 aD.1))]<|qS [] [(6,.ptr 90006 0),(7,.bool (decide (aD.2=0)))] [(90006,.cells 66 (k7 aD.1))] ?_
 cases hm
 exact A.ret qE
theorem abF{n:aW}{r:aB}(hm:nL f i n=some r):RO prog 94 [] [.agg (k12 f),i6 i,.agg (k9 n)] (.agg (k12 r)):=by
 refine aZ func94 rfl rfl ?_
 unfold nL at hm
 refine qS [(0,.al 94003),(1,.al 94005),(2,.al 94006)] [(1,i6 i),(3,.ptr 94003 0),(5,.ptr 94005 0),(6,.ptr 94006 0)] [(94003,.cells 27 (k12 f)),(94005,.cells 53 (k9 n)),(94006,.cells 27 [.aI,.aI,.aI])]<|qDs [] [] [(7,.aI)] ?_
 obtain⟨l_1,h1,hm⟩:=aa hm
 refine qD [(3,hap 94511 (ap aL (bytes:=72) (by decide) h1))] [7] [(7,.own 94511)] [] [(94511,.slice 53 5 (ml aL l_1) 0 false)] ?_
 obtain⟨e_1,h2,hm⟩:=aa hm
 obtain⟨l_2,h3,hm⟩:=aa hm
 refine qD [(3,hix (ix aL h2)),(4,hso 94511 (st aL (off:=0) (ca:=(k9 n)) h2 h3 rfl) (iu h2).1.1)] [1,5] [] [94005,94511] [(94511,.slice 53 5 (ml aL l_2) 0 false)]<|qD [] [7] [] [94003] [(94003,.cells 27 [lf az f.Links,.own 94511,lf aJ f.ay])]<|qD [] [3] [] [94003,94006] [(94006,.cells 27 [lf az f.Links,.own 94511,lf aJ f.ay])]<|A.ret ?_
 obtain rfl:=some_inj hm
 exact A.fin W0 [.fz [94511]] rfl (by kernel_rfl)
theorem aa6{seq:Int}{r:aB}(hm:iq f i seq=some r):RO prog 93 [] [.agg (k12 f),i6 i,i6 seq] (.agg (k12 r)):=by
 refine aZ func93 rfl rfl ?_
 unfold iq at hm
 refine qS [(0,.al 93003),(1,.al 93006)] [(1,i6 i),(2,i6 seq),(3,.ptr 93003 0),(6,.ptr 93006 0)] [(93003,.cells 27 (k12 f)),(93006,.cells 27 [.aI,.aI,.aI])] ?_
 obtain⟨e_1,h1,hm⟩:=aa hm
 refine qD [(3,hix (ix aL h1)),(5,.al 93007)] [] [(7,.ptr 93007 0)] [] [(93007,.cells 53 (k9 e_1))]<|qD [] [] [] [93007] [(93007,.cells 53 [i6 e_1.ah,i6 seq,.bool e_1.aX,lf bg e_1.Claims,lf aM e_1.Database.aC])] ?_
 obtain⟨af,h2,hm⟩:=aa hm
 refine qD [(3,hro (tc h2) aiI),(7,.al 93008)] [2] [(8,.ptr 93008 0)] [] [(93008,.cells 66 (k7 af.1))] ?_
 obtain⟨aD,h3,hm⟩:=aa hm
 refine qD [(3,hro (acn h3) asG)] [8] [] [93007,93008] [(93007,.cells 53 [i6 e_1.ah,i6 seq,.bool e_1.aX,lf bg e_1.Claims,lf aM aD.1.aC])] ?_
 obtain⟨aP,h4,hm⟩:=aa hm
 refine qS [(3,hro (abF h4) ck94)] [(6,.ptr 93006 0)] [(93006,.cells 27 (k12 aP))] ?_
 cases hm
 exact A.ret qE
theorem z8{links:List aK}{r:aB×Int}(hm:jL f links=some r):RO prog 48 [] [.agg (k12 f),lf az links] (.tup [.agg (k12 r.1),i6 r.2]):=by
 refine aZ func48 rfl rfl ?_
 unfold jL at hm
 refine qS [(0,.al 48002),(1,.al 48004)] [(1,lf az links),(2,.ptr 48002 0),(4,.ptr 48004 0)] [(48002,.cells 27 (k12 f)),(48004,.cells 27 [.aI,.aI,.aI])]<|A.seq ?_
 obtain⟨af,h1,hm⟩:=aa hm
 refine qDs [(1,hro (vA h1) apc)] [] [(18,.bool (!af))] ?_
 rcases aq hm with⟨c1,hm⟩|⟨c1,hm⟩
 ·refine qT c1<|qD [] [1,2,18] [(5,i6 1)] [48002] [] ?_
  cases hm
  exact A.ret qE
 refine qF c1<|A.skip<|qD [(1,.al 48006)] [18] [(6,.ptr 48006 0)] [] [(48006,.cells 27 (k12 f))]<|qD [] [1] [] [48006] [(48006,.cells 27 [lf az links,lf aL f.aF,lf aJ f.ay])]<|A.seq ?_
 obtain⟨aD,h2,hm⟩:=aa hm
 refine qDs [(1,hro (vA h2) apc)] [] [(25,.bool (!aD))] ?_
 rcases aq hm with⟨c2,hm⟩|⟨c2,hm⟩
 ·refine qT c2<|qD [] [2,6,25] [(5,i6 1)] [48002,48006] [] ?_
  cases hm
  exact A.ret qE
 refine qF c2<|A.skip<|qD [] [25] [] [48006] [(48006,.cells 27 [lf az links,lf aL f.aF,.aI])]<|A.seq<|qDs [] [] [(7,i6 0)]<|A.block<|A.bC 2 2 rfl rfl rfl λhb1=>?_
 obtain⟨B1,K1,hB1,hK1,hm⟩:=bu hm
 refine A.lpI (l:=f.ay) (j0:=0) (B:=B1) (K:=K1) hm (λj1=>λm_1=>[(2,.ptr 48002 0),(4,.ptr 48004 0),(6,.ptr 48006 0),(7,i6 (j1:Int))]) (λj1=>λm_1=>[(48002,.cells 27 (k12 f)),(48004,.cells 27 [.aI,.aI,.aI]),(48006,.cells 27 [lf az links,lf aL f.aF,.own 704800602]),(704800602,.slice 75 3 (ml aJ m_1) 0 false)]) ?_ ?_ ?_
 ·exact bz.go [.ac 48006 704800602 75 3 2] [] (by kernel_rfl)
 ·rintro j1 e1 Z1 m_1 hj1 hx1 hm
  rw[hB1]at hm
  refine A.seq<|qDs [(3,hto (lnE aJ f.ay))] [] [(32,.bool (decide ((j1:Int)<(f.ay.length:Int))))] ?_
  refine qT (ltT hx1)<|A.skip ?_
  obtain⟨J1,hJ1,hm⟩:=bI hm
  refine A.J (J:=J1) (r:=r) (λm_2=>[(2,.ptr 48002 0),(4,.ptr 48004 0),(6,.ptr 48006 0),(7,i6 (j1:Int))]) (λm_2=>[(48002,.cells 27 (k12 f)),(48004,.cells 27 [.aI,.aI,.aI]),(48006,.cells 27 [lf az links,lf aL f.aF,.own 704800602]),(704800602,.slice 75 3 (ml aJ m_2) 0 false)]) ?_ ?_
  ·refine A.block ?_
   obtain⟨aP,h3,hm⟩:=aa hm
   obtain⟨bt,h4,hm⟩:=aa hm
   refine qDs [(1,aiv 1 (SC.at [(506002300,704800602)] (xS h3)) wA),(5,hix (ix aJ (bf hx1))),(11,hix (ix aJ (bf hx1))),(14,hro (ru h4) agb)] [32] [(9,.bool bt.2)]<|qDs [] [9] [(53,.bool bt.2)] ?_
   rcases aq hm with⟨c3,hm⟩|⟨c3,hm⟩
   ·refine qT c3 ?_
    obtain⟨l_1,h5,hm⟩:=aa hm
    exact qG [(5,hix (ix aJ (bf hx1))),(8,hap 48562 (ap aJ (bytes:=40) (by decide) h5))] [53] [] [48006,704800602] [(48006,.cells 27 [lf az links,lf aL f.aF,.own 48562]),(48562,.slice 75 3 (ml aJ l_1) 0 false)]<|Exists.intro l_1 (And.intro hm (bz.go [.sw 48562 704800602] [] (by kernel_rfl)))
   exact qF c3<|A.skip<|qX m_1 hm
  rintro m_2 hm
  rw[hJ1]at hm
  exact qGs [(1,hto (inc hx1 hb1))] [7] [(7,i6 ((j1+1:Nat):Int))]<|qX m_2 hm
 rintro j1 m_1 hj1 hl1 hm
 rw[hK1]at hm
 refine A.seq<|qDs [(3,hto (lnE aJ f.ay))] [] [(32,.bool (decide ((j1:Int)<(f.ay.length:Int))))] ?_
 refine qF (ltF hl1)<|A.exit<|A.seq<|qDs [] [7,32] [(10,i6 0)]<|A.block<|A.bC 2 1 rfl rfl rfl λhb2=>?_
 obtain⟨B2,K2,hB2,hK2,hm⟩:=bu hm
 refine A.lpI (l:=f.aF) (j0:=0) (B:=B2) (K:=K2) hm (λj2=>λ(m_3,m_4,m_5)=>[(2,.ptr 48002 0),(4,.ptr 48004 0),(6,.ptr 48006 0),(10,i6 (j2:Int))]) (λj2=>λ(m_3,m_4,m_5)=>[(48002,.cells 27 (k12 f)),(48004,.cells 27 [.aI,.aI,.aI]),(48006,.cells 27 [lf az m_3,lf aL m_4,lf aJ m_5])]) ?_ ?_ ?_
 ·exact bz.go [.fz [704800602],.sc 48006 [48002,48004,48006]] [] (by kernel_rfl)
 ·rintro j2 e2 Z2 ⟨m_3,m_4,m_5⟩ hj2 hx2 hm
  rw[hB2]at hm
  refine A.seq<|qDs [(3,hto (lnE aL f.aF))] [] [(68,.bool (decide ((j2:Int)<(f.aF.length:Int))))] ?_
  refine qT (ltT hx2)<|A.skip ?_
  obtain⟨J2,hJ2,hm⟩:=bI hm
  refine A.J (J:=J2) (r:=r) (λ(m_6,m_7,m_8)=>[(2,.ptr 48002 0),(4,.ptr 48004 0),(6,.ptr 48006 0),(10,i6 (j2:Int))]) (λ(m_6,m_7,m_8)=>[(48002,.cells 27 (k12 f)),(48004,.cells 27 [.aI,.aI,.aI]),(48006,.cells 27 [lf az m_6,lf aL m_7,lf aJ m_8])]) ?_ ?_
  ·refine A.block<|qD [(3,hix (ix aL (bf hx2))),(5,.al 48011)] [68] [(11,.ptr 48011 0)] [] [(48011,.cells 53 (k9 e2))] ?_
   obtain⟨bF,h6,hm⟩:=aa hm
   refine qD [(5,hro (tc h6) aiI),(9,.al 48012)] [] [(12,.ptr 48012 0)] [] [(48012,.cells 66 (k7 bF.1))] ?_
   obtain⟨cg,h7,hm⟩:=aa hm
   refine qD [(5,hro (tc h7) aiI),(9,.al 48014)] [] [(14,.ptr 48014 0)] [] [(48014,.cells 66 (k7 cg.1))] ?_
   obtain⟨J3,hJ3,hm⟩:=bI hm
   refine A.J (J:=J3) (r:=r) (λv_1=>[(2,.ptr 48002 0),(4,.ptr 48004 0),(6,.ptr 48006 0),(10,i6 (j2:Int)),(11,.ptr 48011 0),(107,.bool v_1)]) (λv_1=>[(48002,.cells 27 (k12 f)),(48004,.cells 27 [.aI,.aI,.aI]),(48006,.cells 27 [lf az m_3,lf aL m_4,lf aJ m_5]),(48011,.cells 53 (k9 e2))]) ?_ ?_
   ·rcases aq hm with⟨c4,hm⟩|⟨c4,hm⟩
    ·rcases aq hm with⟨c5,hm⟩|⟨c5,hm⟩
     ·obtain⟨cw,h8,hm⟩:=aa hm
      exact qG [(3,hto (bE c4)),(8,hto (bE c5)),(11,hro (vZ h8) ao4)] [12,14] [(107,.bool (!cw))] [48012,48014] []<|qX (!cw) hm
     exact qG [(3,hto (bE c4)),(8,hto (bE c5))] [12,14] [(107,.bool false)] [48012,48014] []<|qX false hm
    exact qG [(3,hto (bE c4))] [12,14] [(107,.bool false)] [48012,48014] []<|qX false hm
   rintro v_1 hm
   rw[hJ3]at hm
   rcases aq hm with⟨c6,hm⟩|⟨c6,hm⟩
   ·refine qT c6 ?_
    obtain⟨cr,h9,hm⟩:=aa hm
    exact qG [(5,hro (aa6 h9) ck93)] [11,107] [] [48006,48011] [(48006,.cells 27 (k12 cr))]<|qX (cr.Links,cr.aF,cr.ay) hm
   exact qF c6<|A.skip<|qX (m_3,m_4,m_5) hm
  rintro⟨m_6,m_7,m_8⟩ hm
  rw[hJ2]at hm
  exact qGs [(1,hto (inc hx2 hb2))] [10] [(10,i6 ((j2+1:Nat):Int))]<|qX (m_6,m_7,m_8) hm
 rintro j2 ⟨m_3,m_4,m_5⟩ hj2 hl2 hm
 rw[hK2]at hm
 refine A.seq<|qDs [(3,hto (lnE aL f.aF))] [] [(68,.bool (decide ((j2:Int)<(f.aF.length:Int))))] ?_
 refine qF (ltF hl2)<|A.exit<|qS [] [(4,.ptr 48004 0),(5,i6 0)] [(48004,.cells 27 [lf az m_3,lf aL m_4,lf aJ m_5])] ?_
 cases hm
 exact A.ret qE
theorem wg{a:aB}{b:aB}(hm:pQ a b=some r):RO prog 17 [] [.agg (k12 a),.agg (k12 b)] (.bool r):=by
 refine aZ func17 rfl rfl ?_
 unfold pQ at hm
 refine qS [(0,.al 17002),(1,.al 17003)] [(2,.ptr 17002 0),(3,.ptr 17003 0)] [(17002,.cells 27 (k12 a)),(17003,.cells 27 (k12 b))]<|A.seq ?_
 obtain⟨J1,hJ1,hm⟩:=bI hm
 refine A.J (J:=J1) (r:=r) (λv_1=>[(2,.ptr 17002 0),(3,.ptr 17003 0),(26,.bool v_1)]) (λv_1=>[(17002,.cells 27 (k12 a)),(17003,.cells 27 (k12 b))]) ?_ ?_
 ·obtain⟨af,h1,hm⟩:=aa hm
  obtain⟨aD,h2,hm⟩:=aa hm
  obtain⟨aP,h3,hm⟩:=aa hm
  rcases aq hm with⟨c1,hm⟩|⟨c1,hm⟩
  ·exact qGs [(1,hro (eA h1) wA),(3,hro (eA h2) wA),(4,hro (vW h3) ao3),(6,hto (bE c1))] [] [(26,.bool true)]<|qX true hm
  exact qGs [(1,hro (eA h1) wA),(3,hro (eA h2) wA),(4,hro (vW h3) ao3),(6,hto (bE c1)),(9,hto (lnE aJ a.ay)),(12,hto (lnE aJ b.ay))] [] [(26,.bool (!decide ((a.ay.length:Int)=(b.ay.length:Int))))]<|qX (!decide ((a.ay.length:Int)=(b.ay.length:Int))) hm
 rintro v_1 hm
 rw[hJ1]at hm
 rcases aq hm with⟨c2,hm⟩|⟨c2,hm⟩
 ·refine qT c2<|qS [] [(4,.bool false)] [] ?_
  cases hm
  exact A.ret qE
 refine qF c2<|A.skip<|A.seq<|qDs [] [26] [(5,i6 0)]<|A.block<|A.bC 2 1 rfl rfl rfl λhb1=>?_
 obtain⟨B1,K1,hB1,hK1,hm⟩:=bu hm
 refine A.lpI (l:=a.aF) (j0:=0) (B:=B1) (K:=K1) hm (λj1=>λ()=>[(2,.ptr 17002 0),(3,.ptr 17003 0),(5,i6 (j1:Int))]) (λj1=>λ()=>[(17002,.cells 27 (k12 a)),(17003,.cells 27 (k12 b))]) ?_ ?_ ?_
 ·exact qW
 ·rintro j1 e1 Z1 ⟨⟩ hj1 hx1 hm
  rw[hB1]at hm
  refine A.seq<|qDs [(3,hto (lnE aL a.aF))] [] [(31,.bool (decide ((j1:Int)<(a.aF.length:Int))))] ?_
  refine qT (ltT hx1)<|A.skip<|A.seq<|A.block ?_
  obtain⟨e_1,h4,hm⟩:=aa hm
  refine qD [(3,hix (ix aL (bf hx1))),(8,hix (ix aL h4)),(10,.al 17006),(11,.al 17007)] [31] [(6,.ptr 17006 0),(7,.ptr 17007 0)] [] [(17006,.cells 53 (k9 e1)),(17007,.cells 53 (k9 e_1))]<|A.seq ?_
  obtain⟨J2,hJ2,hm⟩:=bI hm
  refine A.J (J:=J2) (r:=r) (λv_2=>[(2,.ptr 17002 0),(3,.ptr 17003 0),(5,i6 (j1:Int)),(6,.ptr 17006 0),(7,.ptr 17007 0),(65,.bool v_2)]) (λv_2=>[(17002,.cells 27 (k12 a)),(17003,.cells 27 (k12 b)),(17006,.cells 53 (k9 e1)),(17007,.cells 53 (k9 e_1))]) ?_ ?_
  ·rcases aq hm with⟨c3,hm⟩|⟨c3,hm⟩
   ·exact qGs [(5,hto (bE c3))] [] [(65,.bool true)]<|qX true hm
   obtain⟨bt,h5,hm⟩:=aa hm
   rcases aq hm with⟨c4,hm⟩|⟨c4,hm⟩
   ·exact qGs [(5,hto (bE c3)),(10,hro (sA h5) aiH),(13,hto (bE c4))] [] [(65,.bool true)]<|qX true hm
   exact qGs [(5,hto (bE c3)),(10,hro (sA h5) aiH),(13,hto (bE c4)),(16,hto (lnE bg e1.Claims)),(19,hto (lnE bg e_1.Claims))] [] [(65,.bool (!decide ((e1.Claims.length:Int)=(e_1.Claims.length:Int))))]<|qX (!decide ((e1.Claims.length:Int)=(e_1.Claims.length:Int))) hm
  rintro v_2 hm
  rw[hJ2]at hm
  rcases aq hm with⟨c5,hm⟩|⟨c5,hm⟩
  ·refine qT c5<|qS [] [(4,.bool false)] [] ?_
   cases hm
   exact A.ret qE
  refine qF c5<|A.skip<|qDs [] [65] [(8,i6 0)]<|A.block<|A.bC 6 3 rfl rfl rfl λhb2=>?_
  obtain⟨B2,K2,hB2,hK2,hm⟩:=bu hm
  refine A.lpI (l:=e1.Claims) (j0:=0) (B:=B2) (K:=K2) hm (λj2=>λ()=>[(2,.ptr 17002 0),(3,.ptr 17003 0),(5,i6 (j1:Int)),(6,.ptr 17006 0),(7,.ptr 17007 0),(8,i6 (j2:Int))]) (λj2=>λ()=>[(17002,.cells 27 (k12 a)),(17003,.cells 27 (k12 b)),(17006,.cells 53 (k9 e1)),(17007,.cells 53 (k9 e_1))]) ?_ ?_ ?_
  ·exact qW
  ·rintro j2 e2 Z2 ⟨⟩ hj2 hx2 hm
   rw[hB2]at hm
   refine A.seq<|qDs [(3,hto (lnE bg e1.Claims))] [] [(70,.bool (decide ((j2:Int)<(e1.Claims.length:Int))))] ?_
   refine qT (ltT hx2)<|A.skip<|A.seq<|A.block ?_
   obtain⟨e_2,h6,hm⟩:=aa hm
   refine qDs [(3,hix (ix bg (bf hx2))),(8,hix (ix bg h6)),(10,.sq true 91 (.agg (k5 e2)) (.agg (k5 e_2)) (!(fZ e2 e_2)) (λx y w=>aaB x y _ _ _ _ _ _ w))] [70] [(83,.bool (!(fZ e2 e_2)))] ?_
   rcases aq hm with⟨c6,hm⟩|⟨c6,hm⟩
   ·refine qT c6<|qS [] [(4,.bool false)] [] ?_
    cases hm
    exact A.ret qE
   exact qF c6<|A.skip<|qGs [(1,hto (inc hx2 hb2))] [8,83] [(8,i6 ((j2+1:Nat):Int))]<|qX () hm
  rintro j2 ⟨⟩ hj2 hl2 hm
  rw[hK2]at hm
  refine A.seq<|qDs [(3,hto (lnE bg e1.Claims))] [] [(70,.bool (decide ((j2:Int)<(e1.Claims.length:Int))))] ?_
  exact qF (ltF hl2)<|A.exit<|qG [(1,hto (inc hx1 hb1))] [5,6,7,8,70] [(5,i6 ((j1+1:Nat):Int))] [17006,17007] []<|qX () hm
 rintro j1 ⟨⟩ hj1 hl1 hm
 rw[hK1]at hm
 refine A.seq<|qDs [(3,hto (lnE aL a.aF))] [] [(31,.bool (decide ((j1:Int)<(a.aF.length:Int))))] ?_
 refine qF (ltF hl1)<|A.exit<|A.seq<|qDs [] [5,31] [(9,i6 0)]<|A.block<|A.bC 2 2 rfl rfl rfl λhb3=>?_
 obtain⟨B3,K3,hB3,hK3,hm⟩:=bu hm
 refine A.lpI (l:=a.ay) (j0:=0) (B:=B3) (K:=K3) hm (λj3=>λ()=>[(2,.ptr 17002 0),(3,.ptr 17003 0),(9,i6 (j3:Int))]) (λj3=>λ()=>[(17002,.cells 27 (k12 a)),(17003,.cells 27 (k12 b))]) ?_ ?_ ?_
 ·exact qW
 ·rintro j3 e3 Z3 ⟨⟩ hj3 hx3 hm
  rw[hB3]at hm
  refine A.seq<|qDs [(3,hto (lnE aJ a.ay))] [] [(88,.bool (decide ((j3:Int)<(a.ay.length:Int))))] ?_
  refine qT (ltT hx3)<|A.skip<|A.seq<|A.block ?_
  obtain⟨e_3,h7,hm⟩:=aa hm
  refine qD [(3,hix (ix aJ (bf hx3))),(8,hix (ix aJ h7)),(10,.al 17010),(11,.al 17011)] [88] [(10,.ptr 17010 0),(11,.ptr 17011 0)] [] [(17010,.cells 75 (k10 e3)),(17011,.cells 75 (k10 e_3))] ?_
  obtain⟨J3,hJ3,hm⟩:=bI hm
  refine A.J (J:=J3) (r:=r) (λv_3=>[(2,.ptr 17002 0),(3,.ptr 17003 0),(9,i6 (j3:Int)),(120,.bool v_3)]) (λv_3=>[(17002,.cells 27 (k12 a)),(17003,.cells 27 (k12 b))]) ?_ ?_
  ·rcases aq hm with⟨c7,hm⟩|⟨c7,hm⟩
   ·exact qG [(5,hto (bE c7))] [10,11] [(120,.bool true)] [17010,17011] []<|qX true hm
   rcases aq hm with⟨c8,hm⟩|⟨c8,hm⟩
   ·exact qG [(5,hto (bE c7)),(12,hto (bE c8))] [10,11] [(120,.bool true)] [17010,17011] []<|qX true hm
   obtain⟨bF,h8,hm⟩:=aa hm
   exact qG [(5,hto (bE c7)),(12,hto (bE c8)),(17,hro (sA h8) aiH)] [10,11] [(120,.bool (!bF))] [17010,17011] []<|qX (!bF) hm
  rintro v_3 hm
  rw[hJ3]at hm
  rcases aq hm with⟨c9,hm⟩|⟨c9,hm⟩
  ·refine qT c9<|qS [] [(4,.bool false)] [] ?_
   cases hm
   exact A.ret qE
  exact qF c9<|A.skip<|qGs [(1,hto (inc hx3 hb3))] [9,120] [(9,i6 ((j3+1:Nat):Int))]<|qX () hm
 rintro j3 ⟨⟩ hj3 hl3 hm
 rw[hK3]at hm
 refine A.seq<|qDs [(3,hto (lnE aJ a.ay))] [] [(88,.bool (decide ((j3:Int)<(a.ay.length:Int))))] ?_
 refine qF (ltF hl3)<|A.exit<|qS [] [(4,.bool true)] [] ?_
 cases hm
 exact A.ret qE
end Go.Proofs.YtjdopimopgpagaaGreat
