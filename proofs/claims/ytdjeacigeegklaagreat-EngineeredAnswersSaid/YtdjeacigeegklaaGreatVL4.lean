/- The iy of ec of the program. No condition but bU bx stand in each. -/
import Derived.Test.YtdjeacigeegklaaGreatDL4
import Derived.Test.YtdjeacigeegklaaGreatVN
import Derived.Test.YtdjeacigeegklaaGreatVX
import Derived.Test.YtdjeacigeegklaaGreatVE
import Derived.Test.YtdjeacigeegklaaGreatVL
namespace Go.Proofs.YtdjeacigeegklaaGreat
open Go Go.Proofs.Tryz
set_option maxRecDepth 100000
set_option linter.all false
theorem s7{t:List Int}{raw:aG}{top:af}{p:aD}{tree:cM}{aK:Int}{r:Bool}(hm:ja t raw top p tree aK=some r):RO prog 5 [] [lf aB t,.agg (k6 raw),.agg (k2 top),.agg (k10 p),.agg (k7 tree),i6 aK] (.bool r):=by
 refine bh func5 rfl rfl ?_
 unfold ja at hm
 refine qS [(0,.al 5007),(1,.al 5008),(2,.al 5009),(3,.al 5010)] [(0,lf aB t),(5,i6 aK),(7,.ptr 5007 0),(8,.ptr 5008 0),(9,.ptr 5009 0),(10,.ptr 5010 0)] [(5007,.cells 32 (k6 raw)),(5008,.cells 28 (k2 top)),(5009,.cells 36 (k10 p)),(5010,.cells 63 (k7 tree))]<|A.seq ?_
 obtain⟨J1,hJ1,hm⟩:=bQ hm
 refine A.J (J:=J1) (r:=r) (λv_1=>[(0,lf aB t),(5,i6 aK),(7,.ptr 5007 0),(8,.ptr 5008 0),(9,.ptr 5009 0),(10,.ptr 5010 0),(58,.bool v_1)]) (λv_1=>[(5007,.cells 32 (k6 raw)),(5008,.cells 28 (k2 top)),(5009,.cells 36 (k10 p)),(5010,.cells 63 (k7 tree))]) ?_ ?_
 ·rcases aj hm with⟨c1,hm⟩|⟨c1,hm⟩
  ·exact qGs [(2,hto (lnE ay raw.List)),(4,hto (bE c1))] [] [(58,.bool true)]<|qX true hm
  obtain⟨ai,h1,hm⟩:=aa hm
  rcases aj hm with⟨c2,hm⟩|⟨c2,hm⟩
  ·exact qGs [(2,hto (lnE ay raw.List)),(4,hto (bE c1)),(6,hro (qk h1) avW),(9,hto (bE c2))] [] [(58,.bool true)]<|qX true hm
  exact qGs [(2,hto (lnE ay raw.List)),(4,hto (bE c1)),(6,hro (qk h1) avW),(9,hto (bE c2)),(12,hto (lnE bR tree.Links))] [] [(58,.bool (decide (40<(tree.Links.length:Int))))]<|qX (decide (40<(tree.Links.length:Int))) hm
 rintro v_1 hm
 rw[hJ1]at hm
 rcases aj hm with⟨c3,hm⟩|⟨c3,hm⟩
 ·refine qT c3 ?_
  obtain⟨aI,h2,hm⟩:=aa hm
  refine qS [(0,hro (ve h2) avS)] [(12,.bool aI)] [] ?_
  cases hm
  exact A.ret qE
 refine qF c3<|A.skip ?_
 show ah _ _ _ _ _
 obtain⟨bn,h3,hm⟩:=aa hm
 refine qD [(1,hdc [900000115] (xE h3) ck9)] [0,58] [(13,.ptr 900000115 0)] [] [(900000115,.cells 115 (k5 bn))] ?_
 obtain⟨bf,h4,hm⟩:=aa hm
 refine qD [(1,hdc [] (aac h4) ck10),(2,.al 5014)] [] [(14,.ptr 5014 0)] [900000115] [(900000115,.cells 115 (k5 bf.2)),(5014,.cells 28 (k2 bf.1))] ?_
 obtain⟨bO,h5,hm⟩:=aa hm
 refine qD [(2,hdc [] (abP h5) ck30),(3,.al 5015)] [] [(15,.ptr 5015 0)] [900000115] [(900000115,.cells 115 (k5 bO.2)),(5015,.cells 32 (k6 bO.1))] ?_
 obtain⟨br,h6,hm⟩:=aa hm
 refine qD [(2,hdc [] (aaf h6) ck31),(3,.al 5016)] [] [(16,.ptr 5016 0)] [900000115] [(900000115,.cells 115 (k5 br.2)),(5016,.cells 36 (k10 br.1))] ?_
 obtain⟨cv,h7,hm⟩:=aa hm
 refine qD [(2,hdc [] (abO h7) ck32)] [] [(17,i6 cv.1)] [900000115] [(900000115,.cells 115 (k5 cv.2))]<|qD [(1,.al 5018)] [] [(18,.ptr 5018 0)] [] [(5018,.cells 28 (k2 bf.1))] ?_
 obtain⟨J2,hJ2,hm⟩:=bQ hm
 refine A.J (J:=J2) (r:=r) (λ(m_1,m_2,m_3,m_4)=>[(5,i6 aK),(7,.ptr 5007 0),(8,.ptr 5008 0),(9,.ptr 5009 0),(10,.ptr 5010 0),(13,.ptr 900000115 0),(14,.ptr 5014 0),(15,.ptr 5015 0),(16,.ptr 5016 0),(17,i6 cv.1),(18,.ptr 5018 0)]) (λ(m_1,m_2,m_3,m_4)=>[(5007,.cells 32 (k6 raw)),(5008,.cells 28 (k2 top)),(5009,.cells 36 (k10 p)),(5010,.cells 63 (k7 tree)),(900000115,.cells 115 [lf aB m_1,i6 m_2]),(5014,.cells 28 (k2 bf.1)),(5015,.cells 32 (k6 bO.1)),(5016,.cells 36 (k10 br.1)),(5018,.cells 28 [lf aJ m_3,lf bJ m_4])]) ?_ ?_
 ·refine qDs [(2,hto (lnE bJ bf.1.Links))] [] [(77,.bool (decide (0<(bf.1.Links.length:Int))))] ?_
  rcases aj hm with⟨c4,hm⟩|⟨c4,hm⟩
  ·refine qT c4 ?_
   obtain⟨dA,h8,hm⟩:=aa hm
   obtain⟨e_1,h9,hm⟩:=aa hm
   refine qD [(5,hto (lnE bJ bf.1.Links)),(6,hdc [] (bz h8) jM),(7,hix (ix bJ h9)),(9,.al 5019)] [77] [(19,.ptr 5019 0)] [900000115] [(900000115,.cells 115 (k5 dA.2)),(5019,.cells 89 (k1 e_1))] ?_
   obtain⟨kK,h10,hm⟩:=aa hm
   exact qG [(5,hro (aa4 h10) ck33)] [19] [] [5018,5019] [(5018,.cells 28 (k2 kK))]<|qX (dA.2.L,dA.2.At,kK.aq,kK.Links) hm
  exact qF c4<|A.skip<|qX (cv.2.L,cv.2.At,bf.1.aq,bf.1.Links) hm
 rintro⟨m_1,m_2,m_3,m_4⟩ hm
 rw[hJ2]at hm
 refine A.seq<|qD [(3,hto (lnE ij ([raw,bO.1]:List aG)))] [7,15] [(95,.lst true (ml ij ([raw,bO.1]:List aG))),(96,i6 (([raw,bO.1]:List aG).length:Int)),(97,i6 0)] [5007,5015] [] ?_
 refine A.block<|A.bS 95 rfl λhb1=>?_
 obtain⟨B1,K1,hB1,hK1,hm⟩:=aX hm
 refine A.lpI (l:=([raw,bO.1]:List aG)) (j0:=0) (B:=B1) (K:=K1) hm (λj1=>λ(m_5,m_6)=>[(5,i6 aK),(8,.ptr 5008 0),(9,.ptr 5009 0),(10,.ptr 5010 0),(13,.ptr 900000115 0),(14,.ptr 5014 0),(16,.ptr 5016 0),(17,i6 cv.1),(18,.ptr 5018 0),(95,.lst true (ml ij ([raw,bO.1]:List aG))),(96,i6 (([raw,bO.1]:List aG).length:Int)),(97,i6 (j1:Int))]) (λj1=>λ(m_5,m_6)=>[(5008,.cells 28 (k2 top)),(5009,.cells 36 (k10 p)),(5010,.cells 63 (k7 tree)),(900000115,.cells 115 [lf aB m_5,i6 m_6]),(5014,.cells 28 (k2 bf.1)),(5016,.cells 36 (k10 br.1)),(5018,.cells 28 [lf aJ m_3,lf bJ m_4])]) ?_ ?_ ?_
 ·exact qW
 ·rintro j1 e1 Z1 ⟨m_5,m_6⟩ hj1 hx1 hm
  rw[hB1]at hm
  refine qDs [] [] [(98,.bool (decide ((j1:Int)<(([raw,bO.1]:List aG).length:Int))))]<|A.seq<|qT (ltT hx1)<|A.skip ?_
  show ah _ _ _ _ _
  refine A.seq<|A.block ?_
  refine qD [(0,hix (ix ij (bq hx1))),(2,.al 5021)] [98] [(21,.ptr 5021 0)] [] [(5021,.cells 32 (k6 e1))] ?_
  obtain⟨gz,h11,hm⟩:=aa hm
  refine qD [(4,hdc [] (abS h11) ck34),(6,hto (lnE iL ([p,br.1,gz.1]:List aD)))] [] [(108,i6 0),(106,.lst true (ml iL ([p,br.1,gz.1]:List aD))),(107,i6 (([p,br.1,gz.1]:List aD).length:Int))] [900000115] [(900000115,.cells 115 (k5 gz.2))]<|A.block<|A.bS 106 rfl λhb2=>?_
  obtain⟨B2,K2,hB2,hK2,hm⟩:=aX hm
  refine A.lpI (l:=([p,br.1,gz.1]:List aD)) (j0:=0) (B:=B2) (K:=K2) hm (λj2=>λ(m_7,m_8)=>[(5,i6 aK),(8,.ptr 5008 0),(9,.ptr 5009 0),(10,.ptr 5010 0),(13,.ptr 900000115 0),(14,.ptr 5014 0),(16,.ptr 5016 0),(17,i6 cv.1),(18,.ptr 5018 0),(21,.ptr 5021 0),(95,.lst true (ml ij ([raw,bO.1]:List aG))),(96,i6 (([raw,bO.1]:List aG).length:Int)),(97,i6 (j1:Int)),(106,.lst true (ml iL ([p,br.1,gz.1]:List aD))),(107,i6 (([p,br.1,gz.1]:List aD).length:Int)),(108,i6 (j2:Int))]) (λj2=>λ(m_7,m_8)=>[(5008,.cells 28 (k2 top)),(5009,.cells 36 (k10 p)),(5010,.cells 63 (k7 tree)),(900000115,.cells 115 [lf aB m_7,i6 m_8]),(5014,.cells 28 (k2 bf.1)),(5016,.cells 36 (k10 br.1)),(5018,.cells 28 [lf aJ m_3,lf bJ m_4]),(5021,.cells 32 (k6 e1))]) ?_ ?_ ?_
  ·exact qW
  ·rintro j2 e2 Z2 ⟨m_7,m_8⟩ hj2 hx2 hm
   rw[hB2]at hm
   refine qDs [] [] [(109,.bool (decide ((j2:Int)<(([p,br.1,gz.1]:List aD).length:Int))))]<|A.seq<|qT (ltT hx2)<|A.skip ?_
   show ah _ _ _ _ _
   refine A.seq<|A.block ?_
   refine qD [(0,hix (ix iL (bq hx2))),(2,.al 5023)] [109] [(23,.ptr 5023 0)] [] [(5023,.cells 36 (k10 e2))]<|A.seq<|qDs [(3,hto (lnE aB ([aK,cv.1]:List Int)))] [] [(114,.lst true (ml aB ([aK,cv.1]:List Int))),(115,i6 (([aK,cv.1]:List Int).length:Int)),(116,i6 0)]<|A.block<|A.bS 114 rfl λhb3=>?_
   obtain⟨B3,K3,hB3,hK3,hm⟩:=aX hm
   refine A.lpI (l:=([aK,cv.1]:List Int)) (j0:=0) (B:=B3) (K:=K3) hm (λj3=>λ()=>[(5,i6 aK),(8,.ptr 5008 0),(9,.ptr 5009 0),(10,.ptr 5010 0),(13,.ptr 900000115 0),(14,.ptr 5014 0),(16,.ptr 5016 0),(17,i6 cv.1),(18,.ptr 5018 0),(21,.ptr 5021 0),(23,.ptr 5023 0),(95,.lst true (ml ij ([raw,bO.1]:List aG))),(96,i6 (([raw,bO.1]:List aG).length:Int)),(97,i6 (j1:Int)),(106,.lst true (ml iL ([p,br.1,gz.1]:List aD))),(107,i6 (([p,br.1,gz.1]:List aD).length:Int)),(108,i6 (j2:Int)),(114,.lst true (ml aB ([aK,cv.1]:List Int))),(115,i6 (([aK,cv.1]:List Int).length:Int)),(116,i6 (j3:Int))]) (λj3=>λ()=>[(5008,.cells 28 (k2 top)),(5009,.cells 36 (k10 p)),(5010,.cells 63 (k7 tree)),(900000115,.cells 115 [lf aB m_7,i6 m_8]),(5014,.cells 28 (k2 bf.1)),(5016,.cells 36 (k10 br.1)),(5018,.cells 28 [lf aJ m_3,lf bJ m_4]),(5021,.cells 32 (k6 e1)),(5023,.cells 36 (k10 e2))]) ?_ ?_ ?_
   ·exact qW
   ·rintro j3 e3 Z3 ⟨⟩ hj3 hx3 hm
    rw[hB3]at hm
    refine qDs [] [] [(117,.bool (decide ((j3:Int)<(([aK,cv.1]:List Int).length:Int))))]<|A.seq<|qT (ltT hx3)<|A.skip ?_
    show ah _ _ _ _ _
    refine A.seq<|A.block ?_
    refine qDs [(0,hix (ix aB (bq hx3)))] [117] [(25,i6 e3)] ?_
    obtain⟨og,h12,hm⟩:=aa hm
    refine qD [(3,hro (vr h12) ck35),(7,.al 5026)] [] [(26,.ptr 5026 0),(27,i6 og.2)] [] [(5026,.cells 46 (k12 og.1))] ?_
    obtain⟨ug,h13,hm⟩:=aa hm
    refine qD [(3,hro (tE h13) avQ),(7,.al 5028)] [] [(28,.ptr 5028 0),(29,i6 ug.2)] [] [(5028,.cells 46 (k12 ug.1))]<|A.seq ?_
    obtain⟨J3,hJ3,hm⟩:=bQ hm
    refine A.J (J:=J3) (r:=r) (λv_2=>[(5,i6 aK),(8,.ptr 5008 0),(9,.ptr 5009 0),(10,.ptr 5010 0),(13,.ptr 900000115 0),(14,.ptr 5014 0),(16,.ptr 5016 0),(17,i6 cv.1),(18,.ptr 5018 0),(21,.ptr 5021 0),(23,.ptr 5023 0),(25,i6 e3),(95,.lst true (ml ij ([raw,bO.1]:List aG))),(96,i6 (([raw,bO.1]:List aG).length:Int)),(97,i6 (j1:Int)),(106,.lst true (ml iL ([p,br.1,gz.1]:List aD))),(107,i6 (([p,br.1,gz.1]:List aD).length:Int)),(108,i6 (j2:Int)),(114,.lst true (ml aB ([aK,cv.1]:List Int))),(115,i6 (([aK,cv.1]:List Int).length:Int)),(116,i6 (j3:Int)),(142,.bool v_2)]) (λv_2=>[(5008,.cells 28 (k2 top)),(5009,.cells 36 (k10 p)),(5010,.cells 63 (k7 tree)),(900000115,.cells 115 [lf aB m_7,i6 m_8]),(5014,.cells 28 (k2 bf.1)),(5016,.cells 36 (k10 br.1)),(5018,.cells 28 [lf aJ m_3,lf bJ m_4]),(5021,.cells 32 (k6 e1)),(5023,.cells 36 (k10 e2))]) ?_ ?_
    ·rcases aj hm with⟨c5,hm⟩|⟨c5,hm⟩
     ·exact qG [(3,hto (bE c5))] [26,27,28,29] [(142,.bool true)] [5026,5028] []<|qX true hm
     obtain⟨oO,h14,hm⟩:=aa hm
     exact qG [(3,hto (bE c5)),(6,hro (wm h14) ck17)] [26,27,28,29] [(142,.bool (!oO))] [5026,5028] []<|qX (!oO) hm
    rintro v_2 hm
    rw[hJ3]at hm
    rcases aj hm with⟨c6,hm⟩|⟨c6,hm⟩
    ·refine qT c6<|qS [] [(12,.bool false)] [] ?_
     cases hm
     exact A.ret qE
    refine qF c6<|A.skip ?_
    show ah _ _ _ _ _
    refine qDs [(4,hto (lnE lD ([top,bf.1,(af.mk m_3 m_4)]:List af)))] [142] [(146,.lst true (ml lD ([top,bf.1,(af.mk m_3 m_4)]:List af))),(147,i6 (([top,bf.1,(af.mk m_3 m_4)]:List af).length:Int)),(148,i6 0)]<|A.block<|A.bS 146 rfl λhb4=>?_
    obtain⟨B4,K4,hB4,hK4,hm⟩:=aX hm
    refine A.lpI (l:=([top,bf.1,(af.mk m_3 m_4)]:List af)) (j0:=0) (B:=B4) (K:=K4) hm (λj4=>λ()=>[(5,i6 aK),(8,.ptr 5008 0),(9,.ptr 5009 0),(10,.ptr 5010 0),(13,.ptr 900000115 0),(14,.ptr 5014 0),(16,.ptr 5016 0),(17,i6 cv.1),(18,.ptr 5018 0),(21,.ptr 5021 0),(23,.ptr 5023 0),(25,i6 e3),(95,.lst true (ml ij ([raw,bO.1]:List aG))),(96,i6 (([raw,bO.1]:List aG).length:Int)),(97,i6 (j1:Int)),(106,.lst true (ml iL ([p,br.1,gz.1]:List aD))),(107,i6 (([p,br.1,gz.1]:List aD).length:Int)),(108,i6 (j2:Int)),(114,.lst true (ml aB ([aK,cv.1]:List Int))),(115,i6 (([aK,cv.1]:List Int).length:Int)),(116,i6 (j3:Int)),(146,.lst true (ml lD ([top,bf.1,(af.mk m_3 m_4)]:List af))),(147,i6 (([top,bf.1,(af.mk m_3 m_4)]:List af).length:Int)),(148,i6 (j4:Int))]) (λj4=>λ()=>[(5008,.cells 28 (k2 top)),(5009,.cells 36 (k10 p)),(5010,.cells 63 (k7 tree)),(900000115,.cells 115 [lf aB m_7,i6 m_8]),(5014,.cells 28 (k2 bf.1)),(5016,.cells 36 (k10 br.1)),(5018,.cells 28 [lf aJ m_3,lf bJ m_4]),(5021,.cells 32 (k6 e1)),(5023,.cells 36 (k10 e2))]) ?_ ?_ ?_
    ·exact qW
    ·rintro j4 e4 Z4 ⟨⟩ hj4 hx4 hm
     rw[hB4]at hm
     refine qDs [] [] [(149,.bool (decide ((j4:Int)<(([top,bf.1,(af.mk m_3 m_4)]:List af).length:Int))))]<|A.seq<|qT (ltT hx4)<|A.skip ?_
     show ah _ _ _ _ _
     refine A.seq<|A.block ?_
     refine qD [(0,hix (ix lD (bq hx4))),(2,.al 5031)] [149] [(31,.ptr 5031 0)] [] [(5031,.cells 28 (k2 e4))] ?_
     obtain⟨abT,h15,hm⟩:=aa hm
     refine qD [(4,hro (sK h15) avU),(8,.al 5032)] [] [(32,.ptr 5032 0),(33,i6 abT.2)] [] [(5032,.cells 74 (k15 abT.1))] ?_
     obtain⟨abU,h16,hm⟩:=aa hm
     refine qD [(4,hro (acu h16) ck36),(8,.al 5034)] [31] [(34,.ptr 5034 0),(35,i6 abU.2)] [5031] [(5034,.cells 74 (k15 abU.1))] ?_
     obtain⟨J4,hJ4,hm⟩:=bQ hm
     refine A.J (J:=J4) (r:=r) (λv_3=>[(5,i6 aK),(8,.ptr 5008 0),(9,.ptr 5009 0),(10,.ptr 5010 0),(13,.ptr 900000115 0),(14,.ptr 5014 0),(16,.ptr 5016 0),(17,i6 cv.1),(18,.ptr 5018 0),(21,.ptr 5021 0),(23,.ptr 5023 0),(25,i6 e3),(95,.lst true (ml ij ([raw,bO.1]:List aG))),(96,i6 (([raw,bO.1]:List aG).length:Int)),(97,i6 (j1:Int)),(106,.lst true (ml iL ([p,br.1,gz.1]:List aD))),(107,i6 (([p,br.1,gz.1]:List aD).length:Int)),(108,i6 (j2:Int)),(114,.lst true (ml aB ([aK,cv.1]:List Int))),(115,i6 (([aK,cv.1]:List Int).length:Int)),(116,i6 (j3:Int)),(146,.lst true (ml lD ([top,bf.1,(af.mk m_3 m_4)]:List af))),(147,i6 (([top,bf.1,(af.mk m_3 m_4)]:List af).length:Int)),(148,i6 (j4:Int)),(176,.bool v_3)]) (λv_3=>[(5008,.cells 28 (k2 top)),(5009,.cells 36 (k10 p)),(5010,.cells 63 (k7 tree)),(900000115,.cells 115 [lf aB m_7,i6 m_8]),(5014,.cells 28 (k2 bf.1)),(5016,.cells 36 (k10 br.1)),(5018,.cells 28 [lf aJ m_3,lf bJ m_4]),(5021,.cells 32 (k6 e1)),(5023,.cells 36 (k10 e2))]) ?_ ?_
     ·rcases aj hm with⟨c7,hm⟩|⟨c7,hm⟩
      ·exact qG [(3,hto (bE c7))] [32,33,34,35] [(176,.bool true)] [5032,5034] []<|qX true hm
      obtain⟨adF,h17,hm⟩:=aa hm
      exact qG [(3,hto (bE c7)),(6,hro (xL h17) ck37)] [32,33,34,35] [(176,.bool (!adF))] [5032,5034] []<|qX (!adF) hm
     rintro v_3 hm
     rw[hJ4]at hm
     rcases aj hm with⟨c8,hm⟩|⟨c8,hm⟩
     ·refine qT c8<|qS [] [(12,.bool false)] [] ?_
      cases hm
      exact A.ret qE
     refine qF c8<|A.skip ?_
     show ah _ _ _ _ _
     exact qGs [(0,hto (inc hx4 hb4))] [148,176] [(148,i6 ((j4+1:Nat):Int))]<|qX () hm
    rintro j4 ⟨⟩ hj4 hl4 hm
    rw[hK4]at hm
    refine qDs [] [] [(149,.bool (decide ((j4:Int)<(([top,bf.1,(af.mk m_3 m_4)]:List af).length:Int))))]<|A.seq<|qF (ltF hl4)<|A.exit ?_
    show ah _ _ _ _ _
    exact qGs [(0,hto (inc hx3 hb3))] [25,116,146,147,148,149] [(116,i6 ((j3+1:Nat):Int))]<|qX () hm
   rintro j3 ⟨⟩ hj3 hl3 hm
   rw[hK3]at hm
   refine qDs [] [] [(117,.bool (decide ((j3:Int)<(([aK,cv.1]:List Int).length:Int))))]<|A.seq<|qF (ltF hl3)<|A.exit ?_
   show ah _ _ _ _ _
   obtain⟨mI,h18,hm⟩:=aa hm
   refine qD [(4,hdc [] (adt h18) ck21),(6,hto (lnE qg ([tree,mI.1]:List cM)))] [114,115,116,117] [(186,i6 0),(184,.lst true (ml qg ([tree,mI.1]:List cM))),(185,i6 (([tree,mI.1]:List cM).length:Int))] [900000115] [(900000115,.cells 115 (k5 mI.2))]<|A.block<|A.bS 184 rfl λhb5=>?_
   obtain⟨B5,K5,hB5,hK5,hm⟩:=aX hm
   refine A.lpI (l:=([tree,mI.1]:List cM)) (j0:=0) (B:=B5) (K:=K5) hm (λj5=>λ(m_9,ir)=>[(5,i6 aK),(8,.ptr 5008 0),(9,.ptr 5009 0),(10,.ptr 5010 0),(13,.ptr 900000115 0),(14,.ptr 5014 0),(16,.ptr 5016 0),(17,i6 cv.1),(18,.ptr 5018 0),(21,.ptr 5021 0),(23,.ptr 5023 0),(95,.lst true (ml ij ([raw,bO.1]:List aG))),(96,i6 (([raw,bO.1]:List aG).length:Int)),(97,i6 (j1:Int)),(106,.lst true (ml iL ([p,br.1,gz.1]:List aD))),(107,i6 (([p,br.1,gz.1]:List aD).length:Int)),(108,i6 (j2:Int)),(184,.lst true (ml qg ([tree,mI.1]:List cM))),(185,i6 (([tree,mI.1]:List cM).length:Int)),(186,i6 (j5:Int))]) (λj5=>λ(m_9,ir)=>[(5008,.cells 28 (k2 top)),(5009,.cells 36 (k10 p)),(5010,.cells 63 (k7 tree)),(900000115,.cells 115 [lf aB m_9,i6 ir]),(5014,.cells 28 (k2 bf.1)),(5016,.cells 36 (k10 br.1)),(5018,.cells 28 [lf aJ m_3,lf bJ m_4]),(5021,.cells 32 (k6 e1)),(5023,.cells 36 (k10 e2))]) ?_ ?_ ?_
   ·exact qW
   ·rintro j5 e5 Z5 ⟨m_9,ir⟩ hj5 hx5 hm
    rw[hB5]at hm
    refine qDs [] [] [(187,.bool (decide ((j5:Int)<(([tree,mI.1]:List cM).length:Int))))]<|A.seq<|qT (ltT hx5)<|A.skip ?_
    show ah _ _ _ _ _
    refine A.seq<|A.block ?_
    refine qD [(0,hix (ix qg (bq hx5))),(2,.al 5037)] [187] [(37,.ptr 5037 0)] [] [(5037,.cells 63 (k7 e5))] ?_
    obtain⟨qy,h19,hm⟩:=aa hm
    obtain⟨lF,h20,hm⟩:=aa hm
    refine qD [(1,hro (tC h19) avT),(4,hdc [] (ads h20) ck13),(6,hto (lnE (eL aB) ([qy,lF.1]:List (List Int))))] [] [(197,i6 0),(195,.lst true (ml (eL aB) ([qy,lF.1]:List (List Int)))),(196,i6 (([qy,lF.1]:List (List Int)).length:Int))] [900000115] [(900000115,.cells 115 (k5 lF.2))]<|A.block<|A.bS 195 rfl λhb6=>?_
    obtain⟨B6,K6,hB6,hK6,hm⟩:=aX hm
    refine A.lpI (l:=([qy,lF.1]:List (List Int))) (j0:=0) (B:=B6) (K:=K6) hm (λj6=>λ()=>[(5,i6 aK),(8,.ptr 5008 0),(9,.ptr 5009 0),(10,.ptr 5010 0),(13,.ptr 900000115 0),(14,.ptr 5014 0),(16,.ptr 5016 0),(17,i6 cv.1),(18,.ptr 5018 0),(21,.ptr 5021 0),(23,.ptr 5023 0),(37,.ptr 5037 0),(95,.lst true (ml ij ([raw,bO.1]:List aG))),(96,i6 (([raw,bO.1]:List aG).length:Int)),(97,i6 (j1:Int)),(106,.lst true (ml iL ([p,br.1,gz.1]:List aD))),(107,i6 (([p,br.1,gz.1]:List aD).length:Int)),(108,i6 (j2:Int)),(184,.lst true (ml qg ([tree,mI.1]:List cM))),(185,i6 (([tree,mI.1]:List cM).length:Int)),(186,i6 (j5:Int)),(195,.lst true (ml (eL aB) ([qy,lF.1]:List (List Int)))),(196,i6 (([qy,lF.1]:List (List Int)).length:Int)),(197,i6 (j6:Int))]) (λj6=>λ()=>[(5008,.cells 28 (k2 top)),(5009,.cells 36 (k10 p)),(5010,.cells 63 (k7 tree)),(900000115,.cells 115 (k5 lF.2)),(5014,.cells 28 (k2 bf.1)),(5016,.cells 36 (k10 br.1)),(5018,.cells 28 [lf aJ m_3,lf bJ m_4]),(5021,.cells 32 (k6 e1)),(5023,.cells 36 (k10 e2)),(5037,.cells 63 (k7 e5))]) ?_ ?_ ?_
    ·exact qW
    ·rintro j6 e6 Z6 ⟨⟩ hj6 hx6 hm
     rw[hB6]at hm
     refine qDs [] [] [(198,.bool (decide ((j6:Int)<(([qy,lF.1]:List (List Int)).length:Int))))]<|A.seq<|qT (ltT hx6)<|A.skip ?_
     show ah _ _ _ _ _
     refine A.seq<|A.block ?_
     refine qDs [(0,hix (ix (eL aB) (bq hx6)))] [198] [(39,lf aB e6)] ?_
     obtain⟨qz,h21,hm⟩:=aa hm
     refine qD [(4,hro (wh h21) ck23),(8,.al 5040)] [] [(40,.ptr 5040 0),(41,i6 qz.2)] [] [(5040,.cells 36 (k10 qz.1))] ?_
     obtain⟨qA,h22,hm⟩:=aa hm
     refine qD [(4,hro (aae h22) ck38),(8,.al 5042)] [39] [(42,.ptr 5042 0),(43,i6 qA.2)] [] [(5042,.cells 36 (k10 qA.1))]<|A.mid [(5,i6 aK),(8,.ptr 5008 0),(9,.ptr 5009 0),(10,.ptr 5010 0),(13,.ptr 900000115 0),(14,.ptr 5014 0),(16,.ptr 5016 0),(17,i6 cv.1),(18,.ptr 5018 0),(21,.ptr 5021 0),(23,.ptr 5023 0),(37,.ptr 5037 0),(95,.lst true (ml ij ([raw,bO.1]:List aG))),(96,i6 (([raw,bO.1]:List aG).length:Int)),(97,i6 (j1:Int)),(106,.lst true (ml iL ([p,br.1,gz.1]:List aD))),(107,i6 (([p,br.1,gz.1]:List aD).length:Int)),(108,i6 (j2:Int)),(184,.lst true (ml qg ([tree,mI.1]:List cM))),(185,i6 (([tree,mI.1]:List cM).length:Int)),(186,i6 (j5:Int)),(195,.lst true (ml (eL aB) ([qy,lF.1]:List (List Int)))),(196,i6 (([qy,lF.1]:List (List Int)).length:Int)),(197,i6 (j6:Int)),(224,.bool ((!decide (qz.2=qA.2))||(!(gN qz.1 qA.1))))] [(5008,.cells 28 (k2 top)),(5009,.cells 36 (k10 p)),(5010,.cells 63 (k7 tree)),(900000115,.cells 115 (k5 lF.2)),(5014,.cells 28 (k2 bf.1)),(5016,.cells 36 (k10 br.1)),(5018,.cells 28 [lf aJ m_3,lf bJ m_4]),(5021,.cells 32 (k6 e1)),(5023,.cells 36 (k10 e2)),(5037,.cells 63 (k7 e5))] (λhk=>?_) ?_
     ·rcases tf (!decide (qz.2=qA.2))with c9|c9
      ·exact qS [(3,hto (bE c9)),(7,hto (orT (q:=!(gN qz.1 qA.1)) c9))] _ _ hk
      exact qS [(3,hto (bE c9)),(6,.sq true 36 (.agg (k10 qz.1)) (.agg (k10 qA.1)) (!(gN qz.1 qA.1)) (λx y w=>aaF x y _ _ _ _ _ _ _ _ _ _ _ _ _ _ _ _ _ _ _ _ w)),(7,hto (orF (q:=!(gN qz.1 qA.1)) c9))] _ _ hk
     rcases aj hm with⟨c10,hm⟩|⟨c10,hm⟩
     ·refine qT c10<|qS [] [(12,.bool false)] [] ?_
      cases hm
      exact A.ret qE
     refine qF c10<|A.skip ?_
     show ah _ _ _ _ _
     exact qGs [(0,hto (inc hx6 hb6))] [197,224] [(197,i6 ((j6+1:Nat):Int))]<|qX () hm
    rintro j6 ⟨⟩ hj6 hl6 hm
    rw[hK6]at hm
    refine qDs [] [] [(198,.bool (decide ((j6:Int)<(([qy,lF.1]:List (List Int)).length:Int))))]<|A.seq<|qF (ltF hl6)<|A.exit ?_
    show ah _ _ _ _ _
    exact qG [(0,hto (inc hx5 hb5))] [37,186,195,196,197,198] [(186,i6 ((j5+1:Nat):Int))] [5037] []<|qX (lF.2.L,lF.2.At) hm
   rintro j5 ⟨m_9,ir⟩ hj5 hl5 hm
   rw[hK5]at hm
   refine qDs [] [] [(187,.bool (decide ((j5:Int)<(([tree,mI.1]:List cM).length:Int))))]<|A.seq<|qF (ltF hl5)<|A.exit ?_
   show ah _ _ _ _ _
   exact qG [(0,hto (inc hx2 hb2))] [23,108,184,185,186,187] [(108,i6 ((j2+1:Nat):Int))] [5023] []<|qX (m_9,ir) hm
  rintro j2 ⟨m_7,m_8⟩ hj2 hl2 hm
  rw[hK2]at hm
  refine qDs [] [] [(109,.bool (decide ((j2:Int)<(([p,br.1,gz.1]:List aD).length:Int))))]<|A.seq<|qF (ltF hl2)<|A.exit ?_
  show ah _ _ _ _ _
  exact qG [(0,hto (inc hx1 hb1))] [21,97,106,107,108,109] [(97,i6 ((j1+1:Nat):Int))] [5021] []<|qX (m_7,m_8) hm
 rintro j1 ⟨m_5,m_6⟩ hj1 hl1 hm
 rw[hK1]at hm
 refine qDs [] [] [(98,.bool (decide ((j1:Int)<(([raw,bO.1]:List aG).length:Int))))]<|A.seq<|qF (ltF hl1)<|A.exit ?_
 show ah _ _ _ _ _
 obtain⟨agw,h23,hm⟩:=aa hm
 refine qS [(0,hro (ve h23) avS)] [(12,.bool agw)] [] ?_
 cases hm
 exact A.ret qE
end Go.Proofs.YtdjeacigeegklaaGreat
