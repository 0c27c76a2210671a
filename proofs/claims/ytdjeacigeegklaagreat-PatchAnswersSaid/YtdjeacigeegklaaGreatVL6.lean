/- The iD of er of the program. No condition but bO bx stand in each. -/
import Derived.Test.YtdjeacigeegklaaGreatDL6
import Derived.Test.YtdjeacigeegklaaGreatVI
import Derived.Test.YtdjeacigeegklaaGreatVM
namespace Go.Proofs.YtdjeacigeegklaaGreat
open Go Go.Proofs.Tryz
set_option maxRecDepth 100000
set_option linter.all false
theorem wY{t:List Int}{raw:aF}{top:aa}{f:aO}{p:aH}{down:List Int}{aD:Int}{r:Bool}(hm:mj t raw top f p down aD=some r):RO prog 6 [] [lf aA t,.agg (k7 raw),.agg (k2 top),.agg (k4 f),.agg (k10 p),lf aA down,i6 aD] (.bool r):=by
 refine bf func6 rfl rfl ?_
 unfold mj at hm
 refine qS [(0,.al 6008),(1,.al 6009),(2,.al 6010),(3,.al 6011)] [(0,lf aA t),(5,lf aA down),(6,i6 aD),(8,.ptr 6008 0),(9,.ptr 6009 0),(10,.ptr 6010 0),(11,.ptr 6011 0)] [(6008,.cells 32 (k7 raw)),(6009,.cells 28 (k2 top)),(6010,.cells 100 (k4 f)),(6011,.cells 36 (k10 p))]<|A.seq ?_
 obtain⟨J1,hJ1,hm⟩:=bG hm
 refine A.J (J:=J1) (r:=r) (λv_1=>[(0,lf aA t),(5,lf aA down),(6,i6 aD),(8,.ptr 6008 0),(9,.ptr 6009 0),(10,.ptr 6010 0),(11,.ptr 6011 0),(69,.bool v_1)]) (λv_1=>[(6008,.cells 32 (k7 raw)),(6009,.cells 28 (k2 top)),(6010,.cells 100 (k4 f)),(6011,.cells 36 (k10 p))]) ?_ ?_
 ·rcases aq hm with⟨c1,hm⟩|⟨c1,hm⟩
  ·exact qGs [(2,hto (lnE ak raw.List)),(4,hto (bE c1))] [] [(69,.bool true)]<|qX true hm
  obtain⟨ai,h1,hm⟩:=af hm
  rcases aq hm with⟨c2,hm⟩|⟨c2,hm⟩
  ·exact qGs [(2,hto (lnE ak raw.List)),(4,hto (bE c1)),(6,hro (kS h1) ahz),(9,hto (bE c2))] [] [(69,.bool true)]<|qX true hm
  rcases aq hm with⟨c3,hm⟩|⟨c3,hm⟩
  ·exact qGs [(2,hto (lnE ak raw.List)),(4,hto (bE c1)),(6,hro (kS h1) ahz),(9,hto (bE c2)),(12,hto (lnE bM f.Links)),(15,hto (bE c3))] [] [(69,.bool true)]<|qX true hm
  rcases aq hm with⟨c4,hm⟩|⟨c4,hm⟩
  ·exact qGs [(2,hto (lnE ak raw.List)),(4,hto (bE c1)),(6,hro (kS h1) ahz),(9,hto (bE c2)),(12,hto (lnE bM f.Links)),(15,hto (bE c3)),(18,hto (lnE aA f.ah)),(21,hto (bE c4))] [] [(69,.bool true)]<|qX true hm
  exact qGs [(2,hto (lnE ak raw.List)),(4,hto (bE c1)),(6,hro (kS h1) ahz),(9,hto (bE c2)),(12,hto (lnE bM f.Links)),(15,hto (bE c3)),(18,hto (lnE aA f.ah)),(21,hto (bE c4)),(23,hto (lnE aA down))] [] [(69,.bool (decide (40<(down.length:Int))))]<|qX (decide (40<(down.length:Int))) hm
 rintro v_1 hm
 rw[hJ1]at hm
 rcases aq hm with⟨c5,hm⟩|⟨c5,hm⟩
 ·refine qT c5 ?_
  obtain⟨aK,h2,hm⟩:=af hm
  refine qS [(0,hro (wG h2) atk)] [(14,.bool aK)] [] ?_
  cases hm
  exact A.ret qE
 refine qF c5<|A.skip ?_
 obtain⟨aV,h3,hm⟩:=af hm
 refine qD [(1,hdc [900000115] (yQ h3) ck9)] [0,69] [(15,.ptr 900000115 0)] [] [(900000115,.cells 115 (k6 aV))] ?_
 obtain⟨bq,h4,hm⟩:=af hm
 refine qD [(1,hdc [] (aa1 h4) ck10),(2,.al 6016)] [] [(16,.ptr 6016 0)] [900000115] [(900000115,.cells 115 (k6 bq.2)),(6016,.cells 28 (k2 bq.1))] ?_
 obtain⟨aT,h5,hm⟩:=af hm
 obtain⟨cu,h6,hm⟩:=af hm
 refine qD [(2,hdc [] (abL h5) ck11),(5,hdc [] (xo h6) atn),(6,.al 6017),(7,.al 6018)] [] [(17,.ptr 6017 0),(18,.ptr 6018 0)] [900000115] [(900000115,.cells 115 (k6 cu.2)),(6017,.cells 32 (k7 aT.1)),(6018,.cells 32 (k7 cu.1))] ?_
 obtain⟨bA,h7,hm⟩:=af hm
 refine qD [(4,hdc [] (ff h7) abE),(6,.al 6019)] [] [(19,.ptr 6019 0)] [900000115] [(900000115,.cells 115 (k6 bA.2)),(6019,.cells 36 [i6 2,i6 0,i6 0,i6 aT.1.Length,i6 bA.1,i6 0,i6 0,i6 0,.int .u64 (0:Int),.str (⟨#[]⟩:ByteArray)])]<|A.seq<|qDs [(2,hto (lnE ak aT.1.List))] [] [(88,lf ak aT.1.List),(89,i6 (aT.1.List.length:Int)),(90,i6 0)]<|A.block<|A.bS 88 rfl λhb1=>?_
 obtain⟨B1,K1,hB1,hK1,hm⟩:=aW hm
 refine A.lpI (l:=aT.1.List) (j0:=0) (B:=B1) (K:=K1) hm (λj1=>λ(m_1,m_2,m_3)=>[(5,lf aA down),(6,i6 aD),(8,.ptr 6008 0),(9,.ptr 6009 0),(10,.ptr 6010 0),(11,.ptr 6011 0),(15,.ptr 900000115 0),(16,.ptr 6016 0),(17,.ptr 6017 0),(18,.ptr 6018 0),(19,.ptr 6019 0),(88,lf ak aT.1.List),(89,i6 (aT.1.List.length:Int)),(90,i6 (j1:Int))]) (λj1=>λ(m_1,m_2,m_3)=>[(6008,.cells 32 (k7 raw)),(6009,.cells 28 (k2 top)),(6010,.cells 100 (k4 f)),(6011,.cells 36 (k10 p)),(900000115,.cells 115 [lf aA m_2,i6 m_3]),(6016,.cells 28 (k2 bq.1)),(6017,.cells 32 (k7 aT.1)),(6018,.cells 32 (k7 cu.1)),(6019,.cells 36 [i6 2,i6 0,i6 0,i6 aT.1.Length,i6 bA.1,i6 0,i6 0,i6 0,.int .u64 m_1,.str (⟨#[]⟩:ByteArray)])]) ?_ ?_ ?_
 ·exact qW
 ·rintro j1 e1 Z1 ⟨m_1,m_2,m_3⟩ hj1 hx1 hm
  rw[hB1]at hm
  refine qDs [] [] [(91,.bool (decide ((j1:Int)<(aT.1.List.length:Int))))]<|A.seq<|qT (ltT hx1)<|A.skip ?_
  obtain⟨J2,hJ2,hm⟩:=bG hm
  refine A.J (J:=J2) (r:=r) (λ(m_4,m_5,m_6)=>[(5,lf aA down),(6,i6 aD),(8,.ptr 6008 0),(9,.ptr 6009 0),(10,.ptr 6010 0),(11,.ptr 6011 0),(15,.ptr 900000115 0),(16,.ptr 6016 0),(17,.ptr 6017 0),(18,.ptr 6018 0),(19,.ptr 6019 0),(88,lf ak aT.1.List),(89,i6 (aT.1.List.length:Int)),(90,i6 (j1:Int))]) (λ(m_4,m_5,m_6)=>[(6008,.cells 32 (k7 raw)),(6009,.cells 28 (k2 top)),(6010,.cells 100 (k4 f)),(6011,.cells 36 (k10 p)),(900000115,.cells 115 [lf aA m_4,i6 m_5]),(6016,.cells 28 (k2 bq.1)),(6017,.cells 32 (k7 aT.1)),(6018,.cells 32 (k7 cu.1)),(6019,.cells 36 [i6 2,i6 0,i6 0,i6 aT.1.Length,i6 bA.1,i6 0,i6 0,i6 0,.int .u64 m_6,.str (⟨#[]⟩:ByteArray)])]) ?_ ?_
  ·refine A.block<|qD [(0,hix (ix ak (aY hx1))),(2,.al 6021)] [91] [(21,.ptr 6021 0)] [] [(6021,.cells 38 (k5 e1))] ?_
   obtain⟨fE,h8,hm⟩:=af hm
   refine qD [(1,hdc [] (bL h8) me)] [] [(96,.bool (decide (0<fE.1)))] [900000115] [(900000115,.cells 115 (k6 fE.2))] ?_
   rcases aq hm with⟨c6,hm⟩|⟨c6,hm⟩
   ·refine qT c6 ?_
    obtain⟨h9,hm⟩:=eB hm
    exact qG [(5,.sh (IntKind.wrap .u64 e1.Bit) (of_decide_eq_true h9))] [21,96] [] [6019,6021] [(6019,.cells 36 [i6 2,i6 0,i6 0,i6 aT.1.Length,i6 bA.1,i6 0,i6 0,i6 0,.int .u64 (aU .or .u64 m_1 (IntKind.wrap .u64 ((1:Int)*2 ^ min (IntKind.wrap .u64 e1.Bit).toNat 64))),.str (⟨#[]⟩:ByteArray)])]<|qX (fE.2.L,fE.2.At,aU .or .u64 m_1 (IntKind.wrap .u64 ((1:Int)*2 ^ min (IntKind.wrap .u64 e1.Bit).toNat 64))) hm
   exact qF c6<|A.skip<|qX (fE.2.L,fE.2.At,m_1) hm
  rintro⟨m_4,m_5,m_6⟩ hm
  rw[hJ2]at hm
  exact qGs [(0,hto (inc hx1 hb1))] [90] [(90,i6 ((j1+1:Nat):Int))]<|qX (m_6,m_4,m_5) hm
 rintro j1 ⟨m_1,m_2,m_3⟩ hj1 hl1 hm
 rw[hK1]at hm
 refine qDs [] [] [(91,.bool (decide ((j1:Int)<(aT.1.List.length:Int))))]<|A.seq<|qF (ltF hl1)<|A.exit ?_
 obtain⟨eT,h10,hm⟩:=af hm
 refine qD [(2,hdc [] (acu h10) ck32)] [88,89,90,91] [(22,i6 eT.1)] [900000115] [(900000115,.cells 115 (k6 eT.2))] ?_
 obtain⟨pP,h11,hm⟩:=af hm
 refine qD [(2,hdc [500004000,500004001] (qn h11) akH),(3,.al 6023)] [] [(23,.ptr 6023 0)] [900000115] [(900000115,.cells 115 (k6 pP.2)),(500004000,.slice 67 2 (ml bM pP.1.Links) 0 false),(500004001,.slice 3 1 (ml aA pP.1.ah) 0 false),(6023,.cells 100 [.own 500004000,.own 500004001])] ?_
 obtain⟨iH,h12,hm⟩:=af hm
 obtain⟨l_1,h13,hm⟩:=af hm
 refine qD [(4,hdc [] (SC.aev (r':=.agg (k4 iH.1)) (σ3:=[(900000115,.cells 115 (k6 iH.2))]) [500004000,500004001] (qn h12) (by kernel_rfl) (by kernel_rfl)) akH),(6,hap 6618 (ap aA (bytes:=8) (by decide) h13))] [] [] [900000115,500004001,6023] [(900000115,.cells 115 (k6 iH.2)),(6023,.cells 100 [.own 500004000,.own 6618]),(6618,.slice 3 1 (ml aA l_1) 0 false)]<|A.seq<|qD [(4,hto (lnE iS ([raw,aT.1,cu.1]:List aF)))] [8,17,18] [(123,.lst true (ml iS ([raw,aT.1,cu.1]:List aF))),(124,i6 (([raw,aT.1,cu.1]:List aF).length:Int)),(125,i6 0)] [6008,6017,6018] []<|A.block<|A.bS 123 rfl λhb2=>?_
 obtain⟨B2,K2,hB2,hK2,hm⟩:=aW hm
 refine A.lpI (l:=([raw,aT.1,cu.1]:List aF)) (j0:=0) (B:=B2) (K:=K2) hm (λj2=>λ(m_7,m_8,m_9,fI)=>[(5,lf aA down),(6,i6 aD),(9,.ptr 6009 0),(10,.ptr 6010 0),(11,.ptr 6011 0),(15,.ptr 900000115 0),(16,.ptr 6016 0),(19,.ptr 6019 0),(22,i6 eT.1),(23,.ptr 6023 0),(123,.lst true (ml iS ([raw,aT.1,cu.1]:List aF))),(124,i6 (([raw,aT.1,cu.1]:List aF).length:Int)),(125,i6 (j2:Int))]) (λj2=>λ(m_7,m_8,m_9,fI)=>[(6009,.cells 28 (k2 top)),(6010,.cells 100 (k4 f)),(6011,.cells 36 (k10 p)),(900000115,.cells 115 [lf aA m_9,i6 fI]),(6016,.cells 28 (k2 bq.1)),(6019,.cells 36 [i6 2,i6 0,i6 0,i6 aT.1.Length,i6 bA.1,i6 0,i6 0,i6 0,.int .u64 m_1,.str (⟨#[]⟩:ByteArray)]),(6023,.cells 100 [lf bM m_7,lf aA m_8])]) ?_ ?_ ?_
 ·exact bt.go [.fz [500004000,6618],.sc 6023 [6009,6010,6011,900000115,6016,6019,6023]] [] (by kernel_rfl)
 ·rintro j2 e2 Z2 ⟨m_7,m_8,m_9,fI⟩ hj2 hx2 hm
  rw[hB2]at hm
  refine qDs [] [] [(126,.bool (decide ((j2:Int)<(([raw,aT.1,cu.1]:List aF).length:Int))))]<|A.seq<|qT (ltT hx2)<|A.skip<|A.seq<|A.block<|qD [(0,hix (ix iS (aY hx2))),(2,.al 6025)] [126] [(25,.ptr 6025 0)] [] [(6025,.cells 32 (k7 e2))]<|A.seq ?_
  obtain⟨yU,h14,hm⟩:=af hm
  obtain⟨qy,h15,hm⟩:=af hm
  refine qDs [(1,hro (kM h14) adg),(3,hro (kN h15) adh)] [] [(133,.bool (!(yU==qy)))] ?_
  rcases aq hm with⟨c7,hm⟩|⟨c7,hm⟩
  ·refine qT c7<|qS [] [(14,.bool false)] [] ?_
   cases hm
   exact A.ret qE
  refine qF c7<|A.skip<|qDs [(3,hto (lnE gL ([top,bq.1]:List aa)))] [133] [(136,.lst true (ml gL ([top,bq.1]:List aa))),(137,i6 (([top,bq.1]:List aa).length:Int)),(138,i6 0)]<|A.block<|A.bS 136 rfl λhb3=>?_
  obtain⟨B3,K3,hB3,hK3,hm⟩:=aW hm
  refine A.lpI (l:=([top,bq.1]:List aa)) (j0:=0) (B:=B3) (K:=K3) hm (λj3=>λ(gC,eM)=>[(5,lf aA down),(6,i6 aD),(9,.ptr 6009 0),(10,.ptr 6010 0),(11,.ptr 6011 0),(15,.ptr 900000115 0),(16,.ptr 6016 0),(19,.ptr 6019 0),(22,i6 eT.1),(23,.ptr 6023 0),(25,.ptr 6025 0),(123,.lst true (ml iS ([raw,aT.1,cu.1]:List aF))),(124,i6 (([raw,aT.1,cu.1]:List aF).length:Int)),(125,i6 (j2:Int)),(136,.lst true (ml gL ([top,bq.1]:List aa))),(137,i6 (([top,bq.1]:List aa).length:Int)),(138,i6 (j3:Int))]) (λj3=>λ(gC,eM)=>[(6009,.cells 28 (k2 top)),(6010,.cells 100 (k4 f)),(6011,.cells 36 (k10 p)),(900000115,.cells 115 [lf aA gC,i6 eM]),(6016,.cells 28 (k2 bq.1)),(6019,.cells 36 [i6 2,i6 0,i6 0,i6 aT.1.Length,i6 bA.1,i6 0,i6 0,i6 0,.int .u64 m_1,.str (⟨#[]⟩:ByteArray)]),(6023,.cells 100 [lf bM m_7,lf aA m_8]),(6025,.cells 32 (k7 e2))]) ?_ ?_ ?_
  ·exact qW
  ·rintro j3 e3 Z3 ⟨gC,eM⟩ hj3 hx3 hm
   rw[hB3]at hm
   refine qDs [] [] [(139,.bool (decide ((j3:Int)<(([top,bq.1]:List aa).length:Int))))]<|A.seq<|qT (ltT hx3)<|A.skip<|A.seq<|A.block<|qD [(0,hix (ix gL (aY hx3))),(2,.al 6027)] [139] [(27,.ptr 6027 0)] [] [(6027,.cells 28 (k2 e3))]<|qDs [(3,hto (lnE ku ([p,(aH.mk (2:Int) (0:Int) (0:Int) aT.1.Length bA.1 (0:Int) (0:Int) (0:Int) m_1 (⟨#[]⟩:ByteArray))]:List aH)))] [] [(144,.lst true (ml ku ([p,(aH.mk (2:Int) (0:Int) (0:Int) aT.1.Length bA.1 (0:Int) (0:Int) (0:Int) m_1 (⟨#[]⟩:ByteArray))]:List aH))),(145,i6 (([p,(aH.mk (2:Int) (0:Int) (0:Int) aT.1.Length bA.1 (0:Int) (0:Int) (0:Int) m_1 (⟨#[]⟩:ByteArray))]:List aH).length:Int)),(146,i6 0)]<|A.block<|A.bS 144 rfl λhb4=>?_
   obtain⟨B4,K4,hB4,hK4,hm⟩:=aW hm
   refine A.lpI (l:=([p,(aH.mk (2:Int) (0:Int) (0:Int) aT.1.Length bA.1 (0:Int) (0:Int) (0:Int) m_1 (⟨#[]⟩:ByteArray))]:List aH)) (j0:=0) (B:=B4) (K:=K4) hm (λj4=>λ(dN,gD)=>[(5,lf aA down),(6,i6 aD),(9,.ptr 6009 0),(10,.ptr 6010 0),(11,.ptr 6011 0),(15,.ptr 900000115 0),(16,.ptr 6016 0),(19,.ptr 6019 0),(22,i6 eT.1),(23,.ptr 6023 0),(25,.ptr 6025 0),(27,.ptr 6027 0),(123,.lst true (ml iS ([raw,aT.1,cu.1]:List aF))),(124,i6 (([raw,aT.1,cu.1]:List aF).length:Int)),(125,i6 (j2:Int)),(136,.lst true (ml gL ([top,bq.1]:List aa))),(137,i6 (([top,bq.1]:List aa).length:Int)),(138,i6 (j3:Int)),(144,.lst true (ml ku ([p,(aH.mk (2:Int) (0:Int) (0:Int) aT.1.Length bA.1 (0:Int) (0:Int) (0:Int) m_1 (⟨#[]⟩:ByteArray))]:List aH))),(145,i6 (([p,(aH.mk (2:Int) (0:Int) (0:Int) aT.1.Length bA.1 (0:Int) (0:Int) (0:Int) m_1 (⟨#[]⟩:ByteArray))]:List aH).length:Int)),(146,i6 (j4:Int))]) (λj4=>λ(dN,gD)=>[(6009,.cells 28 (k2 top)),(6010,.cells 100 (k4 f)),(6011,.cells 36 (k10 p)),(900000115,.cells 115 [lf aA dN,i6 gD]),(6016,.cells 28 (k2 bq.1)),(6019,.cells 36 [i6 2,i6 0,i6 0,i6 aT.1.Length,i6 bA.1,i6 0,i6 0,i6 0,.int .u64 m_1,.str (⟨#[]⟩:ByteArray)]),(6023,.cells 100 [lf bM m_7,lf aA m_8]),(6025,.cells 32 (k7 e2)),(6027,.cells 28 (k2 e3))]) ?_ ?_ ?_
   ·exact qW
   ·rintro j4 e4 Z4 ⟨dN,gD⟩ hj4 hx4 hm
    rw[hB4]at hm
    refine qDs [] [] [(147,.bool (decide ((j4:Int)<(([p,(aH.mk (2:Int) (0:Int) (0:Int) aT.1.Length bA.1 (0:Int) (0:Int) (0:Int) m_1 (⟨#[]⟩:ByteArray))]:List aH).length:Int))))]<|A.seq<|qT (ltT hx4)<|A.skip<|A.seq<|A.block<|qD [(0,hix (ix ku (aY hx4))),(2,.al 6029)] [147] [(29,.ptr 6029 0)] [] [(6029,.cells 36 (k10 e4))]<|qDs [(3,hto (lnE aA ([aD,eT.1]:List Int)))] [] [(152,.lst true (ml aA ([aD,eT.1]:List Int))),(153,i6 (([aD,eT.1]:List Int).length:Int)),(154,i6 0)]<|A.block<|A.bS 152 rfl λhb5=>?_
    obtain⟨B5,K5,hB5,hK5,hm⟩:=aW hm
    refine A.lpI (l:=([aD,eT.1]:List Int)) (j0:=0) (B:=B5) (K:=K5) hm (λj5=>λ(iO,mN)=>[(5,lf aA down),(6,i6 aD),(9,.ptr 6009 0),(10,.ptr 6010 0),(11,.ptr 6011 0),(15,.ptr 900000115 0),(16,.ptr 6016 0),(19,.ptr 6019 0),(22,i6 eT.1),(23,.ptr 6023 0),(25,.ptr 6025 0),(27,.ptr 6027 0),(29,.ptr 6029 0),(123,.lst true (ml iS ([raw,aT.1,cu.1]:List aF))),(124,i6 (([raw,aT.1,cu.1]:List aF).length:Int)),(125,i6 (j2:Int)),(136,.lst true (ml gL ([top,bq.1]:List aa))),(137,i6 (([top,bq.1]:List aa).length:Int)),(138,i6 (j3:Int)),(144,.lst true (ml ku ([p,(aH.mk (2:Int) (0:Int) (0:Int) aT.1.Length bA.1 (0:Int) (0:Int) (0:Int) m_1 (⟨#[]⟩:ByteArray))]:List aH))),(145,i6 (([p,(aH.mk (2:Int) (0:Int) (0:Int) aT.1.Length bA.1 (0:Int) (0:Int) (0:Int) m_1 (⟨#[]⟩:ByteArray))]:List aH).length:Int)),(146,i6 (j4:Int)),(152,.lst true (ml aA ([aD,eT.1]:List Int))),(153,i6 (([aD,eT.1]:List Int).length:Int)),(154,i6 (j5:Int))]) (λj5=>λ(iO,mN)=>[(6009,.cells 28 (k2 top)),(6010,.cells 100 (k4 f)),(6011,.cells 36 (k10 p)),(900000115,.cells 115 [lf aA iO,i6 mN]),(6016,.cells 28 (k2 bq.1)),(6019,.cells 36 [i6 2,i6 0,i6 0,i6 aT.1.Length,i6 bA.1,i6 0,i6 0,i6 0,.int .u64 m_1,.str (⟨#[]⟩:ByteArray)]),(6023,.cells 100 [lf bM m_7,lf aA m_8]),(6025,.cells 32 (k7 e2)),(6027,.cells 28 (k2 e3)),(6029,.cells 36 (k10 e4))]) ?_ ?_ ?_
    ·exact qW
    ·rintro j5 e5 Z5 ⟨iO,mN⟩ hj5 hx5 hm
     rw[hB5]at hm
     refine qDs [] [] [(155,.bool (decide ((j5:Int)<(([aD,eT.1]:List Int).length:Int))))]<|A.seq<|qT (ltT hx5)<|A.skip<|A.seq<|A.block<|qDs [(0,hix (ix aA (aY hx5)))] [155] [(31,i6 e5)]<|A.seq ?_
     obtain⟨rG,h16,hm⟩:=af hm
     obtain⟨og,h17,hm⟩:=af hm
     refine qD [(3,hro (oz h16) akI),(6,hdc [] (aem h17) ck13),(8,hto (lnE (eL aA) ([down,rG,og.1]:List (List Int))))] [] [(167,i6 0),(165,.lst true (ml (eL aA) ([down,rG,og.1]:List (List Int)))),(166,i6 (([down,rG,og.1]:List (List Int)).length:Int))] [900000115] [(900000115,.cells 115 (k6 og.2))]<|A.block<|A.bS 165 rfl λhb6=>?_
     obtain⟨B6,K6,hB6,hK6,hm⟩:=aW hm
     refine A.lpI (l:=([down,rG,og.1]:List (List Int))) (j0:=0) (B:=B6) (K:=K6) hm (λj6=>λ()=>[(5,lf aA down),(6,i6 aD),(9,.ptr 6009 0),(10,.ptr 6010 0),(11,.ptr 6011 0),(15,.ptr 900000115 0),(16,.ptr 6016 0),(19,.ptr 6019 0),(22,i6 eT.1),(23,.ptr 6023 0),(25,.ptr 6025 0),(27,.ptr 6027 0),(29,.ptr 6029 0),(31,i6 e5),(123,.lst true (ml iS ([raw,aT.1,cu.1]:List aF))),(124,i6 (([raw,aT.1,cu.1]:List aF).length:Int)),(125,i6 (j2:Int)),(136,.lst true (ml gL ([top,bq.1]:List aa))),(137,i6 (([top,bq.1]:List aa).length:Int)),(138,i6 (j3:Int)),(144,.lst true (ml ku ([p,(aH.mk (2:Int) (0:Int) (0:Int) aT.1.Length bA.1 (0:Int) (0:Int) (0:Int) m_1 (⟨#[]⟩:ByteArray))]:List aH))),(145,i6 (([p,(aH.mk (2:Int) (0:Int) (0:Int) aT.1.Length bA.1 (0:Int) (0:Int) (0:Int) m_1 (⟨#[]⟩:ByteArray))]:List aH).length:Int)),(146,i6 (j4:Int)),(152,.lst true (ml aA ([aD,eT.1]:List Int))),(153,i6 (([aD,eT.1]:List Int).length:Int)),(154,i6 (j5:Int)),(165,.lst true (ml (eL aA) ([down,rG,og.1]:List (List Int)))),(166,i6 (([down,rG,og.1]:List (List Int)).length:Int)),(167,i6 (j6:Int))]) (λj6=>λ()=>[(6009,.cells 28 (k2 top)),(6010,.cells 100 (k4 f)),(6011,.cells 36 (k10 p)),(900000115,.cells 115 (k6 og.2)),(6016,.cells 28 (k2 bq.1)),(6019,.cells 36 [i6 2,i6 0,i6 0,i6 aT.1.Length,i6 bA.1,i6 0,i6 0,i6 0,.int .u64 m_1,.str (⟨#[]⟩:ByteArray)]),(6023,.cells 100 [lf bM m_7,lf aA m_8]),(6025,.cells 32 (k7 e2)),(6027,.cells 28 (k2 e3)),(6029,.cells 36 (k10 e4))]) ?_ ?_ ?_
     ·exact qW
     ·rintro j6 e6 Z6 ⟨⟩ hj6 hx6 hm
      rw[hB6]at hm
      refine qDs [] [] [(168,.bool (decide ((j6:Int)<(([down,rG,og.1]:List (List Int)).length:Int))))]<|A.seq<|qT (ltT hx6)<|A.skip<|A.seq<|A.block<|qDs [(0,hix (ix (eL aA) (aY hx6)))] [168] [(33,lf aA e6)] ?_
      obtain⟨acA,h18,hm⟩:=af hm
      refine qD [(5,hro (ql h18) akG),(9,.al 6034)] [] [(34,.ptr 6034 0),(35,i6 acA.2)] [] [(6034,.cells 46 (k12 acA.1))] ?_
      obtain⟨acB,h19,hm⟩:=af hm
      refine qD [(5,hro (uC h19) ato),(9,.al 6036)] [33] [(36,.ptr 6036 0),(37,i6 acB.2)] [] [(6036,.cells 46 (k12 acB.1))] ?_
      obtain⟨J3,hJ3,hm⟩:=bG hm
      refine A.J (J:=J3) (r:=r) (λv_2=>[(5,lf aA down),(6,i6 aD),(9,.ptr 6009 0),(10,.ptr 6010 0),(11,.ptr 6011 0),(15,.ptr 900000115 0),(16,.ptr 6016 0),(19,.ptr 6019 0),(22,i6 eT.1),(23,.ptr 6023 0),(25,.ptr 6025 0),(27,.ptr 6027 0),(29,.ptr 6029 0),(31,i6 e5),(123,.lst true (ml iS ([raw,aT.1,cu.1]:List aF))),(124,i6 (([raw,aT.1,cu.1]:List aF).length:Int)),(125,i6 (j2:Int)),(136,.lst true (ml gL ([top,bq.1]:List aa))),(137,i6 (([top,bq.1]:List aa).length:Int)),(138,i6 (j3:Int)),(144,.lst true (ml ku ([p,(aH.mk (2:Int) (0:Int) (0:Int) aT.1.Length bA.1 (0:Int) (0:Int) (0:Int) m_1 (⟨#[]⟩:ByteArray))]:List aH))),(145,i6 (([p,(aH.mk (2:Int) (0:Int) (0:Int) aT.1.Length bA.1 (0:Int) (0:Int) (0:Int) m_1 (⟨#[]⟩:ByteArray))]:List aH).length:Int)),(146,i6 (j4:Int)),(152,.lst true (ml aA ([aD,eT.1]:List Int))),(153,i6 (([aD,eT.1]:List Int).length:Int)),(154,i6 (j5:Int)),(165,.lst true (ml (eL aA) ([down,rG,og.1]:List (List Int)))),(166,i6 (([down,rG,og.1]:List (List Int)).length:Int)),(167,i6 (j6:Int)),(197,.bool v_2)]) (λv_2=>[(6009,.cells 28 (k2 top)),(6010,.cells 100 (k4 f)),(6011,.cells 36 (k10 p)),(900000115,.cells 115 (k6 og.2)),(6016,.cells 28 (k2 bq.1)),(6019,.cells 36 [i6 2,i6 0,i6 0,i6 aT.1.Length,i6 bA.1,i6 0,i6 0,i6 0,.int .u64 m_1,.str (⟨#[]⟩:ByteArray)]),(6023,.cells 100 [lf bM m_7,lf aA m_8]),(6025,.cells 32 (k7 e2)),(6027,.cells 28 (k2 e3)),(6029,.cells 36 (k10 e4))]) ?_ ?_
      ·rcases aq hm with⟨c8,hm⟩|⟨c8,hm⟩
       ·exact qG [(3,hto (bE c8))] [34,35,36,37] [(197,.bool true)] [6034,6036] []<|qX true hm
       obtain⟨aeC,h20,hm⟩:=af hm
       exact qG [(3,hto (bE c8)),(6,hro (xN h20) ck17)] [34,35,36,37] [(197,.bool (!aeC))] [6034,6036] []<|qX (!aeC) hm
      rintro v_2 hm
      rw[hJ3]at hm
      rcases aq hm with⟨c9,hm⟩|⟨c9,hm⟩
      ·refine qT c9<|qS [] [(14,.bool false)] [] ?_
       cases hm
       exact A.ret qE
      exact qF c9<|A.skip<|qGs [(0,hto (inc hx6 hb6))] [167,197] [(167,i6 ((j6+1:Nat):Int))]<|qX () hm
     rintro j6 ⟨⟩ hj6 hl6 hm
     rw[hK6]at hm
     refine qDs [] [] [(168,.bool (decide ((j6:Int)<(([down,rG,og.1]:List (List Int)).length:Int))))]<|A.seq<|qF (ltF hl6)<|A.exit ?_
     obtain⟨kU,h21,hm⟩:=af hm
     refine qD [(3,hdc [] (SC.aev (r':=.agg (k4 kU.1)) (σ3:=[(900000115,.cells 115 (k6 kU.2))]) [500004000,500004001] (qn h21) (by kernel_rfl) (by kernel_rfl)) akH),(7,hto (lnE nB ([f,kU.1,(aO.mk m_7 m_8),(aO.mk [] [])]:List aO)))] [165,166,167,168] [(207,i6 0),(205,.lst true (ml nB ([f,kU.1,(aO.mk m_7 m_8),(aO.mk [] [])]:List aO))),(206,i6 (([f,kU.1,(aO.mk m_7 m_8),(aO.mk [] [])]:List aO).length:Int))] [900000115] [(900000115,.cells 115 (k6 kU.2))]<|A.block<|A.bS 205 rfl λhb7=>?_
     obtain⟨B7,K7,hB7,hK7,hm⟩:=aW hm
     refine A.lpI (l:=([f,kU.1,(aO.mk m_7 m_8),(aO.mk [] [])]:List aO)) (j0:=0) (B:=B7) (K:=K7) hm (λj7=>λ()=>[(5,lf aA down),(6,i6 aD),(9,.ptr 6009 0),(10,.ptr 6010 0),(11,.ptr 6011 0),(15,.ptr 900000115 0),(16,.ptr 6016 0),(19,.ptr 6019 0),(22,i6 eT.1),(23,.ptr 6023 0),(25,.ptr 6025 0),(27,.ptr 6027 0),(29,.ptr 6029 0),(31,i6 e5),(123,.lst true (ml iS ([raw,aT.1,cu.1]:List aF))),(124,i6 (([raw,aT.1,cu.1]:List aF).length:Int)),(125,i6 (j2:Int)),(136,.lst true (ml gL ([top,bq.1]:List aa))),(137,i6 (([top,bq.1]:List aa).length:Int)),(138,i6 (j3:Int)),(144,.lst true (ml ku ([p,(aH.mk (2:Int) (0:Int) (0:Int) aT.1.Length bA.1 (0:Int) (0:Int) (0:Int) m_1 (⟨#[]⟩:ByteArray))]:List aH))),(145,i6 (([p,(aH.mk (2:Int) (0:Int) (0:Int) aT.1.Length bA.1 (0:Int) (0:Int) (0:Int) m_1 (⟨#[]⟩:ByteArray))]:List aH).length:Int)),(146,i6 (j4:Int)),(152,.lst true (ml aA ([aD,eT.1]:List Int))),(153,i6 (([aD,eT.1]:List Int).length:Int)),(154,i6 (j5:Int)),(205,.lst true (ml nB ([f,kU.1,(aO.mk m_7 m_8),(aO.mk [] [])]:List aO))),(206,i6 (([f,kU.1,(aO.mk m_7 m_8),(aO.mk [] [])]:List aO).length:Int)),(207,i6 (j7:Int))]) (λj7=>λ()=>[(6009,.cells 28 (k2 top)),(6010,.cells 100 (k4 f)),(6011,.cells 36 (k10 p)),(900000115,.cells 115 (k6 kU.2)),(6016,.cells 28 (k2 bq.1)),(6019,.cells 36 [i6 2,i6 0,i6 0,i6 aT.1.Length,i6 bA.1,i6 0,i6 0,i6 0,.int .u64 m_1,.str (⟨#[]⟩:ByteArray)]),(6023,.cells 100 [lf bM m_7,lf aA m_8]),(6025,.cells 32 (k7 e2)),(6027,.cells 28 (k2 e3)),(6029,.cells 36 (k10 e4))]) ?_ ?_ ?_
     ·exact qW
     ·rintro j7 e7 Z7 ⟨⟩ hj7 hx7 hm
      rw[hB7]at hm
      refine qDs [] [] [(208,.bool (decide ((j7:Int)<(([f,kU.1,(aO.mk m_7 m_8),(aO.mk [] [])]:List aO).length:Int))))]<|A.seq<|qT (ltT hx7)<|A.skip<|A.seq<|A.block<|qD [(0,hix (ix nB (aY hx7))),(2,.al 6039)] [208] [(39,.ptr 6039 0)] [] [(6039,.cells 100 (k4 e7))] ?_
      obtain⟨acC,h22,hm⟩:=af hm
      refine qD [(5,hro (ado h22) ck45),(9,.al 6040)] [] [(40,.ptr 6040 0),(41,i6 acC.2)] [] [(6040,.cells 74 (k13 acC.1))] ?_
      obtain⟨acD,h23,hm⟩:=af hm
      refine qD [(5,hro (adp h23) ck46),(9,.al 6042)] [39] [(42,.ptr 6042 0),(43,i6 acD.2)] [6039] [(6042,.cells 74 (k13 acD.1))] ?_
      obtain⟨J4,hJ4,hm⟩:=bG hm
      refine A.J (J:=J4) (r:=r) (λv_3=>[(5,lf aA down),(6,i6 aD),(9,.ptr 6009 0),(10,.ptr 6010 0),(11,.ptr 6011 0),(15,.ptr 900000115 0),(16,.ptr 6016 0),(19,.ptr 6019 0),(22,i6 eT.1),(23,.ptr 6023 0),(25,.ptr 6025 0),(27,.ptr 6027 0),(29,.ptr 6029 0),(31,i6 e5),(123,.lst true (ml iS ([raw,aT.1,cu.1]:List aF))),(124,i6 (([raw,aT.1,cu.1]:List aF).length:Int)),(125,i6 (j2:Int)),(136,.lst true (ml gL ([top,bq.1]:List aa))),(137,i6 (([top,bq.1]:List aa).length:Int)),(138,i6 (j3:Int)),(144,.lst true (ml ku ([p,(aH.mk (2:Int) (0:Int) (0:Int) aT.1.Length bA.1 (0:Int) (0:Int) (0:Int) m_1 (⟨#[]⟩:ByteArray))]:List aH))),(145,i6 (([p,(aH.mk (2:Int) (0:Int) (0:Int) aT.1.Length bA.1 (0:Int) (0:Int) (0:Int) m_1 (⟨#[]⟩:ByteArray))]:List aH).length:Int)),(146,i6 (j4:Int)),(152,.lst true (ml aA ([aD,eT.1]:List Int))),(153,i6 (([aD,eT.1]:List Int).length:Int)),(154,i6 (j5:Int)),(205,.lst true (ml nB ([f,kU.1,(aO.mk m_7 m_8),(aO.mk [] [])]:List aO))),(206,i6 (([f,kU.1,(aO.mk m_7 m_8),(aO.mk [] [])]:List aO).length:Int)),(207,i6 (j7:Int)),(237,.bool v_3)]) (λv_3=>[(6009,.cells 28 (k2 top)),(6010,.cells 100 (k4 f)),(6011,.cells 36 (k10 p)),(900000115,.cells 115 (k6 kU.2)),(6016,.cells 28 (k2 bq.1)),(6019,.cells 36 [i6 2,i6 0,i6 0,i6 aT.1.Length,i6 bA.1,i6 0,i6 0,i6 0,.int .u64 m_1,.str (⟨#[]⟩:ByteArray)]),(6023,.cells 100 [lf bM m_7,lf aA m_8]),(6025,.cells 32 (k7 e2)),(6027,.cells 28 (k2 e3)),(6029,.cells 36 (k10 e4))]) ?_ ?_
      ·rcases aq hm with⟨c10,hm⟩|⟨c10,hm⟩
       ·exact qG [(3,hto (bE c10))] [40,41,42,43] [(237,.bool true)] [6040,6042] []<|qX true hm
       obtain⟨aeD,h24,hm⟩:=af hm
       exact qG [(3,hto (bE c10)),(6,hro (yY h24) ck37)] [40,41,42,43] [(237,.bool (!aeD))] [6040,6042] []<|qX (!aeD) hm
      rintro v_3 hm
      rw[hJ4]at hm
      rcases aq hm with⟨c11,hm⟩|⟨c11,hm⟩
      ·refine qT c11<|qS [] [(14,.bool false)] [] ?_
       cases hm
       exact A.ret qE
      exact qF c11<|A.skip<|qGs [(0,hto (inc hx7 hb7))] [207,237] [(207,i6 ((j7+1:Nat):Int))]<|qX () hm
     rintro j7 ⟨⟩ hj7 hl7 hm
     rw[hK7]at hm
     exact qDs [] [] [(208,.bool (decide ((j7:Int)<(([f,kU.1,(aO.mk m_7 m_8),(aO.mk [] [])]:List aO).length:Int))))]<|A.seq<|qF (ltF hl7)<|A.exit<|qGs [(0,hto (inc hx5 hb5))] [31,154,205,206,207,208] [(154,i6 ((j5+1:Nat):Int))]<|qX (kU.2.L,kU.2.At) hm
    rintro j5 ⟨iO,mN⟩ hj5 hl5 hm
    rw[hK5]at hm
    exact qDs [] [] [(155,.bool (decide ((j5:Int)<(([aD,eT.1]:List Int).length:Int))))]<|A.seq<|qF (ltF hl5)<|A.exit<|qG [(0,hto (inc hx4 hb4))] [29,146,152,153,154,155] [(146,i6 ((j4+1:Nat):Int))] [6029] []<|qX (iO,mN) hm
   rintro j4 ⟨dN,gD⟩ hj4 hl4 hm
   rw[hK4]at hm
   exact qDs [] [] [(147,.bool (decide ((j4:Int)<(([p,(aH.mk (2:Int) (0:Int) (0:Int) aT.1.Length bA.1 (0:Int) (0:Int) (0:Int) m_1 (⟨#[]⟩:ByteArray))]:List aH).length:Int))))]<|A.seq<|qF (ltF hl4)<|A.exit<|qG [(0,hto (inc hx3 hb3))] [27,138,144,145,146,147] [(138,i6 ((j3+1:Nat):Int))] [6027] []<|qX (dN,gD) hm
  rintro j3 ⟨gC,eM⟩ hj3 hl3 hm
  rw[hK3]at hm
  exact qDs [] [] [(139,.bool (decide ((j3:Int)<(([top,bq.1]:List aa).length:Int))))]<|A.seq<|qF (ltF hl3)<|A.exit<|qG [(0,hto (inc hx2 hb2))] [25,125,136,137,138,139] [(125,i6 ((j2+1:Nat):Int))] [6025] []<|qX (m_7,m_8,gC,eM) hm
 rintro j2 ⟨m_7,m_8,m_9,fI⟩ hj2 hl2 hm
 rw[hK2]at hm
 refine qDs [] [] [(126,.bool (decide ((j2:Int)<(([raw,aT.1,cu.1]:List aF).length:Int))))]<|A.seq<|qF (ltF hl2)<|A.exit ?_
 obtain⟨ahF,h25,hm⟩:=af hm
 refine qS [(0,hro (wG h25) atk)] [(14,.bool ahF)] [] ?_
 cases hm
 exact A.ret qE
end Go.Proofs.YtdjeacigeegklaaGreat
