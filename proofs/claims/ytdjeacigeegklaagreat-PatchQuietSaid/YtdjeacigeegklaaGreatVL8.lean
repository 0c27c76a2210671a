/- The iJ of ez of the program. No condition but bK bn stand in each. -/
import Derived.Test.YtdjeacigeegklaaGreatDL8
import Derived.Test.YtdjeacigeegklaaGreatVM
namespace Go.Proofs.YtdjeacigeegklaaGreat
open Go Go.Proofs.Tryz
set_option maxRecDepth 100000
set_option linter.all false
theorem yf{t:List Int}{r:Bool}(hm:nG t=some r):RO prog 8 [] [lf aA t] (.bool r):=by
 refine aY func8 rfl rfl ?_
 unfold nG at hm
 refine qS [] [(0,lf aA t)] [] ?_
 obtain⟨ai,h1,hm⟩:=af hm
 refine qS [(1,hdc [900000115] (yR h1) ck9)] [(3,.ptr 900000115 0)] [(900000115,.cells 115 (k6 ai))] ?_
 obtain⟨aD,h2,hm⟩:=af hm
 refine qD [(1,hdc [] (ac4 h2) ck47),(9,.al 8004),(10,.al 8005),(11,.al 8006),(12,.al 8008)] [] [(4,.ptr 8004 0),(5,.ptr 8005 0),(6,.ptr 8006 0),(8,.ptr 8008 0),(9,.bool aD.2.2.2.2.2.1)] [900000115] [(900000115,.cells 115 (k6 aD.2.2.2.2.2.2)),(8004,.cells 28 (k2 aD.1)),(8005,.cells 32 (k7 aD.2.1)),(8006,.cells 63 (k8 aD.2.2.1)),(8008,.cells 36 (k10 aD.2.2.2.2.1))]<|A.seq<|qDs [] [9] [(36,.bool (!aD.2.2.2.2.2.1))] ?_
 rcases ak hm with⟨c1,hm⟩|⟨c1,hm⟩
 ·refine qT c1 ?_
  obtain⟨aX,h3,hm⟩:=af hm
  refine qS [(0,hro (rN h3) alx)] [(2,.bool aX)] [] ?_
  cases hm
  exact A.ret qE
 refine qF c1<|A.skip ?_
 obtain⟨bu,h4,hm⟩:=af hm
 refine qD [(5,hro (adV h4) ck36),(9,.al 8010)] [36] [(10,.ptr 8010 0),(11,i6 bu.2)] [] [(8010,.cells 74 (k14 bu.1))] ?_
 obtain⟨bz,h5,hm⟩:=af hm
 refine qD [(6,hro (ye h5) aue),(10,.al 8012)] [] [(12,.ptr 8012 0),(13,i6 bz.2)] [] [(8012,.cells 74 (k14 bz.1))]<|A.seq ?_
 obtain⟨J1,hJ1,hm⟩:=bZ hm
 refine A.J (J:=J1) (r:=r) (λv_1=>[(3,.ptr 900000115 0),(4,.ptr 8004 0),(5,.ptr 8005 0),(6,.ptr 8006 0),(8,.ptr 8008 0),(10,.ptr 8010 0),(68,.bool v_1)]) (λv_1=>[(900000115,.cells 115 (k6 aD.2.2.2.2.2.2)),(8004,.cells 28 (k2 aD.1)),(8005,.cells 32 (k7 aD.2.1)),(8006,.cells 63 (k8 aD.2.2.1)),(8008,.cells 36 (k10 aD.2.2.2.2.1)),(8010,.cells 74 (k14 bu.1))]) ?_ ?_
 ·rcases ak hm with⟨c2,hm⟩|⟨c2,hm⟩
  ·exact qG [(2,hto (bE c2))] [11,12,13] [(68,.bool true)] [8012] []<|qX true hm
  rcases ak hm with⟨c3,hm⟩|⟨c3,hm⟩
  ·exact qG [(2,hto (bE c2)),(6,hto (bE c3))] [11,12,13] [(68,.bool true)] [8012] []<|qX true hm
  obtain⟨cw,h6,hm⟩:=af hm
  exact qG [(2,hto (bE c2)),(6,hto (bE c3)),(9,hro (oW h6) alz)] [11,12,13] [(68,.bool (!cw))] [8012] []<|qX (!cw) hm
 rintro v_1 hm
 rw[hJ1]at hm
 rcases ak hm with⟨c4,hm⟩|⟨c4,hm⟩
 ·refine qT c4<|qS [] [(2,.bool false)] [] ?_
  cases hm
  exact A.ret qE
 refine qF c4<|A.skip ?_
 obtain⟨bN,h7,hm⟩:=af hm
 refine qD [(2,hdc [500004000,500004001] (aaq h7) ck40),(3,.al 8014)] [3,68] [(14,.ptr 8014 0)] [900000115] [(500004000,.slice 67 2 (ml bJ bN.1.Links) 0 false),(500004001,.slice 3 1 (ml aA bN.1.aj) 0 false),(8014,.cells 100 [.own 500004000,.own 500004001])]<|qDs [] [] [(15,.bool false)]<|A.seq ?_
 obtain⟨fq,h8,hm⟩:=af hm
 refine qDs [(1,hro (qg h8) aly),(2,hto (lnE aA fq))] [] [(73,lf aA fq),(74,i6 (fq.length:Int)),(75,i6 0)]<|A.block<|A.bS 73 rfl λhb1=>?_
 obtain⟨B1,K1,hB1,hK1,hm⟩:=bq hm
 refine A.lpI (l:=fq) (j0:=0) (B:=B1) (K:=K1) hm (λj1=>λjt=>[(4,.ptr 8004 0),(5,.ptr 8005 0),(6,.ptr 8006 0),(8,.ptr 8008 0),(10,.ptr 8010 0),(14,.ptr 8014 0),(15,.bool jt),(73,lf aA fq),(74,i6 (fq.length:Int)),(75,i6 (j1:Int))]) (λj1=>λjt=>[(8004,.cells 28 (k2 aD.1)),(8005,.cells 32 (k7 aD.2.1)),(8006,.cells 63 (k8 aD.2.2.1)),(8008,.cells 36 (k10 aD.2.2.2.2.1)),(8010,.cells 74 (k14 bu.1)),(500004000,.slice 67 2 (ml bJ bN.1.Links) 0 false),(500004001,.slice 3 1 (ml aA bN.1.aj) 0 false),(8014,.cells 100 [.own 500004000,.own 500004001])]) ?_ ?_ ?_
 ·exact qW
 ·rintro j1 e1 Z1 jt hj1 hx1 hm
  rw[hB1]at hm
  refine qDs [] [] [(76,.bool (decide ((j1:Int)<(fq.length:Int))))]<|A.seq<|qT (ltT hx1)<|A.skip<|A.seq<|A.block<|qDs [(0,hix (ix aA (bA hx1)))] [76] [(17,i6 e1)] ?_
  rcases ak hm with⟨c5,hm⟩|⟨c5,hm⟩
  ·exact qGs [(1,hto (bE c5))] [15,17] [(15,.bool true)]<|qGs [(0,hto (inc hx1 hb1))] [75] [(75,i6 ((j1+1:Nat):Int))]<|qX true hm
  obtain⟨lI,h9,hm⟩:=af hm
  exact qGs [(1,hto (bE c5)),(5,hle [500004001] (ff h9) xC)] [15,17] [(15,.bool lI)]<|qGs [(0,hto (inc hx1 hb1))] [75] [(75,i6 ((j1+1:Nat):Int))]<|qX lI hm
 rintro j1 jt hj1 hl1 hm
 rw[hK1]at hm
 refine qDs [] [] [(76,.bool (decide ((j1:Int)<(fq.length:Int))))]<|A.seq<|qF (ltF hl1)<|A.exit<|A.seq<|qDs [(2,hto (lnE bJ aD.2.2.1.Links))] [73,74,75,76] [(88,lf bJ aD.2.2.1.Links),(89,i6 (aD.2.2.1.Links.length:Int)),(90,i6 0)]<|A.block<|A.bS 88 rfl λhb2=>?_
 obtain⟨B2,K2,hB2,hK2,hm⟩:=bq hm
 refine A.lpI (l:=aD.2.2.1.Links) (j0:=0) (B:=B2) (K:=K2) hm (λj2=>λiW=>[(4,.ptr 8004 0),(5,.ptr 8005 0),(6,.ptr 8006 0),(8,.ptr 8008 0),(10,.ptr 8010 0),(14,.ptr 8014 0),(15,.bool iW),(88,lf bJ aD.2.2.1.Links),(89,i6 (aD.2.2.1.Links.length:Int)),(90,i6 (j2:Int))]) (λj2=>λiW=>[(8004,.cells 28 (k2 aD.1)),(8005,.cells 32 (k7 aD.2.1)),(8006,.cells 63 (k8 aD.2.2.1)),(8008,.cells 36 (k10 aD.2.2.2.2.1)),(8010,.cells 74 (k14 bu.1)),(500004000,.slice 67 2 (ml bJ bN.1.Links) 0 false),(500004001,.slice 3 1 (ml aA bN.1.aj) 0 false),(8014,.cells 100 [.own 500004000,.own 500004001])]) ?_ ?_ ?_
 ·exact qW
 ·rintro j2 e2 Z2 iW hj2 hx2 hm
  rw[hB2]at hm
  refine qDs [] [] [(91,.bool (decide ((j2:Int)<(aD.2.2.1.Links.length:Int))))]<|A.seq<|qT (ltT hx2)<|A.skip<|A.seq<|A.block<|qD [(0,hix (ix bJ (bA hx2))),(2,.al 8019)] [91] [(19,.ptr 8019 0)] [] [(8019,.cells 67 (k3 e2))]<|qDs [(2,hto (lnE bJ bN.1.Links))] [] [(95,.own 500004000),(96,i6 (bN.1.Links.length:Int)),(97,i6 0)]<|A.block<|A.bW 95 rfl rfl λhb3=>?_
  obtain⟨B3,K3,hB3,hK3,hm⟩:=bq hm
  refine A.lpI (l:=bN.1.Links) (j0:=0) (B:=B3) (K:=K3) hm (λj3=>λgK=>[(4,.ptr 8004 0),(5,.ptr 8005 0),(6,.ptr 8006 0),(8,.ptr 8008 0),(10,.ptr 8010 0),(14,.ptr 8014 0),(15,.bool gK),(19,.ptr 8019 0),(88,lf bJ aD.2.2.1.Links),(89,i6 (aD.2.2.1.Links.length:Int)),(90,i6 (j2:Int)),(95,.own 500004000),(96,i6 (bN.1.Links.length:Int)),(97,i6 (j3:Int))]) (λj3=>λgK=>[(8004,.cells 28 (k2 aD.1)),(8005,.cells 32 (k7 aD.2.1)),(8006,.cells 63 (k8 aD.2.2.1)),(8008,.cells 36 (k10 aD.2.2.2.2.1)),(8010,.cells 74 (k14 bu.1)),(500004000,.slice 67 2 (ml bJ bN.1.Links) 0 false),(500004001,.slice 3 1 (ml aA bN.1.aj) 0 false),(8014,.cells 100 [.own 500004000,.own 500004001]),(8019,.cells 67 (k3 e2))]) ?_ ?_ ?_
  ·exact qW
  ·rintro j3 e3 Z3 gK hj3 hx3 hm
   rw[hB3]at hm
   refine qDs [] [] [(98,.bool (decide ((j3:Int)<(bN.1.Links.length:Int))))]<|A.seq<|qT (ltT hx3)<|A.skip<|A.seq<|A.block<|qD [(0,hix (ix bJ (bA hx3))),(1,hlo 500004000 0 (ix bJ (bA hx3))),(2,.al 8021)] [98] [(21,.ptr 8021 0)] [] [(8021,.cells 67 (k3 e3))] ?_
   rcases ak hm with⟨c6,hm⟩|⟨c6,hm⟩
   ·exact qG [(1,hto (bE c6))] [15,21] [(15,.bool true)] [8021] []<|qGs [(0,hto (inc hx3 hb3))] [97] [(97,i6 ((j3+1:Nat):Int))]<|qX true hm
   rcases ak hm with⟨c7,hm⟩|⟨c7,hm⟩
   ·rcases ak hm with⟨c8,hm⟩|⟨c8,hm⟩
    ·exact qG [(1,hto (bE c6)),(7,hto (bE c7)),(15,hto (bE c8))] [15,21] [(15,.bool true)] [8021] []<|qGs [(0,hto (inc hx3 hb3))] [97] [(97,i6 ((j3+1:Nat):Int))]<|qX true hm
    rcases ak hm with⟨c9,hm⟩|⟨c9,hm⟩
    ·exact qG [(1,hto (bE c6)),(7,hto (bE c7)),(15,hto (bE c8)),(21,hto (bE c9))] [15,21] [(15,.bool (decide (e3.To=e2.bx)))] [8021] []<|qGs [(0,hto (inc hx3 hb3))] [97] [(97,i6 ((j3+1:Nat):Int))]<|qX (decide (e3.To=e2.bx)) hm
    exact qG [(1,hto (bE c6)),(7,hto (bE c7)),(15,hto (bE c8)),(21,hto (bE c9))] [15,21] [(15,.bool false)] [8021] []<|qGs [(0,hto (inc hx3 hb3))] [97] [(97,i6 ((j3+1:Nat):Int))]<|qX false hm
   rcases ak hm with⟨c10,hm⟩|⟨c10,hm⟩
   ·exact qG [(1,hto (bE c6)),(7,hto (bE c7)),(21,hto (bE c10))] [15,21] [(15,.bool (decide (e3.To=e2.bx)))] [8021] []<|qGs [(0,hto (inc hx3 hb3))] [97] [(97,i6 ((j3+1:Nat):Int))]<|qX (decide (e3.To=e2.bx)) hm
   exact qG [(1,hto (bE c6)),(7,hto (bE c7)),(21,hto (bE c10))] [15,21] [(15,.bool false)] [8021] []<|qGs [(0,hto (inc hx3 hb3))] [97] [(97,i6 ((j3+1:Nat):Int))]<|qX false hm
  rintro j3 gK hj3 hl3 hm
  rw[hK3]at hm
  exact qDs [] [] [(98,.bool (decide ((j3:Int)<(bN.1.Links.length:Int))))]<|A.seq<|qF (ltF hl3)<|A.exit<|qG [(0,hto (inc hx2 hb2))] [19,90,95,96,97,98] [(90,i6 ((j2+1:Nat):Int))] [8019] []<|qX gK hm
 rintro j2 iW hj2 hl2 hm
 rw[hK2]at hm
 refine qDs [] [] [(91,.bool (decide ((j2:Int)<(aD.2.2.1.Links.length:Int))))]<|A.seq<|qF (ltF hl2)<|A.exit<|A.seq<|qDs [] [15,88,89,90,91] [(132,.bool iW)] ?_
 rcases ak hm with⟨c11,hm⟩|⟨c11,hm⟩
 ·refine qT c11 ?_
  obtain⟨yW,h10,hm⟩:=af hm
  refine qS [(0,hro (rN h10) alx)] [(2,.bool yW)] [] ?_
  cases hm
  exact A.ret qE
 refine qF c11<|A.skip ?_
 obtain⟨oU,h11,hm⟩:=af hm
 refine A.RS W0 [.fz [500004000,500004001]] [(6,hro (ye h11) aue),(10,.al 8022)] [(10,.ptr 8010 0),(22,.ptr 8022 0),(23,i6 oU.2)] [(8010,.cells 74 (k14 bu.1)),(8022,.cells 74 (k14 oU.1))] (by kernel_rfl) ?_
 rcases ak hm with⟨c12,hm⟩|⟨c12,hm⟩
 ·obtain⟨aa7,h12,hm⟩:=af hm
  rcases ak hm with⟨c13,hm⟩|⟨c13,hm⟩
  ·obtain⟨qt,h13,hm⟩:=af hm
   refine qS [(2,hto (bE c12)),(5,hro (oW h12) alz),(7,hto (bE c13)),(8,hro (rN h13) alx)] [(2,.bool qt)] [] ?_
   cases hm
   exact A.ret qE
  refine qS [(2,hto (bE c12)),(5,hro (oW h12) alz),(7,hto (bE c13))] [(2,.bool false)] [] ?_
  cases hm
  exact A.ret qE
 refine qS [(2,hto (bE c12))] [(2,.bool false)] [] ?_
 cases hm
 exact A.ret qE
end Go.Proofs.YtdjeacigeegklaaGreat
