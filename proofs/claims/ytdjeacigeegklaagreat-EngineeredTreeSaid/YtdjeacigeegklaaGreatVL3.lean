/- The gq of dx of the program. No condition but br aM stand in each. -/
import Derived.Test.YtdjeacigeegklaaGreatDL3
import Derived.Test.YtdjeacigeegklaaGreatVL
namespace Go.Proofs.YtdjeacigeegklaaGreat
open Go Go.Proofs.Tryz
set_option maxRecDepth 100000
set_option linter.all false
theorem qY{t:List Int}{r:Bool}(hm:iO t=some r):RO prog 4 [] [lf aG t] (.bool r):=by
 refine bu func4 rfl rfl ?_
 unfold iO at hm
 refine qS [] [(0,lf aG t)] [] ?_
 obtain⟨ak,h1,hm⟩:=aa hm
 refine qS [(1,hdc [900000115] (uF h1) ck9)] [(3,.ptr 900000115 0)] [(900000115,.cells 115 (k5 ak))] ?_
 obtain⟨aO,h2,hm⟩:=aa hm
 refine qD [(1,hdc [] (xg h2) ck10),(2,.al 4004)] [] [(4,.ptr 4004 0)] [900000115] [(900000115,.cells 115 (k5 aO.2)),(4004,.cells 28 (k2 aO.1))] ?_
 obtain⟨bT,h3,hm⟩:=aa hm
 refine qD [(1,hro (sS h3) aop),(5,.al 4005)] [] [(5,.ptr 4005 0),(6,i6 bT.2)] [] [(4005,.cells 32 (k6 bT.1))]<|A.seq<|qDs [] [6] [(35,.bool (!decide (bT.2=0)))] ?_
 rcases aq hm with⟨c1,hm⟩|⟨c1,hm⟩
 ·refine qT c1 ?_
  obtain⟨cI,h4,hm⟩:=aa hm
  refine qS [(0,hro (sx h4) aoq)] [(2,.bool cI)] [] ?_
  cases hm
  exact A.ret qE
 refine qF c1<|A.skip ?_
 obtain⟨dY,h5,hm⟩:=aa hm
 obtain⟨e_1,h6,hm⟩:=aa hm
 refine qD [(5,hto (lnE bg aO.1.aF)),(6,hdc [] (cK h5) qC),(7,hix (ix bg h6))] [35] [(7,i6 e_1.ID)] [900000115] [(900000115,.cells 115 (k5 dY.2))] ?_
 obtain⟨bD,h7,hm⟩:=aa hm
 refine qD [(3,hdc [] (aaT h7) ck21),(4,.al 4008)] [] [(8,.ptr 4008 0)] [900000115] [(900000115,.cells 115 (k5 bD.2)),(4008,.cells 63 (k7 bD.1))]<|qDs [] [] [(9,.aS)]<|A.seq ?_
 obtain⟨dA,h8,hm⟩:=aa hm
 refine qDs [(1,hro (v7 h8) ck22),(2,hto (lnE aG dA))] [] [(52,lf aG dA),(53,i6 (dA.length:Int)),(54,i6 0)]<|A.block<|A.bS 52 rfl λhb1=>?_
 obtain⟨B1,K1,hB1,hK1,hm⟩:=bA hm
 refine A.lpI (l:=dA) (j0:=0) (B:=B1) (K:=K1) hm (λj1=>λ(bR,m_1,m_2)=>[(3,.ptr 900000115 0),(4,.ptr 4004 0),(5,.ptr 4005 0),(7,i6 e_1.ID),(8,.ptr 4008 0),(9,.own 600004009),(52,lf aG dA),(53,i6 (dA.length:Int)),(54,i6 (j1:Int))]) (λj1=>λ(bR,m_1,m_2)=>[(900000115,.cells 115 [lf aG m_1,i6 m_2]),(4004,.cells 28 (k2 aO.1)),(4005,.cells 32 (k6 bT.1)),(4008,.cells 63 (k7 bD.1)),(600004009,.slice 3 1 (ml aG bR) 0 false)]) ?_ ?_ ?_
 ·exact bp.go [.ad 9 600004009 3 1] [] (by kernel_rfl)
 ·rintro j1 e1 Z1 ⟨bR,m_1,m_2⟩ hj1 hx1 hm
  rw[hB1]at hm
  refine qDs [] [] [(55,.bool (decide ((j1:Int)<(dA.length:Int))))]<|A.seq<|qT (ltT hx1)<|A.skip ?_
  obtain⟨J1,hJ1,hm⟩:=cR hm
  refine A.J (J:=J1) (r:=r) (λ(jF,m_3,m_4)=>[(3,.ptr 900000115 0),(4,.ptr 4004 0),(5,.ptr 4005 0),(7,i6 e_1.ID),(8,.ptr 4008 0),(9,.own 600004009),(52,lf aG dA),(53,i6 (dA.length:Int)),(54,i6 (j1:Int))]) (λ(jF,m_3,m_4)=>[(900000115,.cells 115 [lf aG m_3,i6 m_4]),(4004,.cells 28 (k2 aO.1)),(4005,.cells 32 (k6 bT.1)),(4008,.cells 63 (k7 bD.1)),(600004009,.slice 3 1 (ml aG jF) 0 false)]) ?_ ?_
  ·refine A.block<|qDs [(0,hix (ix aG (bK hx1)))] [55] [(11,i6 e1)] ?_
   refine qDs [] [] [(12,.bool true)]<|A.seq<|qDs [(2,hto (lnE bt bD.1.Links))] [] [(59,lf bt bD.1.Links),(60,i6 (bD.1.Links.length:Int)),(61,i6 0)]<|A.block<|A.bS 59 rfl λhb2=>?_
   obtain⟨B2,K2,hB2,hK2,hm⟩:=bA hm
   refine A.lpI (l:=bD.1.Links) (j0:=0) (B:=B2) (K:=K2) hm (λj2=>λmz=>[(3,.ptr 900000115 0),(4,.ptr 4004 0),(5,.ptr 4005 0),(7,i6 e_1.ID),(8,.ptr 4008 0),(9,.own 600004009),(11,i6 e1),(12,.bool mz),(52,lf aG dA),(53,i6 (dA.length:Int)),(54,i6 (j1:Int)),(59,lf bt bD.1.Links),(60,i6 (bD.1.Links.length:Int)),(61,i6 (j2:Int))]) (λj2=>λmz=>[(900000115,.cells 115 [lf aG m_1,i6 m_2]),(4004,.cells 28 (k2 aO.1)),(4005,.cells 32 (k6 bT.1)),(4008,.cells 63 (k7 bD.1)),(600004009,.slice 3 1 (ml aG bR) 0 false)]) ?_ ?_ ?_
   ·exact qW
   ·rintro j2 e2 Z2 mz hj2 hx2 hm
    rw[hB2]at hm
    refine qDs [] [] [(62,.bool (decide ((j2:Int)<(bD.1.Links.length:Int))))]<|A.seq<|qT (ltT hx2)<|A.skip<|A.seq<|A.block<|qD [(0,hix (ix bt (bK hx2))),(2,.al 4014)] [62] [(14,.ptr 4014 0)] [] [(4014,.cells 67 (k3 e2))] ?_
    rcases aq hm with⟨c2,hm⟩|⟨c2,hm⟩
    ·exact qG [(1,hto (bE c2))] [12,14] [(12,.bool (!decide (e2.bh=e1)))] [4014] []<|qGs [(0,hto (inc hx2 hb2))] [61] [(61,i6 ((j2+1:Nat):Int))]<|qX (!decide (e2.bh=e1)) hm
    exact qG [(1,hto (bE c2))] [12,14] [(12,.bool false)] [4014] []<|qGs [(0,hto (inc hx2 hb2))] [61] [(61,i6 ((j2+1:Nat):Int))]<|qX false hm
   rintro j2 mz hj2 hl2 hm
   rw[hK2]at hm
   refine qDs [] [] [(62,.bool (decide ((j2:Int)<(bD.1.Links.length:Int))))]<|A.seq<|qF (ltF hl2)<|A.exit ?_
   obtain⟨J2,hJ2,hm⟩:=cR hm
   refine A.J (J:=J2) (r:=r) (λ(v_1,m_5,m_6)=>[(3,.ptr 900000115 0),(4,.ptr 4004 0),(5,.ptr 4005 0),(7,i6 e_1.ID),(8,.ptr 4008 0),(9,.own 600004009),(11,i6 e1),(52,lf aG dA),(53,i6 (dA.length:Int)),(54,i6 (j1:Int)),(78,.bool v_1)]) (λ(v_1,m_5,m_6)=>[(900000115,.cells 115 [lf aG m_5,i6 m_6]),(4004,.cells 28 (k2 aO.1)),(4005,.cells 32 (k6 bT.1)),(4008,.cells 63 (k7 bD.1)),(600004009,.slice 3 1 (ml aG bR) 0 false)]) ?_ ?_
   ·rcases aq hm with⟨c3,hm⟩|⟨c3,hm⟩
    ·exact qGs [(1,hto (bE c3))] [12,59,60,61,62] [(78,.bool true)]<|qX (true,m_1,m_2) hm
    obtain⟨eS,h9,hm⟩:=aa hm
    exact qG [(1,hto (bE c3)),(3,hdc [] (cK h9) qC)] [12,59,60,61,62] [(78,.bool (decide (eS.1=0)))] [900000115] [(900000115,.cells 115 (k5 eS.2))]<|qX (decide (eS.1=0),eS.2.L,eS.2.At) hm
   rintro⟨v_1,m_5,m_6⟩ hm
   rw[hJ2]at hm
   rcases aq hm with⟨c4,hm⟩|⟨c4,hm⟩
   ·refine qT c4 ?_
    obtain⟨l_1,h10,hm⟩:=aa hm
    exact qG [(3,hap 4582 (ap aG (bytes:=8) (by decide) h10))] [9,11,78] [(9,.own 4582)] [600004009] [(4582,.slice 3 1 (ml aG l_1) 0 false)]<|Exists.intro (l_1,m_5,m_6) (And.intro hm (bp.go [.sw 4582 600004009] [] (by kernel_rfl)))
   exact qF c4<|A.skip<|qX (bR,m_5,m_6) hm
  rintro⟨jF,m_3,m_4⟩ hm
  rw[hJ1]at hm
  exact qGs [(0,hto (inc hx1 hb1))] [54] [(54,i6 ((j1+1:Nat):Int))]<|qX (jF,m_3,m_4) hm
 rintro j1 ⟨bR,m_1,m_2⟩ hj1 hl1 hm
 rw[hK1]at hm
 refine qDs [] [] [(55,.bool (decide ((j1:Int)<(dA.length:Int))))]<|A.seq<|qF (ltF hl1)<|A.exit ?_
 obtain⟨lP,h11,hm⟩:=aa hm
 refine qD [(4,hle [600004009] (tC h11) ck23),(8,.al 4015)] [3,52,53,54,55] [(15,.ptr 4015 0),(16,i6 lP.2)] [900000115] [(4015,.cells 36 (k10 lP.1))] ?_
 obtain⟨bM,h12,hm⟩:=aa hm
 refine qD [(4,hro (pO h12) aor),(8,.al 4017)] [4,5,15] [(17,.ptr 4017 0),(18,i6 bM.2)] [4004,4005,4015] [(4017,.cells 74 (k13 bM.1))]<|A.seq<|A.mid [(7,i6 e_1.ID),(8,.ptr 4008 0),(9,.own 600004009),(17,.ptr 4017 0),(128,.bool ((!decide (lP.2=0))||((!decide (bM.2=0))||((decide (0<(bM.1.jo.length:Int)))||((!decide ((bM.1.cm.length:Int)=(bR.length:Int)))||(!decide ((bM.1.cH.length:Int)=(bD.1.Links.length:Int))))))))] [(4008,.cells 63 (k7 bD.1)),(600004009,.slice 3 1 (ml aG bR) 0 false),(4017,.cells 74 (k13 bM.1))] (λhk=>?_) ?_
 ·rcases tf (!decide (lP.2=0))with c5|c5
  ·exact qS [(2,hto (bE c5)),(28,hto (orT (q:=((!decide (bM.2=0))||((decide (0<(bM.1.jo.length:Int)))||((!decide ((bM.1.cm.length:Int)=(bR.length:Int)))||(!decide ((bM.1.cH.length:Int)=(bD.1.Links.length:Int))))))) c5))] _ _ hk
  rcases tf (!decide (bM.2=0))with c6|c6
  ·exact qS [(2,hto (bE c5)),(6,hto (bE c6)),(28,hto ((orT (q:=((decide (0<(bM.1.jo.length:Int)))||((!decide ((bM.1.cm.length:Int)=(bR.length:Int)))||(!decide ((bM.1.cH.length:Int)=(bD.1.Links.length:Int)))))) c6).trans (orF (q:=((!decide (bM.2=0))||((decide (0<(bM.1.jo.length:Int)))||((!decide ((bM.1.cm.length:Int)=(bR.length:Int)))||(!decide ((bM.1.cH.length:Int)=(bD.1.Links.length:Int))))))) c5)))] _ _ hk
  rcases tf (decide (0<(bM.1.jo.length:Int)))with c7|c7
  ·exact qS [(2,hto (bE c5)),(6,hto (bE c6)),(9,hto (lnE jN bM.1.jo)),(12,hto (bE c7)),(28,hto (((orT (q:=((!decide ((bM.1.cm.length:Int)=(bR.length:Int)))||(!decide ((bM.1.cH.length:Int)=(bD.1.Links.length:Int))))) c7).trans (orF (q:=((decide (0<(bM.1.jo.length:Int)))||((!decide ((bM.1.cm.length:Int)=(bR.length:Int)))||(!decide ((bM.1.cH.length:Int)=(bD.1.Links.length:Int)))))) c6)).trans (orF (q:=((!decide (bM.2=0))||((decide (0<(bM.1.jo.length:Int)))||((!decide ((bM.1.cm.length:Int)=(bR.length:Int)))||(!decide ((bM.1.cH.length:Int)=(bD.1.Links.length:Int))))))) c5)))] _ _ hk
  rcases tf (!decide ((bM.1.cm.length:Int)=(bR.length:Int)))with c8|c8
  ·exact qS [(2,hto (bE c5)),(6,hto (bE c6)),(9,hto (lnE jN bM.1.jo)),(12,hto (bE c7)),(15,hto (lnE dn bM.1.cm)),(17,hto (lnE aG bR)),(20,hto (bE c8)),(28,hto ((((orT (q:=!decide ((bM.1.cH.length:Int)=(bD.1.Links.length:Int))) c8).trans (orF (q:=((!decide ((bM.1.cm.length:Int)=(bR.length:Int)))||(!decide ((bM.1.cH.length:Int)=(bD.1.Links.length:Int))))) c7)).trans (orF (q:=((decide (0<(bM.1.jo.length:Int)))||((!decide ((bM.1.cm.length:Int)=(bR.length:Int)))||(!decide ((bM.1.cH.length:Int)=(bD.1.Links.length:Int)))))) c6)).trans (orF (q:=((!decide (bM.2=0))||((decide (0<(bM.1.jo.length:Int)))||((!decide ((bM.1.cm.length:Int)=(bR.length:Int)))||(!decide ((bM.1.cH.length:Int)=(bD.1.Links.length:Int))))))) c5)))] _ _ hk
  exact qS [(2,hto (bE c5)),(6,hto (bE c6)),(9,hto (lnE jN bM.1.jo)),(12,hto (bE c7)),(15,hto (lnE dn bM.1.cm)),(17,hto (lnE aG bR)),(20,hto (bE c8)),(23,hto (lnE dI bM.1.cH)),(26,hto (lnE bt bD.1.Links)),(28,hto ((((orF (q:=!decide ((bM.1.cH.length:Int)=(bD.1.Links.length:Int))) c8).trans (orF (q:=((!decide ((bM.1.cm.length:Int)=(bR.length:Int)))||(!decide ((bM.1.cH.length:Int)=(bD.1.Links.length:Int))))) c7)).trans (orF (q:=((decide (0<(bM.1.jo.length:Int)))||((!decide ((bM.1.cm.length:Int)=(bR.length:Int)))||(!decide ((bM.1.cH.length:Int)=(bD.1.Links.length:Int)))))) c6)).trans (orF (q:=((!decide (bM.2=0))||((decide (0<(bM.1.jo.length:Int)))||((!decide ((bM.1.cm.length:Int)=(bR.length:Int)))||(!decide ((bM.1.cH.length:Int)=(bD.1.Links.length:Int))))))) c5)))] _ _ hk
 rcases aq hm with⟨c9,hm⟩|⟨c9,hm⟩
 ·refine qT c9<|qS [] [(2,.bool false)] [] ?_
  cases hm
  exact A.ret qE
 refine qF c9<|A.skip<|qDs [] [128] [(19,.aS)]<|A.seq<|qDs [(2,hto (lnE dn bM.1.cm))] [] [(130,lf dn bM.1.cm),(131,i6 (bM.1.cm.length:Int)),(132,i6 0)]<|A.block<|A.bS 130 rfl λhb3=>?_
 obtain⟨B3,K3,hB3,hK3,hm⟩:=bA hm
 refine A.lpI (l:=bM.1.cm) (j0:=0) (B:=B3) (K:=K3) hm (λj3=>λpI=>[(7,i6 e_1.ID),(8,.ptr 4008 0),(9,.own 600004009),(17,.ptr 4017 0),(19,lf aG pI),(130,lf dn bM.1.cm),(131,i6 (bM.1.cm.length:Int)),(132,i6 (j3:Int))]) (λj3=>λpI=>[(4008,.cells 63 (k7 bD.1)),(600004009,.slice 3 1 (ml aG bR) 0 false),(4017,.cells 74 (k13 bM.1))]) ?_ ?_ ?_
 ·exact bp.go [] [19] (by kernel_rfl)
 ·rintro j3 e3 Z3 pI hj3 hx3 hm
  rw[hB3]at hm
  refine qDs [] [] [(133,.bool (decide ((j3:Int)<(bM.1.cm.length:Int))))]<|A.seq<|qT (ltT hx3)<|A.skip<|A.seq<|A.block<|qD [(0,hix (ix dn (bK hx3))),(2,.al 4021)] [133] [(21,.ptr 4021 0)] [] [(4021,.cells 78 [i6 e3.aR,i6 e3.bU.Mode,i6 e3.bU.cL,i6 e3.bU.Set,i6 e3.bU.Length,i6 e3.bU.TTL,i6 e3.bU.dG,i6 e3.bU.dH,i6 e3.bU.fk,.int .u64 e3.bU.Bits,.str e3.bU.cv])] ?_
  obtain⟨lz,h13,hm⟩:=aa hm
  refine qDs [(3,hro (pG h13) aos)] [19] [(19,lf aG lz)]<|qD [(3,.sq true 9 (.str e3.bU.cv) (.str (⟨#[120]⟩:ByteArray)) (!(e3.bU.cv.toList==(⟨#[120]⟩:ByteArray).toList)) (λx y w=>agh x y _ _ w underlying9))] [21] [(143,.bool (!(e3.bU.cv.toList==(⟨#[120]⟩:ByteArray).toList)))] [4021] [] ?_
  rcases aq hm with⟨c10,hm⟩|⟨c10,hm⟩
  ·refine qT c10<|qS [] [(2,.bool false)] [] ?_
   cases hm
   exact A.ret qE
  exact qF c10<|A.skip<|qGs [(0,hto (inc hx3 hb3))] [132,143] [(132,i6 ((j3+1:Nat):Int))]<|Exists.intro lz (And.intro hm (bp.go [] [19] (by kernel_rfl)))
 rintro j3 pI hj3 hl3 hm
 rw[hK3]at hm
 refine qDs [] [] [(133,.bool (decide ((j3:Int)<(bM.1.cm.length:Int))))]<|A.seq<|qF (ltF hl3)<|A.exit<|qDs [] [130,131,132,133] [(22,.aS)]<|A.seq<|qD [(2,hto (lnE dI bM.1.cH))] [17] [(146,lf dI bM.1.cH),(147,i6 (bM.1.cH.length:Int)),(148,i6 0)] [4017] []<|A.block<|A.bS 146 rfl λhb4=>?_
 obtain⟨B4,K4,hB4,hK4,hm⟩:=bA hm
 refine A.lpI (l:=bM.1.cH) (j0:=0) (B:=B4) (K:=K4) hm (λj4=>λjG=>[(7,i6 e_1.ID),(8,.ptr 4008 0),(9,.own 600004009),(19,lf aG pI),(22,lf bt jG),(146,lf dI bM.1.cH),(147,i6 (bM.1.cH.length:Int)),(148,i6 (j4:Int))]) (λj4=>λjG=>[(4008,.cells 63 (k7 bD.1)),(600004009,.slice 3 1 (ml aG bR) 0 false)]) ?_ ?_ ?_
 ·exact bp.go [] [22] (by kernel_rfl)
 ·rintro j4 e4 Z4 jG hj4 hx4 hm
  rw[hB4]at hm
  refine qDs [] [] [(149,.bool (decide ((j4:Int)<(bM.1.cH.length:Int))))]<|A.seq<|qT (ltT hx4)<|A.skip<|A.seq<|A.block<|qD [(0,hix (ix dI (bK hx4))),(2,.al 4024)] [149] [(24,.ptr 4024 0)] [] [(4024,.cells 81 [i6 e4.bh,i6 e4.To,.int .u64 e4.Bits])] ?_
  obtain⟨qj,h14,hm⟩:=aa hm
  exact qG [(6,hro (wh h14) aot)] [22,24] [(22,lf bt qj)] [4024] []<|qGs [(0,hto (inc hx4 hb4))] [148] [(148,i6 ((j4+1:Nat):Int))]<|Exists.intro qj (And.intro hm (bp.go [] [22] (by kernel_rfl)))
 rintro j4 jG hj4 hl4 hm
 rw[hK4]at hm
 refine qDs [] [] [(149,.bool (decide ((j4:Int)<(bM.1.cH.length:Int))))]<|A.seq<|qF (ltF hl4)<|A.exit ?_
 obtain⟨nY,h15,hm⟩:=aa hm
 rcases aq hm with⟨c11,hm⟩|⟨c11,hm⟩
 ·obtain⟨ahV,h16,hm⟩:=aa hm
  rcases aq hm with⟨c12,hm⟩|⟨c12,hm⟩
  ·obtain⟨adN,h17,hm⟩:=aa hm
   refine qS [(2,hle [600004009] (lK h15) agn),(3,hto (bE c11)),(8,hro (pM h16) aou),(10,hto (bE c12)),(11,hro (sx h17) aoq)] [(2,.bool adN)] [] ?_
   cases hm
   exact A.ret qE
  refine qS [(2,hle [600004009] (lK h15) agn),(3,hto (bE c11)),(8,hro (pM h16) aou),(10,hto (bE c12))] [(2,.bool false)] [] ?_
  cases hm
  exact A.ret qE
 refine qS [(2,hle [600004009] (lK h15) agn),(3,hto (bE c11))] [(2,.bool false)] [] ?_
 cases hm
 exact A.ret qE
end Go.Proofs.YtdjeacigeegklaaGreat
