/- The gn of dg of the program. No condition but bB aX stand in each. -/
import Derived.Test.YtdjeacigeegklaaGreatDL5
import Derived.Test.YtdjeacigeegklaaGreatDA
import Derived.Test.YtdjeacigeegklaaGreatVM
import Derived.Test.YtdjeacigeegklaaGreatVN
import Derived.Test.YtdjeacigeegklaaGreatVX
import Derived.Test.YtdjeacigeegklaaGreatVE
namespace Go.Proofs.YtdjeacigeegklaaGreat
open Go Go.Proofs.Tryz
set_option maxRecDepth 100000
set_option linter.all false
theorem uZ{t:List Int}{r:Bool}(hm:kU t=some r):RO prog 3 [] [lf aF t] (.bool r):=by
 refine bf func3 rfl rfl ?_
 unfold kU at hm
 refine qS [] [(0,lf aF t)] [] ?_
 obtain⟨ai,h1,hm⟩:=af hm
 refine qS [(1,hdc [900000115] (vJ h1) ck9)] [(3,.ptr 900000115 0)] [(900000115,.cells 115 (k6 ai))] ?_
 obtain⟨aL,h2,hm⟩:=af hm
 refine qD [(1,hdc [] (yg h2) ck10),(2,.al 3004)] [] [(4,.ptr 3004 0)] [900000115] [(900000115,.cells 115 (k6 aL.2)),(3004,.cells 28 (k2 aL.1))] ?_
 obtain⟨aV,h3,hm⟩:=af hm
 refine qD [(2,hdc [] (zh h3) ck11),(3,.al 3005)] [] [(5,.ptr 3005 0)] [900000115] [(900000115,.cells 115 (k6 aV.2)),(3005,.cells 32 (k7 aV.1))]<|qD [(3,.al 3006)] [] [(6,.ptr 3006 0)] [] [(3006,.cells 36 [i6 2,i6 0,i6 0,i6 aV.1.Length,i6 9,i6 0,i6 0,i6 0,.int .u64 (0:Int),.str (⟨#[]⟩:ByteArray)])]<|A.seq<|qDs [(2,hto (lnE ak aV.1.List))] [] [(29,lf ak aV.1.List),(30,i6 (aV.1.List.length:Int)),(31,i6 0)]<|A.block<|A.bS 29 rfl λhb1=>?_
 obtain⟨B1,K1,hB1,hK1,hm⟩:=bn hm
 refine A.lpI (l:=aV.1.List) (j0:=0) (B:=B1) (K:=K1) hm (λj1=>λ(m_1,m_2,m_3)=>[(3,.ptr 900000115 0),(4,.ptr 3004 0),(5,.ptr 3005 0),(6,.ptr 3006 0),(29,lf ak aV.1.List),(30,i6 (aV.1.List.length:Int)),(31,i6 (j1:Int))]) (λj1=>λ(m_1,m_2,m_3)=>[(900000115,.cells 115 [lf aF m_2,i6 m_3]),(3004,.cells 28 (k2 aL.1)),(3005,.cells 32 (k7 aV.1)),(3006,.cells 36 [i6 2,i6 0,i6 0,i6 aV.1.Length,i6 9,i6 0,i6 0,i6 0,.int .u64 m_1,.str (⟨#[]⟩:ByteArray)])]) ?_ ?_ ?_
 ·exact qW
 ·rintro j1 e1 Z1 ⟨m_1,m_2,m_3⟩ hj1 hx1 hm
  rw[hB1]at hm
  refine qDs [] [] [(32,.bool (decide ((j1:Int)<(aV.1.List.length:Int))))]<|A.seq<|qT (ltT hx1)<|A.skip ?_
  show ah _ _ _ _ _
  obtain⟨J1,hJ1,hm⟩:=cg hm
  refine A.J (J:=J1) (r:=r) (λ(m_4,m_5,m_6)=>[(3,.ptr 900000115 0),(4,.ptr 3004 0),(5,.ptr 3005 0),(6,.ptr 3006 0),(29,lf ak aV.1.List),(30,i6 (aV.1.List.length:Int)),(31,i6 (j1:Int))]) (λ(m_4,m_5,m_6)=>[(900000115,.cells 115 [lf aF m_4,i6 m_5]),(3004,.cells 28 (k2 aL.1)),(3005,.cells 32 (k7 aV.1)),(3006,.cells 36 [i6 2,i6 0,i6 0,i6 aV.1.Length,i6 9,i6 0,i6 0,i6 0,.int .u64 m_6,.str (⟨#[]⟩:ByteArray)])]) ?_ ?_
  ·refine A.block<|qD [(0,hix (ix ak (bH hx1))),(2,.al 3008)] [32] [(8,.ptr 3008 0)] [] [(3008,.cells 38 (k5 e1))] ?_
   obtain⟨bz,h4,hm⟩:=af hm
   refine qD [(1,hdc [] (bT h4) mo)] [] [(37,.bool (decide (0<bz.1)))] [900000115] [(900000115,.cells 115 (k6 bz.2))] ?_
   rcases az hm with⟨c1,hm⟩|⟨c1,hm⟩
   ·refine qT c1 ?_
    obtain⟨h5,hm⟩:=er hm
    exact qG [(5,.sh (IntKind.wrap .u64 e1.Bit) (of_decide_eq_true h5))] [8,37] [] [3006,3008] [(3006,.cells 36 [i6 2,i6 0,i6 0,i6 aV.1.Length,i6 9,i6 0,i6 0,i6 0,.int .u64 (aS .or .u64 m_1 (IntKind.wrap .u64 ((1:Int)*2 ^ min (IntKind.wrap .u64 e1.Bit).toNat 64))),.str (⟨#[]⟩:ByteArray)])]<|qX (bz.2.L,bz.2.At,aS .or .u64 m_1 (IntKind.wrap .u64 ((1:Int)*2 ^ min (IntKind.wrap .u64 e1.Bit).toNat 64))) hm
   exact qF c1<|A.skip<|qX (bz.2.L,bz.2.At,m_1) hm
  rintro⟨m_4,m_5,m_6⟩ hm
  rw[hJ1]at hm
  exact qGs [(0,hto (inc hx1 hb1))] [31] [(31,i6 ((j1+1:Nat):Int))]<|qX (m_6,m_4,m_5) hm
 rintro j1 ⟨m_1,m_2,m_3⟩ hj1 hl1 hm
 rw[hK1]at hm
 refine qDs [] [] [(32,.bool (decide ((j1:Int)<(aV.1.List.length:Int))))]<|A.seq<|qF (ltF hl1)<|A.exit ?_
 show ah _ _ _ _ _
 obtain⟨cq,h6,hm⟩:=af hm
 obtain⟨e_1,h7,hm⟩:=af hm
 refine qD [(5,hto (lnE aJ aL.1.aq)),(6,hdc [] (bT h6) mo),(7,hix (ix aJ h7))] [29,30,31,32] [(9,i6 e_1.ID)] [900000115] [(900000115,.cells 115 (k6 cq.2))] ?_
 obtain⟨cH,h8,hm⟩:=af hm
 refine qD [(2,hdc [] (abG h8) ck13)] [3] [(10,lf aF cH.1)] [900000115] [] ?_
 obtain⟨bZ,h9,hm⟩:=af hm
 refine qD [(3,hro (xq h9) ck14),(7,.al 3011)] [] [(11,.ptr 3011 0),(12,i6 bZ.2)] [] [(3011,.cells 46 (k12 bZ.1))] ?_
 obtain⟨dw,h10,hm⟩:=af hm
 refine qD [(5,hro (qY h10) atU),(9,.al 3013)] [4,5,6,9] [(13,.ptr 3013 0),(14,i6 dw.2)] [3004,3005,3006] [(3013,.cells 46 (k12 dw.1))]<|A.seq<|A.mid [(10,lf aF cH.1),(11,.ptr 3011 0),(13,.ptr 3013 0),(88,.bool ((!decide (bZ.2=0))||((!decide (dw.2=0))||(!decide (bZ.1.Local=dw.1.Local)))))] [(3011,.cells 46 (k12 bZ.1)),(3013,.cells 46 (k12 dw.1))] (λhk=>?_) ?_
 ·rcases tf (!decide (bZ.2=0))with c2|c2
  ·exact qS [(2,hto (bE c2)),(12,hto (orT (q:=((!decide (dw.2=0))||(!decide (bZ.1.Local=dw.1.Local)))) c2))] _ _ hk
  rcases tf (!decide (dw.2=0))with c3|c3
  ·exact qS [(2,hto (bE c2)),(6,hto (bE c3)),(12,hto ((orT (q:=!decide (bZ.1.Local=dw.1.Local)) c3).trans (orF (q:=((!decide (dw.2=0))||(!decide (bZ.1.Local=dw.1.Local)))) c2)))] _ _ hk
  exact qS [(2,hto (bE c2)),(6,hto (bE c3)),(12,hto ((orF (q:=!decide (bZ.1.Local=dw.1.Local)) c3).trans (orF (q:=((!decide (dw.2=0))||(!decide (bZ.1.Local=dw.1.Local)))) c2)))] _ _ hk
 rcases az hm with⟨c4,hm⟩|⟨c4,hm⟩
 ·refine qT c4<|qS [] [(2,.bool false)] [] ?_
  cases hm
  exact A.ret qE
 refine qF c4<|A.skip ?_
 show ah _ _ _ _ _
 refine qDs [] [88] [(15,i6 0)]<|A.seq<|qD [(2,hto (lnE cm bZ.1.bu))] [11] [(90,lf cm bZ.1.bu),(91,i6 (bZ.1.bu.length:Int)),(92,i6 0)] [3011] []<|A.block<|A.bS 90 rfl λhb2=>?_
 obtain⟨B2,K2,hB2,hK2,hm⟩:=bn hm
 refine A.lpI (l:=bZ.1.bu) (j0:=0) (B:=B2) (K:=K2) hm (λj2=>λk_1=>[(10,lf aF cH.1),(13,.ptr 3013 0),(15,i6 k_1),(90,lf cm bZ.1.bu),(91,i6 (bZ.1.bu.length:Int)),(92,i6 (j2:Int))]) (λj2=>λk_1=>[(3013,.cells 46 (k12 dw.1))]) ?_ ?_ ?_
 ·exact qW
 ·rintro j2 e2 Z2 k_1 hj2 hx2 hm
  rw[hB2]at hm
  refine qDs [] [] [(93,.bool (decide ((j2:Int)<(bZ.1.bu.length:Int))))]<|A.seq<|qT (ltT hx2)<|A.skip ?_
  show ah _ _ _ _ _
  obtain⟨J2,hJ2,hm⟩:=cg hm
  refine A.J (J:=J2) (r:=r) (λk_2=>[(10,lf aF cH.1),(13,.ptr 3013 0),(15,i6 k_2),(90,lf cm bZ.1.bu),(91,i6 (bZ.1.bu.length:Int)),(92,i6 (j2:Int))]) (λk_2=>[(3013,.cells 46 (k12 dw.1))]) ?_ ?_
  ·refine A.block<|qD [(0,hix (ix cm (bH hx2))),(2,.al 3017)] [93] [(17,.ptr 3017 0)] [] [(3017,.cells 54 (k11 e2))] ?_
   refine A.seq ?_
   obtain⟨nS,h11,hm⟩:=af hm
   refine qDs [(3,hro (gq h11) aaI)] [] [(99,.bool nS)] ?_
   rcases az hm with⟨c5,hm⟩|⟨c5,hm⟩
   ·exact qT c5<|A.exit<|qX k_1 hm
   refine qF c5<|A.skip ?_
   show ah _ _ _ _ _
   refine A.seq<|A.block ?_
   obtain⟨F3,n3,hF3,hm⟩:=lu hm
   refine A.lpW (F:=F3) hm (λk_3=>[(10,lf aF cH.1),(13,.ptr 3013 0),(15,i6 k_3),(17,.ptr 3017 0),(90,lf cm bZ.1.bu),(91,i6 (bZ.1.bu.length:Int)),(92,i6 (j2:Int))]) (λk_3=>[(3013,.cells 46 (k12 dw.1)),(3017,.cells 54 (k11 e2))]) ?_ ?_
   ·exact qW
   rintro Z3 k_3 hm
   rw[hF3]at hm
   refine A.seq ?_
   obtain⟨J3,hJ3,hm⟩:=cg hm
   refine A.J (J:=J3) (r:=r) (λv_1=>[(10,lf aF cH.1),(13,.ptr 3013 0),(15,i6 k_3),(17,.ptr 3017 0),(90,lf cm bZ.1.bu),(91,i6 (bZ.1.bu.length:Int)),(92,i6 (j2:Int)),(118,.bool v_1)]) (λv_1=>[(3013,.cells 46 (k12 dw.1)),(3017,.cells 54 (k11 e2))]) ?_ ?_
   ·rcases az hm with⟨c6,hm⟩|⟨c6,hm⟩
    ·obtain⟨l_1,h12,hm⟩:=af hm
     obtain⟨ud,h13,hm⟩:=af hm
     exact qGs [(3,hto (lnE cm dw.1.bu)),(5,hto (bE c6)),(14,hsl (sl cm h12)),(16,hro (uD h13) ck17)] [] [(118,.bool (!ud))]<|qX (!ud) hm
    exact qGs [(3,hto (lnE cm dw.1.bu)),(5,hto (bE c6))] [] [(118,.bool false)]<|qX false hm
   rintro v_1 hm
   rw[hJ3]at hm
   rcases az hm with⟨c7,hm⟩|⟨c7,hm⟩
   ·refine qT c7<|A.skip ?_
    show ah _ _ _ _ _
    refine A.block<|qGs [] [15,118] [(15,i6 (w64 (k_3+1)))] ?_
    exact qX (w64 (k_3+1)) hm
   refine qF c7<|A.exit ?_
   show ah _ _ _ _ _
   refine A.seq<|qD [(3,hto (lnE cm dw.1.bu))] [17,118] [(125,.bool (decide ((dw.1.bu.length:Int)≤k_3)))] [3017] [] ?_
   rcases az hm with⟨c8,hm⟩|⟨c8,hm⟩
   ·refine qT c8<|qS [] [(2,.bool false)] [] ?_
    cases hm
    exact A.ret qE
   refine qF c8<|A.skip ?_
   show ah _ _ _ _ _
   exact qGs [] [15,125] [(15,i6 (w64 (k_3+1)))]<|qX (w64 (k_3+1)) hm
  rintro k_2 hm
  rw[hJ2]at hm
  exact qGs [(0,hto (inc hx2 hb2))] [92] [(92,i6 ((j2+1:Nat):Int))]<|qX k_2 hm
 rintro j2 k_1 hj2 hl2 hm
 rw[hK2]at hm
 refine qDs [] [] [(93,.bool (decide ((j2:Int)<(bZ.1.bu.length:Int))))]<|A.seq<|qF (ltF hl2)<|A.exit ?_
 show ah _ _ _ _ _
 obtain⟨nF,h14,hm⟩:=af hm
 refine qS [(0,hro (zg h14) ck18)] [(2,.bool nF)] [] ?_
 cases hm
 exact A.ret qE
end Go.Proofs.YtdjeacigeegklaaGreat
