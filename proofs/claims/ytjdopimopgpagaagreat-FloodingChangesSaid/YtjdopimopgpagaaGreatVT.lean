/- The ew of cA of the program. No condition but bM bw stand in each. -/
import Derived.Test.YtjdopimopgpagaaGreatV3
namespace Go.Proofs.YtjdopimopgpagaaGreat
open Go Go.Proofs.Tryz
set_option maxRecDepth 100000
set_option linter.all false
theorem sU{t:aS}{aN:Int}{n:Int}{r:ai×aS}(hm:jJ t aN n=some r):bP prog 109 [(900000083,.cells 83 (k3 t))] [.ptr 900000083 0,i6 aN,i6 n] (λa σ'=>a=.agg (k7 r.1)∧σ'=[(900000083,.cells 83 (k3 r.2))]):=by
 refine aZ func109 rfl rfl ?_
 unfold jJ at hm
 refine qS [(0,.al 109006)] [(0,.ptr 900000083 0),(1,i6 aN),(2,i6 n),(6,.ptr 109006 0)] [(900000083,.cells 83 (k3 t)),(109006,.cells 66 [i6 0,i6 0,.bool false,.aI,.aI])] ?_
 obtain⟨af,h1,hm⟩:=aa hm
 obtain⟨aD,h2,hm⟩:=aa hm
 refine qD [(3,hdc [] (dF h1) su),(5,hdc [] (bN h2) iy),(8,.al 109007)] [] [(7,.ptr 109007 0)] [900000083] [(900000083,.cells 83 (k3 aD.2)),(109007,.cells 66 [i6 aN,i6 af.1,.bool (decide (0<aD.1)),.aI,.aI])]<|A.seq<|qDs [] [] [(8,i6 1)]<|A.block ?_
 obtain⟨B1,K1,hB1,hK1,hm⟩:=jW hm
 refine A.lpN (hi:=(7:Int)) (B:=B1) (K:=K1) hm rfl (λj1=>λ(m_1,m_2,m_3)=>[(0,.ptr 900000083 0),(1,i6 aN),(2,i6 n),(6,.ptr 109006 0),(7,.ptr 109007 0),(8,i6 (j1:Int))]) (λj1=>λ(m_1,m_2,m_3)=>[(900000083,.cells 83 [lf bO m_2,i6 m_3]),(109006,.cells 66 [i6 0,i6 0,.bool false,.aI,.aI]),(109007,.cells 66 [i6 aN,i6 af.1,.bool (decide (0<aD.1)),.own 710900703,.aI]),(710900703,.slice 105 3 (ml bq m_1) 0 false)]) ?_ ?_ ?_
 ·exact bz.go [.ac 109007 710900703 105 3 3] [] (by kernel_rfl)
 ·rintro j1 Z1 ⟨m_1,m_2,m_3⟩ hj1 hx1 hm
  rw[hB1]at hm
  refine A.seq<|qDs [] [] [(20,.bool (decide ((j1:Int)≤(6:Int))))] ?_
  refine A.cT rfl (leT hx1)<|A.skip ?_
  obtain⟨J1,hJ1,hm⟩:=bI hm
  refine A.J (J:=J1) (r:=r) (λ(m_4,m_5,m_6)=>[(0,.ptr 900000083 0),(1,i6 aN),(2,i6 n),(6,.ptr 109006 0),(7,.ptr 109007 0),(8,i6 (j1:Int))]) (λ(m_4,m_5,m_6)=>[(900000083,.cells 83 [lf bO m_4,i6 m_5]),(109006,.cells 66 [i6 0,i6 0,.bool false,.aI,.aI]),(109007,.cells 66 [i6 aN,i6 af.1,.bool (decide (0<aD.1)),.own 710900703,.aI]),(710900703,.slice 105 3 (ml bq m_6) 0 false)]) ?_ ?_
  ·refine A.block ?_
   obtain⟨J2,hJ2,hm⟩:=bI hm
   refine A.J (J:=J2) (r:=r) (λ(v_1,m_7,m_8)=>[(0,.ptr 900000083 0),(1,i6 aN),(2,i6 n),(6,.ptr 109006 0),(7,.ptr 109007 0),(8,i6 (j1:Int)),(30,.bool v_1)]) (λ(v_1,m_7,m_8)=>[(900000083,.cells 83 [lf bO m_7,i6 m_8]),(109006,.cells 66 [i6 0,i6 0,.bool false,.aI,.aI]),(109007,.cells 66 [i6 aN,i6 af.1,.bool (decide (0<aD.1)),.own 710900703,.aI]),(710900703,.slice 105 3 (ml bq m_1) 0 false)]) ?_ ?_
   ·rcases aq hm with⟨c1,hm⟩|⟨c1,hm⟩
    ·obtain⟨aP,h3,hm⟩:=aa hm
     exact qG [(3,hto (bE c1)),(5,hdc [] (bN h3) iy)] [20] [(30,.bool (decide (aP.1=0)))] [900000083] [(900000083,.cells 83 (k3 aP.2))]<|qX (decide (aP.1=0),aP.2.L,aP.2.At) hm
    exact qGs [(3,hto (bE c1))] [20] [(30,.bool false)]<|qX (false,m_2,m_3) hm
   rintro⟨v_1,m_7,m_8⟩ hm
   rw[hJ2]at hm
   rcases aq hm with⟨c2,hm⟩|⟨c2,hm⟩
   ·refine qT c2 ?_
    obtain⟨bt,h4,hm⟩:=aa hm
    obtain⟨bF,h5,hm⟩:=aa hm
    obtain⟨l_1,h6,hm⟩:=aa hm
    exact qG [(4,hdc [] (fG h4) yW),(6,hdc [] (bN h5) iy),(9,hap 109540 (ap bq (bytes:=24) (by decide) h6))] [30] [] [900000083,109007,710900703] [(900000083,.cells 83 (k3 bF.2)),(109007,.cells 66 [i6 aN,i6 af.1,.bool (decide (0<aD.1)),.own 109540,.aI]),(109540,.slice 105 3 (ml bq l_1) 0 false)]<|Exists.intro (bF.2.L,bF.2.At,l_1) (And.intro hm (bz.go [.sw 109540 710900703] [] (by kernel_rfl)))
   exact qF c2<|A.skip<|qX (m_7,m_8,m_1) hm
  rintro⟨m_4,m_5,m_6⟩ hm
  rw[hJ1]at hm
  exact qGs [(1,hto (vl (by omega) hx1 (by decide)))] [8] [(8,i6 (j1+1:Int))]<|qX (m_6,m_4,m_5) hm
 rintro j1 ⟨m_1,m_2,m_3⟩ hj1 hl1 hm
 rw[hK1]at hm
 refine A.seq<|qDs [] [] [(20,.bool (decide ((j1:Int)≤(6:Int))))] ?_
 refine A.cF rfl (gtF hl1)<|A.exit<|A.seq<|qDs [] [8,20] [(9,i6 0)]<|A.block ?_
 obtain⟨B2,K2,hB2,hK2,hm⟩:=jW hm
 refine A.lpN (hi:=(2:Int)) (B:=B2) (K:=K2) hm rfl (λj2=>λ(m_9,gT,gH)=>[(0,.ptr 900000083 0),(1,i6 aN),(2,i6 n),(6,.ptr 109006 0),(7,.ptr 109007 0),(9,i6 (j2:Int))]) (λj2=>λ(m_9,gT,gH)=>[(900000083,.cells 83 [lf bO gT,i6 gH]),(109006,.cells 66 [i6 0,i6 0,.bool false,.aI,.aI]),(109007,.cells 66 [i6 aN,i6 af.1,.bool (decide (0<aD.1)),.own 710900703,.own 710900704]),(710900703,.slice 105 3 (ml bq m_1) 0 false),(710900704,.slice 91 3 (ml bg m_9) 0 false)]) ?_ ?_ ?_
 ·exact bz.go [.ac 109007 710900704 91 3 4] [] (by kernel_rfl)
 ·rintro j2 Z2 ⟨m_9,gT,gH⟩ hj2 hx2 hm
  rw[hB2]at hm
  refine A.seq<|qDs [] [] [(43,.bool (decide ((j2:Int)<(2:Int))))] ?_
  refine A.cT rfl (decide_eq_true hx2)<|A.skip ?_
  obtain⟨J3,hJ3,hm⟩:=bI hm
  refine A.J (J:=J3) (r:=r) (λ(lZ,ur,uu)=>[(0,.ptr 900000083 0),(1,i6 aN),(2,i6 n),(6,.ptr 109006 0),(7,.ptr 109007 0),(9,i6 (j2:Int))]) (λ(lZ,ur,uu)=>[(900000083,.cells 83 [lf bO lZ,i6 ur]),(109006,.cells 66 [i6 0,i6 0,.bool false,.aI,.aI]),(109007,.cells 66 [i6 aN,i6 af.1,.bool (decide (0<aD.1)),.own 710900703,.own 710900704]),(710900703,.slice 105 3 (ml bq m_1) 0 false),(710900704,.slice 91 3 (ml bg uu) 0 false)]) ?_ ?_
  ·refine A.block ?_
   obtain⟨cg,h7,hm⟩:=aa hm
   refine qD [(1,hdc [] (bN h7) iy)] [43] [(48,.bool (decide (cg.1=0)))] [900000083] [(900000083,.cells 83 (k3 cg.2))] ?_
   rcases aq hm with⟨c3,hm⟩|⟨c3,hm⟩
   ·refine qT c3 ?_
    obtain⟨cw,h8,hm⟩:=aa hm
    obtain⟨cr,h9,hm⟩:=aa hm
    obtain⟨l_2,h10,hm⟩:=aa hm
    exact qG [(4,hdc [] (fG h8) yW),(6,hdc [] (sS h9) ao9),(9,hap 109558 (ap bg (bytes:=24) (by decide) h10))] [48] [] [900000083,109007,710900704] [(900000083,.cells 83 (k3 cr.2)),(109007,.cells 66 [i6 aN,i6 af.1,.bool (decide (0<aD.1)),.own 710900703,.own 109558]),(109558,.slice 91 3 (ml bg l_2) 0 false)]<|Exists.intro (cr.2.L,cr.2.At,l_2) (And.intro hm (bz.go [.sw 109558 710900704] [] (by kernel_rfl)))
   exact qF c3<|A.skip<|qX (cg.2.L,cg.2.At,m_9) hm
  rintro⟨lZ,ur,uu⟩ hm
  rw[hJ3]at hm
  exact qGs [(1,hto (vl (by omega) hx2 (by decide)))] [9] [(9,i6 (j2+1:Int))]<|qX (uu,lZ,ur) hm
 rintro j2 ⟨m_9,gT,gH⟩ hj2 hl2 hm
 rw[hK2]at hm
 refine A.seq<|qDs [] [] [(43,.bool (decide ((j2:Int)<(2:Int))))] ?_
 refine A.cF rfl (geF hl2)<|A.exit ?_
 obtain⟨J4,hJ4,hm⟩:=bI hm
 refine A.J (J:=J4) (r:=r) (λ(vq,vr,sv,sx,ry,ad9)=>[(6,.ptr 109006 0),(7,.ptr 109007 0)]) (λ(vq,vr,sv,sx,ry,ad9)=>[(900000083,.cells 83 [lf bO vq,i6 vr]),(109006,.cells 66 [i6 0,i6 0,.bool false,.aI,.aI]),(109007,.cells 66 [i6 sv,i6 sx,.bool (decide (0<aD.1)),.own 710900703,.own 710900704]),(710900703,.slice 105 3 (ml bq ry) 0 false),(710900704,.slice 91 3 (ml bg ad9) 0 false)]) ?_ ?_
 ·obtain⟨J5,hJ5,hm⟩:=bI hm
  refine A.J (J:=J5) (r:=r) (λ(v_2,aaV,aaW)=>[(0,.ptr 900000083 0),(1,i6 aN),(6,.ptr 109006 0),(7,.ptr 109007 0),(66,.bool v_2)]) (λ(v_2,aaV,aaW)=>[(900000083,.cells 83 [lf bO aaV,i6 aaW]),(109006,.cells 66 [i6 0,i6 0,.bool false,.aI,.aI]),(109007,.cells 66 [i6 aN,i6 af.1,.bool (decide (0<aD.1)),.own 710900703,.own 710900704]),(710900703,.slice 105 3 (ml bq m_1) 0 false),(710900704,.slice 91 3 (ml bg m_9) 0 false)]) ?_ ?_
  ·rcases aq hm with⟨c4,hm⟩|⟨c4,hm⟩
   ·obtain⟨dJ,h11,hm⟩:=aa hm
    exact qG [(2,hto (bE c4)),(5,hdc [] (iA h11) aaO)] [2,9,43] [(66,.bool dJ.1)] [900000083] [(900000083,.cells 83 (k3 dJ.2))]<|qX (dJ.1,dJ.2.L,dJ.2.At) hm
   exact qGs [(2,hto (bE c4))] [2,9,43] [(66,.bool false)]<|qX (false,gT,gH) hm
  rintro⟨v_2,aaV,aaW⟩ hm
  rw[hJ5]at hm
  rcases aq hm with⟨c5,hm⟩|⟨c5,hm⟩
  ·refine qT c5 ?_
   obtain⟨bK,h12,hm⟩:=aa hm
   refine qD [(1,hdc [] (bN h12) iy)] [66] [(68,i6 bK.1)] [900000083] [(900000083,.cells 83 (k3 bK.2))]<|A.block<|qDs [] [] [(79,.bool (decide (bK.1=0)))] ?_
   rcases aq hm with⟨c6,hm⟩|⟨c6,hm⟩
   ·refine qT c6 ?_
    obtain⟨ei,h13,hm⟩:=aa hm
    exact qG [(1,hdc [] (gU h13) aaP)] [0,1,68,79] [] [900000083,109007] [(900000083,.cells 83 (k3 ei.2)),(109007,.cells 66 [i6 ei.1,i6 af.1,.bool (decide (0<aD.1)),.own 710900703,.own 710900704])]<|qX (ei.2.L,ei.2.At,ei.1,af.1,m_1,m_9) hm
   refine qF c6<|qDs [] [79] [(84,.bool (decide (bK.1=1)))] ?_
   rcases aq hm with⟨c7,hm⟩|⟨c7,hm⟩
   ·refine qT c7 ?_
    obtain⟨cn,h14,hm⟩:=aa hm
    exact qG [(1,hdc [] (gU h14) aaP)] [0,1,68,84] [] [900000083,109007] [(900000083,.cells 83 (k3 cn.2)),(109007,.cells 66 [i6 aN,i6 cn.1,.bool (decide (0<aD.1)),.own 710900703,.own 710900704])]<|qX (cn.2.L,cn.2.At,aN,cn.1,m_1,m_9) hm
   refine qF c7<|qDs [] [84] [(89,.bool (decide (bK.1=2)))] ?_
   rcases aq hm with⟨c8,hm⟩|⟨c8,hm⟩
   ·refine qT c8 ?_
    obtain⟨gY,h15,hm⟩:=aa hm
    obtain⟨mA,h16,hm⟩:=aa hm
    obtain⟨lR,h17,hm⟩:=aa hm
    obtain⟨l_3,h18,hm⟩:=aa hm
    exact qG [(5,hdc [] (dF h15) su),(8,hdc [] (dF h16) su),(11,hdc [] (dF h17) su),(14,hap 109605 (ap bq (bytes:=24) (by decide) h18))] [0,1,68,89] [] [900000083,109007,710900703] [(900000083,.cells 83 (k3 lR.2)),(109007,.cells 66 [i6 aN,i6 af.1,.bool (decide (0<aD.1)),.own 109605,.own 710900704]),(109605,.slice 105 3 (ml bq l_3) 0 false)]<|Exists.intro (lR.2.L,lR.2.At,aN,af.1,l_3,m_9) (And.intro hm (bz.go [.sw 109605 710900703] [] (by kernel_rfl)))
   refine qF c8<|qDs [] [1,89] [(107,.bool (decide (bK.1=3)))] ?_
   rcases aq hm with⟨c9,hm⟩|⟨c9,hm⟩
   ·refine qT c9 ?_
    obtain⟨lS,h19,hm⟩:=aa hm
    obtain⟨nj,h20,hm⟩:=aa hm
    obtain⟨qP,h21,hm⟩:=aa hm
    obtain⟨l_4,h22,hm⟩:=aa hm
    exact qG [(4,hdc [] (dF h19) su),(7,hdc [] (dF h20) su),(10,hdc [] (dF h21) su),(13,hap 109622 (ap bg (bytes:=24) (by decide) h22))] [0,68,107] [] [900000083,109007,710900704] [(900000083,.cells 83 (k3 qP.2)),(109007,.cells 66 [i6 aN,i6 af.1,.bool (decide (0<aD.1)),.own 710900703,.own 109622]),(109622,.slice 91 3 (ml bg l_4) 0 false)]<|Exists.intro (qP.2.L,qP.2.At,aN,af.1,m_1,l_4) (And.intro hm (bz.go [.sw 109622 710900704] [] (by kernel_rfl)))
   refine qF c9<|qDs [] [68,107] [(124,.bool (decide (bK.1=4)))] ?_
   rcases aq hm with⟨c10,hm⟩|⟨c10,hm⟩
   ·refine qT c10<|qDs [] [0,124] [(10,i6 30)]<|A.block ?_
    obtain⟨B3,K3,hB3,hK3,hm⟩:=jW hm
    refine A.lpN (hi:=(54:Int)) (B:=B3) (K:=K3) hm rfl (λj3=>λxO=>[(6,.ptr 109006 0),(7,.ptr 109007 0),(10,i6 (j3:Int))]) (λj3=>λxO=>[(900000083,.cells 83 (k3 bK.2)),(109006,.cells 66 [i6 0,i6 0,.bool false,.aI,.aI]),(109007,.cells 66 [i6 aN,i6 af.1,.bool (decide (0<aD.1)),.own 710900703,.own 710900704]),(710900703,.slice 105 3 (ml bq xO) 0 false),(710900704,.slice 91 3 (ml bg m_9) 0 false)]) ?_ ?_ ?_
    ·exact qW
    ·rintro j3 Z3 xO hj3 hx3 hm
     rw[hB3]at hm
     refine A.seq<|qDs [] [] [(127,.bool (decide ((j3:Int)<(54:Int))))] ?_
     refine A.cT rfl (decide_eq_true hx3)<|A.skip<|A.seq<|A.block ?_
     obtain⟨l_5,h23,hm⟩:=aa hm
     exact qG [(5,hap 109635 (ap bq (bytes:=24) (by decide) h23))] [127] [] [109007,710900703] [(109007,.cells 66 [i6 aN,i6 af.1,.bool (decide (0<aD.1)),.own 109635,.own 710900704]),(109635,.slice 105 3 (ml bq l_5) 0 false)]<|qGs [(1,hto (vl (by omega) hx3 (by decide)))] [10] [(10,i6 (j3+1:Int))]<|Exists.intro l_5 (And.intro hm (bz.go [.sw 109635 710900703] [] (by kernel_rfl)))
    rintro j3 xO hj3 hl3 hm
    rw[hK3]at hm
    refine A.seq<|qDs [] [] [(127,.bool (decide ((j3:Int)<(54:Int))))] ?_
    exact A.cF rfl (geF hl3)<|A.exit<|qX (bK.2.L,bK.2.At,aN,af.1,xO,m_9) hm
   refine qF c10<|qDs [(2,hto (lnE bq m_1))] [124] [(72,.bool (decide (0<(m_1.length:Int))))] ?_
   rcases aq hm with⟨c11,hm⟩|⟨c11,hm⟩
   ·refine qT c11 ?_
    obtain⟨mB,h24,hm⟩:=aa hm
    obtain⟨e_1,h25,hm⟩:=aa hm
    obtain⟨l_6,h26,hm⟩:=aa hm
    exact qG [(3,hdc [] (gU h24) aaP),(4,hix (ix bq h25)),(6,hso 710900703 (st bq (off:=1) (ca:=[i6 mB.1]) h25 h26 rfl) (iu h25).1.1)] [0,72] [] [900000083,710900703] [(900000083,.cells 83 (k3 mB.2)),(710900703,.slice 105 3 (ml bq l_6) 0 false)]<|qX (mB.2.L,mB.2.At,aN,af.1,l_6,m_9) hm
   exact qF c11<|A.skip<|qX (bK.2.L,bK.2.At,aN,af.1,m_1,m_9) hm
  exact qF c5<|A.skip<|qX (aaV,aaW,aN,af.1,m_1,m_9) hm
 rintro⟨vq,vr,sv,sx,ry,ad9⟩ hm
 rw[hJ4]at hm
 refine qD [] [7] [] [109006,109007] [(109006,.cells 66 [i6 sv,i6 sx,.bool (decide (0<aD.1)),.own 710900703,.own 710900704])]<|A.ret ?_
 obtain rfl:=some_inj hm
 exact A.fin W0 [.fz [710900703,710900704]] rfl (by kernel_rfl)
theorem rL{t:aS}{n:Int}{r:aG×aS}(hm:iI t n=some r):bP prog 58 [(900000083,.cells 83 (k3 t))] [.ptr 900000083 0,i6 n] (λa σ'=>a=.agg [.own 500005800]∧σ'=[(900000083,.cells 83 (k3 r.2)),(500005800,.slice 66 5 (ml aM r.1.aC) 0 false)]):=by
 refine aZ func58 rfl rfl ?_
 unfold iI at hm
 refine qS [(0,.al 58004)] [(0,.ptr 900000083 0),(1,i6 n),(4,.ptr 58004 0)] [(900000083,.cells 83 (k3 t)),(58004,.cells 51 [.aI])]<|qD [(0,.al 58005)] [] [(5,.ptr 58005 0)] [] [(58005,.cells 51 [.aI])]<|A.seq<|qDs [] [] [(6,i6 1)]<|A.block ?_
 obtain⟨B1,K1,hB1,hK1,hm⟩:=jW hm
 refine A.lpN (hi:=(7:Int)) (B:=B1) (K:=K1) hm rfl (λj1=>λ(m_1,m_2,m_3)=>[(0,.ptr 900000083 0),(1,i6 n),(4,.ptr 58004 0),(5,.ptr 58005 0),(6,i6 (j1:Int))]) (λj1=>λ(m_1,m_2,m_3)=>[(900000083,.cells 83 [lf bO m_2,i6 m_3]),(58004,.cells 51 [.aI]),(58005,.cells 51 [.own 705800500]),(705800500,.slice 66 5 (ml aM m_1) 0 false)]) ?_ ?_ ?_
 ·exact bz.go [.ac 58005 705800500 66 5 0] [] (by kernel_rfl)
 ·rintro j1 Z1 ⟨m_1,m_2,m_3⟩ hj1 hx1 hm
  rw[hB1]at hm
  refine A.seq<|qDs [] [] [(8,.bool (decide ((j1:Int)≤(6:Int))))] ?_
  refine A.cT rfl (leT hx1)<|A.skip ?_
  obtain⟨J1,hJ1,hm⟩:=bI hm
  refine A.J (J:=J1) (r:=r) (λ(m_4,m_5,m_6)=>[(0,.ptr 900000083 0),(1,i6 n),(4,.ptr 58004 0),(5,.ptr 58005 0),(6,i6 (j1:Int))]) (λ(m_4,m_5,m_6)=>[(900000083,.cells 83 [lf bO m_4,i6 m_5]),(58004,.cells 51 [.aI]),(58005,.cells 51 [.own 705800500]),(705800500,.slice 66 5 (ml aM m_6) 0 false)]) ?_ ?_
  ·refine A.block ?_
   obtain⟨af,h1,hm⟩:=aa hm
   refine qD [(1,hdc [] (bN h1) iy)] [8] [(13,.bool (decide (0<af.1)))] [900000083] [(900000083,.cells 83 (k3 af.2))] ?_
   rcases aq hm with⟨c1,hm⟩|⟨c1,hm⟩
   ·refine qT c1 ?_
    obtain⟨aD,h2,hm⟩:=aa hm
    obtain⟨l_1,h3,hm⟩:=aa hm
    exact qG [(4,hdc [] (sU h2) ajX),(6,hap 58520 (ap aM (bytes:=72) (by decide) h3))] [13] [] [900000083,58005,705800500] [(900000083,.cells 83 (k3 aD.2)),(58005,.cells 51 [.own 58520]),(58520,.slice 66 5 (ml aM l_1) 0 false)]<|Exists.intro (aD.2.L,aD.2.At,l_1) (And.intro hm (bz.go [.sw 58520 705800500] [] (by kernel_rfl)))
   exact qF c1<|A.skip<|qX (af.2.L,af.2.At,m_1) hm
  rintro⟨m_4,m_5,m_6⟩ hm
  rw[hJ1]at hm
  exact qGs [(1,hto (vl (by omega) hx1 (by decide)))] [6] [(6,i6 (j1+1:Int))]<|qX (m_6,m_4,m_5) hm
 rintro j1 ⟨m_1,m_2,m_3⟩ hj1 hl1 hm
 rw[hK1]at hm
 refine A.seq<|qDs [] [] [(8,.bool (decide ((j1:Int)≤(6:Int))))] ?_
 refine A.cF rfl (gtF hl1)<|A.exit ?_
 obtain⟨J2,hJ2,hm⟩:=bI hm
 refine A.J (J:=J2) (r:=r) (λ(m_7,m_8,m_9)=>[(4,.ptr 58004 0),(5,.ptr 58005 0)]) (λ(m_7,m_8,m_9)=>[(900000083,.cells 83 [lf bO m_7,i6 m_8]),(58004,.cells 51 [.aI]),(58005,.cells 51 [.own 705800500]),(705800500,.slice 66 5 (ml aM m_9) 0 false)]) ?_ ?_
 ·obtain⟨J3,hJ3,hm⟩:=bI hm
  refine A.J (J:=J3) (r:=r) (λ(v_1,gT,gH)=>[(0,.ptr 900000083 0),(4,.ptr 58004 0),(5,.ptr 58005 0),(28,.bool v_1)]) (λ(v_1,gT,gH)=>[(900000083,.cells 83 [lf bO gT,i6 gH]),(58004,.cells 51 [.aI]),(58005,.cells 51 [.own 705800500]),(705800500,.slice 66 5 (ml aM m_1) 0 false)]) ?_ ?_
  ·rcases aq hm with⟨c2,hm⟩|⟨c2,hm⟩
   ·obtain⟨aP,h4,hm⟩:=aa hm
    exact qG [(2,hto (bE c2)),(5,hdc [] (iA h4) aaO)] [1,6,8] [(28,.bool aP.1)] [900000083] [(900000083,.cells 83 (k3 aP.2))]<|qX (aP.1,aP.2.L,aP.2.At) hm
   exact qGs [(2,hto (bE c2))] [1,6,8] [(28,.bool false)]<|qX (false,m_2,m_3) hm
  rintro⟨v_1,gT,gH⟩ hm
  rw[hJ3]at hm
  rcases aq hm with⟨c3,hm⟩|⟨c3,hm⟩
  ·refine qT c3 ?_
   obtain⟨bt,h5,hm⟩:=aa hm
   obtain⟨bF,h6,hm⟩:=aa hm
   obtain⟨l_2,h7,hm⟩:=aa hm
   exact qG [(5,hdc [] (dF h5) su),(6,hdc [] (sU h6) ajX),(8,hap 58537 (ap aM (bytes:=72) (by decide) h7))] [0,28] [] [900000083,58005,705800500] [(900000083,.cells 83 (k3 bF.2)),(58005,.cells 51 [.own 58537]),(58537,.slice 66 5 (ml aM l_2) 0 false)]<|Exists.intro (bF.2.L,bF.2.At,l_2) (And.intro hm (bz.go [.sw 58537 705800500] [] (by kernel_rfl)))
  exact qF c3<|A.skip<|qX (gT,gH,m_1) hm
 rintro⟨m_7,m_8,m_9⟩ hm
 rw[hJ2]at hm
 refine qD [] [5] [] [58004,58005] [(58004,.cells 51 [.own 705800500])]<|A.ret ?_
 obtain rfl:=some_inj hm
 exact A.fin W0 [.sw 705800500 500005800] rfl (by kernel_rfl)
end Go.Proofs.YtjdopimopgpagaaGreat
