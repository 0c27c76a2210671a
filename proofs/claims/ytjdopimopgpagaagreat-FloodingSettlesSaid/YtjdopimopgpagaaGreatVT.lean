/- The eD of cw of the program. No condition but bK bu stand in each. -/
import Derived.Test.YtjdopimopgpagaaGreatV3
namespace Go.Proofs.YtjdopimopgpagaaGreat
open Go Go.Proofs.Tryz
set_option maxRecDepth 100000
set_option linter.all false
theorem td{t:aX}{aJ:Int}{n:Int}{r:ai×aX}(hm:jK t aJ n=some r):bO prog 109 [(900000083,.cells 83 (k3 t))] [.ptr 900000083 0,i6 aJ,i6 n] (λa σ'=>a=.agg (k7 r.1)∧σ'=[(900000083,.cells 83 (k3 r.2))]):=by
 refine aY func109 rfl rfl ?_
 unfold jK at hm
 refine qS [(0,.al 109006)] [(0,.ptr 900000083 0),(1,i6 aJ),(2,i6 n),(6,.ptr 109006 0)] [(900000083,.cells 83 (k3 t)),(109006,.cells 66 [i6 0,i6 0,.bool false,.aI,.aI])] ?_
 obtain⟨ah,h1,hm⟩:=aa hm
 obtain⟨aD,h2,hm⟩:=aa hm
 refine qD [(3,hdc [] (dH h1) tF),(5,hdc [] (cm h2) lW),(8,.al 109007)] [] [(7,.ptr 109007 0)] [900000083] [(900000083,.cells 83 (k3 aD.2)),(109007,.cells 66 [i6 aJ,i6 ah.1,.bool (decide (0<aD.1)),.aI,.aI])]<|A.seq<|qDs [] [] [(8,i6 1)]<|A.block ?_
 obtain⟨B1,K1,hB1,hK1,hm⟩:=jY hm
 refine A.lpN (hi:=(7:Int)) (B:=B1) (K:=K1) hm rfl (λj1=>λ(m_1,m_2,m_3)=>[(0,.ptr 900000083 0),(1,i6 aJ),(2,i6 n),(6,.ptr 109006 0),(7,.ptr 109007 0),(8,i6 (j1:Int))]) (λj1=>λ(m_1,m_2,m_3)=>[(900000083,.cells 83 [lf bg m_2,i6 m_3]),(109006,.cells 66 [i6 0,i6 0,.bool false,.aI,.aI]),(109007,.cells 66 [i6 aJ,i6 ah.1,.bool (decide (0<aD.1)),.own 710900703,.aI]),(710900703,.slice 105 3 (ml bz m_1) 0 false)]) ?_ ?_ ?_
 ·exact bA.go [.ac 109007 710900703 105 3 3] [] (by kernel_rfl)
 ·rintro j1 Z1 ⟨m_1,m_2,m_3⟩ hj1 hx1 hm
  rw[hB1]at hm
  refine A.seq<|qDs [] [] [(20,.bool (decide ((j1:Int)≤(6:Int))))] ?_
  refine A.cT rfl (leT hx1)<|A.skip ?_
  obtain⟨J1,hJ1,hm⟩:=bN hm
  refine A.J (J:=J1) (r:=r) (λ(m_4,m_5,m_6)=>[(0,.ptr 900000083 0),(1,i6 aJ),(2,i6 n),(6,.ptr 109006 0),(7,.ptr 109007 0),(8,i6 (j1:Int))]) (λ(m_4,m_5,m_6)=>[(900000083,.cells 83 [lf bg m_4,i6 m_5]),(109006,.cells 66 [i6 0,i6 0,.bool false,.aI,.aI]),(109007,.cells 66 [i6 aJ,i6 ah.1,.bool (decide (0<aD.1)),.own 710900703,.aI]),(710900703,.slice 105 3 (ml bz m_6) 0 false)]) ?_ ?_
  ·refine A.block ?_
   obtain⟨J2,hJ2,hm⟩:=bN hm
   refine A.J (J:=J2) (r:=r) (λ(v_1,m_7,m_8)=>[(0,.ptr 900000083 0),(1,i6 aJ),(2,i6 n),(6,.ptr 109006 0),(7,.ptr 109007 0),(8,i6 (j1:Int)),(30,.bool v_1)]) (λ(v_1,m_7,m_8)=>[(900000083,.cells 83 [lf bg m_7,i6 m_8]),(109006,.cells 66 [i6 0,i6 0,.bool false,.aI,.aI]),(109007,.cells 66 [i6 aJ,i6 ah.1,.bool (decide (0<aD.1)),.own 710900703,.aI]),(710900703,.slice 105 3 (ml bz m_1) 0 false)]) ?_ ?_
   ·rcases aq hm with⟨c1,hm⟩|⟨c1,hm⟩
    ·obtain⟨aN,h3,hm⟩:=aa hm
     exact qG [(3,hto (bE c1)),(5,hdc [] (cm h3) lW)] [20] [(30,.bool (decide (aN.1=0)))] [900000083] [(900000083,.cells 83 (k3 aN.2))]<|qX (decide (aN.1=0),aN.2.L,aN.2.At) hm
    exact qGs [(3,hto (bE c1))] [20] [(30,.bool false)]<|qX (false,m_2,m_3) hm
   rintro⟨v_1,m_7,m_8⟩ hm
   rw[hJ2]at hm
   rcases aq hm with⟨c2,hm⟩|⟨c2,hm⟩
   ·refine qT c2 ?_
    obtain⟨bt,h4,hm⟩:=aa hm
    obtain⟨bL,h5,hm⟩:=aa hm
    obtain⟨l_1,h6,hm⟩:=aa hm
    exact qG [(4,hdc [] (fD h4) yP),(6,hdc [] (cm h5) lW),(9,hap 109540 (ap bz (bytes:=24) (by decide) h6))] [30] [] [900000083,109007,710900703] [(900000083,.cells 83 (k3 bL.2)),(109007,.cells 66 [i6 aJ,i6 ah.1,.bool (decide (0<aD.1)),.own 109540,.aI]),(109540,.slice 105 3 (ml bz l_1) 0 false)]<|Exists.intro (bL.2.L,bL.2.At,l_1) (And.intro hm (bA.go [.sw 109540 710900703] [] (by kernel_rfl)))
   exact qF c2<|A.skip<|qX (m_7,m_8,m_1) hm
  rintro⟨m_4,m_5,m_6⟩ hm
  rw[hJ1]at hm
  exact qGs [(1,hto (vn (by omega) hx1 (by decide)))] [8] [(8,i6 (j1+1:Int))]<|qX (m_6,m_4,m_5) hm
 rintro j1 ⟨m_1,m_2,m_3⟩ hj1 hl1 hm
 rw[hK1]at hm
 refine A.seq<|qDs [] [] [(20,.bool (decide ((j1:Int)≤(6:Int))))] ?_
 refine A.cF rfl (gtF hl1)<|A.exit<|A.seq<|qDs [] [8,20] [(9,i6 0)]<|A.block ?_
 obtain⟨B2,K2,hB2,hK2,hm⟩:=jY hm
 refine A.lpN (hi:=(2:Int)) (B:=B2) (K:=K2) hm rfl (λj2=>λ(m_9,hU,gP)=>[(0,.ptr 900000083 0),(1,i6 aJ),(2,i6 n),(6,.ptr 109006 0),(7,.ptr 109007 0),(9,i6 (j2:Int))]) (λj2=>λ(m_9,hU,gP)=>[(900000083,.cells 83 [lf bg hU,i6 gP]),(109006,.cells 66 [i6 0,i6 0,.bool false,.aI,.aI]),(109007,.cells 66 [i6 aJ,i6 ah.1,.bool (decide (0<aD.1)),.own 710900703,.own 710900704]),(710900703,.slice 105 3 (ml bz m_1) 0 false),(710900704,.slice 91 3 (ml bh m_9) 0 false)]) ?_ ?_ ?_
 ·exact bA.go [.ac 109007 710900704 91 3 4] [] (by kernel_rfl)
 ·rintro j2 Z2 ⟨m_9,hU,gP⟩ hj2 hx2 hm
  rw[hB2]at hm
  refine A.seq<|qDs [] [] [(43,.bool (decide ((j2:Int)<(2:Int))))] ?_
  refine A.cT rfl (decide_eq_true hx2)<|A.skip ?_
  obtain⟨J3,hJ3,hm⟩:=bN hm
  refine A.J (J:=J3) (r:=r) (λ(lX,uy,uz)=>[(0,.ptr 900000083 0),(1,i6 aJ),(2,i6 n),(6,.ptr 109006 0),(7,.ptr 109007 0),(9,i6 (j2:Int))]) (λ(lX,uy,uz)=>[(900000083,.cells 83 [lf bg lX,i6 uy]),(109006,.cells 66 [i6 0,i6 0,.bool false,.aI,.aI]),(109007,.cells 66 [i6 aJ,i6 ah.1,.bool (decide (0<aD.1)),.own 710900703,.own 710900704]),(710900703,.slice 105 3 (ml bz m_1) 0 false),(710900704,.slice 91 3 (ml bh uz) 0 false)]) ?_ ?_
  ·refine A.block ?_
   obtain⟨cc,h7,hm⟩:=aa hm
   refine qD [(1,hdc [] (cm h7) lW)] [43] [(48,.bool (decide (cc.1=0)))] [900000083] [(900000083,.cells 83 (k3 cc.2))] ?_
   rcases aq hm with⟨c3,hm⟩|⟨c3,hm⟩
   ·refine qT c3 ?_
    obtain⟨de,h8,hm⟩:=aa hm
    obtain⟨di,h9,hm⟩:=aa hm
    obtain⟨l_2,h10,hm⟩:=aa hm
    exact qG [(4,hdc [] (fD h8) yP),(6,hdc [] (tc h9) ao7),(9,hap 109558 (ap bh (bytes:=24) (by decide) h10))] [48] [] [900000083,109007,710900704] [(900000083,.cells 83 (k3 di.2)),(109007,.cells 66 [i6 aJ,i6 ah.1,.bool (decide (0<aD.1)),.own 710900703,.own 109558]),(109558,.slice 91 3 (ml bh l_2) 0 false)]<|Exists.intro (di.2.L,di.2.At,l_2) (And.intro hm (bA.go [.sw 109558 710900704] [] (by kernel_rfl)))
   exact qF c3<|A.skip<|qX (cc.2.L,cc.2.At,m_9) hm
  rintro⟨lX,uy,uz⟩ hm
  rw[hJ3]at hm
  exact qGs [(1,hto (vn (by omega) hx2 (by decide)))] [9] [(9,i6 (j2+1:Int))]<|qX (uz,lX,uy) hm
 rintro j2 ⟨m_9,hU,gP⟩ hj2 hl2 hm
 rw[hK2]at hm
 refine A.seq<|qDs [] [] [(43,.bool (decide ((j2:Int)<(2:Int))))] ?_
 refine A.cF rfl (geF hl2)<|A.exit ?_
 obtain⟨J4,hJ4,hm⟩:=bN hm
 refine A.J (J:=J4) (r:=r) (λ(vu,vv,sK,sL,rF,ad7)=>[(6,.ptr 109006 0),(7,.ptr 109007 0)]) (λ(vu,vv,sK,sL,rF,ad7)=>[(900000083,.cells 83 [lf bg vu,i6 vv]),(109006,.cells 66 [i6 0,i6 0,.bool false,.aI,.aI]),(109007,.cells 66 [i6 sK,i6 sL,.bool (decide (0<aD.1)),.own 710900703,.own 710900704]),(710900703,.slice 105 3 (ml bz rF) 0 false),(710900704,.slice 91 3 (ml bh ad7) 0 false)]) ?_ ?_
 ·obtain⟨J5,hJ5,hm⟩:=bN hm
  refine A.J (J:=J5) (r:=r) (λ(v_2,aaT,aaU)=>[(0,.ptr 900000083 0),(1,i6 aJ),(6,.ptr 109006 0),(7,.ptr 109007 0),(66,.bool v_2)]) (λ(v_2,aaT,aaU)=>[(900000083,.cells 83 [lf bg aaT,i6 aaU]),(109006,.cells 66 [i6 0,i6 0,.bool false,.aI,.aI]),(109007,.cells 66 [i6 aJ,i6 ah.1,.bool (decide (0<aD.1)),.own 710900703,.own 710900704]),(710900703,.slice 105 3 (ml bz m_1) 0 false),(710900704,.slice 91 3 (ml bh m_9) 0 false)]) ?_ ?_
  ·rcases aq hm with⟨c4,hm⟩|⟨c4,hm⟩
   ·obtain⟨dU,h11,hm⟩:=aa hm
    exact qG [(2,hto (bE c4)),(5,hdc [] (jH h11) ab9)] [2,9,43] [(66,.bool dU.1)] [900000083] [(900000083,.cells 83 (k3 dU.2))]<|qX (dU.1,dU.2.L,dU.2.At) hm
   exact qGs [(2,hto (bE c4))] [2,9,43] [(66,.bool false)]<|qX (false,hU,gP) hm
  rintro⟨v_2,aaT,aaU⟩ hm
  rw[hJ5]at hm
  rcases aq hm with⟨c5,hm⟩|⟨c5,hm⟩
  ·refine qT c5 ?_
   obtain⟨bP,h12,hm⟩:=aa hm
   refine qD [(1,hdc [] (cm h12) lW)] [66] [(68,i6 bP.1)] [900000083] [(900000083,.cells 83 (k3 bP.2))]<|A.block<|qDs [] [] [(79,.bool (decide (bP.1=0)))] ?_
   rcases aq hm with⟨c6,hm⟩|⟨c6,hm⟩
   ·refine qT c6 ?_
    obtain⟨dW,h13,hm⟩:=aa hm
    exact qG [(1,hdc [] (jb h13) acd)] [0,1,68,79] [] [900000083,109007] [(900000083,.cells 83 (k3 dW.2)),(109007,.cells 66 [i6 dW.1,i6 ah.1,.bool (decide (0<aD.1)),.own 710900703,.own 710900704])]<|qX (dW.2.L,dW.2.At,dW.1,ah.1,m_1,m_9) hm
   refine qF c6<|qDs [] [79] [(84,.bool (decide (bP.1=1)))] ?_
   rcases aq hm with⟨c7,hm⟩|⟨c7,hm⟩
   ·refine qT c7 ?_
    obtain⟨ck,h14,hm⟩:=aa hm
    exact qG [(1,hdc [] (jb h14) acd)] [0,1,68,84] [] [900000083,109007] [(900000083,.cells 83 (k3 ck.2)),(109007,.cells 66 [i6 aJ,i6 ck.1,.bool (decide (0<aD.1)),.own 710900703,.own 710900704])]<|qX (ck.2.L,ck.2.At,aJ,ck.1,m_1,m_9) hm
   refine qF c7<|qDs [] [84] [(89,.bool (decide (bP.1=2)))] ?_
   rcases aq hm with⟨c8,hm⟩|⟨c8,hm⟩
   ·refine qT c8 ?_
    obtain⟨gQ,h15,hm⟩:=aa hm
    obtain⟨jT,h16,hm⟩:=aa hm
    obtain⟨mw,h17,hm⟩:=aa hm
    obtain⟨l_3,h18,hm⟩:=aa hm
    exact qG [(5,hdc [] (dH h15) tF),(8,hdc [] (dH h16) tF),(11,hdc [] (dH h17) tF),(14,hap 109605 (ap bz (bytes:=24) (by decide) h18))] [0,1,68,89] [] [900000083,109007,710900703] [(900000083,.cells 83 (k3 mw.2)),(109007,.cells 66 [i6 aJ,i6 ah.1,.bool (decide (0<aD.1)),.own 109605,.own 710900704]),(109605,.slice 105 3 (ml bz l_3) 0 false)]<|Exists.intro (mw.2.L,mw.2.At,aJ,ah.1,l_3,m_9) (And.intro hm (bA.go [.sw 109605 710900703] [] (by kernel_rfl)))
   refine qF c8<|qDs [] [1,89] [(107,.bool (decide (bP.1=3)))] ?_
   rcases aq hm with⟨c9,hm⟩|⟨c9,hm⟩
   ·refine qT c9 ?_
    obtain⟨tO,h19,hm⟩:=aa hm
    obtain⟨qZ,h20,hm⟩:=aa hm
    obtain⟨ri,h21,hm⟩:=aa hm
    obtain⟨l_4,h22,hm⟩:=aa hm
    exact qG [(4,hdc [] (dH h19) tF),(7,hdc [] (dH h20) tF),(10,hdc [] (dH h21) tF),(13,hap 109622 (ap bh (bytes:=24) (by decide) h22))] [0,68,107] [] [900000083,109007,710900704] [(900000083,.cells 83 (k3 ri.2)),(109007,.cells 66 [i6 aJ,i6 ah.1,.bool (decide (0<aD.1)),.own 710900703,.own 109622]),(109622,.slice 91 3 (ml bh l_4) 0 false)]<|Exists.intro (ri.2.L,ri.2.At,aJ,ah.1,m_1,l_4) (And.intro hm (bA.go [.sw 109622 710900704] [] (by kernel_rfl)))
   refine qF c9<|qDs [] [68,107] [(124,.bool (decide (bP.1=4)))] ?_
   rcases aq hm with⟨c10,hm⟩|⟨c10,hm⟩
   ·refine qT c10<|qDs [] [0,124] [(10,i6 30)]<|A.block ?_
    obtain⟨B3,K3,hB3,hK3,hm⟩:=jY hm
    refine A.lpN (hi:=(54:Int)) (B:=B3) (K:=K3) hm rfl (λj3=>λxT=>[(6,.ptr 109006 0),(7,.ptr 109007 0),(10,i6 (j3:Int))]) (λj3=>λxT=>[(900000083,.cells 83 (k3 bP.2)),(109006,.cells 66 [i6 0,i6 0,.bool false,.aI,.aI]),(109007,.cells 66 [i6 aJ,i6 ah.1,.bool (decide (0<aD.1)),.own 710900703,.own 710900704]),(710900703,.slice 105 3 (ml bz xT) 0 false),(710900704,.slice 91 3 (ml bh m_9) 0 false)]) ?_ ?_ ?_
    ·exact qW
    ·rintro j3 Z3 xT hj3 hx3 hm
     rw[hB3]at hm
     refine A.seq<|qDs [] [] [(127,.bool (decide ((j3:Int)<(54:Int))))] ?_
     refine A.cT rfl (decide_eq_true hx3)<|A.skip<|A.seq<|A.block ?_
     obtain⟨l_5,h23,hm⟩:=aa hm
     exact qG [(5,hap 109635 (ap bz (bytes:=24) (by decide) h23))] [127] [] [109007,710900703] [(109007,.cells 66 [i6 aJ,i6 ah.1,.bool (decide (0<aD.1)),.own 109635,.own 710900704]),(109635,.slice 105 3 (ml bz l_5) 0 false)]<|qGs [(1,hto (vn (by omega) hx3 (by decide)))] [10] [(10,i6 (j3+1:Int))]<|Exists.intro l_5 (And.intro hm (bA.go [.sw 109635 710900703] [] (by kernel_rfl)))
    rintro j3 xT hj3 hl3 hm
    rw[hK3]at hm
    refine A.seq<|qDs [] [] [(127,.bool (decide ((j3:Int)<(54:Int))))] ?_
    exact A.cF rfl (geF hl3)<|A.exit<|qX (bP.2.L,bP.2.At,aJ,ah.1,xT,m_9) hm
   refine qF c10<|qDs [(2,hto (lnE bz m_1))] [124] [(72,.bool (decide (0<(m_1.length:Int))))] ?_
   rcases aq hm with⟨c11,hm⟩|⟨c11,hm⟩
   ·refine qT c11 ?_
    obtain⟨mz,h24,hm⟩:=aa hm
    obtain⟨e_1,h25,hm⟩:=aa hm
    obtain⟨l_6,h26,hm⟩:=aa hm
    exact qG [(3,hdc [] (jb h24) acd),(4,hix (ix bz h25)),(6,hso 710900703 (st bz (off:=1) (ca:=[i6 mz.1]) h25 h26 rfl) (jD h25).1.1)] [0,72] [] [900000083,710900703] [(900000083,.cells 83 (k3 mz.2)),(710900703,.slice 105 3 (ml bz l_6) 0 false)]<|qX (mz.2.L,mz.2.At,aJ,ah.1,l_6,m_9) hm
   exact qF c11<|A.skip<|qX (bP.2.L,bP.2.At,aJ,ah.1,m_1,m_9) hm
  exact qF c5<|A.skip<|qX (aaT,aaU,aJ,ah.1,m_1,m_9) hm
 rintro⟨vu,vv,sK,sL,rF,ad7⟩ hm
 rw[hJ4]at hm
 refine qD [] [7] [] [109006,109007] [(109006,.cells 66 [i6 sK,i6 sL,.bool (decide (0<aD.1)),.own 710900703,.own 710900704])]<|A.ret ?_
 obtain rfl:=some_inj hm
 exact A.fin W0 [.fz [710900703,710900704]] rfl (by kernel_rfl)
theorem xe{t:aX}{n:Int}{r:aH×aX}(hm:ki t n=some r):bO prog 58 [(900000083,.cells 83 (k3 t))] [.ptr 900000083 0,i6 n] (λa σ'=>a=.agg [.own 500005800]∧σ'=[(900000083,.cells 83 (k3 r.2)),(500005800,.slice 66 5 (ml aL r.1.ay) 0 false)]):=by
 refine aY func58 rfl rfl ?_
 unfold ki at hm
 refine qS [(0,.al 58004)] [(0,.ptr 900000083 0),(1,i6 n),(4,.ptr 58004 0)] [(900000083,.cells 83 (k3 t)),(58004,.cells 51 [.aI])]<|qD [(0,.al 58005)] [] [(5,.ptr 58005 0)] [] [(58005,.cells 51 [.aI])]<|A.seq<|qDs [] [] [(6,i6 1)]<|A.block ?_
 obtain⟨B1,K1,hB1,hK1,hm⟩:=jY hm
 refine A.lpN (hi:=(7:Int)) (B:=B1) (K:=K1) hm rfl (λj1=>λ(m_1,m_2,m_3)=>[(0,.ptr 900000083 0),(1,i6 n),(4,.ptr 58004 0),(5,.ptr 58005 0),(6,i6 (j1:Int))]) (λj1=>λ(m_1,m_2,m_3)=>[(900000083,.cells 83 [lf bg m_2,i6 m_3]),(58004,.cells 51 [.aI]),(58005,.cells 51 [.own 705800500]),(705800500,.slice 66 5 (ml aL m_1) 0 false)]) ?_ ?_ ?_
 ·exact bA.go [.ac 58005 705800500 66 5 0] [] (by kernel_rfl)
 ·rintro j1 Z1 ⟨m_1,m_2,m_3⟩ hj1 hx1 hm
  rw[hB1]at hm
  refine A.seq<|qDs [] [] [(8,.bool (decide ((j1:Int)≤(6:Int))))] ?_
  refine A.cT rfl (leT hx1)<|A.skip ?_
  obtain⟨J1,hJ1,hm⟩:=bN hm
  refine A.J (J:=J1) (r:=r) (λ(m_4,m_5,m_6)=>[(0,.ptr 900000083 0),(1,i6 n),(4,.ptr 58004 0),(5,.ptr 58005 0),(6,i6 (j1:Int))]) (λ(m_4,m_5,m_6)=>[(900000083,.cells 83 [lf bg m_4,i6 m_5]),(58004,.cells 51 [.aI]),(58005,.cells 51 [.own 705800500]),(705800500,.slice 66 5 (ml aL m_6) 0 false)]) ?_ ?_
  ·refine A.block ?_
   obtain⟨ah,h1,hm⟩:=aa hm
   refine qD [(1,hdc [] (cm h1) lW)] [8] [(13,.bool (decide (0<ah.1)))] [900000083] [(900000083,.cells 83 (k3 ah.2))] ?_
   rcases aq hm with⟨c1,hm⟩|⟨c1,hm⟩
   ·refine qT c1 ?_
    obtain⟨aD,h2,hm⟩:=aa hm
    obtain⟨l_1,h3,hm⟩:=aa hm
    exact qG [(4,hdc [] (td h2) aj5),(6,hap 58520 (ap aL (bytes:=72) (by decide) h3))] [13] [] [900000083,58005,705800500] [(900000083,.cells 83 (k3 aD.2)),(58005,.cells 51 [.own 58520]),(58520,.slice 66 5 (ml aL l_1) 0 false)]<|Exists.intro (aD.2.L,aD.2.At,l_1) (And.intro hm (bA.go [.sw 58520 705800500] [] (by kernel_rfl)))
   exact qF c1<|A.skip<|qX (ah.2.L,ah.2.At,m_1) hm
  rintro⟨m_4,m_5,m_6⟩ hm
  rw[hJ1]at hm
  exact qGs [(1,hto (vn (by omega) hx1 (by decide)))] [6] [(6,i6 (j1+1:Int))]<|qX (m_6,m_4,m_5) hm
 rintro j1 ⟨m_1,m_2,m_3⟩ hj1 hl1 hm
 rw[hK1]at hm
 refine A.seq<|qDs [] [] [(8,.bool (decide ((j1:Int)≤(6:Int))))] ?_
 refine A.cF rfl (gtF hl1)<|A.exit ?_
 obtain⟨J2,hJ2,hm⟩:=bN hm
 refine A.J (J:=J2) (r:=r) (λ(m_7,m_8,m_9)=>[(4,.ptr 58004 0),(5,.ptr 58005 0)]) (λ(m_7,m_8,m_9)=>[(900000083,.cells 83 [lf bg m_7,i6 m_8]),(58004,.cells 51 [.aI]),(58005,.cells 51 [.own 705800500]),(705800500,.slice 66 5 (ml aL m_9) 0 false)]) ?_ ?_
 ·obtain⟨J3,hJ3,hm⟩:=bN hm
  refine A.J (J:=J3) (r:=r) (λ(v_1,hU,gP)=>[(0,.ptr 900000083 0),(4,.ptr 58004 0),(5,.ptr 58005 0),(28,.bool v_1)]) (λ(v_1,hU,gP)=>[(900000083,.cells 83 [lf bg hU,i6 gP]),(58004,.cells 51 [.aI]),(58005,.cells 51 [.own 705800500]),(705800500,.slice 66 5 (ml aL m_1) 0 false)]) ?_ ?_
  ·rcases aq hm with⟨c2,hm⟩|⟨c2,hm⟩
   ·obtain⟨aN,h4,hm⟩:=aa hm
    exact qG [(2,hto (bE c2)),(5,hdc [] (jH h4) ab9)] [1,6,8] [(28,.bool aN.1)] [900000083] [(900000083,.cells 83 (k3 aN.2))]<|qX (aN.1,aN.2.L,aN.2.At) hm
   exact qGs [(2,hto (bE c2))] [1,6,8] [(28,.bool false)]<|qX (false,m_2,m_3) hm
  rintro⟨v_1,hU,gP⟩ hm
  rw[hJ3]at hm
  rcases aq hm with⟨c3,hm⟩|⟨c3,hm⟩
  ·refine qT c3 ?_
   obtain⟨bt,h5,hm⟩:=aa hm
   obtain⟨bL,h6,hm⟩:=aa hm
   obtain⟨l_2,h7,hm⟩:=aa hm
   exact qG [(5,hdc [] (dH h5) tF),(6,hdc [] (td h6) aj5),(8,hap 58537 (ap aL (bytes:=72) (by decide) h7))] [0,28] [] [900000083,58005,705800500] [(900000083,.cells 83 (k3 bL.2)),(58005,.cells 51 [.own 58537]),(58537,.slice 66 5 (ml aL l_2) 0 false)]<|Exists.intro (bL.2.L,bL.2.At,l_2) (And.intro hm (bA.go [.sw 58537 705800500] [] (by kernel_rfl)))
  exact qF c3<|A.skip<|qX (hU,gP,m_1) hm
 rintro⟨m_7,m_8,m_9⟩ hm
 rw[hJ2]at hm
 refine qD [] [5] [] [58004,58005] [(58004,.cells 51 [.own 705800500])]<|A.ret ?_
 obtain rfl:=some_inj hm
 exact A.fin W0 [.sw 705800500 500005800] rfl (by kernel_rfl)
end Go.Proofs.YtjdopimopgpagaaGreat
