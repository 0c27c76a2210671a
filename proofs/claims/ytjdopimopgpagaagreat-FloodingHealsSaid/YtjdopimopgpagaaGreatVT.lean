/- The eN of cu of the program. No condition but bH bq stand in each. -/
import Derived.Test.YtjdopimopgpagaaGreatV3
namespace Go.Proofs.YtjdopimopgpagaaGreat
open Go Go.Proofs.Tryz
set_option maxRecDepth 100000
set_option linter.all false
theorem tq{t:aU}{aM:Int}{n:Int}{r:ai×aU}(hm:jU t aM n=some r):bM prog 109 [(900000083,.cells 83 (k3 t))] [.ptr 900000083 0,i6 aM,i6 n] (λa σ'=>a=.agg (k7 r.1)∧σ'=[(900000083,.cells 83 (k3 r.2))]):=by
 refine aZ func109 rfl rfl ?_
 unfold jU at hm
 refine qS [(0,.al 109006)] [(0,.ptr 900000083 0),(1,i6 aM),(2,i6 n),(6,.ptr 109006 0)] [(900000083,.cells 83 (k3 t)),(109006,.cells 66 [i6 0,i6 0,.bool false,.aH,.aH])] ?_
 obtain⟨ah,h1,hm⟩:=aa hm
 obtain⟨aD,h2,hm⟩:=aa hm
 refine qD [(3,hdc [] (dL h1) tL),(5,hdc [] (bO h2) jb),(8,.al 109007)] [] [(7,.ptr 109007 0)] [900000083] [(900000083,.cells 83 (k3 aD.2)),(109007,.cells 66 [i6 aM,i6 ah.1,.bool (decide (0<aD.1)),.aH,.aH])]<|A.seq<|qDs [] [] [(8,i6 1)]<|A.block ?_
 obtain⟨B1,K1,hB1,hK1,hm⟩:=kf hm
 refine A.lpN (hi:=(7:Int)) (B:=B1) (K:=K1) hm rfl (λj1=>λ(m_1,m_2,m_3)=>[(0,.ptr 900000083 0),(1,i6 aM),(2,i6 n),(6,.ptr 109006 0),(7,.ptr 109007 0),(8,i6 (j1:Int))]) (λj1=>λ(m_1,m_2,m_3)=>[(900000083,.cells 83 [lf bK m_2,i6 m_3]),(109006,.cells 66 [i6 0,i6 0,.bool false,.aH,.aH]),(109007,.cells 66 [i6 aM,i6 ah.1,.bool (decide (0<aD.1)),.own 710900703,.aH]),(710900703,.slice 105 3 (ml bx m_1) 0 false)]) ?_ ?_ ?_
 ·exact bA.go [.ac 109007 710900703 105 3 3] [] (by kernel_rfl)
 ·rintro j1 Z1 ⟨m_1,m_2,m_3⟩ hj1 hx1 hm
  rw[hB1]at hm
  refine A.seq<|qDs [] [] [(20,.bool (decide ((j1:Int)≤(6:Int))))] ?_
  refine A.cT rfl (leT hx1)<|A.skip ?_
  obtain⟨J1,hJ1,hm⟩:=bQ hm
  refine A.J (J:=J1) (r:=r) (λ(m_4,m_5,m_6)=>[(0,.ptr 900000083 0),(1,i6 aM),(2,i6 n),(6,.ptr 109006 0),(7,.ptr 109007 0),(8,i6 (j1:Int))]) (λ(m_4,m_5,m_6)=>[(900000083,.cells 83 [lf bK m_4,i6 m_5]),(109006,.cells 66 [i6 0,i6 0,.bool false,.aH,.aH]),(109007,.cells 66 [i6 aM,i6 ah.1,.bool (decide (0<aD.1)),.own 710900703,.aH]),(710900703,.slice 105 3 (ml bx m_6) 0 false)]) ?_ ?_
  ·refine A.block ?_
   obtain⟨J2,hJ2,hm⟩:=bQ hm
   refine A.J (J:=J2) (r:=r) (λ(v_1,m_7,m_8)=>[(0,.ptr 900000083 0),(1,i6 aM),(2,i6 n),(6,.ptr 109006 0),(7,.ptr 109007 0),(8,i6 (j1:Int)),(30,.bool v_1)]) (λ(v_1,m_7,m_8)=>[(900000083,.cells 83 [lf bK m_7,i6 m_8]),(109006,.cells 66 [i6 0,i6 0,.bool false,.aH,.aH]),(109007,.cells 66 [i6 aM,i6 ah.1,.bool (decide (0<aD.1)),.own 710900703,.aH]),(710900703,.slice 105 3 (ml bx m_1) 0 false)]) ?_ ?_
   ·rcases az hm with⟨c1,hm⟩|⟨c1,hm⟩
    ·obtain⟨aP,h3,hm⟩:=aa hm
     exact qG [(3,hto (bE c1)),(5,hdc [] (bO h3) jb)] [20] [(30,.bool (decide (aP.1=0)))] [900000083] [(900000083,.cells 83 (k3 aP.2))]<|qX (decide (aP.1=0),aP.2.L,aP.2.At) hm
    exact qGs [(3,hto (bE c1))] [20] [(30,.bool false)]<|qX (false,m_2,m_3) hm
   rintro⟨v_1,m_7,m_8⟩ hm
   rw[hJ2]at hm
   rcases az hm with⟨c2,hm⟩|⟨c2,hm⟩
   ·refine qT c2 ?_
    obtain⟨bt,h4,hm⟩:=aa hm
    obtain⟨bL,h5,hm⟩:=aa hm
    obtain⟨l_1,h6,hm⟩:=aa hm
    exact qG [(4,hdc [] (eD h4) wV),(6,hdc [] (bO h5) jb),(9,hap 109540 (ap bx (bytes:=24) (by decide) h6))] [30] [] [900000083,109007,710900703] [(900000083,.cells 83 (k3 bL.2)),(109007,.cells 66 [i6 aM,i6 ah.1,.bool (decide (0<aD.1)),.own 109540,.aH]),(109540,.slice 105 3 (ml bx l_1) 0 false)]<|Exists.intro (bL.2.L,bL.2.At,l_1) (And.intro hm (bA.go [.sw 109540 710900703] [] (by kernel_rfl)))
   exact qF c2<|A.skip<|qX (m_7,m_8,m_1) hm
  rintro⟨m_4,m_5,m_6⟩ hm
  rw[hJ1]at hm
  exact qGs [(1,hto (vz (by omega) hx1 (by decide)))] [8] [(8,i6 (j1+1:Int))]<|qX (m_6,m_4,m_5) hm
 rintro j1 ⟨m_1,m_2,m_3⟩ hj1 hl1 hm
 rw[hK1]at hm
 refine A.seq<|qDs [] [] [(20,.bool (decide ((j1:Int)≤(6:Int))))] ?_
 refine A.cF rfl (gtF hl1)<|A.exit<|A.seq<|qDs [] [8,20] [(9,i6 0)]<|A.block ?_
 obtain⟨B2,K2,hB2,hK2,hm⟩:=kf hm
 refine A.lpN (hi:=(2:Int)) (B:=B2) (K:=K2) hm rfl (λj2=>λ(m_9,fQ,fF)=>[(0,.ptr 900000083 0),(1,i6 aM),(2,i6 n),(6,.ptr 109006 0),(7,.ptr 109007 0),(9,i6 (j2:Int))]) (λj2=>λ(m_9,fQ,fF)=>[(900000083,.cells 83 [lf bK fQ,i6 fF]),(109006,.cells 66 [i6 0,i6 0,.bool false,.aH,.aH]),(109007,.cells 66 [i6 aM,i6 ah.1,.bool (decide (0<aD.1)),.own 710900703,.own 710900704]),(710900703,.slice 105 3 (ml bx m_1) 0 false),(710900704,.slice 91 3 (ml bn m_9) 0 false)]) ?_ ?_ ?_
 ·exact bA.go [.ac 109007 710900704 91 3 4] [] (by kernel_rfl)
 ·rintro j2 Z2 ⟨m_9,fQ,fF⟩ hj2 hx2 hm
  rw[hB2]at hm
  refine A.seq<|qDs [] [] [(43,.bool (decide ((j2:Int)<(2:Int))))] ?_
  refine A.cT rfl (decide_eq_true hx2)<|A.skip ?_
  obtain⟨J3,hJ3,hm⟩:=bQ hm
  refine A.J (J:=J3) (r:=r) (λ(jl,ny,nA)=>[(0,.ptr 900000083 0),(1,i6 aM),(2,i6 n),(6,.ptr 109006 0),(7,.ptr 109007 0),(9,i6 (j2:Int))]) (λ(jl,ny,nA)=>[(900000083,.cells 83 [lf bK jl,i6 ny]),(109006,.cells 66 [i6 0,i6 0,.bool false,.aH,.aH]),(109007,.cells 66 [i6 aM,i6 ah.1,.bool (decide (0<aD.1)),.own 710900703,.own 710900704]),(710900703,.slice 105 3 (ml bx m_1) 0 false),(710900704,.slice 91 3 (ml bn nA) 0 false)]) ?_ ?_
  ·refine A.block ?_
   obtain⟨cq,h7,hm⟩:=aa hm
   refine qD [(1,hdc [] (bO h7) jb)] [43] [(48,.bool (decide (cq.1=0)))] [900000083] [(900000083,.cells 83 (k3 cq.2))] ?_
   rcases az hm with⟨c3,hm⟩|⟨c3,hm⟩
   ·refine qT c3 ?_
    obtain⟨cU,h8,hm⟩:=aa hm
    obtain⟨dz,h9,hm⟩:=aa hm
    obtain⟨l_2,h10,hm⟩:=aa hm
    exact qG [(4,hdc [] (eD h8) wV),(6,hdc [] (tj h9) apB),(9,hap 109558 (ap bn (bytes:=24) (by decide) h10))] [48] [] [900000083,109007,710900704] [(900000083,.cells 83 (k3 dz.2)),(109007,.cells 66 [i6 aM,i6 ah.1,.bool (decide (0<aD.1)),.own 710900703,.own 109558]),(109558,.slice 91 3 (ml bn l_2) 0 false)]<|Exists.intro (dz.2.L,dz.2.At,l_2) (And.intro hm (bA.go [.sw 109558 710900704] [] (by kernel_rfl)))
   exact qF c3<|A.skip<|qX (cq.2.L,cq.2.At,m_9) hm
  rintro⟨jl,ny,nA⟩ hm
  rw[hJ3]at hm
  exact qGs [(1,hto (vz (by omega) hx2 (by decide)))] [9] [(9,i6 (j2+1:Int))]<|qX (nA,jl,ny) hm
 rintro j2 ⟨m_9,fQ,fF⟩ hj2 hl2 hm
 rw[hK2]at hm
 refine A.seq<|qDs [] [] [(43,.bool (decide ((j2:Int)<(2:Int))))] ?_
 refine A.cF rfl (geF hl2)<|A.exit ?_
 obtain⟨J4,hJ4,hm⟩:=bQ hm
 refine A.J (J:=J4) (r:=r) (λ(oB,oC,mz,sP,rP,aeu)=>[(6,.ptr 109006 0),(7,.ptr 109007 0)]) (λ(oB,oC,mz,sP,rP,aeu)=>[(900000083,.cells 83 [lf bK oB,i6 oC]),(109006,.cells 66 [i6 0,i6 0,.bool false,.aH,.aH]),(109007,.cells 66 [i6 mz,i6 sP,.bool (decide (0<aD.1)),.own 710900703,.own 710900704]),(710900703,.slice 105 3 (ml bx rP) 0 false),(710900704,.slice 91 3 (ml bn aeu) 0 false)]) ?_ ?_
 ·obtain⟨J5,hJ5,hm⟩:=bQ hm
  refine A.J (J:=J5) (r:=r) (λ(v_2,aa8,aa9)=>[(0,.ptr 900000083 0),(1,i6 aM),(6,.ptr 109006 0),(7,.ptr 109007 0),(66,.bool v_2)]) (λ(v_2,aa8,aa9)=>[(900000083,.cells 83 [lf bK aa8,i6 aa9]),(109006,.cells 66 [i6 0,i6 0,.bool false,.aH,.aH]),(109007,.cells 66 [i6 aM,i6 ah.1,.bool (decide (0<aD.1)),.own 710900703,.own 710900704]),(710900703,.slice 105 3 (ml bx m_1) 0 false),(710900704,.slice 91 3 (ml bn m_9) 0 false)]) ?_ ?_
  ·rcases az hm with⟨c4,hm⟩|⟨c4,hm⟩
   ·obtain⟨dW,h11,hm⟩:=aa hm
    exact qG [(2,hto (bE c4)),(5,hdc [] (jR h11) ack)] [2,9,43] [(66,.bool dW.1)] [900000083] [(900000083,.cells 83 (k3 dW.2))]<|qX (dW.1,dW.2.L,dW.2.At) hm
   exact qGs [(2,hto (bE c4))] [2,9,43] [(66,.bool false)]<|qX (false,fQ,fF) hm
  rintro⟨v_2,aa8,aa9⟩ hm
  rw[hJ5]at hm
  rcases az hm with⟨c5,hm⟩|⟨c5,hm⟩
  ·refine qT c5 ?_
   obtain⟨bJ,h12,hm⟩:=aa hm
   refine qD [(1,hdc [] (bO h12) jb)] [66] [(68,i6 bJ.1)] [900000083] [(900000083,.cells 83 (k3 bJ.2))]<|A.block<|qDs [] [] [(79,.bool (decide (bJ.1=0)))] ?_
   rcases az hm with⟨c6,hm⟩|⟨c6,hm⟩
   ·refine qT c6 ?_
    obtain⟨dM,h13,hm⟩:=aa hm
    exact qG [(1,hdc [] (jv h13) acm)] [0,1,68,79] [] [900000083,109007] [(900000083,.cells 83 (k3 dM.2)),(109007,.cells 66 [i6 dM.1,i6 ah.1,.bool (decide (0<aD.1)),.own 710900703,.own 710900704])]<|qX (dM.2.L,dM.2.At,dM.1,ah.1,m_1,m_9) hm
   refine qF c6<|qDs [] [79] [(84,.bool (decide (bJ.1=1)))] ?_
   rcases az hm with⟨c7,hm⟩|⟨c7,hm⟩
   ·refine qT c7 ?_
    obtain⟨ck,h14,hm⟩:=aa hm
    exact qG [(1,hdc [] (jv h14) acm)] [0,1,68,84] [] [900000083,109007] [(900000083,.cells 83 (k3 ck.2)),(109007,.cells 66 [i6 aM,i6 ck.1,.bool (decide (0<aD.1)),.own 710900703,.own 710900704])]<|qX (ck.2.L,ck.2.At,aM,ck.1,m_1,m_9) hm
   refine qF c7<|qDs [] [84] [(89,.bool (decide (bJ.1=2)))] ?_
   rcases az hm with⟨c8,hm⟩|⟨c8,hm⟩
   ·refine qT c8 ?_
    obtain⟨fD,h15,hm⟩:=aa hm
    obtain⟨jm,h16,hm⟩:=aa hm
    obtain⟨gC,h17,hm⟩:=aa hm
    obtain⟨l_3,h18,hm⟩:=aa hm
    exact qG [(5,hdc [] (dL h15) tL),(8,hdc [] (dL h16) tL),(11,hdc [] (dL h17) tL),(14,hap 109605 (ap bx (bytes:=24) (by decide) h18))] [0,1,68,89] [] [900000083,109007,710900703] [(900000083,.cells 83 (k3 gC.2)),(109007,.cells 66 [i6 aM,i6 ah.1,.bool (decide (0<aD.1)),.own 109605,.own 710900704]),(109605,.slice 105 3 (ml bx l_3) 0 false)]<|Exists.intro (gC.2.L,gC.2.At,aM,ah.1,l_3,m_9) (And.intro hm (bA.go [.sw 109605 710900703] [] (by kernel_rfl)))
   refine qF c8<|qDs [] [1,89] [(107,.bool (decide (bJ.1=3)))] ?_
   rcases az hm with⟨c9,hm⟩|⟨c9,hm⟩
   ·refine qT c9 ?_
    obtain⟨mg,h19,hm⟩:=aa hm
    obtain⟨iX,h20,hm⟩:=aa hm
    obtain⟨kQ,h21,hm⟩:=aa hm
    obtain⟨l_4,h22,hm⟩:=aa hm
    exact qG [(4,hdc [] (dL h19) tL),(7,hdc [] (dL h20) tL),(10,hdc [] (dL h21) tL),(13,hap 109622 (ap bn (bytes:=24) (by decide) h22))] [0,68,107] [] [900000083,109007,710900704] [(900000083,.cells 83 (k3 kQ.2)),(109007,.cells 66 [i6 aM,i6 ah.1,.bool (decide (0<aD.1)),.own 710900703,.own 109622]),(109622,.slice 91 3 (ml bn l_4) 0 false)]<|Exists.intro (kQ.2.L,kQ.2.At,aM,ah.1,m_1,l_4) (And.intro hm (bA.go [.sw 109622 710900704] [] (by kernel_rfl)))
   refine qF c9<|qDs [] [68,107] [(124,.bool (decide (bJ.1=4)))] ?_
   rcases az hm with⟨c10,hm⟩|⟨c10,hm⟩
   ·refine qT c10<|qDs [] [0,124] [(10,i6 30)]<|A.block ?_
    obtain⟨B3,K3,hB3,hK3,hm⟩:=kf hm
    refine A.lpN (hi:=(54:Int)) (B:=B3) (K:=K3) hm rfl (λj3=>λye=>[(6,.ptr 109006 0),(7,.ptr 109007 0),(10,i6 (j3:Int))]) (λj3=>λye=>[(900000083,.cells 83 (k3 bJ.2)),(109006,.cells 66 [i6 0,i6 0,.bool false,.aH,.aH]),(109007,.cells 66 [i6 aM,i6 ah.1,.bool (decide (0<aD.1)),.own 710900703,.own 710900704]),(710900703,.slice 105 3 (ml bx ye) 0 false),(710900704,.slice 91 3 (ml bn m_9) 0 false)]) ?_ ?_ ?_
    ·exact qW
    ·rintro j3 Z3 ye hj3 hx3 hm
     rw[hB3]at hm
     refine A.seq<|qDs [] [] [(127,.bool (decide ((j3:Int)<(54:Int))))] ?_
     refine A.cT rfl (decide_eq_true hx3)<|A.skip<|A.seq<|A.block ?_
     obtain⟨l_5,h23,hm⟩:=aa hm
     exact qG [(5,hap 109635 (ap bx (bytes:=24) (by decide) h23))] [127] [] [109007,710900703] [(109007,.cells 66 [i6 aM,i6 ah.1,.bool (decide (0<aD.1)),.own 109635,.own 710900704]),(109635,.slice 105 3 (ml bx l_5) 0 false)]<|qGs [(1,hto (vz (by omega) hx3 (by decide)))] [10] [(10,i6 (j3+1:Int))]<|Exists.intro l_5 (And.intro hm (bA.go [.sw 109635 710900703] [] (by kernel_rfl)))
    rintro j3 ye hj3 hl3 hm
    rw[hK3]at hm
    refine A.seq<|qDs [] [] [(127,.bool (decide ((j3:Int)<(54:Int))))] ?_
    exact A.cF rfl (geF hl3)<|A.exit<|qX (bJ.2.L,bJ.2.At,aM,ah.1,ye,m_9) hm
   refine qF c10<|qDs [(2,hto (lnE bx m_1))] [124] [(72,.bool (decide (0<(m_1.length:Int))))] ?_
   rcases az hm with⟨c11,hm⟩|⟨c11,hm⟩
   ·refine qT c11 ?_
    obtain⟨gD,h24,hm⟩:=aa hm
    obtain⟨e_1,h25,hm⟩:=aa hm
    obtain⟨l_6,h26,hm⟩:=aa hm
    exact qG [(3,hdc [] (jv h24) acm),(4,hix (ix bx h25)),(6,hso 710900703 (st bx (off:=1) (ca:=[i6 gD.1]) h25 h26 rfl) (gP h25).1.1)] [0,72] [] [900000083,710900703] [(900000083,.cells 83 (k3 gD.2)),(710900703,.slice 105 3 (ml bx l_6) 0 false)]<|qX (gD.2.L,gD.2.At,aM,ah.1,l_6,m_9) hm
   exact qF c11<|A.skip<|qX (bJ.2.L,bJ.2.At,aM,ah.1,m_1,m_9) hm
  exact qF c5<|A.skip<|qX (aa8,aa9,aM,ah.1,m_1,m_9) hm
 rintro⟨oB,oC,mz,sP,rP,aeu⟩ hm
 rw[hJ4]at hm
 refine qD [] [7] [] [109006,109007] [(109006,.cells 66 [i6 mz,i6 sP,.bool (decide (0<aD.1)),.own 710900703,.own 710900704])]<|A.ret ?_
 obtain rfl:=some_inj hm
 exact A.fin W0 [.fz [710900703,710900704]] rfl (by kernel_rfl)
theorem xy{t:aU}{n:Int}{r:aF×aU}(hm:kG t n=some r):bM prog 58 [(900000083,.cells 83 (k3 t))] [.ptr 900000083 0,i6 n] (λa σ'=>a=.agg [.own 500005800]∧σ'=[(900000083,.cells 83 (k3 r.2)),(500005800,.slice 66 5 (ml aQ r.1.aG) 0 false)]):=by
 refine aZ func58 rfl rfl ?_
 unfold kG at hm
 refine qS [(0,.al 58004)] [(0,.ptr 900000083 0),(1,i6 n),(4,.ptr 58004 0)] [(900000083,.cells 83 (k3 t)),(58004,.cells 51 [.aH])]<|qD [(0,.al 58005)] [] [(5,.ptr 58005 0)] [] [(58005,.cells 51 [.aH])]<|A.seq<|qDs [] [] [(6,i6 1)]<|A.block ?_
 obtain⟨B1,K1,hB1,hK1,hm⟩:=kf hm
 refine A.lpN (hi:=(7:Int)) (B:=B1) (K:=K1) hm rfl (λj1=>λ(m_1,m_2,m_3)=>[(0,.ptr 900000083 0),(1,i6 n),(4,.ptr 58004 0),(5,.ptr 58005 0),(6,i6 (j1:Int))]) (λj1=>λ(m_1,m_2,m_3)=>[(900000083,.cells 83 [lf bK m_2,i6 m_3]),(58004,.cells 51 [.aH]),(58005,.cells 51 [.own 705800500]),(705800500,.slice 66 5 (ml aQ m_1) 0 false)]) ?_ ?_ ?_
 ·exact bA.go [.ac 58005 705800500 66 5 0] [] (by kernel_rfl)
 ·rintro j1 Z1 ⟨m_1,m_2,m_3⟩ hj1 hx1 hm
  rw[hB1]at hm
  refine A.seq<|qDs [] [] [(8,.bool (decide ((j1:Int)≤(6:Int))))] ?_
  refine A.cT rfl (leT hx1)<|A.skip ?_
  obtain⟨J1,hJ1,hm⟩:=bQ hm
  refine A.J (J:=J1) (r:=r) (λ(m_4,m_5,m_6)=>[(0,.ptr 900000083 0),(1,i6 n),(4,.ptr 58004 0),(5,.ptr 58005 0),(6,i6 (j1:Int))]) (λ(m_4,m_5,m_6)=>[(900000083,.cells 83 [lf bK m_4,i6 m_5]),(58004,.cells 51 [.aH]),(58005,.cells 51 [.own 705800500]),(705800500,.slice 66 5 (ml aQ m_6) 0 false)]) ?_ ?_
  ·refine A.block ?_
   obtain⟨ah,h1,hm⟩:=aa hm
   refine qD [(1,hdc [] (bO h1) jb)] [8] [(13,.bool (decide (0<ah.1)))] [900000083] [(900000083,.cells 83 (k3 ah.2))] ?_
   rcases az hm with⟨c1,hm⟩|⟨c1,hm⟩
   ·refine qT c1 ?_
    obtain⟨aD,h2,hm⟩:=aa hm
    obtain⟨l_1,h3,hm⟩:=aa hm
    exact qG [(4,hdc [] (tq h2) akv),(6,hap 58520 (ap aQ (bytes:=72) (by decide) h3))] [13] [] [900000083,58005,705800500] [(900000083,.cells 83 (k3 aD.2)),(58005,.cells 51 [.own 58520]),(58520,.slice 66 5 (ml aQ l_1) 0 false)]<|Exists.intro (aD.2.L,aD.2.At,l_1) (And.intro hm (bA.go [.sw 58520 705800500] [] (by kernel_rfl)))
   exact qF c1<|A.skip<|qX (ah.2.L,ah.2.At,m_1) hm
  rintro⟨m_4,m_5,m_6⟩ hm
  rw[hJ1]at hm
  exact qGs [(1,hto (vz (by omega) hx1 (by decide)))] [6] [(6,i6 (j1+1:Int))]<|qX (m_6,m_4,m_5) hm
 rintro j1 ⟨m_1,m_2,m_3⟩ hj1 hl1 hm
 rw[hK1]at hm
 refine A.seq<|qDs [] [] [(8,.bool (decide ((j1:Int)≤(6:Int))))] ?_
 refine A.cF rfl (gtF hl1)<|A.exit ?_
 obtain⟨J2,hJ2,hm⟩:=bQ hm
 refine A.J (J:=J2) (r:=r) (λ(m_7,m_8,m_9)=>[(4,.ptr 58004 0),(5,.ptr 58005 0)]) (λ(m_7,m_8,m_9)=>[(900000083,.cells 83 [lf bK m_7,i6 m_8]),(58004,.cells 51 [.aH]),(58005,.cells 51 [.own 705800500]),(705800500,.slice 66 5 (ml aQ m_9) 0 false)]) ?_ ?_
 ·obtain⟨J3,hJ3,hm⟩:=bQ hm
  refine A.J (J:=J3) (r:=r) (λ(v_1,fQ,fF)=>[(0,.ptr 900000083 0),(4,.ptr 58004 0),(5,.ptr 58005 0),(28,.bool v_1)]) (λ(v_1,fQ,fF)=>[(900000083,.cells 83 [lf bK fQ,i6 fF]),(58004,.cells 51 [.aH]),(58005,.cells 51 [.own 705800500]),(705800500,.slice 66 5 (ml aQ m_1) 0 false)]) ?_ ?_
  ·rcases az hm with⟨c2,hm⟩|⟨c2,hm⟩
   ·obtain⟨aP,h4,hm⟩:=aa hm
    exact qG [(2,hto (bE c2)),(5,hdc [] (jR h4) ack)] [1,6,8] [(28,.bool aP.1)] [900000083] [(900000083,.cells 83 (k3 aP.2))]<|qX (aP.1,aP.2.L,aP.2.At) hm
   exact qGs [(2,hto (bE c2))] [1,6,8] [(28,.bool false)]<|qX (false,m_2,m_3) hm
  rintro⟨v_1,fQ,fF⟩ hm
  rw[hJ3]at hm
  rcases az hm with⟨c3,hm⟩|⟨c3,hm⟩
  ·refine qT c3 ?_
   obtain⟨bt,h5,hm⟩:=aa hm
   obtain⟨bL,h6,hm⟩:=aa hm
   obtain⟨l_2,h7,hm⟩:=aa hm
   exact qG [(5,hdc [] (dL h5) tL),(6,hdc [] (tq h6) akv),(8,hap 58537 (ap aQ (bytes:=72) (by decide) h7))] [0,28] [] [900000083,58005,705800500] [(900000083,.cells 83 (k3 bL.2)),(58005,.cells 51 [.own 58537]),(58537,.slice 66 5 (ml aQ l_2) 0 false)]<|Exists.intro (bL.2.L,bL.2.At,l_2) (And.intro hm (bA.go [.sw 58537 705800500] [] (by kernel_rfl)))
  exact qF c3<|A.skip<|qX (fQ,fF,m_1) hm
 rintro⟨m_7,m_8,m_9⟩ hm
 rw[hJ2]at hm
 refine qD [] [5] [] [58004,58005] [(58004,.cells 51 [.own 705800500])]<|A.ret ?_
 obtain rfl:=some_inj hm
 exact A.fin W0 [.sw 705800500 500005800] rfl (by kernel_rfl)
end Go.Proofs.YtjdopimopgpagaaGreat
