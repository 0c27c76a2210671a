/- The gi of cW of the program. No condition but aX aH stand in each. -/
import Derived.Test.YtmnbolcmepihlaaVW
namespace Go.Proofs.Ytmnbolcmepihlaa
open Go Go.Proofs.Try
set_option maxRecDepth 100000
set_option linter.all false
theorem qA{t:bg}{most:Int}{r:az×bg}(hm:ig t most=some r):bL prog 5 [(900000048,.cells 48 (k3 t))] [.ptr 900000048 0,i6 most] (λa σ'=>a=.agg (k2 r.1)∧σ'=[(900000048,.cells 48 (k3 r.2))]):=by
 refine bw func5 rfl rfl ?_
 unfold ig at hm
 refine qS [(0,.al 5004)] [(0,.ptr 900000048 0),(1,i6 most),(4,.ptr 5004 0)] [(900000048,.cells 48 (k3 t)),(5004,.cells 28 [.aZ,.aZ])] ?_
 obtain⟨aq,h1,hm⟩:=ak hm
 refine qD [(2,hdc [] (fF h1) z7)] [1] [(5,i6 aq.1)] [900000048] [(900000048,.cells 48 (k3 aq.2))]<|qD [(0,.al 5006)] [] [(6,.ptr 5006 0)] [] [(5006,.cells 28 [.aZ,.aZ])]<|qDs [] [] [(7,i6 0)]<|A.seq<|qDs [] [] [(8,i6 0)]<|A.block ?_
 obtain⟨hh1,hm⟩:=ff hm
 obtain⟨B1,K1,hB1,hK1,hm⟩:=jV hm
 refine A.lpN (hi:=aq.1) (B:=B1) (K:=K1) hm rfl (λj1=>λ(nD,m_1,m_2,m_3)=>[(0,.ptr 900000048 0),(4,.ptr 5004 0),(5,i6 aq.1),(6,.ptr 5006 0),(7,i6 nD),(8,i6 (j1:Int))]) (λj1=>λ(nD,m_1,m_2,m_3)=>[(900000048,.cells 48 [lf aB m_2,i6 m_3]),(5004,.cells 28 [.aZ,.aZ]),(5006,.cells 28 [.own 700500600,.aZ]),(700500600,.slice 31 2 (ml aP m_1) 0 false)]) ?_ ?_ ?_
 ·exact aN.go [.ac 5006 700500600 31 2 0] [] (by kernel_rfl)
 ·rintro j1 Z1 ⟨nD,m_1,m_2,m_3⟩ hj1 hx1 hm
  rw[hB1]at hm
  refine A.seq<|qDs [] [] [(24,.bool (decide ((j1:Int)<aq.1)))] ?_
  refine A.cT rfl (decide_eq_true hx1)<|A.skip<|A.seq<|A.block ?_
  obtain⟨aL,h2,hm⟩:=ak hm
  refine qD [(3,hdc [] (eB h2) xW)] [7,24] [(7,i6 (w64 (nD+aL.1)))] [900000048] [(900000048,.cells 48 (k3 aL.2))] ?_
  obtain⟨l_1,h3,hm⟩:=ak hm
  exact qG [(5,hap 5537 (ap aP (bytes:=16) (by decide) h3))] [] [] [5006,700500600] [(5006,.cells 28 [.own 5537,.aZ]),(5537,.slice 31 2 (ml aP l_1) 0 false)]<|qGs [(1,hto (tv (by omega) hx1 (of_decide_eq_true hh1)))] [8] [(8,i6 (j1+1:Int))]<|Exists.intro (w64 (nD+aL.1),l_1,aL.2.L,aL.2.At) (And.intro hm (aN.go [.sw 5537 700500600] [] (by kernel_rfl)))
 rintro j1 ⟨nD,m_1,m_2,m_3⟩ hj1 hl1 hm
 rw[hK1]at hm
 refine A.seq<|qDs [] [] [(24,.bool (decide ((j1:Int)<aq.1)))] ?_
 refine A.cF rfl (geF hl1)<|A.exit ?_
 obtain⟨h4,hm⟩:=ff hm
 refine qD [(1,hmr 5040 aq.1 aaE aaF h4 (by decide))] [7,8,24] [(9,.own 5040)] [] [(5040,.slice 52 1 (List.replicate aq.1.toNat [.aZ]) 0 false)]<|A.weak ((aN.aeO (d:=5040) (e:=450005040) 4 1 cE.enc (ahx h4) rfl rfl rfl rfl rfl))<|A.seq<|qS [(1,hno 4 1 cE.enc (List.replicate aq.1.toNat []:List (List Bool)) pK)] [(0,.ptr 900000048 0),(4,.ptr 5004 0),(5,i6 aq.1),(6,.ptr 5006 0),(9,.own 5040),(42,i6 ((List.replicate aq.1.toNat []:List (List Bool)).length:Int)),(43,i6 0)] [(900000048,.cells 48 [lf aB m_2,i6 m_3]),(5004,.cells 28 [.aZ,.aZ]),(5006,.cells 28 [.own 700500600,.aZ]),(700500600,.slice 31 2 (ml aP m_1) 0 false),(5040,.bX 52 450005040 aq.1.toNat none),(450005040,.bun (ct 4 1 cE.enc (List.replicate aq.1.toNat []:List (List Bool))))]<|A.block ?_
 obtain⟨hh2,hm⟩:=ff hm
 obtain⟨B2,K2,hB2,hK2,hm⟩:=jV hm
 refine A.lpN (hi:=((List.replicate aq.1.toNat []:List (List Bool)).length:Int)) (B:=B2) (K:=K2) hm rfl (λj2=>λm_4=>[(0,.ptr 900000048 0),(4,.ptr 5004 0),(5,i6 aq.1),(6,.ptr 5006 0),(9,.own 5040),(42,i6 ((List.replicate aq.1.toNat []:List (List Bool)).length:Int)),(43,i6 (j2:Int))]) (λj2=>λm_4=>[(900000048,.cells 48 [lf aB m_2,i6 m_3]),(5004,.cells 28 [.aZ,.aZ]),(5006,.cells 28 [.own 700500600,.aZ]),(700500600,.slice 31 2 (ml aP m_1) 0 false),(5040,.bX 52 450005040 aq.1.toNat none),(450005040,.bun (ct 4 1 cE.enc m_4))]) ?_ ?_ ?_
 ·exact qW
 ·rintro j2 Z2 m_4 hj2 hx2 hm
  rw[hB2]at hm
  refine qDs [] [] [(44,.bool (decide ((j2:Int)<((List.replicate aq.1.toNat []:List (List Bool)).length:Int))))]<|A.seq<|A.cT rfl (decide_eq_true hx2)<|A.skip<|A.seq<|A.block<|qDs [] [44] [(10,i6 (j2:Int))] ?_
  obtain⟨h5,hm⟩:=ff hm
  obtain⟨e_1,h6,hm⟩:=ak hm
  exact qG [(3,hms (a:=.bool false) 5049 false cE.enc aq.1 aaG aaH rfl (λI=>by simp[aj]) h5 (by decide)),(4,hio 4 1 cE.enc pK h6),(5,hsS 4 1 530005001 cE.enc (List.replicate (aq.1).toNat false) vo h6)] [10] [] [5040,450005040] [(5040,.bX 52 530005001 aq.1.toNat none),(530005001,.bun (ct 4 1 cE.enc (List.set m_4 (j2:Int).toNat (List.replicate (aq.1).toNat false))))]<|qGs [(0,hto (tv (by omega) hx2 (of_decide_eq_true hh2)))] [43] [(43,i6 (j2+1:Int))]<|Exists.intro (List.set m_4 (j2:Int).toNat (List.replicate (aq.1).toNat false)) (And.intro hm (aN.go [.rn 530005001 450005040] [] (by kernel_rfl)))
 rintro j2 m_4 hj2 hl2 hm
 rw[hK2]at hm
 refine qDs [] [] [(44,.bool (decide ((j2:Int)<((List.replicate aq.1.toNat []:List (List Bool)).length:Int))))]<|A.seq<|A.cF rfl (geF hl2)<|A.exit<|A.seq<|qDs [] [42,43,44] [(11,i6 1)]<|A.block ?_
 obtain⟨hh3,hm⟩:=ff hm
 obtain⟨B3,K3,hB3,hK3,hm⟩:=jV hm
 refine A.lpN (hi:=aq.1) (B:=B3) (K:=K3) hm rfl (λj3=>λ(m_5,m_6,m_7)=>[(0,.ptr 900000048 0),(4,.ptr 5004 0),(5,i6 aq.1),(6,.ptr 5006 0),(9,.own 5040),(11,i6 (j3:Int))]) (λj3=>λ(m_5,m_6,m_7)=>[(900000048,.cells 48 [lf aB m_5,i6 m_6]),(5004,.cells 28 [.aZ,.aZ]),(5006,.cells 28 [.own 700500600,.aZ]),(700500600,.slice 31 2 (ml aP m_1) 0 false),(5040,.bX 52 450005040 aq.1.toNat none),(450005040,.bun (ct 4 1 cE.enc m_7))]) ?_ ?_ ?_
 ·exact qW
 ·rintro j3 Z3 ⟨m_5,m_6,m_7⟩ hj3 hx3 hm
  rw[hB3]at hm
  refine A.seq<|qDs [] [] [(54,.bool (decide ((j3:Int)<aq.1)))] ?_
  refine A.cT rfl (decide_eq_true hx3)<|A.skip ?_
  obtain⟨J1,hJ1,hm⟩:=eF hm
  refine A.J (J:=J1) (r:=r) (λ(m_8,m_9,tG)=>[(0,.ptr 900000048 0),(4,.ptr 5004 0),(5,i6 aq.1),(6,.ptr 5006 0),(9,.own 5040),(11,i6 (j3:Int))]) (λ(m_8,m_9,tG)=>[(900000048,.cells 48 [lf aB m_9,i6 tG]),(5004,.cells 28 [.aZ,.aZ]),(5006,.cells 28 [.own 700500600,.aZ]),(700500600,.slice 31 2 (ml aP m_1) 0 false),(5040,.bX 52 450005040 aq.1.toNat none),(450005040,.bun (ct 4 1 cE.enc m_8))]) ?_ ?_
  ·refine A.block ?_
   obtain⟨bM,h7,hm⟩:=ak hm
   refine qD [(1,hdc [] (bK h7) ck6)] [54] [(59,.bool (decide (bM.1<11)))] [900000048] [(900000048,.cells 48 (k3 bM.2))] ?_
   rcases aQ hm with⟨c1,hm⟩|⟨c1,hm⟩
   ·refine qT c1 ?_
    obtain⟨bF,h8,hm⟩:=ak hm
    obtain⟨e_2,h9,hm⟩:=ak hm
    obtain⟨e_3,h10,hm⟩:=ak hm
    obtain⟨l_2,h11,hm⟩:=ak hm
    refine A.late (A.R W0 [] [(3,hdc [] (bK h8) ck6),(4,hio 4 1 cE.enc pK h9),(5,hlS 4 1 530005003 530005002 cE.enc vo h9),(7,hix (ix cE h10)),(8,hso 530005002 (st cE (off:=0) (ca:=[.bool true]) h10 h11 rfl) (vr h10).1.1)] [(0,.ptr 900000048 0),(4,.ptr 5004 0),(5,i6 aq.1),(6,.ptr 5006 0),(9,.own 5040),(11,i6 (j3:Int))] [(900000048,.cells 48 (k3 bF.2)),(5004,.cells 28 [.aZ,.aZ]),(5006,.cells 28 [.own 700500600,.aZ]),(700500600,.slice 31 2 (ml aP m_1) 0 false),(5040,.bX 52 530005003 aq.1.toNat (some (some bF.1.toNat,530005002))),(530005003,.bun (ct 4 1 cE.enc (List.set m_7 bF.1.toNat []))),(530005002,.slice 4 1 (ml cE l_2) 0 false)] (by kernel_rfl) ?_)
    refine⟨_,_,(aN.xU (d:=5040) (e:=530005003) (e2:=530005004) (t:=530005002) m_7 cE.enc l_2 rfl rfl rfl rfl rfl rfl rfl),?_⟩
    exact Exists.intro ((List.set m_7 bF.1.toNat l_2),bF.2.L,bF.2.At) (And.intro hm (aN.go [.rn 530005004 450005040] [] (by kernel_rfl)))
   exact qF c1<|A.skip<|qX (m_7,bM.2.L,bM.2.At) hm
  rintro⟨m_8,m_9,tG⟩ hm
  rw[hJ1]at hm
  exact qGs [(1,hto (tv (by omega) hx3 (of_decide_eq_true hh3)))] [11] [(11,i6 (j3+1:Int))]<|qX (m_9,tG,m_8) hm
 rintro j3 ⟨m_5,m_6,m_7⟩ hj3 hl3 hm
 rw[hK3]at hm
 refine A.seq<|qDs [] [] [(54,.bool (decide ((j3:Int)<aq.1)))] ?_
 refine A.cF rfl (geF hl3)<|A.exit<|A.seq ?_
 obtain⟨bY,h12,hm⟩:=ak hm
 refine qD [(3,hdc [] (bK h12) ck6)] [11,54] [(12,i6 bY.1)] [900000048] [(900000048,.cells 48 (k3 bY.2))]<|A.block ?_
 obtain⟨F4,n4,hF4,hm⟩:=mF hm
 refine A.lpW (F:=F4) hm (λ(i_1,tH,tI,dy)=>[(0,.ptr 900000048 0),(4,.ptr 5004 0),(5,i6 aq.1),(6,.ptr 5006 0),(9,.own 5040),(12,i6 i_1)]) (λ(i_1,tH,tI,dy)=>[(900000048,.cells 48 [lf aB tH,i6 tI]),(5004,.cells 28 [.aZ,.aZ]),(5006,.cells 28 [.own 700500600,.aZ]),(700500600,.slice 31 2 (ml aP m_1) 0 false),(5040,.bX 52 450005040 aq.1.toNat none),(450005040,.bun (ct 4 1 cE.enc dy))]) ?_ ?_
 ·exact qW
 rintro Z4 ⟨i_1,tH,tI,dy⟩ hm
 rw[hF4]at hm
 refine A.seq<|qDs [] [] [(73,.bool (decide (0<i_1)))] ?_
 rcases aQ hm with⟨c2,hm⟩|⟨c2,hm⟩
 ·refine qT c2<|A.skip ?_
  obtain⟨J2,hJ2,hm⟩:=eF hm
  refine A.J (J:=J2) (r:=r) (λ(tJ,tK,tL)=>[(0,.ptr 900000048 0),(4,.ptr 5004 0),(5,i6 aq.1),(6,.ptr 5006 0),(9,.own 5040),(12,i6 i_1)]) (λ(tJ,tK,tL)=>[(900000048,.cells 48 [lf aB tK,i6 tL]),(5004,.cells 28 [.aZ,.aZ]),(5006,.cells 28 [.own 700500600,.aZ]),(700500600,.slice 31 2 (ml aP m_1) 0 false),(5040,.bX 52 450005040 aq.1.toNat none),(450005040,.bun (ct 4 1 cE.enc tJ))]) ?_ ?_
  ·refine A.block ?_
   obtain⟨fm,h13,hm⟩:=ak hm
   obtain⟨dR,h14,hm⟩:=ak hm
   refine qD [(2,hdc [] (bK h13) ck6),(5,hdc [] (bK h14) ck6)] [73] [(13,i6 fm.1),(14,i6 dR.1)] [900000048] [(900000048,.cells 48 (k3 dR.2))]<|qDs [] [] [(84,.bool (!decide (fm.1=dR.1)))] ?_
   rcases aQ hm with⟨c3,hm⟩|⟨c3,hm⟩
   ·refine qT c3 ?_
    obtain⟨e_4,h15,hm⟩:=ak hm
    obtain⟨e_5,h16,hm⟩:=ak hm
    obtain⟨l_3,h17,hm⟩:=ak hm
    refine A.late (A.R W0 [] [(4,hio 4 1 cE.enc pK h15),(5,hlS 4 1 530005006 530005005 cE.enc vo h15),(9,hix (ix cE h16)),(10,hso 530005005 (st cE (off:=0) (ca:=[.bool true]) h16 h17 rfl) (vr h16).1.1)] [(0,.ptr 900000048 0),(4,.ptr 5004 0),(5,i6 aq.1),(6,.ptr 5006 0),(9,.own 5040),(12,i6 i_1)] [(900000048,.cells 48 (k3 dR.2)),(5004,.cells 28 [.aZ,.aZ]),(5006,.cells 28 [.own 700500600,.aZ]),(700500600,.slice 31 2 (ml aP m_1) 0 false),(5040,.bX 52 530005006 aq.1.toNat (some (some (if dR.1<fm.1 then dR.1 else fm.1).toNat,530005005))),(530005006,.bun (ct 4 1 cE.enc (List.set dy (if dR.1<fm.1 then dR.1 else fm.1).toNat []))),(530005005,.slice 4 1 (ml cE l_3) 0 false)] (by kernel_rfl) ?_)
    refine⟨_,_,(aN.xU (d:=5040) (e:=530005006) (e2:=530005007) (t:=530005005) dy cE.enc l_3 rfl rfl rfl rfl rfl rfl rfl),?_⟩
    exact Exists.intro ((List.set dy (if dR.1<fm.1 then dR.1 else fm.1).toNat l_3),dR.2.L,dR.2.At) (And.intro hm (aN.go [.rn 530005007 450005040] [] (by kernel_rfl)))
   exact qF c3<|A.skip<|qX (dy,dR.2.L,dR.2.At) hm
  rintro⟨tJ,tK,tL⟩ hm
  rw[hJ2]at hm
  exact qGs [] [12] [(12,i6 (w64 (i_1-1)))]<|qX (w64 (i_1-1),tK,tL,tJ) hm
 refine qF c2<|A.exit ?_
 obtain⟨ja,h18,hm⟩:=ak hm
 refine qD [(1,hdc [] (bK h18) ck6)] [5,12,73] [(15,.bool (decide (ja.1=0)))] [900000048] [(900000048,.cells 48 (k3 ja.2))]<|A.seq<|qDs [(1,hno 4 1 cE.enc dy pK)] [] [(99,i6 (dy.length:Int)),(100,i6 0)]<|A.block ?_
 obtain⟨hh5,hm⟩:=ff hm
 obtain⟨B5,K5,hB5,hK5,hm⟩:=jV hm
 refine A.lpN (hi:=(dy.length:Int)) (B:=B5) (K:=K5) hm rfl (λj5=>λ(pY,pZ,p8)=>[(0,.ptr 900000048 0),(4,.ptr 5004 0),(6,.ptr 5006 0),(9,.own 5040),(15,.bool (decide (ja.1=0))),(99,i6 (dy.length:Int)),(100,i6 (j5:Int))]) (λj5=>λ(pY,pZ,p8)=>[(900000048,.cells 48 [lf aB pZ,i6 p8]),(5004,.cells 28 [.aZ,.aZ]),(5006,.cells 28 [.own 700500600,.own 700500601]),(700500600,.slice 31 2 (ml aP m_1) 0 false),(5040,.bX 52 450005040 aq.1.toNat none),(450005040,.bun (ct 4 1 cE.enc dy)),(700500601,.slice 42 5 (ml bz pY) 0 false)]) ?_ ?_ ?_
 ·exact aN.go [.ac 5006 700500601 42 5 1] [] (by kernel_rfl)
 ·rintro j5 Z5 ⟨pY,pZ,p8⟩ hj5 hx5 hm
  rw[hB5]at hm
  refine qDs [] [] [(101,.bool (decide ((j5:Int)<(dy.length:Int))))]<|A.seq<|A.cT rfl (decide_eq_true hx5)<|A.skip<|A.seq<|A.block<|qDs [] [101] [(16,i6 (j5:Int))]<|qDs [(1,hno 4 1 cE.enc dy pK)] [] [(104,i6 (dy.length:Int)),(105,i6 0)]<|A.block ?_
  obtain⟨hh6,hm⟩:=ff hm
  obtain⟨B6,K6,hB6,hK6,hm⟩:=jV hm
  refine A.lpN (hi:=(dy.length:Int)) (B:=B6) (K:=K6) hm rfl (λj6=>λ(kX,mL,mM)=>[(0,.ptr 900000048 0),(4,.ptr 5004 0),(6,.ptr 5006 0),(9,.own 5040),(15,.bool (decide (ja.1=0))),(16,i6 (j5:Int)),(99,i6 (dy.length:Int)),(100,i6 (j5:Int)),(104,i6 (dy.length:Int)),(105,i6 (j6:Int))]) (λj6=>λ(kX,mL,mM)=>[(900000048,.cells 48 [lf aB mL,i6 mM]),(5004,.cells 28 [.aZ,.aZ]),(5006,.cells 28 [.own 700500600,.own 700500601]),(700500600,.slice 31 2 (ml aP m_1) 0 false),(5040,.bX 52 450005040 aq.1.toNat none),(450005040,.bun (ct 4 1 cE.enc dy)),(700500601,.slice 42 5 (ml bz kX) 0 false)]) ?_ ?_ ?_
  ·exact qW
  ·rintro j6 Z6 ⟨kX,mL,mM⟩ hj6 hx6 hm
   rw[hB6]at hm
   refine qDs [] [] [(106,.bool (decide ((j6:Int)<(dy.length:Int))))]<|A.seq<|A.cT rfl (decide_eq_true hx6)<|A.skip ?_
   obtain⟨J3,hJ3,hm⟩:=eF hm
   refine A.J (J:=J3) (r:=r) (λ(tM,tN,tO)=>[(0,.ptr 900000048 0),(4,.ptr 5004 0),(6,.ptr 5006 0),(9,.own 5040),(15,.bool (decide (ja.1=0))),(16,i6 (j5:Int)),(99,i6 (dy.length:Int)),(100,i6 (j5:Int)),(104,i6 (dy.length:Int)),(105,i6 (j6:Int))]) (λ(tM,tN,tO)=>[(900000048,.cells 48 [lf aB tM,i6 tN]),(5004,.cells 28 [.aZ,.aZ]),(5006,.cells 28 [.own 700500600,.own 700500601]),(700500600,.slice 31 2 (ml aP m_1) 0 false),(5040,.bX 52 450005040 aq.1.toNat none),(450005040,.bun (ct 4 1 cE.enc dy)),(700500601,.slice 42 5 (ml bz tO) 0 false)]) ?_ ?_
   ·refine A.block<|qDs [] [106] [(17,i6 (j6:Int))] ?_
    refine A.seq ?_
    obtain⟨e_6,h19,hm⟩:=ak hm
    obtain⟨e_7,h20,hm⟩:=ak hm
    refine qD [(2,hio 4 1 cE.enc pK h19),(3,hlS 4 1 530005009 530005008 cE.enc vo h19),(5,hix (ix cE h20)),(6,hlo 530005008 0 (ix cE h20))] [] [(115,.bool (!e_7))] [5040,450005040] [(5040,.bX 52 530005009 aq.1.toNat (some (some (j5:Int).toNat,530005008))),(530005009,.bun (ct 4 1 cE.enc (List.set dy (j5:Int).toNat []))),(530005008,.slice 4 1 (ml cE e_6) 0 false)]<|A.weak ((aN.aeP (d:=5040) (e:=530005009) (e2:=530005010) (t:=530005008) dy cE.enc h19 rfl rfl rfl rfl rfl rfl rfl)) ?_
    rcases aQ hm with⟨c4,hm⟩|⟨c4,hm⟩
    ·exact qT c4<|A.exit<|Exists.intro (mL,mM,kX) (And.intro hm (aN.go [.rn 530005010 450005040] [] (by kernel_rfl)))
    refine qF c4<|A.skip ?_
    obtain⟨e_8,h21,hm⟩:=ak hm
    obtain⟨e_9,h22,hm⟩:=ak hm
    obtain⟨jb,h23,hm⟩:=ak hm
    refine qS [(3,hix (ix aP h21)),(5,hlo 700500600 0 (ix aP h21)),(9,hix (ix aP h22)),(11,hlo 700500600 0 (ix aP h22)),(14,hdc [] (eB h23) xW),(16,.al 5018)] [(0,.ptr 900000048 0),(4,.ptr 5004 0),(6,.ptr 5006 0),(9,.own 5040),(15,.bool (decide (ja.1=0))),(16,i6 (j5:Int)),(99,i6 (dy.length:Int)),(100,i6 (j5:Int)),(104,i6 (dy.length:Int)),(105,i6 (j6:Int)),(18,.ptr 5018 0)] [(900000048,.cells 48 (k3 jb.2)),(5004,.cells 28 [.aZ,.aZ]),(5006,.cells 28 [.own 700500600,.own 700500601]),(700500600,.slice 31 2 (ml aP m_1) 0 false),(5040,.bX 52 530005010 aq.1.toNat none),(530005010,.bun (ct 4 1 cE.enc dy)),(700500601,.slice 42 5 (ml bz kX) 0 false),(5018,.cells 42 [i6 e_8.ID,i6 e_9.ID,i6 1,i6 1,i6 jb.1])] ?_
    obtain⟨J4,hJ4,hm⟩:=eF hm
    refine A.J (J:=J4) (r:=r) (λ(tP,tQ,vO,vP)=>[(0,.ptr 900000048 0),(4,.ptr 5004 0),(6,.ptr 5006 0),(9,.own 5040),(15,.bool (decide (ja.1=0))),(16,i6 (j5:Int)),(18,.ptr 5018 0),(99,i6 (dy.length:Int)),(100,i6 (j5:Int)),(104,i6 (dy.length:Int)),(105,i6 (j6:Int))]) (λ(tP,tQ,vO,vP)=>[(900000048,.cells 48 [lf aB tP,i6 tQ]),(5004,.cells 28 [.aZ,.aZ]),(5006,.cells 28 [.own 700500600,.own 700500601]),(700500600,.slice 31 2 (ml aP m_1) 0 false),(5040,.bX 52 530005010 aq.1.toNat none),(530005010,.bun (ct 4 1 cE.enc dy)),(700500601,.slice 42 5 (ml bz kX) 0 false),(5018,.cells 42 [i6 e_8.ID,i6 e_9.ID,i6 vO,i6 vP,i6 jb.1])]) ?_ ?_
    ·refine qDs [] [] [(133,.bool (!(decide (ja.1=0))))] ?_
     rcases aQ hm with⟨c5,hm⟩|⟨c5,hm⟩
     ·refine qT c5 ?_
      obtain⟨nq,h24,hm⟩:=ak hm
      obtain⟨jk,h25,hm⟩:=ak hm
      refine qD [(2,hdc [] (fF h24) z7),(4,hdc [] (eB h25) xW)] [133] [] [900000048,5018] [(900000048,.cells 48 (k3 jk.2)),(5018,.cells 42 [i6 e_8.ID,i6 e_9.ID,i6 jk.1,i6 1,i6 jb.1])] ?_
      obtain⟨oM,h26,hm⟩:=ak hm
      obtain⟨lY,h27,hm⟩:=ak hm
      exact qG [(6,hdc [] (fF h26) z7),(8,hdc [] (eB h27) xW)] [] [] [900000048,5018] [(900000048,.cells 48 (k3 lY.2)),(5018,.cells 42 [i6 e_8.ID,i6 e_9.ID,i6 jk.1,i6 lY.1,i6 jb.1])]<|qX (lY.2.L,lY.2.At,jk.1,lY.1) hm
     exact qF c5<|A.skip<|qX (jb.2.L,jb.2.At,(1:Int),(1:Int)) hm
    rintro⟨tP,tQ,vO,vP⟩ hm
    rw[hJ4]at hm
    obtain⟨l_4,h28,hm⟩:=ak hm
    exact qG [(4,hap 5654 (ap bz (bytes:=40) (by decide) h28))] [18] [] [5006,700500601,5018] [(5006,.cells 28 [.own 700500600,.own 5654]),(5654,.slice 42 5 (ml bz l_4) 0 false)]<|Exists.intro (tP,tQ,l_4) (And.intro hm (aN.go [.sw 5654 700500601,.rn 530005010 450005040] [] (by kernel_rfl)))
   rintro⟨tM,tN,tO⟩ hm
   rw[hJ3]at hm
   exact qGs [(0,hto (tv (by omega) hx6 (of_decide_eq_true hh6)))] [105] [(105,i6 (j6+1:Int))]<|qX (tO,tM,tN) hm
  rintro j6 ⟨kX,mL,mM⟩ hj6 hl6 hm
  rw[hK6]at hm
  exact qDs [] [] [(106,.bool (decide ((j6:Int)<(dy.length:Int))))]<|A.seq<|A.cF rfl (geF hl6)<|A.exit<|qGs [(0,hto (tv (by omega) hx5 (of_decide_eq_true hh5)))] [16,100,104,105,106] [(100,i6 (j5+1:Int))]<|qX (kX,mL,mM) hm
 rintro j5 ⟨pY,pZ,p8⟩ hj5 hl5 hm
 rw[hK5]at hm
 refine qDs [] [] [(101,.bool (decide ((j5:Int)<(dy.length:Int))))]<|A.seq<|A.cF rfl (geF hl5)<|A.exit<|qD [] [0,6,9,15,99,100,101] [] [5004,5006,5040,450005040] [(5004,.cells 28 [.own 700500600,.own 700500601])]<|A.ret ?_
 obtain rfl:=some_inj hm
 exact A.fin W0 [.fz [700500600,700500601]] rfl (by kernel_rfl)
theorem uS{t:bg}{p:az}{n:Int}{r:(List Int)×bg}(hm:kJ t p n=some r):bL prog 7 [(900000048,.cells 48 (k3 t))] [.ptr 900000048 0,.agg (k2 p),i6 n] (λa σ'=>a=lf aB r.1∧σ'=[(900000048,.cells 48 (k3 r.2))]):=by
 refine bw func7 rfl rfl ?_
 unfold kJ at hm
 refine qS [(0,.al 7004)] [(0,.ptr 900000048 0),(2,i6 n),(4,.ptr 7004 0)] [(900000048,.cells 48 (k3 t)),(7004,.cells 28 (k2 p))]<|qDs [] [] [(7,.aZ)]<|A.seq ?_
 obtain⟨aq,h1,hm⟩:=ak hm
 refine qD [(3,hdc [] (bK h1) ck6)] [2] [(8,i6 aq.1)] [900000048] [(900000048,.cells 48 (k3 aq.2))]<|A.block ?_
 obtain⟨F1,n1,hF1,hm⟩:=mF hm
 refine A.lpW (F:=F1) hm (λ(gz,i_1,m_1,m_2)=>[(0,.ptr 900000048 0),(4,.ptr 7004 0),(7,lf aB gz),(8,i6 i_1)]) (λ(gz,i_1,m_1,m_2)=>[(900000048,.cells 48 [lf aB m_1,i6 m_2]),(7004,.cells 28 (k2 p))]) ?_ ?_
 ·exact aN.go [] [7] (by kernel_rfl)
 rintro Z1 ⟨gz,i_1,m_1,m_2⟩ hm
 rw[hF1]at hm
 refine A.seq<|A.mid [(0,.ptr 900000048 0),(4,.ptr 7004 0),(7,lf aB gz),(8,i6 i_1),(20,.bool ((decide (0<i_1))&&(decide (0<(p.ay.length:Int)))))] [(900000048,.cells 48 [lf aB m_1,i6 m_2]),(7004,.cells 28 (k2 p))] (λhk=>?_) ?_
 ·rcases tf (decide (0<i_1))with c1|c1
  ·exact qS [(2,hto (bE c1)),(5,hto (lnE aP p.ay)),(7,hto (kU (q:=decide (0<(p.ay.length:Int))) c1))] _ _ hk
  exact qS [(2,hto (bE c1)),(7,hto (rR (q:=decide (0<(p.ay.length:Int))) c1))] _ _ hk
 rcases aQ hm with⟨c2,hm⟩|⟨c2,hm⟩
 ·refine qT c2<|A.skip<|A.seq<|A.block ?_
  obtain⟨aL,h2,hm⟩:=ak hm
  obtain⟨e_1,h3,hm⟩:=ak hm
  obtain⟨bM,h4,hm⟩:=ak hm
  exact qG [(6,hto (lnE aP p.ay)),(7,hdc [] (bK h2) ck6),(8,hix (ix aP h3)),(11,hro (iA h4) z6)] [7,20] [(7,lf aB bM)] [900000048] [(900000048,.cells 48 (k3 aL.2))]<|qGs [] [8] [(8,i6 (w64 (i_1-1)))]<|Exists.intro (bM,w64 (i_1-1),aL.2.L,aL.2.At) (And.intro hm (aN.go [] [7] (by kernel_rfl)))
 refine qF c2<|A.exit<|qD [] [0,4,7,8,20] [(6,lf aB gz)] [7004] [] ?_
 cases hm
 exact A.ret qE
end Go.Proofs.Ytmnbolcmepihlaa
