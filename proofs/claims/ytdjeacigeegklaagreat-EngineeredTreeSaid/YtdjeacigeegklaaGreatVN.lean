/- The gq of dx of the program. No condition but br aM stand in each. -/
import Derived.Test.YtdjeacigeegklaaGreatVX
namespace Go.Proofs.YtdjeacigeegklaaGreat
open Go Go.Proofs.Tryz
set_option maxRecDepth 100000
set_option linter.all false
theorem xg{t:bJ}{most:Int}{r:af×bJ}(hm:lN t most=some r):dJ prog 10 [(900000115,.cells 115 (k5 t))] [.ptr 900000115 0,i6 most] (λa σ'=>a=.agg (k2 r.1)∧σ'=[(900000115,.cells 115 (k5 r.2))]):=by
 refine bu func10 rfl rfl ?_
 unfold lN at hm
 refine qS [(0,.al 10004)] [(0,.ptr 900000115 0),(1,i6 most),(4,.ptr 10004 0)] [(900000115,.cells 115 (k5 t)),(10004,.cells 28 [.aS,.aS])] ?_
 obtain⟨ak,h1,hm⟩:=aa hm
 refine qD [(2,hdc [] (iZ h1) ago)] [1] [(5,i6 ak.1)] [900000115] [(900000115,.cells 115 (k5 ak.2))]<|qD [(0,.al 10006)] [] [(6,.ptr 10006 0)] [] [(10006,.cells 28 [.aS,.aS])]<|qDs [] [] [(7,i6 0)]<|A.seq<|qDs [] [] [(8,i6 0)]<|A.block ?_
 obtain⟨hh1,hm⟩:=fF hm
 obtain⟨B1,K1,hB1,hK1,hm⟩:=qn hm
 refine A.lpN (hi:=ak.1) (B:=B1) (K:=K1) hm rfl (λj1=>λ(tq,m_1,m_2,m_3)=>[(0,.ptr 900000115 0),(4,.ptr 10004 0),(5,i6 ak.1),(6,.ptr 10006 0),(7,i6 tq),(8,i6 (j1:Int))]) (λj1=>λ(tq,m_1,m_2,m_3)=>[(900000115,.cells 115 [lf aG m_2,i6 m_3]),(10004,.cells 28 [.aS,.aS]),(10006,.cells 28 [.own 701000600,.aS]),(701000600,.slice 42 2 (ml bg m_1) 0 false)]) ?_ ?_ ?_
 ·exact bp.go [.ac 10006 701000600 42 2 0] [] (by kernel_rfl)
 ·rintro j1 Z1 ⟨tq,m_1,m_2,m_3⟩ hj1 hx1 hm
  rw[hB1]at hm
  refine A.seq<|qDs [] [] [(24,.bool (decide ((j1:Int)<ak.1)))] ?_
  refine A.cT rfl (decide_eq_true hx1)<|A.skip<|A.seq<|A.block ?_
  obtain⟨aO,h2,hm⟩:=aa hm
  refine qD [(3,hdc [] (gA h2) adF)] [7,24] [(7,i6 (w64 (tq+aO.1)))] [900000115] [(900000115,.cells 115 (k5 aO.2))] ?_
  obtain⟨l_1,h3,hm⟩:=aa hm
  exact qG [(5,hap 10537 (ap bg (bytes:=16) (by decide) h3))] [] [] [10006,701000600] [(10006,.cells 28 [.own 10537,.aS]),(10537,.slice 42 2 (ml bg l_1) 0 false)]<|qGs [(1,hto (abo (by omega) hx1 (of_decide_eq_true hh1)))] [8] [(8,i6 (j1+1:Int))]<|Exists.intro (w64 (tq+aO.1),l_1,aO.2.L,aO.2.At) (And.intro hm (bp.go [.sw 10537 701000600] [] (by kernel_rfl)))
 rintro j1 ⟨tq,m_1,m_2,m_3⟩ hj1 hl1 hm
 rw[hK1]at hm
 refine A.seq<|qDs [] [] [(24,.bool (decide ((j1:Int)<ak.1)))] ?_
 refine A.cF rfl (geF hl1)<|A.exit ?_
 obtain⟨h4,hm⟩:=fF hm
 refine qD [(1,hmr 10040 ak.1 ael aem h4 (by decide))] [7,8,24] [(9,.own 10040)] [] [(10040,.slice 118 1 (List.replicate ak.1.toNat [.aS]) 0 false)]<|A.weak ((bp.anp (d:=10040) (e:=450010040) 4 1 dU.enc (aqO h4) rfl rfl rfl rfl rfl))<|A.seq<|qS [(1,hno 4 1 dU.enc (List.replicate ak.1.toNat []:List (List Bool)) sM)] [(0,.ptr 900000115 0),(4,.ptr 10004 0),(5,i6 ak.1),(6,.ptr 10006 0),(9,.own 10040),(42,i6 ((List.replicate ak.1.toNat []:List (List Bool)).length:Int)),(43,i6 0)] [(900000115,.cells 115 [lf aG m_2,i6 m_3]),(10004,.cells 28 [.aS,.aS]),(10006,.cells 28 [.own 701000600,.aS]),(701000600,.slice 42 2 (ml bg m_1) 0 false),(10040,.cw 118 450010040 ak.1.toNat none),(450010040,.bun (encS 4 1 dU.enc (List.replicate ak.1.toNat []:List (List Bool))))]<|A.block ?_
 obtain⟨hh2,hm⟩:=fF hm
 obtain⟨B2,K2,hB2,hK2,hm⟩:=qn hm
 refine A.lpN (hi:=((List.replicate ak.1.toNat []:List (List Bool)).length:Int)) (B:=B2) (K:=K2) hm rfl (λj2=>λm_4=>[(0,.ptr 900000115 0),(4,.ptr 10004 0),(5,i6 ak.1),(6,.ptr 10006 0),(9,.own 10040),(42,i6 ((List.replicate ak.1.toNat []:List (List Bool)).length:Int)),(43,i6 (j2:Int))]) (λj2=>λm_4=>[(900000115,.cells 115 [lf aG m_2,i6 m_3]),(10004,.cells 28 [.aS,.aS]),(10006,.cells 28 [.own 701000600,.aS]),(701000600,.slice 42 2 (ml bg m_1) 0 false),(10040,.cw 118 450010040 ak.1.toNat none),(450010040,.bun (encS 4 1 dU.enc m_4))]) ?_ ?_ ?_
 ·exact qW
 ·rintro j2 Z2 m_4 hj2 hx2 hm
  rw[hB2]at hm
  refine qDs [] [] [(44,.bool (decide ((j2:Int)<((List.replicate ak.1.toNat []:List (List Bool)).length:Int))))]<|A.seq<|A.cT rfl (decide_eq_true hx2)<|A.skip<|A.seq<|A.block<|qDs [] [44] [(10,i6 (j2:Int))] ?_
  obtain⟨h5,hm⟩:=fF hm
  obtain⟨e_1,h6,hm⟩:=aa hm
  exact qG [(3,hms (a:=.bool false) 10049 false dU.enc ak.1 aen aeo rfl (λI=>by simp[aB]) h5 (by decide)),(4,hio 4 1 dU.enc sM h6),(5,hsS 4 1 530010001 dU.enc (List.replicate (ak.1).toNat false) yJ h6)] [10] [] [10040,450010040] [(10040,.cw 118 530010001 ak.1.toNat none),(530010001,.bun (encS 4 1 dU.enc (List.set m_4 (j2:Int).toNat (List.replicate (ak.1).toNat false))))]<|qGs [(0,hto (abo (by omega) hx2 (of_decide_eq_true hh2)))] [43] [(43,i6 (j2+1:Int))]<|Exists.intro (List.set m_4 (j2:Int).toNat (List.replicate (ak.1).toNat false)) (And.intro hm (bp.go [.rn 530010001 450010040] [] (by kernel_rfl)))
 rintro j2 m_4 hj2 hl2 hm
 rw[hK2]at hm
 refine qDs [] [] [(44,.bool (decide ((j2:Int)<((List.replicate ak.1.toNat []:List (List Bool)).length:Int))))]<|A.seq<|A.cF rfl (geF hl2)<|A.exit<|A.seq<|qDs [] [42,43,44] [(11,i6 1)]<|A.block ?_
 obtain⟨hh3,hm⟩:=fF hm
 obtain⟨B3,K3,hB3,hK3,hm⟩:=qn hm
 refine A.lpN (hi:=ak.1) (B:=B3) (K:=K3) hm rfl (λj3=>λ(m_5,m_6,m_7)=>[(0,.ptr 900000115 0),(4,.ptr 10004 0),(5,i6 ak.1),(6,.ptr 10006 0),(9,.own 10040),(11,i6 (j3:Int))]) (λj3=>λ(m_5,m_6,m_7)=>[(900000115,.cells 115 [lf aG m_5,i6 m_6]),(10004,.cells 28 [.aS,.aS]),(10006,.cells 28 [.own 701000600,.aS]),(701000600,.slice 42 2 (ml bg m_1) 0 false),(10040,.cw 118 450010040 ak.1.toNat none),(450010040,.bun (encS 4 1 dU.enc m_7))]) ?_ ?_ ?_
 ·exact qW
 ·rintro j3 Z3 ⟨m_5,m_6,m_7⟩ hj3 hx3 hm
  rw[hB3]at hm
  refine A.seq<|qDs [] [] [(54,.bool (decide ((j3:Int)<ak.1)))] ?_
  refine A.cT rfl (decide_eq_true hx3)<|A.skip ?_
  obtain⟨J1,hJ1,hm⟩:=cR hm
  refine A.J (J:=J1) (r:=r) (λ(m_8,m_9,mY)=>[(0,.ptr 900000115 0),(4,.ptr 10004 0),(5,i6 ak.1),(6,.ptr 10006 0),(9,.own 10040),(11,i6 (j3:Int))]) (λ(m_8,m_9,mY)=>[(900000115,.cells 115 [lf aG m_9,i6 mY]),(10004,.cells 28 [.aS,.aS]),(10006,.cells 28 [.own 701000600,.aS]),(701000600,.slice 42 2 (ml bg m_1) 0 false),(10040,.cw 118 450010040 ak.1.toNat none),(450010040,.bun (encS 4 1 dU.enc m_8))]) ?_ ?_
  ·refine A.block ?_
   obtain⟨bT,h7,hm⟩:=aa hm
   refine qD [(1,hdc [] (cK h7) qC)] [54] [(59,.bool (decide (bT.1<11)))] [900000115] [(900000115,.cells 115 (k5 bT.2))] ?_
   rcases aq hm with⟨c1,hm⟩|⟨c1,hm⟩
   ·refine qT c1 ?_
    obtain⟨cI,h8,hm⟩:=aa hm
    obtain⟨e_2,h9,hm⟩:=aa hm
    obtain⟨e_3,h10,hm⟩:=aa hm
    obtain⟨l_2,h11,hm⟩:=aa hm
    refine A.late (A.R W0 [] [(3,hdc [] (cK h8) qC),(4,hio 4 1 dU.enc sM h9),(5,hlS 4 1 530010003 530010002 dU.enc yJ h9),(7,hix (ix dU h10)),(8,hso 530010002 (st dU (off:=0) (ca:=[.bool true]) h10 h11 rfl) (abn h10).1.1)] [(0,.ptr 900000115 0),(4,.ptr 10004 0),(5,i6 ak.1),(6,.ptr 10006 0),(9,.own 10040),(11,i6 (j3:Int))] [(900000115,.cells 115 (k5 cI.2)),(10004,.cells 28 [.aS,.aS]),(10006,.cells 28 [.own 701000600,.aS]),(701000600,.slice 42 2 (ml bg m_1) 0 false),(10040,.cw 118 530010003 ak.1.toNat (some (some cI.1.toNat,530010002))),(530010003,.bun (encS 4 1 dU.enc (List.set m_7 cI.1.toNat []))),(530010002,.slice 4 1 (ml dU l_2) 0 false)] (by kernel_rfl) ?_)
    refine⟨_,_,(bp.adC (d:=10040) (e:=530010003) (e2:=530010004) (t:=530010002) m_7 dU.enc l_2 rfl rfl rfl rfl rfl rfl rfl),?_⟩
    exact Exists.intro ((List.set m_7 cI.1.toNat l_2),cI.2.L,cI.2.At) (And.intro hm (bp.go [.rn 530010004 450010040] [] (by kernel_rfl)))
   exact qF c1<|A.skip<|qX (m_7,bT.2.L,bT.2.At) hm
  rintro⟨m_8,m_9,mY⟩ hm
  rw[hJ1]at hm
  exact qGs [(1,hto (abo (by omega) hx3 (of_decide_eq_true hh3)))] [11] [(11,i6 (j3+1:Int))]<|qX (m_9,mY,m_8) hm
 rintro j3 ⟨m_5,m_6,m_7⟩ hj3 hl3 hm
 rw[hK3]at hm
 refine A.seq<|qDs [] [] [(54,.bool (decide ((j3:Int)<ak.1)))] ?_
 refine A.cF rfl (geF hl3)<|A.exit<|A.seq ?_
 obtain⟨dY,h12,hm⟩:=aa hm
 refine qD [(3,hdc [] (cK h12) qC)] [11,54] [(12,i6 dY.1)] [900000115] [(900000115,.cells 115 (k5 dY.2))]<|A.block ?_
 obtain⟨F4,n4,hF4,hm⟩:=gU hm
 refine A.lpW (F:=F4) hm (λ(i_1,gE,zy,eU)=>[(0,.ptr 900000115 0),(4,.ptr 10004 0),(5,i6 ak.1),(6,.ptr 10006 0),(9,.own 10040),(12,i6 i_1)]) (λ(i_1,gE,zy,eU)=>[(900000115,.cells 115 [lf aG gE,i6 zy]),(10004,.cells 28 [.aS,.aS]),(10006,.cells 28 [.own 701000600,.aS]),(701000600,.slice 42 2 (ml bg m_1) 0 false),(10040,.cw 118 450010040 ak.1.toNat none),(450010040,.bun (encS 4 1 dU.enc eU))]) ?_ ?_
 ·exact qW
 rintro Z4 ⟨i_1,gE,zy,eU⟩ hm
 rw[hF4]at hm
 refine A.seq<|qDs [] [] [(73,.bool (decide (0<i_1)))] ?_
 rcases aq hm with⟨c2,hm⟩|⟨c2,hm⟩
 ·refine qT c2<|A.skip ?_
  obtain⟨J2,hJ2,hm⟩:=cR hm
  refine A.J (J:=J2) (r:=r) (λ(zz,zA,zC)=>[(0,.ptr 900000115 0),(4,.ptr 10004 0),(5,i6 ak.1),(6,.ptr 10006 0),(9,.own 10040),(12,i6 i_1)]) (λ(zz,zA,zC)=>[(900000115,.cells 115 [lf aG zA,i6 zC]),(10004,.cells 28 [.aS,.aS]),(10006,.cells 28 [.own 701000600,.aS]),(701000600,.slice 42 2 (ml bg m_1) 0 false),(10040,.cw 118 450010040 ak.1.toNat none),(450010040,.bun (encS 4 1 dU.enc zz))]) ?_ ?_
  ·refine A.block ?_
   obtain⟨bD,h13,hm⟩:=aa hm
   obtain⟨dA,h14,hm⟩:=aa hm
   refine qD [(2,hdc [] (cK h13) qC),(5,hdc [] (cK h14) qC)] [73] [(13,i6 bD.1),(14,i6 dA.1)] [900000115] [(900000115,.cells 115 (k5 dA.2))]<|qDs [] [] [(84,.bool (!decide (bD.1=dA.1)))] ?_
   rcases aq hm with⟨c3,hm⟩|⟨c3,hm⟩
   ·refine qT c3 ?_
    obtain⟨e_4,h15,hm⟩:=aa hm
    obtain⟨e_5,h16,hm⟩:=aa hm
    obtain⟨l_3,h17,hm⟩:=aa hm
    refine A.late (A.R W0 [] [(4,hio 4 1 dU.enc sM h15),(5,hlS 4 1 530010006 530010005 dU.enc yJ h15),(9,hix (ix dU h16)),(10,hso 530010005 (st dU (off:=0) (ca:=[.bool true]) h16 h17 rfl) (abn h16).1.1)] [(0,.ptr 900000115 0),(4,.ptr 10004 0),(5,i6 ak.1),(6,.ptr 10006 0),(9,.own 10040),(12,i6 i_1)] [(900000115,.cells 115 (k5 dA.2)),(10004,.cells 28 [.aS,.aS]),(10006,.cells 28 [.own 701000600,.aS]),(701000600,.slice 42 2 (ml bg m_1) 0 false),(10040,.cw 118 530010006 ak.1.toNat (some (some (if dA.1<bD.1 then dA.1 else bD.1).toNat,530010005))),(530010006,.bun (encS 4 1 dU.enc (List.set eU (if dA.1<bD.1 then dA.1 else bD.1).toNat []))),(530010005,.slice 4 1 (ml dU l_3) 0 false)] (by kernel_rfl) ?_)
    refine⟨_,_,(bp.adC (d:=10040) (e:=530010006) (e2:=530010007) (t:=530010005) eU dU.enc l_3 rfl rfl rfl rfl rfl rfl rfl),?_⟩
    exact Exists.intro ((List.set eU (if dA.1<bD.1 then dA.1 else bD.1).toNat l_3),dA.2.L,dA.2.At) (And.intro hm (bp.go [.rn 530010007 450010040] [] (by kernel_rfl)))
   exact qF c3<|A.skip<|qX (eU,dA.2.L,dA.2.At) hm
  rintro⟨zz,zA,zC⟩ hm
  rw[hJ2]at hm
  exact qGs [] [12] [(12,i6 (w64 (i_1-1)))]<|qX (w64 (i_1-1),zA,zC,zz) hm
 refine qF c2<|A.exit ?_
 obtain⟨eS,h18,hm⟩:=aa hm
 refine qD [(1,hdc [] (cK h18) qC)] [5,12,73] [(15,.bool (decide (eS.1=0)))] [900000115] [(900000115,.cells 115 (k5 eS.2))]<|A.seq<|qDs [(1,hno 4 1 dU.enc eU sM)] [] [(99,i6 (eU.length:Int)),(100,i6 0)]<|A.block ?_
 obtain⟨hh5,hm⟩:=fF hm
 obtain⟨B5,K5,hB5,hK5,hm⟩:=qn hm
 refine A.lpN (hi:=(eU.length:Int)) (B:=B5) (K:=K5) hm rfl (λj5=>λ(v8,we,wg)=>[(0,.ptr 900000115 0),(4,.ptr 10004 0),(6,.ptr 10006 0),(9,.own 10040),(15,.bool (decide (eS.1=0))),(99,i6 (eU.length:Int)),(100,i6 (j5:Int))]) (λj5=>λ(v8,we,wg)=>[(900000115,.cells 115 [lf aG we,i6 wg]),(10004,.cells 28 [.aS,.aS]),(10006,.cells 28 [.own 701000600,.own 701000601]),(701000600,.slice 42 2 (ml bg m_1) 0 false),(10040,.cw 118 450010040 ak.1.toNat none),(450010040,.bun (encS 4 1 dU.enc eU)),(701000601,.slice 89 5 (ml cq v8) 0 false)]) ?_ ?_ ?_
 ·exact bp.go [.ac 10006 701000601 89 5 1] [] (by kernel_rfl)
 ·rintro j5 Z5 ⟨v8,we,wg⟩ hj5 hx5 hm
  rw[hB5]at hm
  refine qDs [] [] [(101,.bool (decide ((j5:Int)<(eU.length:Int))))]<|A.seq<|A.cT rfl (decide_eq_true hx5)<|A.skip<|A.seq<|A.block<|qDs [] [101] [(16,i6 (j5:Int))]<|qDs [(1,hno 4 1 dU.enc eU sM)] [] [(104,i6 (eU.length:Int)),(105,i6 0)]<|A.block ?_
  obtain⟨hh6,hm⟩:=fF hm
  obtain⟨B6,K6,hB6,hK6,hm⟩:=qn hm
  refine A.lpN (hi:=(eU.length:Int)) (B:=B6) (K:=K6) hm rfl (λj6=>λ(qa,sk,sr)=>[(0,.ptr 900000115 0),(4,.ptr 10004 0),(6,.ptr 10006 0),(9,.own 10040),(15,.bool (decide (eS.1=0))),(16,i6 (j5:Int)),(99,i6 (eU.length:Int)),(100,i6 (j5:Int)),(104,i6 (eU.length:Int)),(105,i6 (j6:Int))]) (λj6=>λ(qa,sk,sr)=>[(900000115,.cells 115 [lf aG sk,i6 sr]),(10004,.cells 28 [.aS,.aS]),(10006,.cells 28 [.own 701000600,.own 701000601]),(701000600,.slice 42 2 (ml bg m_1) 0 false),(10040,.cw 118 450010040 ak.1.toNat none),(450010040,.bun (encS 4 1 dU.enc eU)),(701000601,.slice 89 5 (ml cq qa) 0 false)]) ?_ ?_ ?_
  ·exact qW
  ·rintro j6 Z6 ⟨qa,sk,sr⟩ hj6 hx6 hm
   rw[hB6]at hm
   refine qDs [] [] [(106,.bool (decide ((j6:Int)<(eU.length:Int))))]<|A.seq<|A.cT rfl (decide_eq_true hx6)<|A.skip ?_
   obtain⟨J3,hJ3,hm⟩:=cR hm
   refine A.J (J:=J3) (r:=r) (λ(zD,zF,zG)=>[(0,.ptr 900000115 0),(4,.ptr 10004 0),(6,.ptr 10006 0),(9,.own 10040),(15,.bool (decide (eS.1=0))),(16,i6 (j5:Int)),(99,i6 (eU.length:Int)),(100,i6 (j5:Int)),(104,i6 (eU.length:Int)),(105,i6 (j6:Int))]) (λ(zD,zF,zG)=>[(900000115,.cells 115 [lf aG zD,i6 zF]),(10004,.cells 28 [.aS,.aS]),(10006,.cells 28 [.own 701000600,.own 701000601]),(701000600,.slice 42 2 (ml bg m_1) 0 false),(10040,.cw 118 450010040 ak.1.toNat none),(450010040,.bun (encS 4 1 dU.enc eU)),(701000601,.slice 89 5 (ml cq zG) 0 false)]) ?_ ?_
   ·refine A.block<|qDs [] [106] [(17,i6 (j6:Int))] ?_
    refine A.seq ?_
    obtain⟨e_6,h19,hm⟩:=aa hm
    obtain⟨e_7,h20,hm⟩:=aa hm
    refine qD [(2,hio 4 1 dU.enc sM h19),(3,hlS 4 1 530010009 530010008 dU.enc yJ h19),(5,hix (ix dU h20)),(6,hlo 530010008 0 (ix dU h20))] [] [(115,.bool (!e_7))] [10040,450010040] [(10040,.cw 118 530010009 ak.1.toNat (some (some (j5:Int).toNat,530010008))),(530010009,.bun (encS 4 1 dU.enc (List.set eU (j5:Int).toNat []))),(530010008,.slice 4 1 (ml dU e_6) 0 false)]<|A.weak ((bp.anq (d:=10040) (e:=530010009) (e2:=530010010) (t:=530010008) eU dU.enc h19 rfl rfl rfl rfl rfl rfl rfl)) ?_
    rcases aq hm with⟨c4,hm⟩|⟨c4,hm⟩
    ·exact qT c4<|A.exit<|Exists.intro (sk,sr,qa) (And.intro hm (bp.go [.rn 530010010 450010040] [] (by kernel_rfl)))
    refine qF c4<|A.skip ?_
    obtain⟨e_8,h21,hm⟩:=aa hm
    obtain⟨e_9,h22,hm⟩:=aa hm
    obtain⟨lP,h23,hm⟩:=aa hm
    refine qS [(3,hix (ix bg h21)),(5,hlo 701000600 0 (ix bg h21)),(9,hix (ix bg h22)),(11,hlo 701000600 0 (ix bg h22)),(14,hdc [] (gA h23) adF),(16,.al 10018)] [(0,.ptr 900000115 0),(4,.ptr 10004 0),(6,.ptr 10006 0),(9,.own 10040),(15,.bool (decide (eS.1=0))),(16,i6 (j5:Int)),(99,i6 (eU.length:Int)),(100,i6 (j5:Int)),(104,i6 (eU.length:Int)),(105,i6 (j6:Int)),(18,.ptr 10018 0)] [(900000115,.cells 115 (k5 lP.2)),(10004,.cells 28 [.aS,.aS]),(10006,.cells 28 [.own 701000600,.own 701000601]),(701000600,.slice 42 2 (ml bg m_1) 0 false),(10040,.cw 118 530010010 ak.1.toNat none),(530010010,.bun (encS 4 1 dU.enc eU)),(701000601,.slice 89 5 (ml cq qa) 0 false),(10018,.cells 89 [i6 e_8.ID,i6 e_9.ID,i6 1,i6 1,i6 lP.1])] ?_
    obtain⟨J4,hJ4,hm⟩:=cR hm
    refine A.J (J:=J4) (r:=r) (λ(zH,zJ,abD,abE)=>[(0,.ptr 900000115 0),(4,.ptr 10004 0),(6,.ptr 10006 0),(9,.own 10040),(15,.bool (decide (eS.1=0))),(16,i6 (j5:Int)),(18,.ptr 10018 0),(99,i6 (eU.length:Int)),(100,i6 (j5:Int)),(104,i6 (eU.length:Int)),(105,i6 (j6:Int))]) (λ(zH,zJ,abD,abE)=>[(900000115,.cells 115 [lf aG zH,i6 zJ]),(10004,.cells 28 [.aS,.aS]),(10006,.cells 28 [.own 701000600,.own 701000601]),(701000600,.slice 42 2 (ml bg m_1) 0 false),(10040,.cw 118 530010010 ak.1.toNat none),(530010010,.bun (encS 4 1 dU.enc eU)),(701000601,.slice 89 5 (ml cq qa) 0 false),(10018,.cells 89 [i6 e_8.ID,i6 e_9.ID,i6 abD,i6 abE,i6 lP.1])]) ?_ ?_
    ·refine qDs [] [] [(133,.bool (!(decide (eS.1=0))))] ?_
     rcases aq hm with⟨c5,hm⟩|⟨c5,hm⟩
     ·refine qT c5 ?_
      obtain⟨bM,h24,hm⟩:=aa hm
      obtain⟨lz,h25,hm⟩:=aa hm
      refine qD [(2,hdc [] (iZ h24) ago),(4,hdc [] (gA h25) adF)] [133] [] [900000115,10018] [(900000115,.cells 115 (k5 lz.2)),(10018,.cells 89 [i6 e_8.ID,i6 e_9.ID,i6 lz.1,i6 1,i6 lP.1])] ?_
      obtain⟨qj,h26,hm⟩:=aa hm
      obtain⟨nY,h27,hm⟩:=aa hm
      exact qG [(6,hdc [] (iZ h26) ago),(8,hdc [] (gA h27) adF)] [] [] [900000115,10018] [(900000115,.cells 115 (k5 nY.2)),(10018,.cells 89 [i6 e_8.ID,i6 e_9.ID,i6 lz.1,i6 nY.1,i6 lP.1])]<|qX (nY.2.L,nY.2.At,lz.1,nY.1) hm
     exact qF c5<|A.skip<|qX (lP.2.L,lP.2.At,(1:Int),(1:Int)) hm
    rintro⟨zH,zJ,abD,abE⟩ hm
    rw[hJ4]at hm
    obtain⟨l_4,h28,hm⟩:=aa hm
    exact qG [(4,hap 10654 (ap cq (bytes:=40) (by decide) h28))] [18] [] [10006,701000601,10018] [(10006,.cells 28 [.own 701000600,.own 10654]),(10654,.slice 89 5 (ml cq l_4) 0 false)]<|Exists.intro (zH,zJ,l_4) (And.intro hm (bp.go [.sw 10654 701000601,.rn 530010010 450010040] [] (by kernel_rfl)))
   rintro⟨zD,zF,zG⟩ hm
   rw[hJ3]at hm
   exact qGs [(0,hto (abo (by omega) hx6 (of_decide_eq_true hh6)))] [105] [(105,i6 (j6+1:Int))]<|qX (zG,zD,zF) hm
  rintro j6 ⟨qa,sk,sr⟩ hj6 hl6 hm
  rw[hK6]at hm
  exact qDs [] [] [(106,.bool (decide ((j6:Int)<(eU.length:Int))))]<|A.seq<|A.cF rfl (geF hl6)<|A.exit<|qGs [(0,hto (abo (by omega) hx5 (of_decide_eq_true hh5)))] [16,100,104,105,106] [(100,i6 (j5+1:Int))]<|qX (qa,sk,sr) hm
 rintro j5 ⟨v8,we,wg⟩ hj5 hl5 hm
 rw[hK5]at hm
 refine qDs [] [] [(101,.bool (decide ((j5:Int)<(eU.length:Int))))]<|A.seq<|A.cF rfl (geF hl5)<|A.exit<|qD [] [0,6,9,15,99,100,101] [] [10004,10006,10040,450010040] [(10004,.cells 28 [.own 701000600,.own 701000601])]<|A.ret ?_
 obtain rfl:=some_inj hm
 exact A.fin W0 [.fz [701000600,701000601]] rfl (by kernel_rfl)
theorem wh{l:List aX}{ha1:aX}{r:(List aX)}(hm:mZ l ha1=some r):RO prog 26 [] [lf bt l,.agg (k3 ha1)] (lf bt r):=by
 refine bu func26 rfl rfl ?_
 unfold mZ at hm
 refine qS [(0,.al 26003)] [(0,lf bt l),(3,.ptr 26003 0)] [(26003,.cells 67 (k3 ha1))]<|qDs [] [] [(5,i6 0)]<|A.seq<|A.block ?_
 obtain⟨F1,n1,hF1,hm⟩:=gU hm
 refine A.lpW (F:=F1) hm (λk_1=>[(0,lf bt l),(3,.ptr 26003 0),(5,i6 k_1)]) (λk_1=>[(26003,.cells 67 (k3 ha1))]) ?_ ?_
 ·exact qW
 rintro Z1 k_1 hm
 rw[hF1]at hm
 refine A.seq ?_
 obtain⟨J1,hJ1,hm⟩:=cR hm
 refine A.J (J:=J1) (r:=r) (λv_1=>[(0,lf bt l),(3,.ptr 26003 0),(5,i6 k_1),(40,.bool v_1)]) (λv_1=>[(26003,.cells 67 (k3 ha1))]) ?_ ?_
 ·rcases aq hm with⟨c1,hm⟩|⟨c1,hm⟩
  ·obtain⟨e_1,h1,hm⟩:=aa hm
   rcases aq hm with⟨c2,hm⟩|⟨c2,hm⟩
   ·exact qGs [(2,hto (lnE bt l)),(4,hto (bE c1)),(7,hix (ix bt h1)),(13,hto (bE c2))] [] [(40,.bool true)]<|qX true hm
   rcases aq hm with⟨c3,hm⟩|⟨c3,hm⟩
   ·exact qGs [(2,hto (lnE bt l)),(4,hto (bE c1)),(7,hix (ix bt h1)),(13,hto (bE c2)),(16,hix (ix bt h1)),(22,hto (bE c3)),(25,hix (ix bt h1))] [] [(40,.bool (decide (e_1.To<ha1.To)))]<|qX (decide (e_1.To<ha1.To)) hm
   exact qGs [(2,hto (lnE bt l)),(4,hto (bE c1)),(7,hix (ix bt h1)),(13,hto (bE c2)),(16,hix (ix bt h1)),(22,hto (bE c3))] [] [(40,.bool false)]<|qX false hm
  exact qGs [(2,hto (lnE bt l)),(4,hto (bE c1))] [] [(40,.bool false)]<|qX false hm
 rintro v_1 hm
 rw[hJ1]at hm
 rcases aq hm with⟨c4,hm⟩|⟨c4,hm⟩
 ·exact qT c4<|A.skip<|A.block<|qGs [] [5,40] [(5,i6 (w64 (k_1+1)))]<|qX (w64 (k_1+1)) hm
 refine qF c4<|A.exit ?_
 obtain⟨l_1,h2,hm⟩:=aa hm
 obtain⟨l_2,h3,hm⟩:=aa hm
 refine qD [(1,.al 26044),(4,hsl (aga bt h2)),(5,hap 26548 (ap bt (bytes:=16) (by decide) h3))] [3,40] [(6,.own 26548)] [26003] [(26548,.slice 67 2 (ml bt l_2) 0 false)] ?_
 obtain⟨l_3,h4,hm⟩:=aa hm
 obtain⟨l_4,h5,hm⟩:=aa hm
 refine A.RS W0 [.fz [26548]] [(3,hs3 (sl bt h4)),(5,anD 26554 ahm (ap bt (bytes:=16) (by decide) h5) (anB bt h3 (Nat.succ_pos _)))] [(4,.own 26554)] [(26554,.slice 67 2 (ml bt l_4) 0 false)] (by kernel_rfl)<|A.ret ?_
 obtain rfl:=some_inj hm
 exact A.fin W0 [.fz [26554]] rfl (by kernel_rfl)
theorem aaT{t:bJ}{p:af}{root:Int}{r:cE×bJ}(hm:pH t p root=some r):dJ prog 21 [(900000115,.cells 115 (k5 t))] [.ptr 900000115 0,.agg (k2 p),i6 root] (λa σ'=>a=.agg (k7 r.1)∧σ'=[(900000115,.cells 115 (k5 r.2))]):=by
 refine bu func21 rfl rfl ?_
 unfold pH at hm
 refine qS [(0,.al 21004),(1,.al 21006)] [(0,.ptr 900000115 0),(2,i6 root),(4,.ptr 21004 0),(6,.ptr 21006 0)] [(900000115,.cells 115 (k5 t)),(21004,.cells 28 (k2 p)),(21006,.cells 63 [i6 0,.aS])]<|qD [(2,.al 21007)] [] [(7,.ptr 21007 0)] [] [(21007,.cells 63 [i6 root,.aS])]<|qD [(1,.al 21015)] [2] [(8,.own 21015)] [] [(21015,.slice 3 1 (ml aG ([root]:List Int)) 0 false)]<|A.seq ?_
 obtain⟨ak,h1,hm⟩:=aa hm
 refine qD [(3,hto (lnE cq p.Links)),(6,hdc [] (cK h1) qC)] [] [(9,i6 ak.1)] [900000115] [(900000115,.cells 115 (k5 ak.2))]<|A.block ?_
 obtain⟨F1,n1,hF1,hm⟩:=gU hm
 refine A.lpW (F:=F1) hm (λ(nZ,i_1,m_1,m_2,m_3)=>[(0,.ptr 900000115 0),(4,.ptr 21004 0),(6,.ptr 21006 0),(7,.ptr 21007 0),(8,.own 600021008),(9,i6 i_1)]) (λ(nZ,i_1,m_1,m_2,m_3)=>[(900000115,.cells 115 [lf aG m_2,i6 m_3]),(21004,.cells 28 (k2 p)),(21006,.cells 63 [i6 0,.aS]),(21007,.cells 63 [i6 root,lf bt m_1]),(600021008,.slice 3 1 (ml aG nZ) 0 false)]) ?_ ?_
 ·exact bp.go [.sw 21015 600021008,.sc 21007 [900000115,21004,21006,21007,600021008]] [] (by kernel_rfl)
 rintro Z1 ⟨nZ,i_1,m_1,m_2,m_3⟩ hm
 rw[hF1]at hm
 refine A.seq<|qDs [] [] [(24,.bool (decide (0<i_1)))] ?_
 rcases aq hm with⟨c1,hm⟩|⟨c1,hm⟩
 ·refine qT c1<|A.skip ?_
  obtain⟨J1,hJ1,hm⟩:=cR hm
  refine A.J (J:=J1) (r:=r) (λ(wX,m_4,m_5,m_6)=>[(0,.ptr 900000115 0),(4,.ptr 21004 0),(6,.ptr 21006 0),(7,.ptr 21007 0),(8,.own 600021008),(9,i6 i_1)]) (λ(wX,m_4,m_5,m_6)=>[(900000115,.cells 115 [lf aG m_4,i6 m_5]),(21004,.cells 28 (k2 p)),(21006,.cells 63 [i6 0,.aS]),(21007,.cells 63 [i6 root,lf bt m_6]),(600021008,.slice 3 1 (ml aG wX) 0 false)]) ?_ ?_
  ·refine A.block ?_
   obtain⟨aO,h2,hm⟩:=aa hm
   obtain⟨e_1,h3,hm⟩:=aa hm
   refine qD [(5,hto (lnE cq p.Links)),(6,hdc [] (cK h2) qC),(7,hix (ix cq h3)),(9,.al 21010)] [24] [(10,.ptr 21010 0)] [900000115] [(900000115,.cells 115 (k5 aO.2)),(21010,.cells 89 (k1 e_1))]<|qD [(5,.al 21011)] [] [(11,.ptr 21011 0)] [] [(21011,.cells 67 [i6 e_1.A,i6 e_1.B])] ?_
   obtain⟨J2,hJ2,hm⟩:=cR hm
   refine A.J (J:=J2) (r:=r) (λ(m_7,m_8)=>[(0,.ptr 900000115 0),(4,.ptr 21004 0),(6,.ptr 21006 0),(7,.ptr 21007 0),(8,.own 600021008),(9,i6 i_1),(11,.ptr 21011 0)]) (λ(m_7,m_8)=>[(900000115,.cells 115 (k5 aO.2)),(21004,.cells 28 (k2 p)),(21006,.cells 63 [i6 0,.aS]),(21007,.cells 63 [i6 root,lf bt m_1]),(600021008,.slice 3 1 (ml aG nZ) 0 false),(21011,.cells 67 [i6 m_7,i6 m_8])]) ?_ ?_
   ·obtain⟨bT,h4,hm⟩:=aa hm
    refine qDs [(3,hle [600021008] (eW h4) vW)] [] [(44,.bool bT)] ?_
    rcases aq hm with⟨c2,hm⟩|⟨c2,hm⟩
    ·exact qT c2<|qG [] [10,44] [] [21010,21011] [(21011,.cells 67 [i6 e_1.B,i6 e_1.A])]<|qX (e_1.B,e_1.A) hm
    exact qF c2<|A.skip<|qX (e_1.A,e_1.B) hm
   rintro⟨m_7,m_8⟩ hm
   rw[hJ2]at hm
   obtain⟨J3,hJ3,hm⟩:=cR hm
   refine A.J (J:=J3) (r:=r) (λv_1=>[(0,.ptr 900000115 0),(4,.ptr 21004 0),(6,.ptr 21006 0),(7,.ptr 21007 0),(8,.own 600021008),(9,i6 i_1),(11,.ptr 21011 0),(60,.bool v_1)]) (λv_1=>[(900000115,.cells 115 (k5 aO.2)),(21004,.cells 28 (k2 p)),(21006,.cells 63 [i6 0,.aS]),(21007,.cells 63 [i6 root,lf bt m_1]),(600021008,.slice 3 1 (ml aG nZ) 0 false),(21011,.cells 67 [i6 m_7,i6 m_8])]) ?_ ?_
   ·obtain⟨cI,h5,hm⟩:=aa hm
    rcases aq hm with⟨c3,hm⟩|⟨c3,hm⟩
    ·obtain⟨dY,h6,hm⟩:=aa hm
     exact qGs [(3,hle [600021008] (eW h5) vW),(4,hto (bE c3)),(8,hle [600021008] (eW h6) vW)] [] [(60,.bool (!dY))]<|qX (!dY) hm
    exact qGs [(3,hle [600021008] (eW h5) vW),(4,hto (bE c3))] [] [(60,.bool false)]<|qX false hm
   rintro v_1 hm
   rw[hJ3]at hm
   rcases aq hm with⟨c4,hm⟩|⟨c4,hm⟩
   ·refine qT c4 ?_
    obtain⟨l_1,h7,hm⟩:=aa hm
    refine qD [(4,hap 21565 (ap aG (bytes:=8) (by decide) h7))] [8,60] [(8,.own 21565)] [600021008] [(21565,.slice 3 1 (ml aG l_1) 0 false)] ?_
    obtain⟨bD,h8,hm⟩:=aa hm
    exact qG [(3,hro (wh h8) aot)] [11] [] [21007,21011] [(21007,.cells 63 [i6 root,lf bt bD])]<|Exists.intro (l_1,aO.2.L,aO.2.At,bD) (And.intro hm (bp.go [.sw 21565 600021008] [] (by kernel_rfl)))
   exact qF c4<|A.skip<|qX (nZ,aO.2.L,aO.2.At,m_1) hm
  rintro⟨wX,m_4,m_5,m_6⟩ hm
  rw[hJ1]at hm
  exact qGs [] [9] [(9,i6 (w64 (i_1-1)))]<|qX (wX,w64 (i_1-1),m_6,m_4,m_5) hm
 refine qF c1<|A.exit<|qD [] [0,4,7,8,9,24] [] [21004,21006,21007,600021008] [(21006,.cells 63 [i6 root,lf bt m_1])] ?_
 cases hm
 exact A.ret qE
end Go.Proofs.YtdjeacigeegklaaGreat
