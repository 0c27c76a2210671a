/- The iD of er of the program. No condition but bO bx stand in each. -/
import Derived.Test.YtdjeacigeegklaaGreatVX
namespace Go.Proofs.YtdjeacigeegklaaGreat
open Go Go.Proofs.Tryz
set_option maxRecDepth 100000
set_option linter.all false
variable {t:aX}
theorem aa1{most:Int}{r:aa×aX}(hm:oC t most=some r):dG prog 10 [(900000115,.cells 115 (k6 t))] [.ptr 900000115 0,i6 most] (λa σ'=>a=.agg (k2 r.1)∧σ'=[(900000115,.cells 115 (k6 r.2))]):=by
 refine bf func10 rfl rfl ?_
 unfold oC at hm
 refine qS [(0,.al 10004)] [(0,.ptr 900000115 0),(1,i6 most),(4,.ptr 10004 0)] [(900000115,.cells 115 (k6 t)),(10004,.cells 28 [.aM,.aM])] ?_
 obtain⟨ai,h1,hm⟩:=af hm
 refine qD [(2,hdc [] (lB h1) akK)] [1] [(5,i6 ai.1)] [900000115] [(900000115,.cells 115 (k6 ai.2))]<|qD [(0,.al 10006)] [] [(6,.ptr 10006 0)] [] [(10006,.cells 28 [.aM,.aM])]<|qDs [] [] [(7,i6 0)]<|A.seq<|qDs [] [] [(8,i6 0)]<|A.block ?_
 obtain⟨hh1,hm⟩:=eB hm
 obtain⟨B1,K1,hB1,hK1,hm⟩:=oP hm
 refine A.lpN (hi:=ai.1) (B:=B1) (K:=K1) hm rfl (λj1=>λ(xK,m_1,m_2,m_3)=>[(0,.ptr 900000115 0),(4,.ptr 10004 0),(5,i6 ai.1),(6,.ptr 10006 0),(7,i6 xK),(8,i6 (j1:Int))]) (λj1=>λ(xK,m_1,m_2,m_3)=>[(900000115,.cells 115 [lf aA m_2,i6 m_3]),(10004,.cells 28 [.aM,.aM]),(10006,.cells 28 [.own 701000600,.aM]),(701000600,.slice 42 2 (ml aC m_1) 0 false)]) ?_ ?_ ?_
 ·exact bt.go [.ac 10006 701000600 42 2 0] [] (by kernel_rfl)
 ·rintro j1 Z1 ⟨xK,m_1,m_2,m_3⟩ hj1 hx1 hm
  rw[hB1]at hm
  refine A.seq<|qDs [] [] [(24,.bool (decide ((j1:Int)<ai.1)))] ?_
  refine A.cT rfl (decide_eq_true hx1)<|A.skip<|A.seq<|A.block ?_
  obtain⟨aK,h2,hm⟩:=af hm
  refine qD [(3,hdc [] (ff h2) abE)] [7,24] [(7,i6 (w64 (xK+aK.1)))] [900000115] [(900000115,.cells 115 (k6 aK.2))] ?_
  obtain⟨l_1,h3,hm⟩:=af hm
  exact qG [(5,hap 10537 (ap aC (bytes:=16) (by decide) h3))] [] [] [10006,701000600] [(10006,.cells 28 [.own 10537,.aM]),(10537,.slice 42 2 (ml aC l_1) 0 false)]<|qGs [(1,hto (zJ (by omega) hx1 (of_decide_eq_true hh1)))] [8] [(8,i6 (j1+1:Int))]<|Exists.intro (w64 (xK+aK.1),l_1,aK.2.L,aK.2.At) (And.intro hm (bt.go [.sw 10537 701000600] [] (by kernel_rfl)))
 rintro j1 ⟨xK,m_1,m_2,m_3⟩ hj1 hl1 hm
 rw[hK1]at hm
 refine A.seq<|qDs [] [] [(24,.bool (decide ((j1:Int)<ai.1)))] ?_
 refine A.cF rfl (geF hl1)<|A.exit ?_
 obtain⟨h4,hm⟩:=eB hm
 refine qD [(1,hmr 10040 ai.1 aih aii h4 (by decide))] [7,8,24] [(9,.own 10040)] [] [(10040,.slice 118 1 (List.replicate ai.1.toNat [.aM]) 0 false)]<|A.weak ((bt.asi (d:=10040) (e:=450010040) 4 1 eV.enc (av8 h4) rfl rfl rfl rfl rfl))<|A.seq<|qS [(1,hno 4 1 eV.enc (List.replicate ai.1.toNat []:List (List Bool)) w9)] [(0,.ptr 900000115 0),(4,.ptr 10004 0),(5,i6 ai.1),(6,.ptr 10006 0),(9,.own 10040),(42,i6 ((List.replicate ai.1.toNat []:List (List Bool)).length:Int)),(43,i6 0)] [(900000115,.cells 115 [lf aA m_2,i6 m_3]),(10004,.cells 28 [.aM,.aM]),(10006,.cells 28 [.own 701000600,.aM]),(701000600,.slice 42 2 (ml aC m_1) 0 false),(10040,.dA 118 450010040 ai.1.toNat none),(450010040,.bun (encS 4 1 eV.enc (List.replicate ai.1.toNat []:List (List Bool))))]<|A.block ?_
 obtain⟨hh2,hm⟩:=eB hm
 obtain⟨B2,K2,hB2,hK2,hm⟩:=oP hm
 refine A.lpN (hi:=((List.replicate ai.1.toNat []:List (List Bool)).length:Int)) (B:=B2) (K:=K2) hm rfl (λj2=>λm_4=>[(0,.ptr 900000115 0),(4,.ptr 10004 0),(5,i6 ai.1),(6,.ptr 10006 0),(9,.own 10040),(42,i6 ((List.replicate ai.1.toNat []:List (List Bool)).length:Int)),(43,i6 (j2:Int))]) (λj2=>λm_4=>[(900000115,.cells 115 [lf aA m_2,i6 m_3]),(10004,.cells 28 [.aM,.aM]),(10006,.cells 28 [.own 701000600,.aM]),(701000600,.slice 42 2 (ml aC m_1) 0 false),(10040,.dA 118 450010040 ai.1.toNat none),(450010040,.bun (encS 4 1 eV.enc m_4))]) ?_ ?_ ?_
 ·exact qW
 ·rintro j2 Z2 m_4 hj2 hx2 hm
  rw[hB2]at hm
  refine qDs [] [] [(44,.bool (decide ((j2:Int)<((List.replicate ai.1.toNat []:List (List Bool)).length:Int))))]<|A.seq<|A.cT rfl (decide_eq_true hx2)<|A.skip<|A.seq<|A.block<|qDs [] [44] [(10,i6 (j2:Int))] ?_
  obtain⟨h5,hm⟩:=eB hm
  obtain⟨e_1,h6,hm⟩:=af hm
  exact qG [(3,hms (a:=.bool false) 10049 false eV.enc ai.1 aij aik rfl (λI=>by simp[aL]) h5 (by decide)),(4,hio 4 1 eV.enc w9 h6),(5,hsS 4 1 530010001 eV.enc (List.replicate (ai.1).toNat false) acd h6)] [10] [] [10040,450010040] [(10040,.dA 118 530010001 ai.1.toNat none),(530010001,.bun (encS 4 1 eV.enc (List.set m_4 (j2:Int).toNat (List.replicate (ai.1).toNat false))))]<|qGs [(0,hto (zJ (by omega) hx2 (of_decide_eq_true hh2)))] [43] [(43,i6 (j2+1:Int))]<|Exists.intro (List.set m_4 (j2:Int).toNat (List.replicate (ai.1).toNat false)) (And.intro hm (bt.go [.rn 530010001 450010040] [] (by kernel_rfl)))
 rintro j2 m_4 hj2 hl2 hm
 rw[hK2]at hm
 refine qDs [] [] [(44,.bool (decide ((j2:Int)<((List.replicate ai.1.toNat []:List (List Bool)).length:Int))))]<|A.seq<|A.cF rfl (geF hl2)<|A.exit<|A.seq<|qDs [] [42,43,44] [(11,i6 1)]<|A.block ?_
 obtain⟨hh3,hm⟩:=eB hm
 obtain⟨B3,K3,hB3,hK3,hm⟩:=oP hm
 refine A.lpN (hi:=ai.1) (B:=B3) (K:=K3) hm rfl (λj3=>λ(m_5,m_6,m_7)=>[(0,.ptr 900000115 0),(4,.ptr 10004 0),(5,i6 ai.1),(6,.ptr 10006 0),(9,.own 10040),(11,i6 (j3:Int))]) (λj3=>λ(m_5,m_6,m_7)=>[(900000115,.cells 115 [lf aA m_5,i6 m_6]),(10004,.cells 28 [.aM,.aM]),(10006,.cells 28 [.own 701000600,.aM]),(701000600,.slice 42 2 (ml aC m_1) 0 false),(10040,.dA 118 450010040 ai.1.toNat none),(450010040,.bun (encS 4 1 eV.enc m_7))]) ?_ ?_ ?_
 ·exact qW
 ·rintro j3 Z3 ⟨m_5,m_6,m_7⟩ hj3 hx3 hm
  rw[hB3]at hm
  refine A.seq<|qDs [] [] [(54,.bool (decide ((j3:Int)<ai.1)))] ?_
  refine A.cT rfl (decide_eq_true hx3)<|A.skip ?_
  obtain⟨J1,hJ1,hm⟩:=bG hm
  refine A.J (J:=J1) (r:=r) (λ(m_8,m_9,fI)=>[(0,.ptr 900000115 0),(4,.ptr 10004 0),(5,i6 ai.1),(6,.ptr 10006 0),(9,.own 10040),(11,i6 (j3:Int))]) (λ(m_8,m_9,fI)=>[(900000115,.cells 115 [lf aA m_9,i6 fI]),(10004,.cells 28 [.aM,.aM]),(10006,.cells 28 [.own 701000600,.aM]),(701000600,.slice 42 2 (ml aC m_1) 0 false),(10040,.dA 118 450010040 ai.1.toNat none),(450010040,.bun (encS 4 1 eV.enc m_8))]) ?_ ?_
  ·refine A.block ?_
   obtain⟨aV,h7,hm⟩:=af hm
   refine qD [(1,hdc [] (bL h7) me)] [54] [(59,.bool (decide (aV.1<11)))] [900000115] [(900000115,.cells 115 (k6 aV.2))] ?_
   rcases aq hm with⟨c1,hm⟩|⟨c1,hm⟩
   ·refine qT c1 ?_
    obtain⟨bq,h8,hm⟩:=af hm
    obtain⟨e_2,h9,hm⟩:=af hm
    obtain⟨e_3,h10,hm⟩:=af hm
    obtain⟨l_2,h11,hm⟩:=af hm
    refine A.late (A.R W0 [] [(3,hdc [] (bL h8) me),(4,hio 4 1 eV.enc w9 h9),(5,hlS 4 1 530010003 530010002 eV.enc acd h9),(7,hix (ix eV h10)),(8,hso 530010002 (st eV (off:=0) (ca:=[.bool true]) h10 h11 rfl) (rJ h10).1.1)] [(0,.ptr 900000115 0),(4,.ptr 10004 0),(5,i6 ai.1),(6,.ptr 10006 0),(9,.own 10040),(11,i6 (j3:Int))] [(900000115,.cells 115 (k6 bq.2)),(10004,.cells 28 [.aM,.aM]),(10006,.cells 28 [.own 701000600,.aM]),(701000600,.slice 42 2 (ml aC m_1) 0 false),(10040,.dA 118 530010003 ai.1.toNat (some (some bq.1.toNat,530010002))),(530010003,.bun (encS 4 1 eV.enc (List.set m_7 bq.1.toNat []))),(530010002,.slice 4 1 (ml eV l_2) 0 false)] (by kernel_rfl) ?_)
    refine⟨_,_,(bt.ahw (d:=10040) (e:=530010003) (e2:=530010004) (t:=530010002) m_7 eV.enc l_2 rfl rfl rfl rfl rfl rfl rfl),?_⟩
    exact Exists.intro ((List.set m_7 bq.1.toNat l_2),bq.2.L,bq.2.At) (And.intro hm (bt.go [.rn 530010004 450010040] [] (by kernel_rfl)))
   exact qF c1<|A.skip<|qX (m_7,aV.2.L,aV.2.At) hm
  rintro⟨m_8,m_9,fI⟩ hm
  rw[hJ1]at hm
  exact qGs [(1,hto (zJ (by omega) hx3 (of_decide_eq_true hh3)))] [11] [(11,i6 (j3+1:Int))]<|qX (m_9,fI,m_8) hm
 rintro j3 ⟨m_5,m_6,m_7⟩ hj3 hl3 hm
 rw[hK3]at hm
 refine A.seq<|qDs [] [] [(54,.bool (decide ((j3:Int)<ai.1)))] ?_
 refine A.cF rfl (geF hl3)<|A.exit<|A.seq ?_
 obtain⟨aT,h12,hm⟩:=af hm
 refine qD [(3,hdc [] (bL h12) me)] [11,54] [(12,i6 aT.1)] [900000115] [(900000115,.cells 115 (k6 aT.2))]<|A.block ?_
 obtain⟨F4,n4,hF4,hm⟩:=iR hm
 refine A.lpW (F:=F4) hm (λ(i_1,gC,eM,dN)=>[(0,.ptr 900000115 0),(4,.ptr 10004 0),(5,i6 ai.1),(6,.ptr 10006 0),(9,.own 10040),(12,i6 i_1)]) (λ(i_1,gC,eM,dN)=>[(900000115,.cells 115 [lf aA gC,i6 eM]),(10004,.cells 28 [.aM,.aM]),(10006,.cells 28 [.own 701000600,.aM]),(701000600,.slice 42 2 (ml aC m_1) 0 false),(10040,.dA 118 450010040 ai.1.toNat none),(450010040,.bun (encS 4 1 eV.enc dN))]) ?_ ?_
 ·exact qW
 rintro Z4 ⟨i_1,gC,eM,dN⟩ hm
 rw[hF4]at hm
 refine A.seq<|qDs [] [] [(73,.bool (decide (0<i_1)))] ?_
 rcases aq hm with⟨c2,hm⟩|⟨c2,hm⟩
 ·refine qT c2<|A.skip ?_
  obtain⟨J2,hJ2,hm⟩:=bG hm
  refine A.J (J:=J2) (r:=r) (λ(gD,iO,mN)=>[(0,.ptr 900000115 0),(4,.ptr 10004 0),(5,i6 ai.1),(6,.ptr 10006 0),(9,.own 10040),(12,i6 i_1)]) (λ(gD,iO,mN)=>[(900000115,.cells 115 [lf aA iO,i6 mN]),(10004,.cells 28 [.aM,.aM]),(10006,.cells 28 [.own 701000600,.aM]),(701000600,.slice 42 2 (ml aC m_1) 0 false),(10040,.dA 118 450010040 ai.1.toNat none),(450010040,.bun (encS 4 1 eV.enc gD))]) ?_ ?_
  ·refine A.block ?_
   obtain⟨cu,h13,hm⟩:=af hm
   obtain⟨bA,h14,hm⟩:=af hm
   refine qD [(2,hdc [] (bL h13) me),(5,hdc [] (bL h14) me)] [73] [(13,i6 cu.1),(14,i6 bA.1)] [900000115] [(900000115,.cells 115 (k6 bA.2))]<|qDs [] [] [(84,.bool (!decide (cu.1=bA.1)))] ?_
   rcases aq hm with⟨c3,hm⟩|⟨c3,hm⟩
   ·refine qT c3 ?_
    obtain⟨e_4,h15,hm⟩:=af hm
    obtain⟨e_5,h16,hm⟩:=af hm
    obtain⟨l_3,h17,hm⟩:=af hm
    refine A.late (A.R W0 [] [(4,hio 4 1 eV.enc w9 h15),(5,hlS 4 1 530010006 530010005 eV.enc acd h15),(9,hix (ix eV h16)),(10,hso 530010005 (st eV (off:=0) (ca:=[.bool true]) h16 h17 rfl) (rJ h16).1.1)] [(0,.ptr 900000115 0),(4,.ptr 10004 0),(5,i6 ai.1),(6,.ptr 10006 0),(9,.own 10040),(12,i6 i_1)] [(900000115,.cells 115 (k6 bA.2)),(10004,.cells 28 [.aM,.aM]),(10006,.cells 28 [.own 701000600,.aM]),(701000600,.slice 42 2 (ml aC m_1) 0 false),(10040,.dA 118 530010006 ai.1.toNat (some (some (if bA.1<cu.1 then bA.1 else cu.1).toNat,530010005))),(530010006,.bun (encS 4 1 eV.enc (List.set dN (if bA.1<cu.1 then bA.1 else cu.1).toNat []))),(530010005,.slice 4 1 (ml eV l_3) 0 false)] (by kernel_rfl) ?_)
    refine⟨_,_,(bt.ahw (d:=10040) (e:=530010006) (e2:=530010007) (t:=530010005) dN eV.enc l_3 rfl rfl rfl rfl rfl rfl rfl),?_⟩
    exact Exists.intro ((List.set dN (if bA.1<cu.1 then bA.1 else cu.1).toNat l_3),bA.2.L,bA.2.At) (And.intro hm (bt.go [.rn 530010007 450010040] [] (by kernel_rfl)))
   exact qF c3<|A.skip<|qX (dN,bA.2.L,bA.2.At) hm
  rintro⟨gD,iO,mN⟩ hm
  rw[hJ2]at hm
  exact qGs [] [12] [(12,i6 (w64 (i_1-1)))]<|qX (w64 (i_1-1),iO,mN,gD) hm
 refine qF c2<|A.exit ?_
 obtain⟨fE,h18,hm⟩:=af hm
 refine qD [(1,hdc [] (bL h18) me)] [5,12,73] [(15,.bool (decide (fE.1=0)))] [900000115] [(900000115,.cells 115 (k6 fE.2))]<|A.seq<|qDs [(1,hno 4 1 eV.enc dN w9)] [] [(99,i6 (dN.length:Int)),(100,i6 0)]<|A.block ?_
 obtain⟨hh5,hm⟩:=eB hm
 obtain⟨B5,K5,hB5,hK5,hm⟩:=oP hm
 refine A.lpN (hi:=(dN.length:Int)) (B:=B5) (K:=K5) hm rfl (λj5=>λ(rN,oD,oE)=>[(0,.ptr 900000115 0),(4,.ptr 10004 0),(6,.ptr 10006 0),(9,.own 10040),(15,.bool (decide (fE.1=0))),(99,i6 (dN.length:Int)),(100,i6 (j5:Int))]) (λj5=>λ(rN,oD,oE)=>[(900000115,.cells 115 [lf aA oD,i6 oE]),(10004,.cells 28 [.aM,.aM]),(10006,.cells 28 [.own 701000600,.own 701000601]),(701000600,.slice 42 2 (ml aC m_1) 0 false),(10040,.dA 118 450010040 ai.1.toNat none),(450010040,.bun (encS 4 1 eV.enc dN)),(701000601,.slice 89 5 (ml aS rN) 0 false)]) ?_ ?_ ?_
 ·exact bt.go [.ac 10006 701000601 89 5 1] [] (by kernel_rfl)
 ·rintro j5 Z5 ⟨rN,oD,oE⟩ hj5 hx5 hm
  rw[hB5]at hm
  refine qDs [] [] [(101,.bool (decide ((j5:Int)<(dN.length:Int))))]<|A.seq<|A.cT rfl (decide_eq_true hx5)<|A.skip<|A.seq<|A.block<|qDs [] [101] [(16,i6 (j5:Int))]<|qDs [(1,hno 4 1 eV.enc dN w9)] [] [(104,i6 (dN.length:Int)),(105,i6 0)]<|A.block ?_
  obtain⟨hh6,hm⟩:=eB hm
  obtain⟨B6,K6,hB6,hK6,hm⟩:=oP hm
  refine A.lpN (hi:=(dN.length:Int)) (B:=B6) (K:=K6) hm rfl (λj6=>λ(ng,oF,qj)=>[(0,.ptr 900000115 0),(4,.ptr 10004 0),(6,.ptr 10006 0),(9,.own 10040),(15,.bool (decide (fE.1=0))),(16,i6 (j5:Int)),(99,i6 (dN.length:Int)),(100,i6 (j5:Int)),(104,i6 (dN.length:Int)),(105,i6 (j6:Int))]) (λj6=>λ(ng,oF,qj)=>[(900000115,.cells 115 [lf aA oF,i6 qj]),(10004,.cells 28 [.aM,.aM]),(10006,.cells 28 [.own 701000600,.own 701000601]),(701000600,.slice 42 2 (ml aC m_1) 0 false),(10040,.dA 118 450010040 ai.1.toNat none),(450010040,.bun (encS 4 1 eV.enc dN)),(701000601,.slice 89 5 (ml aS ng) 0 false)]) ?_ ?_ ?_
  ·exact qW
  ·rintro j6 Z6 ⟨ng,oF,qj⟩ hj6 hx6 hm
   rw[hB6]at hm
   refine qDs [] [] [(106,.bool (decide ((j6:Int)<(dN.length:Int))))]<|A.seq<|A.cT rfl (decide_eq_true hx6)<|A.skip ?_
   obtain⟨J3,hJ3,hm⟩:=bG hm
   refine A.J (J:=J3) (r:=r) (λ(uL,uM,qP)=>[(0,.ptr 900000115 0),(4,.ptr 10004 0),(6,.ptr 10006 0),(9,.own 10040),(15,.bool (decide (fE.1=0))),(16,i6 (j5:Int)),(99,i6 (dN.length:Int)),(100,i6 (j5:Int)),(104,i6 (dN.length:Int)),(105,i6 (j6:Int))]) (λ(uL,uM,qP)=>[(900000115,.cells 115 [lf aA uL,i6 uM]),(10004,.cells 28 [.aM,.aM]),(10006,.cells 28 [.own 701000600,.own 701000601]),(701000600,.slice 42 2 (ml aC m_1) 0 false),(10040,.dA 118 450010040 ai.1.toNat none),(450010040,.bun (encS 4 1 eV.enc dN)),(701000601,.slice 89 5 (ml aS qP) 0 false)]) ?_ ?_
   ·refine A.block<|qDs [] [106] [(17,i6 (j6:Int))] ?_
    refine A.seq ?_
    obtain⟨e_6,h19,hm⟩:=af hm
    obtain⟨e_7,h20,hm⟩:=af hm
    refine qD [(2,hio 4 1 eV.enc w9 h19),(3,hlS 4 1 530010009 530010008 eV.enc acd h19),(5,hix (ix eV h20)),(6,hlo 530010008 0 (ix eV h20))] [] [(115,.bool (!e_7))] [10040,450010040] [(10040,.dA 118 530010009 ai.1.toNat (some (some (j5:Int).toNat,530010008))),(530010009,.bun (encS 4 1 eV.enc (List.set dN (j5:Int).toNat []))),(530010008,.slice 4 1 (ml eV e_6) 0 false)]<|A.weak ((bt.asj (d:=10040) (e:=530010009) (e2:=530010010) (t:=530010008) dN eV.enc h19 rfl rfl rfl rfl rfl rfl rfl)) ?_
    rcases aq hm with⟨c4,hm⟩|⟨c4,hm⟩
    ·exact qT c4<|A.exit<|Exists.intro (oF,qj,ng) (And.intro hm (bt.go [.rn 530010010 450010040] [] (by kernel_rfl)))
    refine qF c4<|A.skip ?_
    obtain⟨e_8,h21,hm⟩:=af hm
    obtain⟨e_9,h22,hm⟩:=af hm
    obtain⟨eT,h23,hm⟩:=af hm
    refine qS [(3,hix (ix aC h21)),(5,hlo 701000600 0 (ix aC h21)),(9,hix (ix aC h22)),(11,hlo 701000600 0 (ix aC h22)),(14,hdc [] (ff h23) abE),(16,.al 10018)] [(0,.ptr 900000115 0),(4,.ptr 10004 0),(6,.ptr 10006 0),(9,.own 10040),(15,.bool (decide (fE.1=0))),(16,i6 (j5:Int)),(99,i6 (dN.length:Int)),(100,i6 (j5:Int)),(104,i6 (dN.length:Int)),(105,i6 (j6:Int)),(18,.ptr 10018 0)] [(900000115,.cells 115 (k6 eT.2)),(10004,.cells 28 [.aM,.aM]),(10006,.cells 28 [.own 701000600,.own 701000601]),(701000600,.slice 42 2 (ml aC m_1) 0 false),(10040,.dA 118 530010010 ai.1.toNat none),(530010010,.bun (encS 4 1 eV.enc dN)),(701000601,.slice 89 5 (ml aS ng) 0 false),(10018,.cells 89 [i6 e_8.ID,i6 e_9.ID,i6 1,i6 1,i6 eT.1])] ?_
    obtain⟨J4,hJ4,hm⟩:=bG hm
    refine A.J (J:=J4) (r:=r) (λ(qQ,oG,afi,afj)=>[(0,.ptr 900000115 0),(4,.ptr 10004 0),(6,.ptr 10006 0),(9,.own 10040),(15,.bool (decide (fE.1=0))),(16,i6 (j5:Int)),(18,.ptr 10018 0),(99,i6 (dN.length:Int)),(100,i6 (j5:Int)),(104,i6 (dN.length:Int)),(105,i6 (j6:Int))]) (λ(qQ,oG,afi,afj)=>[(900000115,.cells 115 [lf aA qQ,i6 oG]),(10004,.cells 28 [.aM,.aM]),(10006,.cells 28 [.own 701000600,.own 701000601]),(701000600,.slice 42 2 (ml aC m_1) 0 false),(10040,.dA 118 530010010 ai.1.toNat none),(530010010,.bun (encS 4 1 eV.enc dN)),(701000601,.slice 89 5 (ml aS ng) 0 false),(10018,.cells 89 [i6 e_8.ID,i6 e_9.ID,i6 afi,i6 afj,i6 eT.1])]) ?_ ?_
    ·refine qDs [] [] [(133,.bool (!(decide (fE.1=0))))] ?_
     rcases aq hm with⟨c5,hm⟩|⟨c5,hm⟩
     ·refine qT c5 ?_
      obtain⟨pP,h24,hm⟩:=af hm
      obtain⟨iH,h25,hm⟩:=af hm
      refine qD [(2,hdc [] (lB h24) akK),(4,hdc [] (ff h25) abE)] [133] [] [900000115,10018] [(900000115,.cells 115 (k6 iH.2)),(10018,.cells 89 [i6 e_8.ID,i6 e_9.ID,i6 iH.1,i6 1,i6 eT.1])] ?_
      obtain⟨yU,h26,hm⟩:=af hm
      obtain⟨qy,h27,hm⟩:=af hm
      exact qG [(6,hdc [] (lB h26) akK),(8,hdc [] (ff h27) abE)] [] [] [900000115,10018] [(900000115,.cells 115 (k6 qy.2)),(10018,.cells 89 [i6 e_8.ID,i6 e_9.ID,i6 iH.1,i6 qy.1,i6 eT.1])]<|qX (qy.2.L,qy.2.At,iH.1,qy.1) hm
     exact qF c5<|A.skip<|qX (eT.2.L,eT.2.At,(1:Int),(1:Int)) hm
    rintro⟨qQ,oG,afi,afj⟩ hm
    rw[hJ4]at hm
    obtain⟨l_4,h28,hm⟩:=af hm
    exact qG [(4,hap 10654 (ap aS (bytes:=40) (by decide) h28))] [18] [] [10006,701000601,10018] [(10006,.cells 28 [.own 701000600,.own 10654]),(10654,.slice 89 5 (ml aS l_4) 0 false)]<|Exists.intro (qQ,oG,l_4) (And.intro hm (bt.go [.sw 10654 701000601,.rn 530010010 450010040] [] (by kernel_rfl)))
   rintro⟨uL,uM,qP⟩ hm
   rw[hJ3]at hm
   exact qGs [(0,hto (zJ (by omega) hx6 (of_decide_eq_true hh6)))] [105] [(105,i6 (j6+1:Int))]<|qX (qP,uL,uM) hm
  rintro j6 ⟨ng,oF,qj⟩ hj6 hl6 hm
  rw[hK6]at hm
  exact qDs [] [] [(106,.bool (decide ((j6:Int)<(dN.length:Int))))]<|A.seq<|A.cF rfl (geF hl6)<|A.exit<|qGs [(0,hto (zJ (by omega) hx5 (of_decide_eq_true hh5)))] [16,100,104,105,106] [(100,i6 (j5+1:Int))]<|qX (ng,oF,qj) hm
 rintro j5 ⟨rN,oD,oE⟩ hj5 hl5 hm
 rw[hK5]at hm
 refine qDs [] [] [(101,.bool (decide ((j5:Int)<(dN.length:Int))))]<|A.seq<|A.cF rfl (geF hl5)<|A.exit<|qD [] [0,6,9,15,99,100,101] [] [10004,10006,10040,450010040] [(10004,.cells 28 [.own 701000600,.own 701000601])]<|A.ret ?_
 obtain rfl:=some_inj hm
 exact A.fin W0 [.fz [701000600,701000601]] rfl (by kernel_rfl)
variable {p:aa}
theorem acu{r:Int×aX}(hm:qk t p=some r):dG prog 32 [(900000115,.cells 115 (k6 t))] [.ptr 900000115 0,.agg (k2 p)] (λa σ'=>a=i6 r.1∧σ'=[(900000115,.cells 115 (k6 r.2))]):=by
 refine bf func32 rfl rfl ?_
 unfold qk at hm
 refine qS [(0,.al 32003)] [(0,.ptr 900000115 0),(3,.ptr 32003 0)] [(900000115,.cells 115 (k6 t)),(32003,.cells 28 (k2 p))]<|A.seq ?_
 obtain⟨J1,hJ1,hm⟩:=bG hm
 refine A.J (J:=J1) (r:=r) (λ(v_1,m_1,m_2)=>[(0,.ptr 900000115 0),(3,.ptr 32003 0),(13,.bool v_1)]) (λ(v_1,m_1,m_2)=>[(900000115,.cells 115 [lf aA m_1,i6 m_2]),(32003,.cells 28 (k2 p))]) ?_ ?_
 ·rcases aq hm with⟨c1,hm⟩|⟨c1,hm⟩
  ·exact qGs [(2,hto (lnE aC p.ah)),(4,hto (bE c1))] [] [(13,.bool true)]<|qX (true,t.L,t.At) hm
  obtain⟨ai,h1,hm⟩:=af hm
  exact qG [(2,hto (lnE aC p.ah)),(4,hto (bE c1)),(6,hdc [] (bL h1) me)] [] [(13,.bool (decide (ai.1=39)))] [900000115] [(900000115,.cells 115 (k6 ai.2))]<|qX (decide (ai.1=39),ai.2.L,ai.2.At) hm
 rintro⟨v_1,m_1,m_2⟩ hm
 rw[hJ1]at hm
 rcases aq hm with⟨c2,hm⟩|⟨c2,hm⟩
 ·refine qT c2 ?_
  obtain⟨aK,h2,hm⟩:=af hm
  refine qS [(2,hdc [] (ff h2) abE)] [(4,i6 aK.1)] [(900000115,.cells 115 (k6 aK.2))] ?_
  cases hm
  exact A.ret qE
 refine qF c2<|A.skip ?_
 obtain⟨aV,h3,hm⟩:=af hm
 obtain⟨e_1,h4,hm⟩:=af hm
 refine qS [(5,hto (lnE aC p.ah)),(6,hdc [] (bL h3) me),(7,hix (ix aC h4))] [(4,i6 e_1.ID)] [(900000115,.cells 115 (k6 aV.2))] ?_
 cases hm
 exact A.ret qE
theorem aem{n:Int}{r:(List Int)×aX}(hm:ta t p n=some r):dG prog 13 [(900000115,.cells 115 (k6 t))] [.ptr 900000115 0,.agg (k2 p),i6 n] (λa σ'=>a=lf aA r.1∧σ'=[(900000115,.cells 115 (k6 r.2))]):=by
 refine bf func13 rfl rfl ?_
 unfold ta at hm
 refine qS [(0,.al 13004)] [(0,.ptr 900000115 0),(2,i6 n),(4,.ptr 13004 0)] [(900000115,.cells 115 (k6 t)),(13004,.cells 28 (k2 p))]<|qDs [] [] [(7,.aM)]<|A.seq ?_
 obtain⟨ai,h1,hm⟩:=af hm
 refine qD [(3,hdc [] (bL h1) me)] [2] [(8,i6 ai.1)] [900000115] [(900000115,.cells 115 (k6 ai.2))]<|A.block ?_
 obtain⟨F1,n1,hF1,hm⟩:=iR hm
 refine A.lpW (F:=F1) hm (λ(aR,i_1,m_1,m_2)=>[(0,.ptr 900000115 0),(4,.ptr 13004 0),(7,lf aA aR),(8,i6 i_1)]) (λ(aR,i_1,m_1,m_2)=>[(900000115,.cells 115 [lf aA m_1,i6 m_2]),(13004,.cells 28 (k2 p))]) ?_ ?_
 ·exact bt.go [] [7] (by kernel_rfl)
 rintro Z1 ⟨aR,i_1,m_1,m_2⟩ hm
 rw[hF1]at hm
 refine A.seq<|A.mid [(0,.ptr 900000115 0),(4,.ptr 13004 0),(7,lf aA aR),(8,i6 i_1),(20,.bool ((decide (0<i_1))&&(decide (0<(p.ah.length:Int)))))] [(900000115,.cells 115 [lf aA m_1,i6 m_2]),(13004,.cells 28 (k2 p))] (λhk=>?_) ?_
 ·rcases tf (decide (0<i_1))with c1|c1
  ·exact qS [(2,hto (bE c1)),(5,hto (lnE aC p.ah)),(7,hto (nc (q:=decide (0<(p.ah.length:Int))) c1))] _ _ hk
  exact qS [(2,hto (bE c1)),(7,hto (ov (q:=decide (0<(p.ah.length:Int))) c1))] _ _ hk
 rcases aq hm with⟨c2,hm⟩|⟨c2,hm⟩
 ·refine qT c2<|A.skip<|A.seq<|A.block ?_
  obtain⟨aK,h2,hm⟩:=af hm
  obtain⟨e_1,h3,hm⟩:=af hm
  obtain⟨aV,h4,hm⟩:=af hm
  exact qG [(6,hto (lnE aC p.ah)),(7,hdc [] (bL h2) me),(8,hix (ix aC h3)),(11,hro (sZ h4) atm)] [7,20] [(7,lf aA aV)] [900000115] [(900000115,.cells 115 (k6 aK.2))]<|qGs [] [8] [(8,i6 (w64 (i_1-1)))]<|Exists.intro (aV,w64 (i_1-1),aK.2.L,aK.2.At) (And.intro hm (bt.go [] [7] (by kernel_rfl)))
 refine qF c2<|A.exit<|qD [] [0,4,7,8,20] [(6,lf aA aR)] [13004] [] ?_
 cases hm
 exact A.ret qE
theorem xo{r:aF×aX}(hm:oH t p=some r):dG prog 30 [(900000115,.cells 115 (k6 t))] [.ptr 900000115 0,.agg (k2 p)] (λa σ'=>a=.agg (k7 r.1)∧σ'=[(900000115,.cells 115 (k6 r.2))]):=by
 refine bf func30 rfl rfl ?_
 unfold oH at hm
 refine qS [(0,.al 30003),(1,.al 30004)] [(0,.ptr 900000115 0),(3,.ptr 30003 0),(4,.ptr 30004 0)] [(900000115,.cells 115 (k6 t)),(30003,.cells 28 (k2 p)),(30004,.cells 32 [i6 0,.aM])] ?_
 obtain⟨ai,h1,hm⟩:=af hm
 refine qD [(2,hdc [] (ff h1) abE),(4,.al 30005)] [] [(5,.ptr 30005 0)] [900000115] [(900000115,.cells 115 (k6 ai.2)),(30005,.cells 32 [i6 ai.1,.aM])]<|A.seq ?_
 obtain⟨aK,h2,hm⟩:=af hm
 refine qD [(1,hro (xm h2) atl),(5,.al 30006)] [] [(6,.ptr 30006 0),(7,i6 aK.2)] [] [(30006,.cells 32 (k7 aK.1))] ?_
 obtain⟨J1,hJ1,hm⟩:=bG hm
 refine A.J (J:=J1) (r:=r) (λ(v_1,m_1,m_2)=>[(0,.ptr 900000115 0),(3,.ptr 30003 0),(4,.ptr 30004 0),(5,.ptr 30005 0),(6,.ptr 30006 0),(30,.bool v_1)]) (λ(v_1,m_1,m_2)=>[(900000115,.cells 115 [lf aA m_1,i6 m_2]),(30003,.cells 28 (k2 p)),(30004,.cells 32 [i6 0,.aM]),(30005,.cells 32 [i6 ai.1,.aM]),(30006,.cells 32 (k7 aK.1))]) ?_ ?_
 ·rcases aq hm with⟨c1,hm⟩|⟨c1,hm⟩
  ·obtain⟨aV,h3,hm⟩:=af hm
   exact qG [(2,hto (bE c1)),(4,hdc [] (bL h3) me)] [7] [(30,.bool (decide (aV.1=0)))] [900000115] [(900000115,.cells 115 (k6 aV.2))]<|qX (decide (aV.1=0),aV.2.L,aV.2.At) hm
  exact qGs [(2,hto (bE c1))] [7] [(30,.bool false)]<|qX (false,ai.2.L,ai.2.At) hm
 rintro⟨v_1,m_1,m_2⟩ hm
 rw[hJ1]at hm
 rcases aq hm with⟨c2,hm⟩|⟨c2,hm⟩
 ·refine qT c2<|qD [] [0,3,5,6,30] [] [30003,30004,30005,30006] [(30004,.cells 32 (k7 aK.1))] ?_
  cases hm
  exact A.ret qE
 refine qF c2<|A.skip<|A.seq<|qD [(2,hto (lnE aC p.ah))] [6,30] [(33,lf aC p.ah),(34,i6 (p.ah.length:Int)),(35,i6 0)] [30006] []<|A.block<|A.bS 33 rfl λhb1=>?_
 obtain⟨B1,K1,hB1,hK1,hm⟩:=aW hm
 refine A.lpI (l:=p.ah) (j0:=0) (B:=B1) (K:=K1) hm (λj1=>λ(m_3,m_4,m_5)=>[(0,.ptr 900000115 0),(3,.ptr 30003 0),(4,.ptr 30004 0),(5,.ptr 30005 0),(33,lf aC p.ah),(34,i6 (p.ah.length:Int)),(35,i6 (j1:Int))]) (λj1=>λ(m_3,m_4,m_5)=>[(900000115,.cells 115 [lf aA m_4,i6 m_5]),(30003,.cells 28 (k2 p)),(30004,.cells 32 [i6 0,.aM]),(30005,.cells 32 [i6 ai.1,.own 703000501]),(703000501,.slice 38 4 (ml ak m_3) 0 false)]) ?_ ?_ ?_
 ·exact bt.go [.ac 30005 703000501 38 4 1] [] (by kernel_rfl)
 ·rintro j1 e1 Z1 ⟨m_3,m_4,m_5⟩ hj1 hx1 hm
  rw[hB1]at hm
  refine qDs [] [] [(36,.bool (decide ((j1:Int)<(p.ah.length:Int))))]<|A.seq<|qT (ltT hx1)<|A.skip ?_
  obtain⟨J2,hJ2,hm⟩:=bG hm
  refine A.J (J:=J2) (r:=r) (λ(m_6,m_7,m_8)=>[(0,.ptr 900000115 0),(3,.ptr 30003 0),(4,.ptr 30004 0),(5,.ptr 30005 0),(33,lf aC p.ah),(34,i6 (p.ah.length:Int)),(35,i6 (j1:Int))]) (λ(m_6,m_7,m_8)=>[(900000115,.cells 115 [lf aA m_6,i6 m_7]),(30003,.cells 28 (k2 p)),(30004,.cells 32 [i6 0,.aM]),(30005,.cells 32 [i6 ai.1,.own 703000501]),(703000501,.slice 38 4 (ml ak m_8) 0 false)]) ?_ ?_
  ·refine A.block<|qD [(0,hix (ix aC (aY hx1))),(2,.al 30009)] [36] [(9,.ptr 30009 0)] [] [(30009,.cells 42 (k0 e1))] ?_
   obtain⟨J3,hJ3,hm⟩:=bG hm
   refine A.J (J:=J3) (r:=r) (λ(m_9,fI,gC)=>[(0,.ptr 900000115 0),(3,.ptr 30003 0),(4,.ptr 30004 0),(5,.ptr 30005 0),(9,.ptr 30009 0),(33,lf aC p.ah),(34,i6 (p.ah.length:Int)),(35,i6 (j1:Int))]) (λ(m_9,fI,gC)=>[(900000115,.cells 115 [lf aA m_9,i6 fI]),(30003,.cells 28 (k2 p)),(30004,.cells 32 [i6 0,.aM]),(30005,.cells 32 [i6 ai.1,.own 703000501]),(703000501,.slice 38 4 (ml ak gC) 0 false),(30009,.cells 42 (k0 e1))]) ?_ ?_
   ·obtain⟨bq,h4,hm⟩:=af hm
    refine qD [(1,hdc [] (bL h4) me)] [] [(41,.bool (decide (0<bq.1)))] [900000115] [(900000115,.cells 115 (k6 bq.2))] ?_
    rcases aq hm with⟨c3,hm⟩|⟨c3,hm⟩
    ·refine qT c3 ?_
     obtain⟨l_1,h5,hm⟩:=af hm
     exact qG [(4,hto (lnE ak m_3)),(11,hap 30553 (ap ak (bytes:=32) (by decide) h5))] [41] [] [30005,703000501] [(30005,.cells 32 [i6 ai.1,.own 30553]),(30553,.slice 38 4 (ml ak l_1) 0 false)]<|Exists.intro (bq.2.L,bq.2.At,l_1) (And.intro hm (bt.go [.sw 30553 703000501] [] (by kernel_rfl)))
    exact qF c3<|A.skip<|qX (bq.2.L,bq.2.At,m_3) hm
   rintro⟨m_9,fI,gC⟩ hm
   rw[hJ3]at hm
   refine A.seq<|qDs [(2,hto (lnE aS p.Links))] [] [(56,lf aS p.Links),(57,i6 (p.Links.length:Int)),(58,i6 0)] ?_
   refine A.block<|A.bS 56 rfl λhb2=>?_
   obtain⟨B2,K2,hB2,hK2,hm⟩:=aW hm
   refine A.lpI (l:=p.Links) (j0:=0) (B:=B2) (K:=K2) hm (λj2=>λ(eM,dN,gD)=>[(0,.ptr 900000115 0),(3,.ptr 30003 0),(4,.ptr 30004 0),(5,.ptr 30005 0),(9,.ptr 30009 0),(33,lf aC p.ah),(34,i6 (p.ah.length:Int)),(35,i6 (j1:Int)),(56,lf aS p.Links),(57,i6 (p.Links.length:Int)),(58,i6 (j2:Int))]) (λj2=>λ(eM,dN,gD)=>[(900000115,.cells 115 [lf aA dN,i6 gD]),(30003,.cells 28 (k2 p)),(30004,.cells 32 [i6 0,.aM]),(30005,.cells 32 [i6 ai.1,.own 703000501]),(703000501,.slice 38 4 (ml ak eM) 0 false),(30009,.cells 42 (k0 e1))]) ?_ ?_ ?_
   ·exact qW
   ·rintro j2 e2 Z2 ⟨eM,dN,gD⟩ hj2 hx2 hm
    rw[hB2]at hm
    refine qDs [] [] [(59,.bool (decide ((j2:Int)<(p.Links.length:Int))))]<|A.seq<|qT (ltT hx2)<|A.skip ?_
    obtain⟨J4,hJ4,hm⟩:=bG hm
    refine A.J (J:=J4) (r:=r) (λ(iO,mN,rN)=>[(0,.ptr 900000115 0),(3,.ptr 30003 0),(4,.ptr 30004 0),(5,.ptr 30005 0),(9,.ptr 30009 0),(33,lf aC p.ah),(34,i6 (p.ah.length:Int)),(35,i6 (j1:Int)),(56,lf aS p.Links),(57,i6 (p.Links.length:Int)),(58,i6 (j2:Int))]) (λ(iO,mN,rN)=>[(900000115,.cells 115 [lf aA iO,i6 mN]),(30003,.cells 28 (k2 p)),(30004,.cells 32 [i6 0,.aM]),(30005,.cells 32 [i6 ai.1,.own 703000501]),(703000501,.slice 38 4 (ml ak rN) 0 false),(30009,.cells 42 (k0 e1))]) ?_ ?_
    ·refine A.block<|qD [(0,hix (ix aS (aY hx2))),(2,.al 30011)] [59] [(11,.ptr 30011 0)] [] [(30011,.cells 89 (k1 e2))] ?_
     refine qDs [] [] [(12,i6 0)] ?_
     obtain⟨J5,hJ5,hm⟩:=bG hm
     refine A.J (J:=J5) (r:=r) (λaaR=>[(0,.ptr 900000115 0),(3,.ptr 30003 0),(4,.ptr 30004 0),(5,.ptr 30005 0),(9,.ptr 30009 0),(11,.ptr 30011 0),(12,i6 aaR),(33,lf aC p.ah),(34,i6 (p.ah.length:Int)),(35,i6 (j1:Int)),(56,lf aS p.Links),(57,i6 (p.Links.length:Int)),(58,i6 (j2:Int))]) (λaaR=>[(900000115,.cells 115 [lf aA dN,i6 gD]),(30003,.cells 28 (k2 p)),(30004,.cells 32 [i6 0,.aM]),(30005,.cells 32 [i6 ai.1,.own 703000501]),(703000501,.slice 38 4 (ml ak eM) 0 false),(30009,.cells 42 (k0 e1)),(30011,.cells 89 (k1 e2))]) ?_ ?_
     ·refine qDs [] [] [(66,.bool (decide (e2.A=e1.ID)))] ?_
      rcases aq hm with⟨c4,hm⟩|⟨c4,hm⟩
      ·exact qT c4<|qGs [] [12,66] [(12,i6 e2.B)]<|qX e2.B hm
      exact qF c4<|A.skip<|qX (0:Int) hm
     rintro aaR hm
     rw[hJ5]at hm
     obtain⟨J6,hJ6,hm⟩:=bG hm
     refine A.J (J:=J6) (r:=r) (λyV=>[(0,.ptr 900000115 0),(3,.ptr 30003 0),(4,.ptr 30004 0),(5,.ptr 30005 0),(9,.ptr 30009 0),(12,i6 yV),(33,lf aC p.ah),(34,i6 (p.ah.length:Int)),(35,i6 (j1:Int)),(56,lf aS p.Links),(57,i6 (p.Links.length:Int)),(58,i6 (j2:Int))]) (λyV=>[(900000115,.cells 115 [lf aA dN,i6 gD]),(30003,.cells 28 (k2 p)),(30004,.cells 32 [i6 0,.aM]),(30005,.cells 32 [i6 ai.1,.own 703000501]),(703000501,.slice 38 4 (ml ak eM) 0 false),(30009,.cells 42 (k0 e1))]) ?_ ?_
     ·refine qDs [] [] [(73,.bool (decide (e2.B=e1.ID)))] ?_
      rcases aq hm with⟨c5,hm⟩|⟨c5,hm⟩
      ·exact qT c5<|qG [] [11,12,73] [(12,i6 e2.A)] [30011] []<|qX e2.A hm
      exact qF c5<|A.skip<|qX aaR hm
     rintro yV hm
     rw[hJ6]at hm
     obtain⟨J7,hJ7,hm⟩:=bG hm
     refine A.J (J:=J7) (r:=r) (λ(v_2,oD,oE)=>[(0,.ptr 900000115 0),(3,.ptr 30003 0),(4,.ptr 30004 0),(5,.ptr 30005 0),(9,.ptr 30009 0),(12,i6 yV),(33,lf aC p.ah),(34,i6 (p.ah.length:Int)),(35,i6 (j1:Int)),(56,lf aS p.Links),(57,i6 (p.Links.length:Int)),(58,i6 (j2:Int)),(82,.bool v_2)]) (λ(v_2,oD,oE)=>[(900000115,.cells 115 [lf aA oD,i6 oE]),(30003,.cells 28 (k2 p)),(30004,.cells 32 [i6 0,.aM]),(30005,.cells 32 [i6 ai.1,.own 703000501]),(703000501,.slice 38 4 (ml ak eM) 0 false),(30009,.cells 42 (k0 e1))]) ?_ ?_
     ·rcases aq hm with⟨c6,hm⟩|⟨c6,hm⟩
      ·obtain⟨aT,h6,hm⟩:=af hm
       exact qG [(2,hto (bE c6)),(4,hdc [] (bL h6) me)] [] [(82,.bool (decide (0<aT.1)))] [900000115] [(900000115,.cells 115 (k6 aT.2))]<|qX (decide (0<aT.1),aT.2.L,aT.2.At) hm
      exact qGs [(2,hto (bE c6))] [] [(82,.bool false)]<|qX (false,dN,gD) hm
     rintro⟨v_2,oD,oE⟩ hm
     rw[hJ7]at hm
     rcases aq hm with⟨c7,hm⟩|⟨c7,hm⟩
     ·refine qT c7 ?_
      obtain⟨l_2,h7,hm⟩:=af hm
      exact qG [(4,hto (lnE ak eM)),(10,hap 30593 (ap ak (bytes:=32) (by decide) h7))] [12,82] [] [30005,703000501] [(30005,.cells 32 [i6 ai.1,.own 30593]),(30593,.slice 38 4 (ml ak l_2) 0 false)]<|Exists.intro (oD,oE,l_2) (And.intro hm (bt.go [.sw 30593 703000501] [] (by kernel_rfl)))
     exact qF c7<|A.skip<|qX (oD,oE,eM) hm
    rintro⟨iO,mN,rN⟩ hm
    rw[hJ4]at hm
    exact qGs [(0,hto (inc hx2 hb2))] [58] [(58,i6 ((j2+1:Nat):Int))]<|qX (rN,iO,mN) hm
   rintro j2 ⟨eM,dN,gD⟩ hj2 hl2 hm
   rw[hK2]at hm
   refine qDs [] [] [(59,.bool (decide ((j2:Int)<(p.Links.length:Int))))]<|A.seq<|qF (ltF hl2)<|A.exit ?_
   obtain⟨cu,h8,hm⟩:=af hm
   obtain⟨e_1,h9,hm⟩:=af hm
   refine qD [(5,hto (lnE aC p.ah)),(6,hdc [] (bL h8) me),(7,hix (ix aC h9))] [56,57,58,59] [(13,i6 e_1.ID)] [900000115] [(900000115,.cells 115 (k6 cu.2))] ?_
   obtain⟨J8,hJ8,hm⟩:=bG hm
   refine A.J (J:=J8) (r:=r) (λ(v_3,ng,oF)=>[(0,.ptr 900000115 0),(3,.ptr 30003 0),(4,.ptr 30004 0),(5,.ptr 30005 0),(9,.ptr 30009 0),(13,i6 e_1.ID),(33,lf aC p.ah),(34,i6 (p.ah.length:Int)),(35,i6 (j1:Int)),(114,.bool v_3)]) (λ(v_3,ng,oF)=>[(900000115,.cells 115 [lf aA ng,i6 oF]),(30003,.cells 28 (k2 p)),(30004,.cells 32 [i6 0,.aM]),(30005,.cells 32 [i6 ai.1,.own 703000501]),(703000501,.slice 38 4 (ml ak eM) 0 false),(30009,.cells 42 (k0 e1))]) ?_ ?_
   ·rcases aq hm with⟨c8,hm⟩|⟨c8,hm⟩
    ·obtain⟨bA,h10,hm⟩:=af hm
     exact qG [(4,hto (bE c8)),(6,hdc [] (bL h10) me)] [] [(114,.bool (decide (bA.1=0)))] [900000115] [(900000115,.cells 115 (k6 bA.2))]<|qX (decide (bA.1=0),bA.2.L,bA.2.At) hm
    exact qGs [(4,hto (bE c8))] [] [(114,.bool false)]<|qX (false,cu.2.L,cu.2.At) hm
   rintro⟨v_3,ng,oF⟩ hm
   rw[hJ8]at hm
   rcases aq hm with⟨c9,hm⟩|⟨c9,hm⟩
   ·refine qT c9 ?_
    obtain⟨l_3,h11,hm⟩:=af hm
    exact qG [(4,hto (lnE ak eM)),(10,hap 30625 (ap ak (bytes:=32) (by decide) h11))] [9,13,114] [] [30005,703000501,30009] [(30005,.cells 32 [i6 ai.1,.own 30625]),(30625,.slice 38 4 (ml ak l_3) 0 false)]<|Exists.intro (ng,oF,l_3) (And.intro hm (bt.go [.sw 30625 703000501] [] (by kernel_rfl)))
   exact qF c9<|A.skip<|qX (ng,oF,eM) hm
  rintro⟨m_6,m_7,m_8⟩ hm
  rw[hJ2]at hm
  exact qGs [(0,hto (inc hx1 hb1))] [35] [(35,i6 ((j1+1:Nat):Int))]<|qX (m_8,m_6,m_7) hm
 rintro j1 ⟨m_3,m_4,m_5⟩ hj1 hl1 hm
 rw[hK1]at hm
 refine qDs [] [] [(36,.bool (decide ((j1:Int)<(p.ah.length:Int))))]<|A.seq<|qF (ltF hl1)<|A.exit ?_
 obtain⟨l_4,h12,hm⟩:=af hm
 refine qD [(4,hto (lnE ak m_3)),(8,hcu 30636 aqI (sl ak h12))] [3,33,34,35,36] [] [30003,30005,703000501] [(30005,.cells 32 [i6 ai.1,.own 30636]),(30636,.slice 38 4 (ml ak l_4) 0 false)] ?_
 obtain⟨J9,hJ9,hm⟩:=bG hm
 refine A.J (J:=J9) (r:=r) (λ(qj,uL,uM)=>[(4,.ptr 30004 0),(5,.ptr 30005 0)]) (λ(qj,uL,uM)=>[(900000115,.cells 115 [lf aA qj,i6 uL]),(30004,.cells 32 [i6 0,.aM]),(30005,.cells 32 [i6 ai.1,.own 703000501]),(703000501,.slice 38 4 (ml ak uM) 0 false)]) ?_ ?_
 ·obtain⟨J10,ahD,hm⟩:=bG hm
  refine A.J (J:=J10) (r:=r) (λ(v_4,qP,qQ)=>[(4,.ptr 30004 0),(5,.ptr 30005 0),(148,.bool v_4)]) (λ(v_4,qP,qQ)=>[(900000115,.cells 115 [lf aA qP,i6 qQ]),(30004,.cells 32 [i6 0,.aM]),(30005,.cells 32 [i6 ai.1,.own 30636]),(30636,.slice 38 4 (ml ak l_4) 0 false)]) ?_ ?_
  ·obtain⟨fE,h13,hm⟩:=af hm
   rcases aq hm with⟨c10,hm⟩|⟨c10,hm⟩
   ·exact qG [(1,hdc [] (bL h13) me),(3,hto (bE c10)),(6,hto (lnE ak l_4))] [0] [(148,.bool (decide ((l_4.length:Int)<ai.1)))] [900000115] [(900000115,.cells 115 (k6 fE.2))]<|qX (decide ((l_4.length:Int)<ai.1),fE.2.L,fE.2.At) hm
   exact qG [(1,hdc [] (bL h13) me),(3,hto (bE c10))] [0] [(148,.bool false)] [900000115] [(900000115,.cells 115 (k6 fE.2))]<|qX (false,fE.2.L,fE.2.At) hm
  rintro⟨v_4,qP,qQ⟩ hm
  rw[ahD]at hm
  rcases aq hm with⟨c11,hm⟩|⟨c11,hm⟩
  ·refine qT c11<|qDs [(2,hto (lnE ak l_4))] [148] [(151,i6 (l_4.length:Int)),(152,i6 0)]<|A.block<|A.bD 5 1 rfl rfl rfl rfl λhb3=>?_
   obtain⟨B3,K3,hB3,hK3,hm⟩:=aW hm
   refine A.lpI (l:=l_4) (j0:=0) (B:=B3) (K:=K3) hm (λj3=>λoG=>[(4,.ptr 30004 0),(5,.ptr 30005 0),(151,i6 (l_4.length:Int)),(152,i6 (j3:Int))]) (λj3=>λoG=>[(900000115,.cells 115 [lf aA qP,i6 qQ]),(30004,.cells 32 [i6 0,.aM]),(30005,.cells 32 [i6 ai.1,.own 703000501]),(703000501,.slice 38 4 (ml ak oG) 0 false)]) ?_ ?_ ?_
   ·exact bt.go [.sw 30636 703000501] [] (by kernel_rfl)
   ·rintro j3 e3 Z3 oG hj3 hx3 hm
    rw[hB3]at hm
    refine qDs [] [] [(153,.bool (decide ((j3:Int)<(l_4.length:Int))))]<|A.seq<|qT (ltT hx3)<|A.skip<|A.seq<|A.block<|qDs [] [153] [(14,i6 (j3:Int))] ?_
    obtain⟨e_2,h14,hm⟩:=af hm
    obtain⟨l_5,h15,hm⟩:=af hm
    exact qG [(3,hix (ix ak h14)),(5,hlo 703000501 0 (ix ak h14)),(10,hto (lnE ak oG)),(13,hix (ix ak h14)),(15,hso 703000501 (st ak (off:=0) (ca:=[i6 (w64 (e_2.Bit+(w64 (ai.1-(oG.length:Int)))))]) h14 h15 rfl) (rJ h14).1.1)] [14] [] [703000501] [(703000501,.slice 38 4 (ml ak l_5) 0 false)]<|qGs [(0,hto (inc hx3 hb3))] [152] [(152,i6 ((j3+1:Nat):Int))]<|qX l_5 hm
   rintro j3 oG hj3 hl3 hm
   rw[hK3]at hm
   exact qDs [] [] [(153,.bool (decide ((j3:Int)<(l_4.length:Int))))]<|A.seq<|qF (ltF hl3)<|A.exit<|qX (qP,qQ,oG) hm
  exact qF c11<|A.skip<|Exists.intro (qP,qQ,l_4) (And.intro hm (bt.go [.sw 30636 703000501] [] (by kernel_rfl)))
 rintro⟨qj,uL,uM⟩ hm
 rw[hJ9]at hm
 refine qD [] [5] [] [30004,30005] [(30004,.cells 32 [i6 ai.1,.own 703000501])]<|A.ret ?_
 obtain rfl:=some_inj hm
 exact A.fin W0 [.fz [703000501]] rfl (by kernel_rfl)
theorem kS{r:Bool}(hm:mW p=some r):RO prog 29 [] [.agg (k2 p)] (.bool r):=by
 refine bf func29 rfl rfl ?_
 unfold mW at hm
 refine qS [(0,.al 29001)] [(1,.ptr 29001 0)] [(29001,.cells 28 (k2 p))]<|A.mid [(2,.bool ((decide ((p.ah.length:Int)≤(30:Int)))&&(decide ((p.Links.length:Int)≤(70:Int)))))] [] (λhk=>?_) ?_
 ·rcases tf (decide ((p.ah.length:Int)≤(30:Int)))with c1|c1
  ·exact qS [(2,hto (lnE aC p.ah)),(4,hto (bE c1)),(7,hto (lnE aS p.Links)),(10,hto (nc (q:=decide ((p.Links.length:Int)≤(70:Int))) c1))] _ _ hk
  exact qS [(2,hto (lnE aC p.ah)),(4,hto (bE c1)),(10,hto (ov (q:=decide ((p.Links.length:Int)≤(70:Int))) c1))] _ _ hk
 cases hm
 exact A.ret qE
end Go.Proofs.YtdjeacigeegklaaGreat
