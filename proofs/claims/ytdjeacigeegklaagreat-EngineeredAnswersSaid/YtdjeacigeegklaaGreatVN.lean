/- The iy of ec of the program. No condition but bU bx stand in each. -/
import Derived.Test.YtdjeacigeegklaaGreatDA
import Derived.Test.YtdjeacigeegklaaGreatVX
import Derived.Test.YtdjeacigeegklaaGreatVW
namespace Go.Proofs.YtdjeacigeegklaaGreat
open Go Go.Proofs.Tryz
set_option maxRecDepth 100000
set_option linter.all false
variable {t:aR}
theorem aac{most:Int}{r:af×aR}(hm:nD t most=some r):dZ prog 10 [(900000115,.cells 115 (k5 t))] [.ptr 900000115 0,i6 most] (λa σ'=>a=.agg (k2 r.1)∧σ'=[(900000115,.cells 115 (k5 r.2))]):=by
 refine bh func10 rfl rfl ?_
 unfold nD at hm
 refine qS [(0,.al 10004)] [(0,.ptr 900000115 0),(1,i6 most),(4,.ptr 10004 0)] [(900000115,.cells 115 (k5 t)),(10004,.cells 28 [.aP,.aP])] ?_
 obtain⟨ai,h1,hm⟩:=aa hm
 refine qD [(2,hdc [] (iB h1) agl)] [1] [(5,i6 ai.1)] [900000115] [(900000115,.cells 115 (k5 ai.2))]<|qD [(0,.al 10006)] [] [(6,.ptr 10006 0)] [] [(10006,.cells 28 [.aP,.aP])]<|qDs [] [] [(7,i6 0)]<|A.seq<|qDs [] [] [(8,i6 0)]<|A.block ?_
 obtain⟨hh1,hm⟩:=dY hm
 obtain⟨B1,K1,hB1,hK1,hm⟩:=o3 hm
 refine A.lpN (hi:=ai.1) (B:=B1) (K:=K1) hm rfl (λj1=>λ(v8,m_1,m_2,m_3)=>[(0,.ptr 900000115 0),(4,.ptr 10004 0),(5,i6 ai.1),(6,.ptr 10006 0),(7,i6 v8),(8,i6 (j1:Int))]) (λj1=>λ(v8,m_1,m_2,m_3)=>[(900000115,.cells 115 [lf aB m_2,i6 m_3]),(10004,.cells 28 [.aP,.aP]),(10006,.cells 28 [.own 701000600,.aP]),(701000600,.slice 42 2 (ml aJ m_1) 0 false)]) ?_ ?_ ?_
 ·exact bA.go [.ac 10006 701000600 42 2 0] [] (by kernel_rfl)
 ·rintro j1 Z1 ⟨v8,m_1,m_2,m_3⟩ hj1 hx1 hm
  rw[hB1]at hm
  refine A.seq<|qDs [] [] [(24,.bool (decide ((j1:Int)<ai.1)))] ?_
  refine A.cT rfl (decide_eq_true hx1)<|A.skip ?_
  show ah _ _ _ _ _
  refine A.seq<|A.block ?_
  obtain⟨aI,h2,hm⟩:=aa hm
  refine qD [(3,hdc [] (dn h2) uZ)] [7,24] [(7,i6 (w64 (v8+aI.1)))] [900000115] [(900000115,.cells 115 (k5 aI.2))] ?_
  obtain⟨l_1,h3,hm⟩:=aa hm
  refine qG [(5,hap 10537 (ap aJ (bytes:=16) (by decide) h3))] [] [] [10006,701000600] [(10006,.cells 28 [.own 10537,.aP]),(10537,.slice 42 2 (ml aJ l_1) 0 false)] ?_
  show ah _ _ _ _ _
  exact qGs [(1,hto (aaI (by omega) hx1 (of_decide_eq_true hh1)))] [8] [(8,i6 (j1+1:Int))]<|Exists.intro (w64 (v8+aI.1),l_1,aI.2.L,aI.2.At) (And.intro hm (bA.go [.sw 10537 701000600] [] (by kernel_rfl)))
 rintro j1 ⟨v8,m_1,m_2,m_3⟩ hj1 hl1 hm
 rw[hK1]at hm
 refine A.seq<|qDs [] [] [(24,.bool (decide ((j1:Int)<ai.1)))] ?_
 refine A.cF rfl (geF hl1)<|A.exit ?_
 show ah _ _ _ _ _
 obtain⟨h4,hm⟩:=dY hm
 refine qD [(1,hmr 10040 ai.1 ahd ahe h4 (by decide))] [7,8,24] [(9,.own 10040)] [] [(10040,.slice 118 1 (List.replicate ai.1.toNat [.aP]) 0 false)]<|A.weak ((bA.auC (d:=10040) (e:=450010040) 4 1 eG.enc (azA h4) rfl rfl rfl rfl rfl))<|A.seq<|qS [(1,hno 4 1 eG.enc (List.replicate ai.1.toNat []:List (List Bool)) vz)] [(0,.ptr 900000115 0),(4,.ptr 10004 0),(5,i6 ai.1),(6,.ptr 10006 0),(9,.own 10040),(42,i6 ((List.replicate ai.1.toNat []:List (List Bool)).length:Int)),(43,i6 0)] [(900000115,.cells 115 [lf aB m_2,i6 m_3]),(10004,.cells 28 [.aP,.aP]),(10006,.cells 28 [.own 701000600,.aP]),(701000600,.slice 42 2 (ml aJ m_1) 0 false),(10040,.cW 118 450010040 ai.1.toNat none),(450010040,.bun (encS 4 1 eG.enc (List.replicate ai.1.toNat []:List (List Bool))))]<|A.block ?_
 obtain⟨hh2,hm⟩:=dY hm
 obtain⟨B2,K2,hB2,hK2,hm⟩:=o3 hm
 refine A.lpN (hi:=((List.replicate ai.1.toNat []:List (List Bool)).length:Int)) (B:=B2) (K:=K2) hm rfl (λj2=>λm_4=>[(0,.ptr 900000115 0),(4,.ptr 10004 0),(5,i6 ai.1),(6,.ptr 10006 0),(9,.own 10040),(42,i6 ((List.replicate ai.1.toNat []:List (List Bool)).length:Int)),(43,i6 (j2:Int))]) (λj2=>λm_4=>[(900000115,.cells 115 [lf aB m_2,i6 m_3]),(10004,.cells 28 [.aP,.aP]),(10006,.cells 28 [.own 701000600,.aP]),(701000600,.slice 42 2 (ml aJ m_1) 0 false),(10040,.cW 118 450010040 ai.1.toNat none),(450010040,.bun (encS 4 1 eG.enc m_4))]) ?_ ?_ ?_
 ·exact qW
 ·rintro j2 Z2 m_4 hj2 hx2 hm
  rw[hB2]at hm
  refine qDs [] [] [(44,.bool (decide ((j2:Int)<((List.replicate ai.1.toNat []:List (List Bool)).length:Int))))]<|A.seq<|A.cT rfl (decide_eq_true hx2)<|A.skip ?_
  show ah _ _ _ _ _
  refine A.seq<|A.block ?_
  refine qDs [] [44] [(10,i6 (j2:Int))] ?_
  obtain⟨h5,hm⟩:=dY hm
  obtain⟨e_1,h6,hm⟩:=aa hm
  refine qG [(3,hms (a:=.bool false) 10049 false eG.enc ai.1 ahf ahg rfl (λI=>by simp[aH]) h5 (by decide)),(4,hio 4 1 eG.enc vz h6),(5,hsS 4 1 530010001 eG.enc (List.replicate (ai.1).toNat false) abz h6)] [10] [] [10040,450010040] [(10040,.cW 118 530010001 ai.1.toNat none),(530010001,.bun (encS 4 1 eG.enc (List.set m_4 (j2:Int).toNat (List.replicate (ai.1).toNat false))))] ?_
  show ah _ _ _ _ _
  exact qGs [(0,hto (aaI (by omega) hx2 (of_decide_eq_true hh2)))] [43] [(43,i6 (j2+1:Int))]<|Exists.intro (List.set m_4 (j2:Int).toNat (List.replicate (ai.1).toNat false)) (And.intro hm (bA.go [.rn 530010001 450010040] [] (by kernel_rfl)))
 rintro j2 m_4 hj2 hl2 hm
 rw[hK2]at hm
 refine qDs [] [] [(44,.bool (decide ((j2:Int)<((List.replicate ai.1.toNat []:List (List Bool)).length:Int))))]<|A.seq<|A.cF rfl (geF hl2)<|A.exit ?_
 show ah _ _ _ _ _
 refine A.seq<|qDs [] [42,43,44] [(11,i6 1)] ?_
 refine A.block ?_
 obtain⟨hh3,hm⟩:=dY hm
 obtain⟨B3,K3,hB3,hK3,hm⟩:=o3 hm
 refine A.lpN (hi:=ai.1) (B:=B3) (K:=K3) hm rfl (λj3=>λ(m_5,m_6,m_7)=>[(0,.ptr 900000115 0),(4,.ptr 10004 0),(5,i6 ai.1),(6,.ptr 10006 0),(9,.own 10040),(11,i6 (j3:Int))]) (λj3=>λ(m_5,m_6,m_7)=>[(900000115,.cells 115 [lf aB m_5,i6 m_6]),(10004,.cells 28 [.aP,.aP]),(10006,.cells 28 [.own 701000600,.aP]),(701000600,.slice 42 2 (ml aJ m_1) 0 false),(10040,.cW 118 450010040 ai.1.toNat none),(450010040,.bun (encS 4 1 eG.enc m_7))]) ?_ ?_ ?_
 ·exact qW
 ·rintro j3 Z3 ⟨m_5,m_6,m_7⟩ hj3 hx3 hm
  rw[hB3]at hm
  refine A.seq<|qDs [] [] [(54,.bool (decide ((j3:Int)<ai.1)))] ?_
  refine A.cT rfl (decide_eq_true hx3)<|A.skip ?_
  show ah _ _ _ _ _
  obtain⟨J1,hJ1,hm⟩:=bQ hm
  refine A.J (J:=J1) (r:=r) (λ(m_8,m_9,ir)=>[(0,.ptr 900000115 0),(4,.ptr 10004 0),(5,i6 ai.1),(6,.ptr 10006 0),(9,.own 10040),(11,i6 (j3:Int))]) (λ(m_8,m_9,ir)=>[(900000115,.cells 115 [lf aB m_9,i6 ir]),(10004,.cells 28 [.aP,.aP]),(10006,.cells 28 [.own 701000600,.aP]),(701000600,.slice 42 2 (ml aJ m_1) 0 false),(10040,.cW 118 450010040 ai.1.toNat none),(450010040,.bun (encS 4 1 eG.enc m_8))]) ?_ ?_
  ·refine A.block ?_
   obtain⟨bn,h7,hm⟩:=aa hm
   refine qD [(1,hdc [] (bz h7) jM)] [54] [(59,.bool (decide (bn.1<11)))] [900000115] [(900000115,.cells 115 (k5 bn.2))] ?_
   rcases aj hm with⟨c1,hm⟩|⟨c1,hm⟩
   ·refine qT c1 ?_
    obtain⟨bf,h8,hm⟩:=aa hm
    obtain⟨e_2,h9,hm⟩:=aa hm
    obtain⟨e_3,h10,hm⟩:=aa hm
    obtain⟨l_2,h11,hm⟩:=aa hm
    refine A.late (A.R W0 [] [(3,hdc [] (bz h8) jM),(4,hio 4 1 eG.enc vz h9),(5,hlS 4 1 530010003 530010002 eG.enc abz h9),(7,hix (ix eG h10)),(8,hso 530010002 (st eG (off:=0) (ca:=[.bool true]) h10 h11 rfl) (qH h10).1.1)] [(0,.ptr 900000115 0),(4,.ptr 10004 0),(5,i6 ai.1),(6,.ptr 10006 0),(9,.own 10040),(11,i6 (j3:Int))] [(900000115,.cells 115 (k5 bf.2)),(10004,.cells 28 [.aP,.aP]),(10006,.cells 28 [.own 701000600,.aP]),(701000600,.slice 42 2 (ml aJ m_1) 0 false),(10040,.cW 118 530010003 ai.1.toNat (some (some bf.1.toNat,530010002))),(530010003,.bun (encS 4 1 eG.enc (List.set m_7 bf.1.toNat []))),(530010002,.slice 4 1 (ml eG l_2) 0 false)] (by kernel_rfl) ?_)
    refine⟨_,_,(bA.agi (d:=10040) (e:=530010003) (e2:=530010004) (t:=530010002) m_7 eG.enc l_2 rfl rfl rfl rfl rfl rfl rfl),?_⟩
    exact Exists.intro ((List.set m_7 bf.1.toNat l_2),bf.2.L,bf.2.At) (And.intro hm (bA.go [.rn 530010004 450010040] [] (by kernel_rfl)))
   exact qF c1<|A.skip<|qX (m_7,bn.2.L,bn.2.At) hm
  rintro⟨m_8,m_9,ir⟩ hm
  rw[hJ1]at hm
  exact qGs [(1,hto (aaI (by omega) hx3 (of_decide_eq_true hh3)))] [11] [(11,i6 (j3+1:Int))]<|qX (m_9,ir,m_8) hm
 rintro j3 ⟨m_5,m_6,m_7⟩ hj3 hl3 hm
 rw[hK3]at hm
 refine A.seq<|qDs [] [] [(54,.bool (decide ((j3:Int)<ai.1)))] ?_
 refine A.cF rfl (geF hl3)<|A.exit ?_
 show ah _ _ _ _ _
 refine A.seq ?_
 obtain⟨bO,h12,hm⟩:=aa hm
 refine qD [(3,hdc [] (bz h12) jM)] [11,54] [(12,i6 bO.1)] [900000115] [(900000115,.cells 115 (k5 bO.2))]<|A.block ?_
 obtain⟨F4,n4,hF4,hm⟩:=gr hm
 refine A.lpW (F:=F4) hm (λ(i_1,gD,jP,eC)=>[(0,.ptr 900000115 0),(4,.ptr 10004 0),(5,i6 ai.1),(6,.ptr 10006 0),(9,.own 10040),(12,i6 i_1)]) (λ(i_1,gD,jP,eC)=>[(900000115,.cells 115 [lf aB gD,i6 jP]),(10004,.cells 28 [.aP,.aP]),(10006,.cells 28 [.own 701000600,.aP]),(701000600,.slice 42 2 (ml aJ m_1) 0 false),(10040,.cW 118 450010040 ai.1.toNat none),(450010040,.bun (encS 4 1 eG.enc eC))]) ?_ ?_
 ·exact qW
 rintro Z4 ⟨i_1,gD,jP,eC⟩ hm
 rw[hF4]at hm
 refine A.seq<|qDs [] [] [(73,.bool (decide (0<i_1)))] ?_
 rcases aj hm with⟨c2,hm⟩|⟨c2,hm⟩
 ·refine qT c2<|A.skip ?_
  show ah _ _ _ _ _
  obtain⟨J2,hJ2,hm⟩:=bQ hm
  refine A.J (J:=J2) (r:=r) (λ(oe,sZ,s4)=>[(0,.ptr 900000115 0),(4,.ptr 10004 0),(5,i6 ai.1),(6,.ptr 10006 0),(9,.own 10040),(12,i6 i_1)]) (λ(oe,sZ,s4)=>[(900000115,.cells 115 [lf aB sZ,i6 s4]),(10004,.cells 28 [.aP,.aP]),(10006,.cells 28 [.own 701000600,.aP]),(701000600,.slice 42 2 (ml aJ m_1) 0 false),(10040,.cW 118 450010040 ai.1.toNat none),(450010040,.bun (encS 4 1 eG.enc oe))]) ?_ ?_
  ·refine A.block ?_
   obtain⟨br,h13,hm⟩:=aa hm
   obtain⟨cv,h14,hm⟩:=aa hm
   refine qD [(2,hdc [] (bz h13) jM),(5,hdc [] (bz h14) jM)] [73] [(13,i6 br.1),(14,i6 cv.1)] [900000115] [(900000115,.cells 115 (k5 cv.2))]<|qDs [] [] [(84,.bool (!decide (br.1=cv.1)))] ?_
   rcases aj hm with⟨c3,hm⟩|⟨c3,hm⟩
   ·refine qT c3 ?_
    obtain⟨e_4,h15,hm⟩:=aa hm
    obtain⟨e_5,h16,hm⟩:=aa hm
    obtain⟨l_3,h17,hm⟩:=aa hm
    refine A.late (A.R W0 [] [(4,hio 4 1 eG.enc vz h15),(5,hlS 4 1 530010006 530010005 eG.enc abz h15),(9,hix (ix eG h16)),(10,hso 530010005 (st eG (off:=0) (ca:=[.bool true]) h16 h17 rfl) (qH h16).1.1)] [(0,.ptr 900000115 0),(4,.ptr 10004 0),(5,i6 ai.1),(6,.ptr 10006 0),(9,.own 10040),(12,i6 i_1)] [(900000115,.cells 115 (k5 cv.2)),(10004,.cells 28 [.aP,.aP]),(10006,.cells 28 [.own 701000600,.aP]),(701000600,.slice 42 2 (ml aJ m_1) 0 false),(10040,.cW 118 530010006 ai.1.toNat (some (some (if cv.1<br.1 then cv.1 else br.1).toNat,530010005))),(530010006,.bun (encS 4 1 eG.enc (List.set eC (if cv.1<br.1 then cv.1 else br.1).toNat []))),(530010005,.slice 4 1 (ml eG l_3) 0 false)] (by kernel_rfl) ?_)
    refine⟨_,_,(bA.agi (d:=10040) (e:=530010006) (e2:=530010007) (t:=530010005) eC eG.enc l_3 rfl rfl rfl rfl rfl rfl rfl),?_⟩
    exact Exists.intro ((List.set eC (if cv.1<br.1 then cv.1 else br.1).toNat l_3),cv.2.L,cv.2.At) (And.intro hm (bA.go [.rn 530010007 450010040] [] (by kernel_rfl)))
   exact qF c3<|A.skip<|qX (eC,cv.2.L,cv.2.At) hm
  rintro⟨oe,sZ,s4⟩ hm
  rw[hJ2]at hm
  exact qGs [] [12] [(12,i6 (w64 (i_1-1)))]<|qX (w64 (i_1-1),sZ,s4,oe) hm
 refine qF c2<|A.exit ?_
 show ah _ _ _ _ _
 obtain⟨dA,h18,hm⟩:=aa hm
 refine qD [(1,hdc [] (bz h18) jM)] [5,12,73] [(15,.bool (decide (dA.1=0)))] [900000115] [(900000115,.cells 115 (k5 dA.2))]<|A.seq<|qDs [(1,hno 4 1 eG.enc eC vz)] [] [(99,i6 (eC.length:Int)),(100,i6 0)]<|A.block ?_
 obtain⟨hh5,hm⟩:=dY hm
 obtain⟨B5,K5,hB5,hK5,hm⟩:=o3 hm
 refine A.lpN (hi:=(eC.length:Int)) (B:=B5) (K:=K5) hm rfl (λj5=>λ(qL,nE,nF)=>[(0,.ptr 900000115 0),(4,.ptr 10004 0),(6,.ptr 10006 0),(9,.own 10040),(15,.bool (decide (dA.1=0))),(99,i6 (eC.length:Int)),(100,i6 (j5:Int))]) (λj5=>λ(qL,nE,nF)=>[(900000115,.cells 115 [lf aB nE,i6 nF]),(10004,.cells 28 [.aP,.aP]),(10006,.cells 28 [.own 701000600,.own 701000601]),(701000600,.slice 42 2 (ml aJ m_1) 0 false),(10040,.cW 118 450010040 ai.1.toNat none),(450010040,.bun (encS 4 1 eG.enc eC)),(701000601,.slice 89 5 (ml bJ qL) 0 false)]) ?_ ?_ ?_
 ·exact bA.go [.ac 10006 701000601 89 5 1] [] (by kernel_rfl)
 ·rintro j5 Z5 ⟨qL,nE,nF⟩ hj5 hx5 hm
  rw[hB5]at hm
  refine qDs [] [] [(101,.bool (decide ((j5:Int)<(eC.length:Int))))]<|A.seq<|A.cT rfl (decide_eq_true hx5)<|A.skip ?_
  show ah _ _ _ _ _
  refine A.seq<|A.block ?_
  refine qDs [] [101] [(16,i6 (j5:Int))]<|qDs [(1,hno 4 1 eG.enc eC vz)] [] [(104,i6 (eC.length:Int)),(105,i6 0)]<|A.block ?_
  obtain⟨hh6,hm⟩:=dY hm
  obtain⟨B6,K6,hB6,hK6,hm⟩:=o3 hm
  refine A.lpN (hi:=(eC.length:Int)) (B:=B6) (K:=K6) hm rfl (λj6=>λ(me,nG,o9)=>[(0,.ptr 900000115 0),(4,.ptr 10004 0),(6,.ptr 10006 0),(9,.own 10040),(15,.bool (decide (dA.1=0))),(16,i6 (j5:Int)),(99,i6 (eC.length:Int)),(100,i6 (j5:Int)),(104,i6 (eC.length:Int)),(105,i6 (j6:Int))]) (λj6=>λ(me,nG,o9)=>[(900000115,.cells 115 [lf aB nG,i6 o9]),(10004,.cells 28 [.aP,.aP]),(10006,.cells 28 [.own 701000600,.own 701000601]),(701000600,.slice 42 2 (ml aJ m_1) 0 false),(10040,.cW 118 450010040 ai.1.toNat none),(450010040,.bun (encS 4 1 eG.enc eC)),(701000601,.slice 89 5 (ml bJ me) 0 false)]) ?_ ?_ ?_
  ·exact qW
  ·rintro j6 Z6 ⟨me,nG,o9⟩ hj6 hx6 hm
   rw[hB6]at hm
   refine qDs [] [] [(106,.bool (decide ((j6:Int)<(eC.length:Int))))]<|A.seq<|A.cT rfl (decide_eq_true hx6)<|A.skip ?_
   show ah _ _ _ _ _
   obtain⟨J3,hJ3,hm⟩:=bQ hm
   refine A.J (J:=J3) (r:=r) (λ(tL,tM,pZ)=>[(0,.ptr 900000115 0),(4,.ptr 10004 0),(6,.ptr 10006 0),(9,.own 10040),(15,.bool (decide (dA.1=0))),(16,i6 (j5:Int)),(99,i6 (eC.length:Int)),(100,i6 (j5:Int)),(104,i6 (eC.length:Int)),(105,i6 (j6:Int))]) (λ(tL,tM,pZ)=>[(900000115,.cells 115 [lf aB tL,i6 tM]),(10004,.cells 28 [.aP,.aP]),(10006,.cells 28 [.own 701000600,.own 701000601]),(701000600,.slice 42 2 (ml aJ m_1) 0 false),(10040,.cW 118 450010040 ai.1.toNat none),(450010040,.bun (encS 4 1 eG.enc eC)),(701000601,.slice 89 5 (ml bJ pZ) 0 false)]) ?_ ?_
   ·refine A.block<|qDs [] [106] [(17,i6 (j6:Int))] ?_
    refine A.seq ?_
    obtain⟨e_6,h19,hm⟩:=aa hm
    obtain⟨e_7,h20,hm⟩:=aa hm
    refine qD [(2,hio 4 1 eG.enc vz h19),(3,hlS 4 1 530010009 530010008 eG.enc abz h19),(5,hix (ix eG h20)),(6,hlo 530010008 0 (ix eG h20))] [] [(115,.bool (!e_7))] [10040,450010040] [(10040,.cW 118 530010009 ai.1.toNat (some (some (j5:Int).toNat,530010008))),(530010009,.bun (encS 4 1 eG.enc (List.set eC (j5:Int).toNat []))),(530010008,.slice 4 1 (ml eG e_6) 0 false)]<|A.weak ((bA.auD (d:=10040) (e:=530010009) (e2:=530010010) (t:=530010008) eC eG.enc h19 rfl rfl rfl rfl rfl rfl rfl)) ?_
    rcases aj hm with⟨c4,hm⟩|⟨c4,hm⟩
    ·exact qT c4<|A.exit<|Exists.intro (nG,o9,me) (And.intro hm (bA.go [.rn 530010010 450010040] [] (by kernel_rfl)))
    refine qF c4<|A.skip ?_
    show ah _ _ _ _ _
    obtain⟨e_8,h21,hm⟩:=aa hm
    obtain⟨e_9,h22,hm⟩:=aa hm
    obtain⟨kK,h23,hm⟩:=aa hm
    refine qS [(3,hix (ix aJ h21)),(5,hlo 701000600 0 (ix aJ h21)),(9,hix (ix aJ h22)),(11,hlo 701000600 0 (ix aJ h22)),(14,hdc [] (dn h23) uZ),(16,.al 10018)] [(0,.ptr 900000115 0),(4,.ptr 10004 0),(6,.ptr 10006 0),(9,.own 10040),(15,.bool (decide (dA.1=0))),(16,i6 (j5:Int)),(99,i6 (eC.length:Int)),(100,i6 (j5:Int)),(104,i6 (eC.length:Int)),(105,i6 (j6:Int)),(18,.ptr 10018 0)] [(900000115,.cells 115 (k5 kK.2)),(10004,.cells 28 [.aP,.aP]),(10006,.cells 28 [.own 701000600,.own 701000601]),(701000600,.slice 42 2 (ml aJ m_1) 0 false),(10040,.cW 118 530010010 ai.1.toNat none),(530010010,.bun (encS 4 1 eG.enc eC)),(701000601,.slice 89 5 (ml bJ me) 0 false),(10018,.cells 89 [i6 e_8.ID,i6 e_9.ID,i6 1,i6 1,i6 kK.1])] ?_
    obtain⟨J4,hJ4,hm⟩:=bQ hm
    refine A.J (J:=J4) (r:=r) (λ(p8,nH,aed,aee)=>[(0,.ptr 900000115 0),(4,.ptr 10004 0),(6,.ptr 10006 0),(9,.own 10040),(15,.bool (decide (dA.1=0))),(16,i6 (j5:Int)),(18,.ptr 10018 0),(99,i6 (eC.length:Int)),(100,i6 (j5:Int)),(104,i6 (eC.length:Int)),(105,i6 (j6:Int))]) (λ(p8,nH,aed,aee)=>[(900000115,.cells 115 [lf aB p8,i6 nH]),(10004,.cells 28 [.aP,.aP]),(10006,.cells 28 [.own 701000600,.own 701000601]),(701000600,.slice 42 2 (ml aJ m_1) 0 false),(10040,.cW 118 530010010 ai.1.toNat none),(530010010,.bun (encS 4 1 eG.enc eC)),(701000601,.slice 89 5 (ml bJ me) 0 false),(10018,.cells 89 [i6 e_8.ID,i6 e_9.ID,i6 aed,i6 aee,i6 kK.1])]) ?_ ?_
    ·refine qDs [] [] [(133,.bool (!(decide (dA.1=0))))] ?_
     rcases aj hm with⟨c5,hm⟩|⟨c5,hm⟩
     ·refine qT c5 ?_
      obtain⟨gz,h24,hm⟩:=aa hm
      obtain⟨og,h25,hm⟩:=aa hm
      refine qD [(2,hdc [] (iB h24) agl),(4,hdc [] (dn h25) uZ)] [133] [] [900000115,10018] [(900000115,.cells 115 (k5 og.2)),(10018,.cells 89 [i6 e_8.ID,i6 e_9.ID,i6 og.1,i6 1,i6 kK.1])] ?_
      obtain⟨ug,h26,hm⟩:=aa hm
      obtain⟨oO,h27,hm⟩:=aa hm
      exact qG [(6,hdc [] (iB h26) agl),(8,hdc [] (dn h27) uZ)] [] [] [900000115,10018] [(900000115,.cells 115 (k5 oO.2)),(10018,.cells 89 [i6 e_8.ID,i6 e_9.ID,i6 og.1,i6 oO.1,i6 kK.1])]<|qX (oO.2.L,oO.2.At,og.1,oO.1) hm
     exact qF c5<|A.skip<|qX (kK.2.L,kK.2.At,(1:Int),(1:Int)) hm
    rintro⟨p8,nH,aed,aee⟩ hm
    rw[hJ4]at hm
    obtain⟨l_4,h28,hm⟩:=aa hm
    exact qG [(4,hap 10654 (ap bJ (bytes:=40) (by decide) h28))] [18] [] [10006,701000601,10018] [(10006,.cells 28 [.own 701000600,.own 10654]),(10654,.slice 89 5 (ml bJ l_4) 0 false)]<|Exists.intro (p8,nH,l_4) (And.intro hm (bA.go [.sw 10654 701000601,.rn 530010010 450010040] [] (by kernel_rfl)))
   rintro⟨tL,tM,pZ⟩ hm
   rw[hJ3]at hm
   exact qGs [(0,hto (aaI (by omega) hx6 (of_decide_eq_true hh6)))] [105] [(105,i6 (j6+1:Int))]<|qX (pZ,tL,tM) hm
  rintro j6 ⟨me,nG,o9⟩ hj6 hl6 hm
  rw[hK6]at hm
  refine qDs [] [] [(106,.bool (decide ((j6:Int)<(eC.length:Int))))]<|A.seq<|A.cF rfl (geF hl6)<|A.exit ?_
  show ah _ _ _ _ _
  exact qGs [(0,hto (aaI (by omega) hx5 (of_decide_eq_true hh5)))] [16,100,104,105,106] [(100,i6 (j5+1:Int))]<|qX (me,nG,o9) hm
 rintro j5 ⟨qL,nE,nF⟩ hj5 hl5 hm
 rw[hK5]at hm
 refine qDs [] [] [(101,.bool (decide ((j5:Int)<(eC.length:Int))))]<|A.seq<|A.cF rfl (geF hl5)<|A.exit ?_
 show ah _ _ _ _ _
 refine qD [] [0,6,9,15,99,100,101] [] [10004,10006,10040,450010040] [(10004,.cells 28 [.own 701000600,.own 701000601])]<|A.ret ?_
 obtain rfl:=some_inj hm
 exact A.fin W0 [.fz [701000600,701000601]] rfl (by kernel_rfl)
variable {p:af}
theorem abO{r:Int×aR}(hm:pe t p=some r):dZ prog 32 [(900000115,.cells 115 (k5 t))] [.ptr 900000115 0,.agg (k2 p)] (λa σ'=>a=i6 r.1∧σ'=[(900000115,.cells 115 (k5 r.2))]):=by
 refine bh func32 rfl rfl ?_
 unfold pe at hm
 refine qS [(0,.al 32003)] [(0,.ptr 900000115 0),(3,.ptr 32003 0)] [(900000115,.cells 115 (k5 t)),(32003,.cells 28 (k2 p))]<|A.seq ?_
 obtain⟨J1,hJ1,hm⟩:=bQ hm
 refine A.J (J:=J1) (r:=r) (λ(v_1,m_1,m_2)=>[(0,.ptr 900000115 0),(3,.ptr 32003 0),(13,.bool v_1)]) (λ(v_1,m_1,m_2)=>[(900000115,.cells 115 [lf aB m_1,i6 m_2]),(32003,.cells 28 (k2 p))]) ?_ ?_
 ·rcases aj hm with⟨c1,hm⟩|⟨c1,hm⟩
  ·exact qGs [(2,hto (lnE aJ p.aq)),(4,hto (bE c1))] [] [(13,.bool true)]<|qX (true,t.L,t.At) hm
  obtain⟨ai,h1,hm⟩:=aa hm
  exact qG [(2,hto (lnE aJ p.aq)),(4,hto (bE c1)),(6,hdc [] (bz h1) jM)] [] [(13,.bool (decide (ai.1=39)))] [900000115] [(900000115,.cells 115 (k5 ai.2))]<|qX (decide (ai.1=39),ai.2.L,ai.2.At) hm
 rintro⟨v_1,m_1,m_2⟩ hm
 rw[hJ1]at hm
 rcases aj hm with⟨c2,hm⟩|⟨c2,hm⟩
 ·refine qT c2 ?_
  obtain⟨aI,h2,hm⟩:=aa hm
  refine qS [(2,hdc [] (dn h2) uZ)] [(4,i6 aI.1)] [(900000115,.cells 115 (k5 aI.2))] ?_
  cases hm
  exact A.ret qE
 refine qF c2<|A.skip ?_
 show ah _ _ _ _ _
 obtain⟨bn,h3,hm⟩:=aa hm
 obtain⟨e_1,h4,hm⟩:=aa hm
 refine qS [(5,hto (lnE aJ p.aq)),(6,hdc [] (bz h3) jM),(7,hix (ix aJ h4))] [(4,i6 e_1.ID)] [(900000115,.cells 115 (k5 bn.2))] ?_
 cases hm
 exact A.ret qE
theorem ads{n:Int}{r:(List Int)×aR}(hm:sC t p n=some r):dZ prog 13 [(900000115,.cells 115 (k5 t))] [.ptr 900000115 0,.agg (k2 p),i6 n] (λa σ'=>a=lf aB r.1∧σ'=[(900000115,.cells 115 (k5 r.2))]):=by
 refine bh func13 rfl rfl ?_
 unfold sC at hm
 refine qS [(0,.al 13004)] [(0,.ptr 900000115 0),(2,i6 n),(4,.ptr 13004 0)] [(900000115,.cells 115 (k5 t)),(13004,.cells 28 (k2 p))]<|qDs [] [] [(7,.aP)]<|A.seq ?_
 obtain⟨ai,h1,hm⟩:=aa hm
 refine qD [(3,hdc [] (bz h1) jM)] [2] [(8,i6 ai.1)] [900000115] [(900000115,.cells 115 (k5 ai.2))]<|A.block ?_
 obtain⟨F1,n1,hF1,hm⟩:=gr hm
 refine A.lpW (F:=F1) hm (λ(bN,i_1,m_1,m_2)=>[(0,.ptr 900000115 0),(4,.ptr 13004 0),(7,lf aB bN),(8,i6 i_1)]) (λ(bN,i_1,m_1,m_2)=>[(900000115,.cells 115 [lf aB m_1,i6 m_2]),(13004,.cells 28 (k2 p))]) ?_ ?_
 ·exact bA.go [] [7] (by kernel_rfl)
 rintro Z1 ⟨bN,i_1,m_1,m_2⟩ hm
 rw[hF1]at hm
 refine A.seq<|A.mid [(0,.ptr 900000115 0),(4,.ptr 13004 0),(7,lf aB bN),(8,i6 i_1),(20,.bool ((decide (0<i_1))&&(decide (0<(p.aq.length:Int)))))] [(900000115,.cells 115 [lf aB m_1,i6 m_2]),(13004,.cells 28 (k2 p))] (λhk=>?_) ?_
 ·rcases tf (decide (0<i_1))with c1|c1
  ·exact qS [(2,hto (bE c1)),(5,hto (lnE aJ p.aq)),(7,hto (gR (q:=decide (0<(p.aq.length:Int))) c1))] _ _ hk
  exact qS [(2,hto (bE c1)),(7,hto (mc (q:=decide (0<(p.aq.length:Int))) c1))] _ _ hk
 rcases aj hm with⟨c2,hm⟩|⟨c2,hm⟩
 ·refine qT c2<|A.skip ?_
  show ah _ _ _ _ _
  refine A.seq<|A.block ?_
  obtain⟨aI,h2,hm⟩:=aa hm
  obtain⟨e_1,h3,hm⟩:=aa hm
  obtain⟨bn,h4,hm⟩:=aa hm
  refine qG [(6,hto (lnE aJ p.aq)),(7,hdc [] (bz h2) jM),(8,hix (ix aJ h3)),(11,hro (sy h4) avV)] [7,20] [(7,lf aB bn)] [900000115] [(900000115,.cells 115 (k5 aI.2))] ?_
  show ah _ _ _ _ _
  exact qGs [] [8] [(8,i6 (w64 (i_1-1)))]<|Exists.intro (bn,w64 (i_1-1),aI.2.L,aI.2.At) (And.intro hm (bA.go [] [7] (by kernel_rfl)))
 refine qF c2<|A.exit ?_
 show ah _ _ _ _ _
 refine qD [] [0,4,7,8,20] [(6,lf aB bN)] [13004] [] ?_
 cases hm
 exact A.ret qE
theorem aef{l:List cB}{ha1:cB}{r:(List cB)}(hm:tD l ha1=some r):RO prog 26 [] [lf bR l,.agg (k3 ha1)] (lf bR r):=by
 refine bh func26 rfl rfl ?_
 unfold tD at hm
 refine qS [(0,.al 26003)] [(0,lf bR l),(3,.ptr 26003 0)] [(26003,.cells 67 (k3 ha1))]<|qDs [] [] [(5,i6 0)]<|A.seq<|A.block ?_
 obtain⟨F1,n1,hF1,hm⟩:=gr hm
 refine A.lpW (F:=F1) hm (λk_1=>[(0,lf bR l),(3,.ptr 26003 0),(5,i6 k_1)]) (λk_1=>[(26003,.cells 67 (k3 ha1))]) ?_ ?_
 ·exact qW
 rintro Z1 k_1 hm
 rw[hF1]at hm
 refine A.seq ?_
 obtain⟨J1,hJ1,hm⟩:=bQ hm
 refine A.J (J:=J1) (r:=r) (λv_1=>[(0,lf bR l),(3,.ptr 26003 0),(5,i6 k_1),(40,.bool v_1)]) (λv_1=>[(26003,.cells 67 (k3 ha1))]) ?_ ?_
 ·rcases aj hm with⟨c1,hm⟩|⟨c1,hm⟩
  ·obtain⟨e_1,h1,hm⟩:=aa hm
   rcases aj hm with⟨c2,hm⟩|⟨c2,hm⟩
   ·exact qGs [(2,hto (lnE bR l)),(4,hto (bE c1)),(7,hix (ix bR h1)),(13,hto (bE c2))] [] [(40,.bool true)]<|qX true hm
   rcases aj hm with⟨c3,hm⟩|⟨c3,hm⟩
   ·exact qGs [(2,hto (lnE bR l)),(4,hto (bE c1)),(7,hix (ix bR h1)),(13,hto (bE c2)),(16,hix (ix bR h1)),(22,hto (bE c3)),(25,hix (ix bR h1))] [] [(40,.bool (decide (e_1.To<ha1.To)))]<|qX (decide (e_1.To<ha1.To)) hm
   exact qGs [(2,hto (lnE bR l)),(4,hto (bE c1)),(7,hix (ix bR h1)),(13,hto (bE c2)),(16,hix (ix bR h1)),(22,hto (bE c3))] [] [(40,.bool false)]<|qX false hm
  exact qGs [(2,hto (lnE bR l)),(4,hto (bE c1))] [] [(40,.bool false)]<|qX false hm
 rintro v_1 hm
 rw[hJ1]at hm
 rcases aj hm with⟨c4,hm⟩|⟨c4,hm⟩
 ·refine qT c4<|A.skip ?_
  show ah _ _ _ _ _
  refine A.block<|qGs [] [5,40] [(5,i6 (w64 (k_1+1)))] ?_
  exact qX (w64 (k_1+1)) hm
 refine qF c4<|A.exit ?_
 show ah _ _ _ _ _
 obtain⟨l_1,h2,hm⟩:=aa hm
 obtain⟨l_2,h3,hm⟩:=aa hm
 refine qD [(1,.al 26044),(4,hsl (alq bR h2)),(5,hap 26548 (ap bR (bytes:=16) (by decide) h3))] [3,40] [(6,.own 26548)] [26003] [(26548,.slice 67 2 (ml bR l_2) 0 false)] ?_
 obtain⟨l_3,h4,hm⟩:=aa hm
 obtain⟨l_4,h5,hm⟩:=aa hm
 refine A.RS W0 [.fz [26548]] [(3,hs3 (sl bR h4)),(5,auQ 26554 amF (ap bR (bytes:=16) (by decide) h5) (auO bR h3 (Nat.succ_pos _)))] [(4,.own 26554)] [(26554,.slice 67 2 (ml bR l_4) 0 false)] (by kernel_rfl)<|A.ret ?_
 obtain rfl:=some_inj hm
 exact A.fin W0 [.fz [26554]] rfl (by kernel_rfl)
theorem adt{root:Int}{r:cM×aR}(hm:sD t p root=some r):dZ prog 21 [(900000115,.cells 115 (k5 t))] [.ptr 900000115 0,.agg (k2 p),i6 root] (λa σ'=>a=.agg (k7 r.1)∧σ'=[(900000115,.cells 115 (k5 r.2))]):=by
 refine bh func21 rfl rfl ?_
 unfold sD at hm
 refine qS [(0,.al 21004),(1,.al 21006)] [(0,.ptr 900000115 0),(2,i6 root),(4,.ptr 21004 0),(6,.ptr 21006 0)] [(900000115,.cells 115 (k5 t)),(21004,.cells 28 (k2 p)),(21006,.cells 63 [i6 0,.aP])]<|qD [(2,.al 21007)] [] [(7,.ptr 21007 0)] [] [(21007,.cells 63 [i6 root,.aP])]<|qD [(1,.al 21015)] [2] [(8,.own 21015)] [] [(21015,.slice 3 1 (ml aB ([root]:List Int)) 0 false)]<|A.seq ?_
 obtain⟨ai,h1,hm⟩:=aa hm
 refine qD [(3,hto (lnE bJ p.Links)),(6,hdc [] (bz h1) jM)] [] [(9,i6 ai.1)] [900000115] [(900000115,.cells 115 (k5 ai.2))]<|A.block ?_
 obtain⟨F1,n1,hF1,hm⟩:=gr hm
 refine A.lpW (F:=F1) hm (λ(qu,i_1,m_1,m_2,m_3)=>[(0,.ptr 900000115 0),(4,.ptr 21004 0),(6,.ptr 21006 0),(7,.ptr 21007 0),(8,.own 600021008),(9,i6 i_1)]) (λ(qu,i_1,m_1,m_2,m_3)=>[(900000115,.cells 115 [lf aB m_2,i6 m_3]),(21004,.cells 28 (k2 p)),(21006,.cells 63 [i6 0,.aP]),(21007,.cells 63 [i6 root,lf bR m_1]),(600021008,.slice 3 1 (ml aB qu) 0 false)]) ?_ ?_
 ·exact bA.go [.sw 21015 600021008,.sc 21007 [900000115,21004,21006,21007,600021008]] [] (by kernel_rfl)
 rintro Z1 ⟨qu,i_1,m_1,m_2,m_3⟩ hm
 rw[hF1]at hm
 refine A.seq<|qDs [] [] [(24,.bool (decide (0<i_1)))] ?_
 rcases aj hm with⟨c1,hm⟩|⟨c1,hm⟩
 ·refine qT c1<|A.skip ?_
  show ah _ _ _ _ _
  obtain⟨J1,hJ1,hm⟩:=bQ hm
  refine A.J (J:=J1) (r:=r) (λ(zS,m_4,m_5,m_6)=>[(0,.ptr 900000115 0),(4,.ptr 21004 0),(6,.ptr 21006 0),(7,.ptr 21007 0),(8,.own 600021008),(9,i6 i_1)]) (λ(zS,m_4,m_5,m_6)=>[(900000115,.cells 115 [lf aB m_4,i6 m_5]),(21004,.cells 28 (k2 p)),(21006,.cells 63 [i6 0,.aP]),(21007,.cells 63 [i6 root,lf bR m_6]),(600021008,.slice 3 1 (ml aB zS) 0 false)]) ?_ ?_
  ·refine A.block ?_
   obtain⟨aI,h2,hm⟩:=aa hm
   obtain⟨e_1,h3,hm⟩:=aa hm
   refine qD [(5,hto (lnE bJ p.Links)),(6,hdc [] (bz h2) jM),(7,hix (ix bJ h3)),(9,.al 21010)] [24] [(10,.ptr 21010 0)] [900000115] [(900000115,.cells 115 (k5 aI.2)),(21010,.cells 89 (k1 e_1))]<|qD [(5,.al 21011)] [] [(11,.ptr 21011 0)] [] [(21011,.cells 67 [i6 e_1.A,i6 e_1.B])] ?_
   obtain⟨J2,hJ2,hm⟩:=bQ hm
   refine A.J (J:=J2) (r:=r) (λ(m_7,m_8)=>[(0,.ptr 900000115 0),(4,.ptr 21004 0),(6,.ptr 21006 0),(7,.ptr 21007 0),(8,.own 600021008),(9,i6 i_1),(11,.ptr 21011 0)]) (λ(m_7,m_8)=>[(900000115,.cells 115 (k5 aI.2)),(21004,.cells 28 (k2 p)),(21006,.cells 63 [i6 0,.aP]),(21007,.cells 63 [i6 root,lf bR m_1]),(600021008,.slice 3 1 (ml aB qu) 0 false),(21011,.cells 67 [i6 m_7,i6 m_8])]) ?_ ?_
   ·obtain⟨bn,h4,hm⟩:=aa hm
    refine qDs [(3,hle [600021008] (fB h4) xz)] [] [(44,.bool bn)] ?_
    rcases aj hm with⟨c2,hm⟩|⟨c2,hm⟩
    ·exact qT c2<|qG [] [10,44] [] [21010,21011] [(21011,.cells 67 [i6 e_1.B,i6 e_1.A])]<|qX (e_1.B,e_1.A) hm
    exact qF c2<|A.skip<|qX (e_1.A,e_1.B) hm
   rintro⟨m_7,m_8⟩ hm
   rw[hJ2]at hm
   obtain⟨J3,hJ3,hm⟩:=bQ hm
   refine A.J (J:=J3) (r:=r) (λv_1=>[(0,.ptr 900000115 0),(4,.ptr 21004 0),(6,.ptr 21006 0),(7,.ptr 21007 0),(8,.own 600021008),(9,i6 i_1),(11,.ptr 21011 0),(60,.bool v_1)]) (λv_1=>[(900000115,.cells 115 (k5 aI.2)),(21004,.cells 28 (k2 p)),(21006,.cells 63 [i6 0,.aP]),(21007,.cells 63 [i6 root,lf bR m_1]),(600021008,.slice 3 1 (ml aB qu) 0 false),(21011,.cells 67 [i6 m_7,i6 m_8])]) ?_ ?_
   ·obtain⟨bf,h5,hm⟩:=aa hm
    rcases aj hm with⟨c3,hm⟩|⟨c3,hm⟩
    ·obtain⟨bO,h6,hm⟩:=aa hm
     exact qGs [(3,hle [600021008] (fB h5) xz),(4,hto (bE c3)),(8,hle [600021008] (fB h6) xz)] [] [(60,.bool (!bO))]<|qX (!bO) hm
    exact qGs [(3,hle [600021008] (fB h5) xz),(4,hto (bE c3))] [] [(60,.bool false)]<|qX false hm
   rintro v_1 hm
   rw[hJ3]at hm
   rcases aj hm with⟨c4,hm⟩|⟨c4,hm⟩
   ·refine qT c4 ?_
    obtain⟨l_1,h7,hm⟩:=aa hm
    refine qD [(4,hap 21565 (ap aB (bytes:=8) (by decide) h7))] [8,60] [(8,.own 21565)] [600021008] [(21565,.slice 3 1 (ml aB l_1) 0 false)] ?_
    obtain⟨br,h8,hm⟩:=aa hm
    exact qG [(3,hro (aef h8) ck26)] [11] [] [21007,21011] [(21007,.cells 63 [i6 root,lf bR br])]<|Exists.intro (l_1,aI.2.L,aI.2.At,br) (And.intro hm (bA.go [.sw 21565 600021008] [] (by kernel_rfl)))
   exact qF c4<|A.skip<|qX (qu,aI.2.L,aI.2.At,m_1) hm
  rintro⟨zS,m_4,m_5,m_6⟩ hm
  rw[hJ1]at hm
  exact qGs [] [9] [(9,i6 (w64 (i_1-1)))]<|qX (zS,w64 (i_1-1),m_6,m_4,m_5) hm
 refine qF c1<|A.exit ?_
 show ah _ _ _ _ _
 refine qD [] [0,4,7,8,9,24] [] [21004,21006,21007,600021008] [(21006,.cells 63 [i6 root,lf bR m_1])] ?_
 cases hm
 exact A.ret qE
theorem abP{r:aG×aR}(hm:pg t p=some r):dZ prog 30 [(900000115,.cells 115 (k5 t))] [.ptr 900000115 0,.agg (k2 p)] (λa σ'=>a=.agg (k6 r.1)∧σ'=[(900000115,.cells 115 (k5 r.2))]):=by
 refine bh func30 rfl rfl ?_
 unfold pg at hm
 refine qS [(0,.al 30003),(1,.al 30004)] [(0,.ptr 900000115 0),(3,.ptr 30003 0),(4,.ptr 30004 0)] [(900000115,.cells 115 (k5 t)),(30003,.cells 28 (k2 p)),(30004,.cells 32 [i6 0,.aP])] ?_
 obtain⟨ai,h1,hm⟩:=aa hm
 refine qD [(2,hdc [] (dn h1) uZ),(4,.al 30005)] [] [(5,.ptr 30005 0)] [900000115] [(900000115,.cells 115 (k5 ai.2)),(30005,.cells 32 [i6 ai.1,.aP])]<|A.seq ?_
 obtain⟨aI,h2,hm⟩:=aa hm
 refine qD [(1,hro (vG h2) avR),(5,.al 30006)] [] [(6,.ptr 30006 0),(7,i6 aI.2)] [] [(30006,.cells 32 (k6 aI.1))] ?_
 obtain⟨J1,hJ1,hm⟩:=bQ hm
 refine A.J (J:=J1) (r:=r) (λ(v_1,m_1,m_2)=>[(0,.ptr 900000115 0),(3,.ptr 30003 0),(4,.ptr 30004 0),(5,.ptr 30005 0),(6,.ptr 30006 0),(30,.bool v_1)]) (λ(v_1,m_1,m_2)=>[(900000115,.cells 115 [lf aB m_1,i6 m_2]),(30003,.cells 28 (k2 p)),(30004,.cells 32 [i6 0,.aP]),(30005,.cells 32 [i6 ai.1,.aP]),(30006,.cells 32 (k6 aI.1))]) ?_ ?_
 ·rcases aj hm with⟨c1,hm⟩|⟨c1,hm⟩
  ·obtain⟨bn,h3,hm⟩:=aa hm
   exact qG [(2,hto (bE c1)),(4,hdc [] (bz h3) jM)] [7] [(30,.bool (decide (bn.1=0)))] [900000115] [(900000115,.cells 115 (k5 bn.2))]<|qX (decide (bn.1=0),bn.2.L,bn.2.At) hm
  exact qGs [(2,hto (bE c1))] [7] [(30,.bool false)]<|qX (false,ai.2.L,ai.2.At) hm
 rintro⟨v_1,m_1,m_2⟩ hm
 rw[hJ1]at hm
 rcases aj hm with⟨c2,hm⟩|⟨c2,hm⟩
 ·refine qT c2<|qD [] [0,3,5,6,30] [] [30003,30004,30005,30006] [(30004,.cells 32 (k6 aI.1))] ?_
  cases hm
  exact A.ret qE
 refine qF c2<|A.skip ?_
 show ah _ _ _ _ _
 refine A.seq<|qD [(2,hto (lnE aJ p.aq))] [6,30] [(33,lf aJ p.aq),(34,i6 (p.aq.length:Int)),(35,i6 0)] [30006] [] ?_
 refine A.block<|A.bS 33 rfl λhb1=>?_
 obtain⟨B1,K1,hB1,hK1,hm⟩:=aX hm
 refine A.lpI (l:=p.aq) (j0:=0) (B:=B1) (K:=K1) hm (λj1=>λ(m_3,m_4,m_5)=>[(0,.ptr 900000115 0),(3,.ptr 30003 0),(4,.ptr 30004 0),(5,.ptr 30005 0),(33,lf aJ p.aq),(34,i6 (p.aq.length:Int)),(35,i6 (j1:Int))]) (λj1=>λ(m_3,m_4,m_5)=>[(900000115,.cells 115 [lf aB m_4,i6 m_5]),(30003,.cells 28 (k2 p)),(30004,.cells 32 [i6 0,.aP]),(30005,.cells 32 [i6 ai.1,.own 703000501]),(703000501,.slice 38 4 (ml ay m_3) 0 false)]) ?_ ?_ ?_
 ·exact bA.go [.ac 30005 703000501 38 4 1] [] (by kernel_rfl)
 ·rintro j1 e1 Z1 ⟨m_3,m_4,m_5⟩ hj1 hx1 hm
  rw[hB1]at hm
  refine qDs [] [] [(36,.bool (decide ((j1:Int)<(p.aq.length:Int))))]<|A.seq<|qT (ltT hx1)<|A.skip ?_
  show ah _ _ _ _ _
  obtain⟨J2,hJ2,hm⟩:=bQ hm
  refine A.J (J:=J2) (r:=r) (λ(m_6,m_7,m_8)=>[(0,.ptr 900000115 0),(3,.ptr 30003 0),(4,.ptr 30004 0),(5,.ptr 30005 0),(33,lf aJ p.aq),(34,i6 (p.aq.length:Int)),(35,i6 (j1:Int))]) (λ(m_6,m_7,m_8)=>[(900000115,.cells 115 [lf aB m_6,i6 m_7]),(30003,.cells 28 (k2 p)),(30004,.cells 32 [i6 0,.aP]),(30005,.cells 32 [i6 ai.1,.own 703000501]),(703000501,.slice 38 4 (ml ay m_8) 0 false)]) ?_ ?_
  ·refine A.block<|qD [(0,hix (ix aJ (bq hx1))),(2,.al 30009)] [36] [(9,.ptr 30009 0)] [] [(30009,.cells 42 (k0 e1))] ?_
   obtain⟨J3,hJ3,hm⟩:=bQ hm
   refine A.J (J:=J3) (r:=r) (λ(m_9,ir,gD)=>[(0,.ptr 900000115 0),(3,.ptr 30003 0),(4,.ptr 30004 0),(5,.ptr 30005 0),(9,.ptr 30009 0),(33,lf aJ p.aq),(34,i6 (p.aq.length:Int)),(35,i6 (j1:Int))]) (λ(m_9,ir,gD)=>[(900000115,.cells 115 [lf aB m_9,i6 ir]),(30003,.cells 28 (k2 p)),(30004,.cells 32 [i6 0,.aP]),(30005,.cells 32 [i6 ai.1,.own 703000501]),(703000501,.slice 38 4 (ml ay gD) 0 false),(30009,.cells 42 (k0 e1))]) ?_ ?_
   ·obtain⟨bf,h4,hm⟩:=aa hm
    refine qD [(1,hdc [] (bz h4) jM)] [] [(41,.bool (decide (0<bf.1)))] [900000115] [(900000115,.cells 115 (k5 bf.2))] ?_
    rcases aj hm with⟨c3,hm⟩|⟨c3,hm⟩
    ·refine qT c3 ?_
     obtain⟨l_1,h5,hm⟩:=aa hm
     exact qG [(4,hto (lnE ay m_3)),(11,hap 30553 (ap ay (bytes:=32) (by decide) h5))] [41] [] [30005,703000501] [(30005,.cells 32 [i6 ai.1,.own 30553]),(30553,.slice 38 4 (ml ay l_1) 0 false)]<|Exists.intro (bf.2.L,bf.2.At,l_1) (And.intro hm (bA.go [.sw 30553 703000501] [] (by kernel_rfl)))
    exact qF c3<|A.skip<|qX (bf.2.L,bf.2.At,m_3) hm
   rintro⟨m_9,ir,gD⟩ hm
   rw[hJ3]at hm
   refine A.seq<|qDs [(2,hto (lnE bJ p.Links))] [] [(56,lf bJ p.Links),(57,i6 (p.Links.length:Int)),(58,i6 0)] ?_
   refine A.block<|A.bS 56 rfl λhb2=>?_
   obtain⟨B2,K2,hB2,hK2,hm⟩:=aX hm
   refine A.lpI (l:=p.Links) (j0:=0) (B:=B2) (K:=K2) hm (λj2=>λ(jP,eC,oe)=>[(0,.ptr 900000115 0),(3,.ptr 30003 0),(4,.ptr 30004 0),(5,.ptr 30005 0),(9,.ptr 30009 0),(33,lf aJ p.aq),(34,i6 (p.aq.length:Int)),(35,i6 (j1:Int)),(56,lf bJ p.Links),(57,i6 (p.Links.length:Int)),(58,i6 (j2:Int))]) (λj2=>λ(jP,eC,oe)=>[(900000115,.cells 115 [lf aB eC,i6 oe]),(30003,.cells 28 (k2 p)),(30004,.cells 32 [i6 0,.aP]),(30005,.cells 32 [i6 ai.1,.own 703000501]),(703000501,.slice 38 4 (ml ay jP) 0 false),(30009,.cells 42 (k0 e1))]) ?_ ?_ ?_
   ·exact qW
   ·rintro j2 e2 Z2 ⟨jP,eC,oe⟩ hj2 hx2 hm
    rw[hB2]at hm
    refine qDs [] [] [(59,.bool (decide ((j2:Int)<(p.Links.length:Int))))]<|A.seq<|qT (ltT hx2)<|A.skip ?_
    show ah _ _ _ _ _
    obtain⟨J4,hJ4,hm⟩:=bQ hm
    refine A.J (J:=J4) (r:=r) (λ(sZ,s4,qL)=>[(0,.ptr 900000115 0),(3,.ptr 30003 0),(4,.ptr 30004 0),(5,.ptr 30005 0),(9,.ptr 30009 0),(33,lf aJ p.aq),(34,i6 (p.aq.length:Int)),(35,i6 (j1:Int)),(56,lf bJ p.Links),(57,i6 (p.Links.length:Int)),(58,i6 (j2:Int))]) (λ(sZ,s4,qL)=>[(900000115,.cells 115 [lf aB sZ,i6 s4]),(30003,.cells 28 (k2 p)),(30004,.cells 32 [i6 0,.aP]),(30005,.cells 32 [i6 ai.1,.own 703000501]),(703000501,.slice 38 4 (ml ay qL) 0 false),(30009,.cells 42 (k0 e1))]) ?_ ?_
    ·refine A.block<|qD [(0,hix (ix bJ (bq hx2))),(2,.al 30011)] [59] [(11,.ptr 30011 0)] [] [(30011,.cells 89 (k1 e2))] ?_
     refine qDs [] [] [(12,i6 0)] ?_
     obtain⟨J5,hJ5,hm⟩:=bQ hm
     refine A.J (J:=J5) (r:=r) (λzT=>[(0,.ptr 900000115 0),(3,.ptr 30003 0),(4,.ptr 30004 0),(5,.ptr 30005 0),(9,.ptr 30009 0),(11,.ptr 30011 0),(12,i6 zT),(33,lf aJ p.aq),(34,i6 (p.aq.length:Int)),(35,i6 (j1:Int)),(56,lf bJ p.Links),(57,i6 (p.Links.length:Int)),(58,i6 (j2:Int))]) (λzT=>[(900000115,.cells 115 [lf aB eC,i6 oe]),(30003,.cells 28 (k2 p)),(30004,.cells 32 [i6 0,.aP]),(30005,.cells 32 [i6 ai.1,.own 703000501]),(703000501,.slice 38 4 (ml ay jP) 0 false),(30009,.cells 42 (k0 e1)),(30011,.cells 89 (k1 e2))]) ?_ ?_
     ·refine qDs [] [] [(66,.bool (decide (e2.A=e1.ID)))] ?_
      rcases aj hm with⟨c4,hm⟩|⟨c4,hm⟩
      ·exact qT c4<|qGs [] [12,66] [(12,i6 e2.B)]<|qX e2.B hm
      exact qF c4<|A.skip<|qX (0:Int) hm
     rintro zT hm
     rw[hJ5]at hm
     obtain⟨J6,hJ6,hm⟩:=bQ hm
     refine A.J (J:=J6) (r:=r) (λxI=>[(0,.ptr 900000115 0),(3,.ptr 30003 0),(4,.ptr 30004 0),(5,.ptr 30005 0),(9,.ptr 30009 0),(12,i6 xI),(33,lf aJ p.aq),(34,i6 (p.aq.length:Int)),(35,i6 (j1:Int)),(56,lf bJ p.Links),(57,i6 (p.Links.length:Int)),(58,i6 (j2:Int))]) (λxI=>[(900000115,.cells 115 [lf aB eC,i6 oe]),(30003,.cells 28 (k2 p)),(30004,.cells 32 [i6 0,.aP]),(30005,.cells 32 [i6 ai.1,.own 703000501]),(703000501,.slice 38 4 (ml ay jP) 0 false),(30009,.cells 42 (k0 e1))]) ?_ ?_
     ·refine qDs [] [] [(73,.bool (decide (e2.B=e1.ID)))] ?_
      rcases aj hm with⟨c5,hm⟩|⟨c5,hm⟩
      ·exact qT c5<|qG [] [11,12,73] [(12,i6 e2.A)] [30011] []<|qX e2.A hm
      exact qF c5<|A.skip<|qX zT hm
     rintro xI hm
     rw[hJ6]at hm
     obtain⟨J7,hJ7,hm⟩:=bQ hm
     refine A.J (J:=J7) (r:=r) (λ(v_2,nE,nF)=>[(0,.ptr 900000115 0),(3,.ptr 30003 0),(4,.ptr 30004 0),(5,.ptr 30005 0),(9,.ptr 30009 0),(12,i6 xI),(33,lf aJ p.aq),(34,i6 (p.aq.length:Int)),(35,i6 (j1:Int)),(56,lf bJ p.Links),(57,i6 (p.Links.length:Int)),(58,i6 (j2:Int)),(82,.bool v_2)]) (λ(v_2,nE,nF)=>[(900000115,.cells 115 [lf aB nE,i6 nF]),(30003,.cells 28 (k2 p)),(30004,.cells 32 [i6 0,.aP]),(30005,.cells 32 [i6 ai.1,.own 703000501]),(703000501,.slice 38 4 (ml ay jP) 0 false),(30009,.cells 42 (k0 e1))]) ?_ ?_
     ·rcases aj hm with⟨c6,hm⟩|⟨c6,hm⟩
      ·obtain⟨bO,h6,hm⟩:=aa hm
       exact qG [(2,hto (bE c6)),(4,hdc [] (bz h6) jM)] [] [(82,.bool (decide (0<bO.1)))] [900000115] [(900000115,.cells 115 (k5 bO.2))]<|qX (decide (0<bO.1),bO.2.L,bO.2.At) hm
      exact qGs [(2,hto (bE c6))] [] [(82,.bool false)]<|qX (false,eC,oe) hm
     rintro⟨v_2,nE,nF⟩ hm
     rw[hJ7]at hm
     rcases aj hm with⟨c7,hm⟩|⟨c7,hm⟩
     ·refine qT c7 ?_
      obtain⟨l_2,h7,hm⟩:=aa hm
      exact qG [(4,hto (lnE ay jP)),(10,hap 30593 (ap ay (bytes:=32) (by decide) h7))] [12,82] [] [30005,703000501] [(30005,.cells 32 [i6 ai.1,.own 30593]),(30593,.slice 38 4 (ml ay l_2) 0 false)]<|Exists.intro (nE,nF,l_2) (And.intro hm (bA.go [.sw 30593 703000501] [] (by kernel_rfl)))
     exact qF c7<|A.skip<|qX (nE,nF,jP) hm
    rintro⟨sZ,s4,qL⟩ hm
    rw[hJ4]at hm
    exact qGs [(0,hto (inc hx2 hb2))] [58] [(58,i6 ((j2+1:Nat):Int))]<|qX (qL,sZ,s4) hm
   rintro j2 ⟨jP,eC,oe⟩ hj2 hl2 hm
   rw[hK2]at hm
   refine qDs [] [] [(59,.bool (decide ((j2:Int)<(p.Links.length:Int))))]<|A.seq<|qF (ltF hl2)<|A.exit ?_
   show ah _ _ _ _ _
   obtain⟨br,h8,hm⟩:=aa hm
   obtain⟨e_1,h9,hm⟩:=aa hm
   refine qD [(5,hto (lnE aJ p.aq)),(6,hdc [] (bz h8) jM),(7,hix (ix aJ h9))] [56,57,58,59] [(13,i6 e_1.ID)] [900000115] [(900000115,.cells 115 (k5 br.2))] ?_
   obtain⟨J8,hJ8,hm⟩:=bQ hm
   refine A.J (J:=J8) (r:=r) (λ(v_3,me,nG)=>[(0,.ptr 900000115 0),(3,.ptr 30003 0),(4,.ptr 30004 0),(5,.ptr 30005 0),(9,.ptr 30009 0),(13,i6 e_1.ID),(33,lf aJ p.aq),(34,i6 (p.aq.length:Int)),(35,i6 (j1:Int)),(114,.bool v_3)]) (λ(v_3,me,nG)=>[(900000115,.cells 115 [lf aB me,i6 nG]),(30003,.cells 28 (k2 p)),(30004,.cells 32 [i6 0,.aP]),(30005,.cells 32 [i6 ai.1,.own 703000501]),(703000501,.slice 38 4 (ml ay jP) 0 false),(30009,.cells 42 (k0 e1))]) ?_ ?_
   ·rcases aj hm with⟨c8,hm⟩|⟨c8,hm⟩
    ·obtain⟨cv,h10,hm⟩:=aa hm
     exact qG [(4,hto (bE c8)),(6,hdc [] (bz h10) jM)] [] [(114,.bool (decide (cv.1=0)))] [900000115] [(900000115,.cells 115 (k5 cv.2))]<|qX (decide (cv.1=0),cv.2.L,cv.2.At) hm
    exact qGs [(4,hto (bE c8))] [] [(114,.bool false)]<|qX (false,br.2.L,br.2.At) hm
   rintro⟨v_3,me,nG⟩ hm
   rw[hJ8]at hm
   rcases aj hm with⟨c9,hm⟩|⟨c9,hm⟩
   ·refine qT c9 ?_
    obtain⟨l_3,h11,hm⟩:=aa hm
    exact qG [(4,hto (lnE ay jP)),(10,hap 30625 (ap ay (bytes:=32) (by decide) h11))] [9,13,114] [] [30005,703000501,30009] [(30005,.cells 32 [i6 ai.1,.own 30625]),(30625,.slice 38 4 (ml ay l_3) 0 false)]<|Exists.intro (me,nG,l_3) (And.intro hm (bA.go [.sw 30625 703000501] [] (by kernel_rfl)))
   exact qF c9<|A.skip<|qX (me,nG,jP) hm
  rintro⟨m_6,m_7,m_8⟩ hm
  rw[hJ2]at hm
  exact qGs [(0,hto (inc hx1 hb1))] [35] [(35,i6 ((j1+1:Nat):Int))]<|qX (m_8,m_6,m_7) hm
 rintro j1 ⟨m_3,m_4,m_5⟩ hj1 hl1 hm
 rw[hK1]at hm
 refine qDs [] [] [(36,.bool (decide ((j1:Int)<(p.aq.length:Int))))]<|A.seq<|qF (ltF hl1)<|A.exit ?_
 show ah _ _ _ _ _
 obtain⟨l_4,h12,hm⟩:=aa hm
 refine qD [(4,hto (lnE ay m_3)),(8,hcu 30636 asR (sl ay h12))] [3,33,34,35,36] [] [30003,30005,703000501] [(30005,.cells 32 [i6 ai.1,.own 30636]),(30636,.slice 38 4 (ml ay l_4) 0 false)] ?_
 obtain⟨J9,hJ9,hm⟩:=bQ hm
 refine A.J (J:=J9) (r:=r) (λ(o9,tL,tM)=>[(4,.ptr 30004 0),(5,.ptr 30005 0)]) (λ(o9,tL,tM)=>[(900000115,.cells 115 [lf aB o9,i6 tL]),(30004,.cells 32 [i6 0,.aP]),(30005,.cells 32 [i6 ai.1,.own 703000501]),(703000501,.slice 38 4 (ml ay tM) 0 false)]) ?_ ?_
 ·obtain⟨J10,agu,hm⟩:=bQ hm
  refine A.J (J:=J10) (r:=r) (λ(v_4,pZ,p8)=>[(4,.ptr 30004 0),(5,.ptr 30005 0),(148,.bool v_4)]) (λ(v_4,pZ,p8)=>[(900000115,.cells 115 [lf aB pZ,i6 p8]),(30004,.cells 32 [i6 0,.aP]),(30005,.cells 32 [i6 ai.1,.own 30636]),(30636,.slice 38 4 (ml ay l_4) 0 false)]) ?_ ?_
  ·obtain⟨dA,h13,hm⟩:=aa hm
   rcases aj hm with⟨c10,hm⟩|⟨c10,hm⟩
   ·exact qG [(1,hdc [] (bz h13) jM),(3,hto (bE c10)),(6,hto (lnE ay l_4))] [0] [(148,.bool (decide ((l_4.length:Int)<ai.1)))] [900000115] [(900000115,.cells 115 (k5 dA.2))]<|qX (decide ((l_4.length:Int)<ai.1),dA.2.L,dA.2.At) hm
   exact qG [(1,hdc [] (bz h13) jM),(3,hto (bE c10))] [0] [(148,.bool false)] [900000115] [(900000115,.cells 115 (k5 dA.2))]<|qX (false,dA.2.L,dA.2.At) hm
  rintro⟨v_4,pZ,p8⟩ hm
  rw[agu]at hm
  rcases aj hm with⟨c11,hm⟩|⟨c11,hm⟩
  ·refine qT c11<|qDs [(2,hto (lnE ay l_4))] [148] [(151,i6 (l_4.length:Int)),(152,i6 0)]<|A.block<|A.bD 5 1 rfl rfl rfl rfl λhb3=>?_
   obtain⟨B3,K3,hB3,hK3,hm⟩:=aX hm
   refine A.lpI (l:=l_4) (j0:=0) (B:=B3) (K:=K3) hm (λj3=>λnH=>[(4,.ptr 30004 0),(5,.ptr 30005 0),(151,i6 (l_4.length:Int)),(152,i6 (j3:Int))]) (λj3=>λnH=>[(900000115,.cells 115 [lf aB pZ,i6 p8]),(30004,.cells 32 [i6 0,.aP]),(30005,.cells 32 [i6 ai.1,.own 703000501]),(703000501,.slice 38 4 (ml ay nH) 0 false)]) ?_ ?_ ?_
   ·exact bA.go [.sw 30636 703000501] [] (by kernel_rfl)
   ·rintro j3 e3 Z3 nH hj3 hx3 hm
    rw[hB3]at hm
    refine qDs [] [] [(153,.bool (decide ((j3:Int)<(l_4.length:Int))))]<|A.seq<|qT (ltT hx3)<|A.skip ?_
    show ah _ _ _ _ _
    refine A.seq<|A.block ?_
    refine qDs [] [153] [(14,i6 (j3:Int))] ?_
    obtain⟨e_2,h14,hm⟩:=aa hm
    obtain⟨l_5,h15,hm⟩:=aa hm
    refine qG [(3,hix (ix ay h14)),(5,hlo 703000501 0 (ix ay h14)),(10,hto (lnE ay nH)),(13,hix (ix ay h14)),(15,hso 703000501 (st ay (off:=0) (ca:=[i6 (w64 (e_2.Bit+(w64 (ai.1-(nH.length:Int)))))]) h14 h15 rfl) (qH h14).1.1)] [14] [] [703000501] [(703000501,.slice 38 4 (ml ay l_5) 0 false)] ?_
    show ah _ _ _ _ _
    exact qGs [(0,hto (inc hx3 hb3))] [152] [(152,i6 ((j3+1:Nat):Int))]<|qX l_5 hm
   rintro j3 nH hj3 hl3 hm
   rw[hK3]at hm
   exact qDs [] [] [(153,.bool (decide ((j3:Int)<(l_4.length:Int))))]<|A.seq<|qF (ltF hl3)<|A.exit<|qX (pZ,p8,nH) hm
  exact qF c11<|A.skip<|Exists.intro (pZ,p8,l_4) (And.intro hm (bA.go [.sw 30636 703000501] [] (by kernel_rfl)))
 rintro⟨o9,tL,tM⟩ hm
 rw[hJ9]at hm
 refine qD [] [5] [] [30004,30005] [(30004,.cells 32 [i6 ai.1,.own 703000501])]<|A.ret ?_
 obtain rfl:=some_inj hm
 exact A.fin W0 [.fz [703000501]] rfl (by kernel_rfl)
theorem qk{r:Bool}(hm:l7 p=some r):RO prog 29 [] [.agg (k2 p)] (.bool r):=by
 refine bh func29 rfl rfl ?_
 unfold l7 at hm
 refine qS [(0,.al 29001)] [(1,.ptr 29001 0)] [(29001,.cells 28 (k2 p))]<|A.mid [(2,.bool ((decide ((p.aq.length:Int)≤(30:Int)))&&(decide ((p.Links.length:Int)≤(70:Int)))))] [] (λhk=>?_) ?_
 ·rcases tf (decide ((p.aq.length:Int)≤(30:Int)))with c1|c1
  ·exact qS [(2,hto (lnE aJ p.aq)),(4,hto (bE c1)),(7,hto (lnE bJ p.Links)),(10,hto (gR (q:=decide ((p.Links.length:Int)≤(70:Int))) c1))] _ _ hk
  exact qS [(2,hto (lnE aJ p.aq)),(4,hto (bE c1)),(10,hto (mc (q:=decide ((p.Links.length:Int)≤(70:Int))) c1))] _ _ hk
 cases hm
 exact A.ret qE
end Go.Proofs.YtdjeacigeegklaaGreat
