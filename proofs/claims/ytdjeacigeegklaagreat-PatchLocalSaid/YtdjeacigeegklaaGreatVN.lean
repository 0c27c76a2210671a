/- The gn of dg of the program. No condition but bB aX stand in each. -/
import Derived.Test.YtdjeacigeegklaaGreatDA
import Derived.Test.YtdjeacigeegklaaGreatVX
import Derived.Test.YtdjeacigeegklaaGreatVW
namespace Go.Proofs.YtdjeacigeegklaaGreat
open Go Go.Proofs.Tryz
set_option maxRecDepth 100000
set_option linter.all false
theorem yg{t:aZ}{most:Int}{r:aa×aZ}(hm:lU t most=some r):cQ prog 10 [(900000115,.cells 115 (k6 t))] [.ptr 900000115 0,i6 most] (λa σ'=>a=.agg (k2 r.1)∧σ'=[(900000115,.cells 115 (k6 r.2))]):=by
 refine bf func10 rfl rfl ?_
 unfold lU at hm
 refine qS [(0,.al 10004)] [(0,.ptr 900000115 0),(1,i6 most),(4,.ptr 10004 0)] [(900000115,.cells 115 (k6 t)),(10004,.cells 28 [.aU,.aU])] ?_
 obtain⟨ai,h1,hm⟩:=af hm
 refine qD [(2,hdc [] (jf h1) ajM)] [1] [(5,i6 ai.1)] [900000115] [(900000115,.cells 115 (k6 ai.2))]<|qD [(0,.al 10006)] [] [(6,.ptr 10006 0)] [] [(10006,.cells 28 [.aU,.aU])]<|qDs [] [] [(7,i6 0)]<|A.seq<|qDs [] [] [(8,i6 0)]<|A.block ?_
 obtain⟨hh1,hm⟩:=er hm
 obtain⟨B1,K1,hB1,hK1,hm⟩:=nj hm
 refine A.lpN (hi:=ai.1) (B:=B1) (K:=K1) hm rfl (λj1=>λ(uA,m_1,m_2,m_3)=>[(0,.ptr 900000115 0),(4,.ptr 10004 0),(5,i6 ai.1),(6,.ptr 10006 0),(7,i6 uA),(8,i6 (j1:Int))]) (λj1=>λ(uA,m_1,m_2,m_3)=>[(900000115,.cells 115 [lf aF m_2,i6 m_3]),(10004,.cells 28 [.aU,.aU]),(10006,.cells 28 [.own 701000600,.aU]),(701000600,.slice 42 2 (ml aJ m_1) 0 false)]) ?_ ?_ ?_
 ·exact bq.go [.ac 10006 701000600 42 2 0] [] (by kernel_rfl)
 ·rintro j1 Z1 ⟨uA,m_1,m_2,m_3⟩ hj1 hx1 hm
  rw[hB1]at hm
  refine A.seq<|qDs [] [] [(24,.bool (decide ((j1:Int)<ai.1)))] ?_
  refine A.cT rfl (decide_eq_true hx1)<|A.skip ?_
  show ah _ _ _ _ _
  refine A.seq<|A.block ?_
  obtain⟨aL,h2,hm⟩:=af hm
  refine qD [(3,hdc [] (fI h2) acB)] [7,24] [(7,i6 (w64 (uA+aL.1)))] [900000115] [(900000115,.cells 115 (k6 aL.2))] ?_
  obtain⟨l_1,h3,hm⟩:=af hm
  refine qG [(5,hap 10537 (ap aJ (bytes:=16) (by decide) h3))] [] [] [10006,701000600] [(10006,.cells 28 [.own 10537,.aU]),(10537,.slice 42 2 (ml aJ l_1) 0 false)] ?_
  show ah _ _ _ _ _
  exact qGs [(1,hto (yS (by omega) hx1 (of_decide_eq_true hh1)))] [8] [(8,i6 (j1+1:Int))]<|Exists.intro (w64 (uA+aL.1),l_1,aL.2.L,aL.2.At) (And.intro hm (bq.go [.sw 10537 701000600] [] (by kernel_rfl)))
 rintro j1 ⟨uA,m_1,m_2,m_3⟩ hj1 hl1 hm
 rw[hK1]at hm
 refine A.seq<|qDs [] [] [(24,.bool (decide ((j1:Int)<ai.1)))] ?_
 refine A.cF rfl (geF hl1)<|A.exit ?_
 show ah _ _ _ _ _
 obtain⟨h4,hm⟩:=er hm
 refine qD [(1,hmr 10040 ai.1 aft afu h4 (by decide))] [7,8,24] [(9,.own 10040)] [] [(10040,.slice 118 1 (List.replicate ai.1.toNat [.aU]) 0 false)]<|A.weak ((bq.asJ (d:=10040) (e:=450010040) 4 1 dX.enc (axI h4) rfl rfl rfl rfl rfl))<|A.seq<|qS [(1,hno 4 1 dX.enc (List.replicate ai.1.toNat []:List (List Bool)) tX)] [(0,.ptr 900000115 0),(4,.ptr 10004 0),(5,i6 ai.1),(6,.ptr 10006 0),(9,.own 10040),(42,i6 ((List.replicate ai.1.toNat []:List (List Bool)).length:Int)),(43,i6 0)] [(900000115,.cells 115 [lf aF m_2,i6 m_3]),(10004,.cells 28 [.aU,.aU]),(10006,.cells 28 [.own 701000600,.aU]),(701000600,.slice 42 2 (ml aJ m_1) 0 false),(10040,.cC 118 450010040 ai.1.toNat none),(450010040,.bun (encS 4 1 dX.enc (List.replicate ai.1.toNat []:List (List Bool))))]<|A.block ?_
 obtain⟨hh2,hm⟩:=er hm
 obtain⟨B2,K2,hB2,hK2,hm⟩:=nj hm
 refine A.lpN (hi:=((List.replicate ai.1.toNat []:List (List Bool)).length:Int)) (B:=B2) (K:=K2) hm rfl (λj2=>λm_4=>[(0,.ptr 900000115 0),(4,.ptr 10004 0),(5,i6 ai.1),(6,.ptr 10006 0),(9,.own 10040),(42,i6 ((List.replicate ai.1.toNat []:List (List Bool)).length:Int)),(43,i6 (j2:Int))]) (λj2=>λm_4=>[(900000115,.cells 115 [lf aF m_2,i6 m_3]),(10004,.cells 28 [.aU,.aU]),(10006,.cells 28 [.own 701000600,.aU]),(701000600,.slice 42 2 (ml aJ m_1) 0 false),(10040,.cC 118 450010040 ai.1.toNat none),(450010040,.bun (encS 4 1 dX.enc m_4))]) ?_ ?_ ?_
 ·exact qW
 ·rintro j2 Z2 m_4 hj2 hx2 hm
  rw[hB2]at hm
  refine qDs [] [] [(44,.bool (decide ((j2:Int)<((List.replicate ai.1.toNat []:List (List Bool)).length:Int))))]<|A.seq<|A.cT rfl (decide_eq_true hx2)<|A.skip ?_
  show ah _ _ _ _ _
  refine A.seq<|A.block ?_
  refine qDs [] [44] [(10,i6 (j2:Int))] ?_
  obtain⟨h5,hm⟩:=er hm
  obtain⟨e_1,h6,hm⟩:=af hm
  refine qG [(3,hms (a:=.bool false) 10049 false dX.enc ai.1 afv afw rfl (λI=>by simp[aD]) h5 (by decide)),(4,hio 4 1 dX.enc tX h6),(5,hsS 4 1 530010001 dX.enc (List.replicate (ai.1).toNat false) zM h6)] [10] [] [10040,450010040] [(10040,.cC 118 530010001 ai.1.toNat none),(530010001,.bun (encS 4 1 dX.enc (List.set m_4 (j2:Int).toNat (List.replicate (ai.1).toNat false))))] ?_
  show ah _ _ _ _ _
  exact qGs [(0,hto (yS (by omega) hx2 (of_decide_eq_true hh2)))] [43] [(43,i6 (j2+1:Int))]<|Exists.intro (List.set m_4 (j2:Int).toNat (List.replicate (ai.1).toNat false)) (And.intro hm (bq.go [.rn 530010001 450010040] [] (by kernel_rfl)))
 rintro j2 m_4 hj2 hl2 hm
 rw[hK2]at hm
 refine qDs [] [] [(44,.bool (decide ((j2:Int)<((List.replicate ai.1.toNat []:List (List Bool)).length:Int))))]<|A.seq<|A.cF rfl (geF hl2)<|A.exit ?_
 show ah _ _ _ _ _
 refine A.seq<|qDs [] [42,43,44] [(11,i6 1)] ?_
 refine A.block ?_
 obtain⟨hh3,hm⟩:=er hm
 obtain⟨B3,K3,hB3,hK3,hm⟩:=nj hm
 refine A.lpN (hi:=ai.1) (B:=B3) (K:=K3) hm rfl (λj3=>λ(m_5,m_6,m_7)=>[(0,.ptr 900000115 0),(4,.ptr 10004 0),(5,i6 ai.1),(6,.ptr 10006 0),(9,.own 10040),(11,i6 (j3:Int))]) (λj3=>λ(m_5,m_6,m_7)=>[(900000115,.cells 115 [lf aF m_5,i6 m_6]),(10004,.cells 28 [.aU,.aU]),(10006,.cells 28 [.own 701000600,.aU]),(701000600,.slice 42 2 (ml aJ m_1) 0 false),(10040,.cC 118 450010040 ai.1.toNat none),(450010040,.bun (encS 4 1 dX.enc m_7))]) ?_ ?_ ?_
 ·exact qW
 ·rintro j3 Z3 ⟨m_5,m_6,m_7⟩ hj3 hx3 hm
  rw[hB3]at hm
  refine A.seq<|qDs [] [] [(54,.bool (decide ((j3:Int)<ai.1)))] ?_
  refine A.cT rfl (decide_eq_true hx3)<|A.skip ?_
  show ah _ _ _ _ _
  obtain⟨J1,hJ1,hm⟩:=cg hm
  refine A.J (J:=J1) (r:=r) (λ(m_8,m_9,rF)=>[(0,.ptr 900000115 0),(4,.ptr 10004 0),(5,i6 ai.1),(6,.ptr 10006 0),(9,.own 10040),(11,i6 (j3:Int))]) (λ(m_8,m_9,rF)=>[(900000115,.cells 115 [lf aF m_9,i6 rF]),(10004,.cells 28 [.aU,.aU]),(10006,.cells 28 [.own 701000600,.aU]),(701000600,.slice 42 2 (ml aJ m_1) 0 false),(10040,.cC 118 450010040 ai.1.toNat none),(450010040,.bun (encS 4 1 dX.enc m_8))]) ?_ ?_
  ·refine A.block ?_
   obtain⟨aV,h7,hm⟩:=af hm
   refine qD [(1,hdc [] (bT h7) mo)] [54] [(59,.bool (decide (aV.1<11)))] [900000115] [(900000115,.cells 115 (k6 aV.2))] ?_
   rcases az hm with⟨c1,hm⟩|⟨c1,hm⟩
   ·refine qT c1 ?_
    obtain⟨bz,h8,hm⟩:=af hm
    obtain⟨e_2,h9,hm⟩:=af hm
    obtain⟨e_3,h10,hm⟩:=af hm
    obtain⟨l_2,h11,hm⟩:=af hm
    refine A.late (A.R W0 [] [(3,hdc [] (bT h8) mo),(4,hio 4 1 dX.enc tX h9),(5,hlS 4 1 530010003 530010002 dX.enc zM h9),(7,hix (ix dX h10)),(8,hso 530010002 (st dX (off:=0) (ca:=[.bool true]) h10 h11 rfl) (yR h10).1.1)] [(0,.ptr 900000115 0),(4,.ptr 10004 0),(5,i6 ai.1),(6,.ptr 10006 0),(9,.own 10040),(11,i6 (j3:Int))] [(900000115,.cells 115 (k6 bz.2)),(10004,.cells 28 [.aU,.aU]),(10006,.cells 28 [.own 701000600,.aU]),(701000600,.slice 42 2 (ml aJ m_1) 0 false),(10040,.cC 118 530010003 ai.1.toNat (some (some bz.1.toNat,530010002))),(530010003,.bun (encS 4 1 dX.enc (List.set m_7 bz.1.toNat []))),(530010002,.slice 4 1 (ml dX l_2) 0 false)] (by kernel_rfl) ?_)
    refine⟨_,_,(bq.aeO (d:=10040) (e:=530010003) (e2:=530010004) (t:=530010002) m_7 dX.enc l_2 rfl rfl rfl rfl rfl rfl rfl),?_⟩
    exact Exists.intro ((List.set m_7 bz.1.toNat l_2),bz.2.L,bz.2.At) (And.intro hm (bq.go [.rn 530010004 450010040] [] (by kernel_rfl)))
   exact qF c1<|A.skip<|qX (m_7,aV.2.L,aV.2.At) hm
  rintro⟨m_8,m_9,rF⟩ hm
  rw[hJ1]at hm
  exact qGs [(1,hto (yS (by omega) hx3 (of_decide_eq_true hh3)))] [11] [(11,i6 (j3+1:Int))]<|qX (m_9,rF,m_8) hm
 rintro j3 ⟨m_5,m_6,m_7⟩ hj3 hl3 hm
 rw[hK3]at hm
 refine A.seq<|qDs [] [] [(54,.bool (decide ((j3:Int)<ai.1)))] ?_
 refine A.cF rfl (geF hl3)<|A.exit ?_
 show ah _ _ _ _ _
 refine A.seq ?_
 obtain⟨cq,h12,hm⟩:=af hm
 refine qD [(3,hdc [] (bT h12) mo)] [11,54] [(12,i6 cq.1)] [900000115] [(900000115,.cells 115 (k6 cq.2))]<|A.block ?_
 obtain⟨F4,n4,hF4,hm⟩:=lu hm
 refine A.lpW (F:=F4) hm (λ(i_1,rG,iM,dK)=>[(0,.ptr 900000115 0),(4,.ptr 10004 0),(5,i6 ai.1),(6,.ptr 10006 0),(9,.own 10040),(12,i6 i_1)]) (λ(i_1,rG,iM,dK)=>[(900000115,.cells 115 [lf aF rG,i6 iM]),(10004,.cells 28 [.aU,.aU]),(10006,.cells 28 [.own 701000600,.aU]),(701000600,.slice 42 2 (ml aJ m_1) 0 false),(10040,.cC 118 450010040 ai.1.toNat none),(450010040,.bun (encS 4 1 dX.enc dK))]) ?_ ?_
 ·exact qW
 rintro Z4 ⟨i_1,rG,iM,dK⟩ hm
 rw[hF4]at hm
 refine A.seq<|qDs [] [] [(73,.bool (decide (0<i_1)))] ?_
 rcases az hm with⟨c2,hm⟩|⟨c2,hm⟩
 ·refine qT c2<|A.skip ?_
  show ah _ _ _ _ _
  obtain⟨J2,hJ2,hm⟩:=cg hm
  refine A.J (J:=J2) (r:=r) (λ(mA,qq,qs)=>[(0,.ptr 900000115 0),(4,.ptr 10004 0),(5,i6 ai.1),(6,.ptr 10006 0),(9,.own 10040),(12,i6 i_1)]) (λ(mA,qq,qs)=>[(900000115,.cells 115 [lf aF qq,i6 qs]),(10004,.cells 28 [.aU,.aU]),(10006,.cells 28 [.own 701000600,.aU]),(701000600,.slice 42 2 (ml aJ m_1) 0 false),(10040,.cC 118 450010040 ai.1.toNat none),(450010040,.bun (encS 4 1 dX.enc mA))]) ?_ ?_
  ·refine A.block ?_
   obtain⟨cH,h13,hm⟩:=af hm
   obtain⟨bZ,h14,hm⟩:=af hm
   refine qD [(2,hdc [] (bT h13) mo),(5,hdc [] (bT h14) mo)] [73] [(13,i6 cH.1),(14,i6 bZ.1)] [900000115] [(900000115,.cells 115 (k6 bZ.2))]<|qDs [] [] [(84,.bool (!decide (cH.1=bZ.1)))] ?_
   rcases az hm with⟨c3,hm⟩|⟨c3,hm⟩
   ·refine qT c3 ?_
    obtain⟨e_4,h15,hm⟩:=af hm
    obtain⟨e_5,h16,hm⟩:=af hm
    obtain⟨l_3,h17,hm⟩:=af hm
    refine A.late (A.R W0 [] [(4,hio 4 1 dX.enc tX h15),(5,hlS 4 1 530010006 530010005 dX.enc zM h15),(9,hix (ix dX h16)),(10,hso 530010005 (st dX (off:=0) (ca:=[.bool true]) h16 h17 rfl) (yR h16).1.1)] [(0,.ptr 900000115 0),(4,.ptr 10004 0),(5,i6 ai.1),(6,.ptr 10006 0),(9,.own 10040),(12,i6 i_1)] [(900000115,.cells 115 (k6 bZ.2)),(10004,.cells 28 [.aU,.aU]),(10006,.cells 28 [.own 701000600,.aU]),(701000600,.slice 42 2 (ml aJ m_1) 0 false),(10040,.cC 118 530010006 ai.1.toNat (some (some (if bZ.1<cH.1 then bZ.1 else cH.1).toNat,530010005))),(530010006,.bun (encS 4 1 dX.enc (List.set dK (if bZ.1<cH.1 then bZ.1 else cH.1).toNat []))),(530010005,.slice 4 1 (ml dX l_3) 0 false)] (by kernel_rfl) ?_)
    refine⟨_,_,(bq.aeO (d:=10040) (e:=530010006) (e2:=530010007) (t:=530010005) dK dX.enc l_3 rfl rfl rfl rfl rfl rfl rfl),?_⟩
    exact Exists.intro ((List.set dK (if bZ.1<cH.1 then bZ.1 else cH.1).toNat l_3),bZ.2.L,bZ.2.At) (And.intro hm (bq.go [.rn 530010007 450010040] [] (by kernel_rfl)))
   exact qF c3<|A.skip<|qX (dK,bZ.2.L,bZ.2.At) hm
  rintro⟨mA,qq,qs⟩ hm
  rw[hJ2]at hm
  exact qGs [] [12] [(12,i6 (w64 (i_1-1)))]<|qX (w64 (i_1-1),qq,qs,mA) hm
 refine qF c2<|A.exit ?_
 show ah _ _ _ _ _
 obtain⟨dw,h18,hm⟩:=af hm
 refine qD [(1,hdc [] (bT h18) mo)] [5,12,73] [(15,.bool (decide (dw.1=0)))] [900000115] [(900000115,.cells 115 (k6 dw.2))]<|A.seq<|qDs [(1,hno 4 1 dX.enc dK tX)] [] [(99,i6 (dK.length:Int)),(100,i6 0)]<|A.block ?_
 obtain⟨hh5,hm⟩:=er hm
 obtain⟨B5,K5,hB5,hK5,hm⟩:=nj hm
 refine A.lpN (hi:=(dK.length:Int)) (B:=B5) (K:=K5) hm rfl (λj5=>λ(ow,lV,lW)=>[(0,.ptr 900000115 0),(4,.ptr 10004 0),(6,.ptr 10006 0),(9,.own 10040),(15,.bool (decide (dw.1=0))),(99,i6 (dK.length:Int)),(100,i6 (j5:Int))]) (λj5=>λ(ow,lV,lW)=>[(900000115,.cells 115 [lf aF lV,i6 lW]),(10004,.cells 28 [.aU,.aU]),(10006,.cells 28 [.own 701000600,.own 701000601]),(701000600,.slice 42 2 (ml aJ m_1) 0 false),(10040,.cC 118 450010040 ai.1.toNat none),(450010040,.bun (encS 4 1 dX.enc dK)),(701000601,.slice 89 5 (ml bR ow) 0 false)]) ?_ ?_ ?_
 ·exact bq.go [.ac 10006 701000601 89 5 1] [] (by kernel_rfl)
 ·rintro j5 Z5 ⟨ow,lV,lW⟩ hj5 hx5 hm
  rw[hB5]at hm
  refine qDs [] [] [(101,.bool (decide ((j5:Int)<(dK.length:Int))))]<|A.seq<|A.cT rfl (decide_eq_true hx5)<|A.skip ?_
  show ah _ _ _ _ _
  refine A.seq<|A.block ?_
  refine qDs [] [101] [(16,i6 (j5:Int))]<|qDs [(1,hno 4 1 dX.enc dK tX)] [] [(104,i6 (dK.length:Int)),(105,i6 0)]<|A.block ?_
  obtain⟨hh6,hm⟩:=er hm
  obtain⟨B6,K6,hB6,hK6,hm⟩:=nj hm
  refine A.lpN (hi:=(dK.length:Int)) (B:=B6) (K:=K6) hm rfl (λj6=>λ(kG,lX,nw)=>[(0,.ptr 900000115 0),(4,.ptr 10004 0),(6,.ptr 10006 0),(9,.own 10040),(15,.bool (decide (dw.1=0))),(16,i6 (j5:Int)),(99,i6 (dK.length:Int)),(100,i6 (j5:Int)),(104,i6 (dK.length:Int)),(105,i6 (j6:Int))]) (λj6=>λ(kG,lX,nw)=>[(900000115,.cells 115 [lf aF lX,i6 nw]),(10004,.cells 28 [.aU,.aU]),(10006,.cells 28 [.own 701000600,.own 701000601]),(701000600,.slice 42 2 (ml aJ m_1) 0 false),(10040,.cC 118 450010040 ai.1.toNat none),(450010040,.bun (encS 4 1 dX.enc dK)),(701000601,.slice 89 5 (ml bR kG) 0 false)]) ?_ ?_ ?_
  ·exact qW
  ·rintro j6 Z6 ⟨kG,lX,nw⟩ hj6 hx6 hm
   rw[hB6]at hm
   refine qDs [] [] [(106,.bool (decide ((j6:Int)<(dK.length:Int))))]<|A.seq<|A.cT rfl (decide_eq_true hx6)<|A.skip ?_
   show ah _ _ _ _ _
   obtain⟨J3,hJ3,hm⟩:=cg hm
   refine A.J (J:=J3) (r:=r) (λ(rH,rI,nR)=>[(0,.ptr 900000115 0),(4,.ptr 10004 0),(6,.ptr 10006 0),(9,.own 10040),(15,.bool (decide (dw.1=0))),(16,i6 (j5:Int)),(99,i6 (dK.length:Int)),(100,i6 (j5:Int)),(104,i6 (dK.length:Int)),(105,i6 (j6:Int))]) (λ(rH,rI,nR)=>[(900000115,.cells 115 [lf aF rH,i6 rI]),(10004,.cells 28 [.aU,.aU]),(10006,.cells 28 [.own 701000600,.own 701000601]),(701000600,.slice 42 2 (ml aJ m_1) 0 false),(10040,.cC 118 450010040 ai.1.toNat none),(450010040,.bun (encS 4 1 dX.enc dK)),(701000601,.slice 89 5 (ml bR nR) 0 false)]) ?_ ?_
   ·refine A.block<|qDs [] [106] [(17,i6 (j6:Int))] ?_
    refine A.seq ?_
    obtain⟨e_6,h19,hm⟩:=af hm
    obtain⟨e_7,h20,hm⟩:=af hm
    refine qD [(2,hio 4 1 dX.enc tX h19),(3,hlS 4 1 530010009 530010008 dX.enc zM h19),(5,hix (ix dX h20)),(6,hlo 530010008 0 (ix dX h20))] [] [(115,.bool (!e_7))] [10040,450010040] [(10040,.cC 118 530010009 ai.1.toNat (some (some (j5:Int).toNat,530010008))),(530010009,.bun (encS 4 1 dX.enc (List.set dK (j5:Int).toNat []))),(530010008,.slice 4 1 (ml dX e_6) 0 false)]<|A.weak ((bq.asK (d:=10040) (e:=530010009) (e2:=530010010) (t:=530010008) dK dX.enc h19 rfl rfl rfl rfl rfl rfl rfl)) ?_
    rcases az hm with⟨c4,hm⟩|⟨c4,hm⟩
    ·exact qT c4<|A.exit<|Exists.intro (lX,nw,kG) (And.intro hm (bq.go [.rn 530010010 450010040] [] (by kernel_rfl)))
    refine qF c4<|A.skip ?_
    show ah _ _ _ _ _
    obtain⟨e_8,h21,hm⟩:=af hm
    obtain⟨e_9,h22,hm⟩:=af hm
    obtain⟨nS,h23,hm⟩:=af hm
    refine qS [(3,hix (ix aJ h21)),(5,hlo 701000600 0 (ix aJ h21)),(9,hix (ix aJ h22)),(11,hlo 701000600 0 (ix aJ h22)),(14,hdc [] (fI h23) acB),(16,.al 10018)] [(0,.ptr 900000115 0),(4,.ptr 10004 0),(6,.ptr 10006 0),(9,.own 10040),(15,.bool (decide (dw.1=0))),(16,i6 (j5:Int)),(99,i6 (dK.length:Int)),(100,i6 (j5:Int)),(104,i6 (dK.length:Int)),(105,i6 (j6:Int)),(18,.ptr 10018 0)] [(900000115,.cells 115 (k6 nS.2)),(10004,.cells 28 [.aU,.aU]),(10006,.cells 28 [.own 701000600,.own 701000601]),(701000600,.slice 42 2 (ml aJ m_1) 0 false),(10040,.cC 118 530010010 ai.1.toNat none),(530010010,.bun (encS 4 1 dX.enc dK)),(701000601,.slice 89 5 (ml bR kG) 0 false),(10018,.cells 89 [i6 e_8.ID,i6 e_9.ID,i6 1,i6 1,i6 nS.1])] ?_
    obtain⟨J4,hJ4,hm⟩:=cg hm
    refine A.J (J:=J4) (r:=r) (λ(nT,lY,acG,acH)=>[(0,.ptr 900000115 0),(4,.ptr 10004 0),(6,.ptr 10006 0),(9,.own 10040),(15,.bool (decide (dw.1=0))),(16,i6 (j5:Int)),(18,.ptr 10018 0),(99,i6 (dK.length:Int)),(100,i6 (j5:Int)),(104,i6 (dK.length:Int)),(105,i6 (j6:Int))]) (λ(nT,lY,acG,acH)=>[(900000115,.cells 115 [lf aF nT,i6 lY]),(10004,.cells 28 [.aU,.aU]),(10006,.cells 28 [.own 701000600,.own 701000601]),(701000600,.slice 42 2 (ml aJ m_1) 0 false),(10040,.cC 118 530010010 ai.1.toNat none),(530010010,.bun (encS 4 1 dX.enc dK)),(701000601,.slice 89 5 (ml bR kG) 0 false),(10018,.cells 89 [i6 e_8.ID,i6 e_9.ID,i6 acG,i6 acH,i6 nS.1])]) ?_ ?_
    ·refine qDs [] [] [(133,.bool (!(decide (dw.1=0))))] ?_
     rcases az hm with⟨c5,hm⟩|⟨c5,hm⟩
     ·refine qT c5 ?_
      obtain⟨ud,h24,hm⟩:=af hm
      obtain⟨nF,h25,hm⟩:=af hm
      refine qD [(2,hdc [] (jf h24) ajM),(4,hdc [] (fI h25) acB)] [133] [] [900000115,10018] [(900000115,.cells 115 (k6 nF.2)),(10018,.cells 89 [i6 e_8.ID,i6 e_9.ID,i6 nF.1,i6 1,i6 nS.1])] ?_
      obtain⟨aeX,h26,hm⟩:=af hm
      obtain⟨sy,h27,hm⟩:=af hm
      exact qG [(6,hdc [] (jf h26) ajM),(8,hdc [] (fI h27) acB)] [] [] [900000115,10018] [(900000115,.cells 115 (k6 sy.2)),(10018,.cells 89 [i6 e_8.ID,i6 e_9.ID,i6 nF.1,i6 sy.1,i6 nS.1])]<|qX (sy.2.L,sy.2.At,nF.1,sy.1) hm
     exact qF c5<|A.skip<|qX (nS.2.L,nS.2.At,(1:Int),(1:Int)) hm
    rintro⟨nT,lY,acG,acH⟩ hm
    rw[hJ4]at hm
    obtain⟨l_4,h28,hm⟩:=af hm
    exact qG [(4,hap 10654 (ap bR (bytes:=40) (by decide) h28))] [18] [] [10006,701000601,10018] [(10006,.cells 28 [.own 701000600,.own 10654]),(10654,.slice 89 5 (ml bR l_4) 0 false)]<|Exists.intro (nT,lY,l_4) (And.intro hm (bq.go [.sw 10654 701000601,.rn 530010010 450010040] [] (by kernel_rfl)))
   rintro⟨rH,rI,nR⟩ hm
   rw[hJ3]at hm
   exact qGs [(0,hto (yS (by omega) hx6 (of_decide_eq_true hh6)))] [105] [(105,i6 (j6+1:Int))]<|qX (nR,rH,rI) hm
  rintro j6 ⟨kG,lX,nw⟩ hj6 hl6 hm
  rw[hK6]at hm
  refine qDs [] [] [(106,.bool (decide ((j6:Int)<(dK.length:Int))))]<|A.seq<|A.cF rfl (geF hl6)<|A.exit ?_
  show ah _ _ _ _ _
  exact qGs [(0,hto (yS (by omega) hx5 (of_decide_eq_true hh5)))] [16,100,104,105,106] [(100,i6 (j5+1:Int))]<|qX (kG,lX,nw) hm
 rintro j5 ⟨ow,lV,lW⟩ hj5 hl5 hm
 rw[hK5]at hm
 refine qDs [] [] [(101,.bool (decide ((j5:Int)<(dK.length:Int))))]<|A.seq<|A.cF rfl (geF hl5)<|A.exit ?_
 show ah _ _ _ _ _
 refine qD [] [0,6,9,15,99,100,101] [] [10004,10006,10040,450010040] [(10004,.cells 28 [.own 701000600,.own 701000601])]<|A.ret ?_
 obtain rfl:=some_inj hm
 exact A.fin W0 [.fz [701000600,701000601]] rfl (by kernel_rfl)
theorem abG{t:aZ}{p:aa}{n:Int}{r:(List Int)×aZ}(hm:pT t p n=some r):cQ prog 13 [(900000115,.cells 115 (k6 t))] [.ptr 900000115 0,.agg (k2 p),i6 n] (λa σ'=>a=lf aF r.1∧σ'=[(900000115,.cells 115 (k6 r.2))]):=by
 refine bf func13 rfl rfl ?_
 unfold pT at hm
 refine qS [(0,.al 13004)] [(0,.ptr 900000115 0),(2,i6 n),(4,.ptr 13004 0)] [(900000115,.cells 115 (k6 t)),(13004,.cells 28 (k2 p))]<|qDs [] [] [(7,.aU)]<|A.seq ?_
 obtain⟨ai,h1,hm⟩:=af hm
 refine qD [(3,hdc [] (bT h1) mo)] [2] [(8,i6 ai.1)] [900000115] [(900000115,.cells 115 (k6 ai.2))]<|A.block ?_
 obtain⟨F1,n1,hF1,hm⟩:=lu hm
 refine A.lpW (F:=F1) hm (λ(bg,i_1,m_1,m_2)=>[(0,.ptr 900000115 0),(4,.ptr 13004 0),(7,lf aF bg),(8,i6 i_1)]) (λ(bg,i_1,m_1,m_2)=>[(900000115,.cells 115 [lf aF m_1,i6 m_2]),(13004,.cells 28 (k2 p))]) ?_ ?_
 ·exact bq.go [] [7] (by kernel_rfl)
 rintro Z1 ⟨bg,i_1,m_1,m_2⟩ hm
 rw[hF1]at hm
 refine A.seq<|A.mid [(0,.ptr 900000115 0),(4,.ptr 13004 0),(7,lf aF bg),(8,i6 i_1),(20,.bool ((decide (0<i_1))&&(decide (0<(p.aq.length:Int)))))] [(900000115,.cells 115 [lf aF m_1,i6 m_2]),(13004,.cells 28 (k2 p))] (λhk=>?_) ?_
 ·rcases tf (decide (0<i_1))with c1|c1
  ·exact qS [(2,hto (bE c1)),(5,hto (lnE aJ p.aq)),(7,hto (mh (q:=decide (0<(p.aq.length:Int))) c1))] _ _ hk
  exact qS [(2,hto (bE c1)),(7,hto (nk (q:=decide (0<(p.aq.length:Int))) c1))] _ _ hk
 rcases az hm with⟨c2,hm⟩|⟨c2,hm⟩
 ·refine qT c2<|A.skip ?_
  show ah _ _ _ _ _
  refine A.seq<|A.block ?_
  obtain⟨aL,h2,hm⟩:=af hm
  obtain⟨e_1,h3,hm⟩:=af hm
  obtain⟨aV,h4,hm⟩:=af hm
  refine qG [(6,hto (lnE aJ p.aq)),(7,hdc [] (bT h2) mo),(8,hix (ix aJ h3)),(11,hro (pO h4) atW)] [7,20] [(7,lf aF aV)] [900000115] [(900000115,.cells 115 (k6 aL.2))] ?_
  show ah _ _ _ _ _
  exact qGs [] [8] [(8,i6 (w64 (i_1-1)))]<|Exists.intro (aV,w64 (i_1-1),aL.2.L,aL.2.At) (And.intro hm (bq.go [] [7] (by kernel_rfl)))
 refine qF c2<|A.exit ?_
 show ah _ _ _ _ _
 refine qD [] [0,4,7,8,20] [(6,lf aF bg)] [13004] [] ?_
 cases hm
 exact A.ret qE
theorem z8{t:aZ}{p:aa}{r:aK×aZ}(hm:nx t p=some r):cQ prog 30 [(900000115,.cells 115 (k6 t))] [.ptr 900000115 0,.agg (k2 p)] (λa σ'=>a=.agg (k7 r.1)∧σ'=[(900000115,.cells 115 (k6 r.2))]):=by
 refine bf func30 rfl rfl ?_
 unfold nx at hm
 refine qS [(0,.al 30003),(1,.al 30004)] [(0,.ptr 900000115 0),(3,.ptr 30003 0),(4,.ptr 30004 0)] [(900000115,.cells 115 (k6 t)),(30003,.cells 28 (k2 p)),(30004,.cells 32 [i6 0,.aU])] ?_
 obtain⟨ai,h1,hm⟩:=af hm
 refine qD [(2,hdc [] (fI h1) acB),(4,.al 30005)] [] [(5,.ptr 30005 0)] [900000115] [(900000115,.cells 115 (k6 ai.2)),(30005,.cells 32 [i6 ai.1,.aU])]<|A.seq ?_
 obtain⟨aL,h2,hm⟩:=af hm
 refine qD [(1,hro (uc h2) atV),(5,.al 30006)] [] [(6,.ptr 30006 0),(7,i6 aL.2)] [] [(30006,.cells 32 (k7 aL.1))] ?_
 obtain⟨J1,hJ1,hm⟩:=cg hm
 refine A.J (J:=J1) (r:=r) (λ(v_1,m_1,m_2)=>[(0,.ptr 900000115 0),(3,.ptr 30003 0),(4,.ptr 30004 0),(5,.ptr 30005 0),(6,.ptr 30006 0),(30,.bool v_1)]) (λ(v_1,m_1,m_2)=>[(900000115,.cells 115 [lf aF m_1,i6 m_2]),(30003,.cells 28 (k2 p)),(30004,.cells 32 [i6 0,.aU]),(30005,.cells 32 [i6 ai.1,.aU]),(30006,.cells 32 (k7 aL.1))]) ?_ ?_
 ·rcases az hm with⟨c1,hm⟩|⟨c1,hm⟩
  ·obtain⟨aV,h3,hm⟩:=af hm
   exact qG [(2,hto (bE c1)),(4,hdc [] (bT h3) mo)] [7] [(30,.bool (decide (aV.1=0)))] [900000115] [(900000115,.cells 115 (k6 aV.2))]<|qX (decide (aV.1=0),aV.2.L,aV.2.At) hm
  exact qGs [(2,hto (bE c1))] [7] [(30,.bool false)]<|qX (false,ai.2.L,ai.2.At) hm
 rintro⟨v_1,m_1,m_2⟩ hm
 rw[hJ1]at hm
 rcases az hm with⟨c2,hm⟩|⟨c2,hm⟩
 ·refine qT c2<|qD [] [0,3,5,6,30] [] [30003,30004,30005,30006] [(30004,.cells 32 (k7 aL.1))] ?_
  cases hm
  exact A.ret qE
 refine qF c2<|A.skip ?_
 show ah _ _ _ _ _
 refine A.seq<|qD [(2,hto (lnE aJ p.aq))] [6,30] [(33,lf aJ p.aq),(34,i6 (p.aq.length:Int)),(35,i6 0)] [30006] [] ?_
 refine A.block<|A.bS 33 rfl λhb1=>?_
 obtain⟨B1,K1,hB1,hK1,hm⟩:=bn hm
 refine A.lpI (l:=p.aq) (j0:=0) (B:=B1) (K:=K1) hm (λj1=>λ(m_3,m_4,m_5)=>[(0,.ptr 900000115 0),(3,.ptr 30003 0),(4,.ptr 30004 0),(5,.ptr 30005 0),(33,lf aJ p.aq),(34,i6 (p.aq.length:Int)),(35,i6 (j1:Int))]) (λj1=>λ(m_3,m_4,m_5)=>[(900000115,.cells 115 [lf aF m_4,i6 m_5]),(30003,.cells 28 (k2 p)),(30004,.cells 32 [i6 0,.aU]),(30005,.cells 32 [i6 ai.1,.own 703000501]),(703000501,.slice 38 4 (ml ak m_3) 0 false)]) ?_ ?_ ?_
 ·exact bq.go [.ac 30005 703000501 38 4 1] [] (by kernel_rfl)
 ·rintro j1 e1 Z1 ⟨m_3,m_4,m_5⟩ hj1 hx1 hm
  rw[hB1]at hm
  refine qDs [] [] [(36,.bool (decide ((j1:Int)<(p.aq.length:Int))))]<|A.seq<|qT (ltT hx1)<|A.skip ?_
  show ah _ _ _ _ _
  obtain⟨J2,hJ2,hm⟩:=cg hm
  refine A.J (J:=J2) (r:=r) (λ(m_6,m_7,m_8)=>[(0,.ptr 900000115 0),(3,.ptr 30003 0),(4,.ptr 30004 0),(5,.ptr 30005 0),(33,lf aJ p.aq),(34,i6 (p.aq.length:Int)),(35,i6 (j1:Int))]) (λ(m_6,m_7,m_8)=>[(900000115,.cells 115 [lf aF m_6,i6 m_7]),(30003,.cells 28 (k2 p)),(30004,.cells 32 [i6 0,.aU]),(30005,.cells 32 [i6 ai.1,.own 703000501]),(703000501,.slice 38 4 (ml ak m_8) 0 false)]) ?_ ?_
  ·refine A.block<|qD [(0,hix (ix aJ (bH hx1))),(2,.al 30009)] [36] [(9,.ptr 30009 0)] [] [(30009,.cells 42 (k0 e1))] ?_
   obtain⟨J3,hJ3,hm⟩:=cg hm
   refine A.J (J:=J3) (r:=r) (λ(m_9,rF,rG)=>[(0,.ptr 900000115 0),(3,.ptr 30003 0),(4,.ptr 30004 0),(5,.ptr 30005 0),(9,.ptr 30009 0),(33,lf aJ p.aq),(34,i6 (p.aq.length:Int)),(35,i6 (j1:Int))]) (λ(m_9,rF,rG)=>[(900000115,.cells 115 [lf aF m_9,i6 rF]),(30003,.cells 28 (k2 p)),(30004,.cells 32 [i6 0,.aU]),(30005,.cells 32 [i6 ai.1,.own 703000501]),(703000501,.slice 38 4 (ml ak rG) 0 false),(30009,.cells 42 (k0 e1))]) ?_ ?_
   ·obtain⟨bz,h4,hm⟩:=af hm
    refine qD [(1,hdc [] (bT h4) mo)] [] [(41,.bool (decide (0<bz.1)))] [900000115] [(900000115,.cells 115 (k6 bz.2))] ?_
    rcases az hm with⟨c3,hm⟩|⟨c3,hm⟩
    ·refine qT c3 ?_
     obtain⟨l_1,h5,hm⟩:=af hm
     exact qG [(4,hto (lnE ak m_3)),(11,hap 30553 (ap ak (bytes:=32) (by decide) h5))] [41] [] [30005,703000501] [(30005,.cells 32 [i6 ai.1,.own 30553]),(30553,.slice 38 4 (ml ak l_1) 0 false)]<|Exists.intro (bz.2.L,bz.2.At,l_1) (And.intro hm (bq.go [.sw 30553 703000501] [] (by kernel_rfl)))
    exact qF c3<|A.skip<|qX (bz.2.L,bz.2.At,m_3) hm
   rintro⟨m_9,rF,rG⟩ hm
   rw[hJ3]at hm
   refine A.seq<|qDs [(2,hto (lnE bR p.Links))] [] [(56,lf bR p.Links),(57,i6 (p.Links.length:Int)),(58,i6 0)] ?_
   refine A.block<|A.bS 56 rfl λhb2=>?_
   obtain⟨B2,K2,hB2,hK2,hm⟩:=bn hm
   refine A.lpI (l:=p.Links) (j0:=0) (B:=B2) (K:=K2) hm (λj2=>λ(iM,dK,mA)=>[(0,.ptr 900000115 0),(3,.ptr 30003 0),(4,.ptr 30004 0),(5,.ptr 30005 0),(9,.ptr 30009 0),(33,lf aJ p.aq),(34,i6 (p.aq.length:Int)),(35,i6 (j1:Int)),(56,lf bR p.Links),(57,i6 (p.Links.length:Int)),(58,i6 (j2:Int))]) (λj2=>λ(iM,dK,mA)=>[(900000115,.cells 115 [lf aF dK,i6 mA]),(30003,.cells 28 (k2 p)),(30004,.cells 32 [i6 0,.aU]),(30005,.cells 32 [i6 ai.1,.own 703000501]),(703000501,.slice 38 4 (ml ak iM) 0 false),(30009,.cells 42 (k0 e1))]) ?_ ?_ ?_
   ·exact qW
   ·rintro j2 e2 Z2 ⟨iM,dK,mA⟩ hj2 hx2 hm
    rw[hB2]at hm
    refine qDs [] [] [(59,.bool (decide ((j2:Int)<(p.Links.length:Int))))]<|A.seq<|qT (ltT hx2)<|A.skip ?_
    show ah _ _ _ _ _
    obtain⟨J4,hJ4,hm⟩:=cg hm
    refine A.J (J:=J4) (r:=r) (λ(qq,qs,ow)=>[(0,.ptr 900000115 0),(3,.ptr 30003 0),(4,.ptr 30004 0),(5,.ptr 30005 0),(9,.ptr 30009 0),(33,lf aJ p.aq),(34,i6 (p.aq.length:Int)),(35,i6 (j1:Int)),(56,lf bR p.Links),(57,i6 (p.Links.length:Int)),(58,i6 (j2:Int))]) (λ(qq,qs,ow)=>[(900000115,.cells 115 [lf aF qq,i6 qs]),(30003,.cells 28 (k2 p)),(30004,.cells 32 [i6 0,.aU]),(30005,.cells 32 [i6 ai.1,.own 703000501]),(703000501,.slice 38 4 (ml ak ow) 0 false),(30009,.cells 42 (k0 e1))]) ?_ ?_
    ·refine A.block<|qD [(0,hix (ix bR (bH hx2))),(2,.al 30011)] [59] [(11,.ptr 30011 0)] [] [(30011,.cells 89 (k1 e2))] ?_
     refine qDs [] [] [(12,i6 0)] ?_
     obtain⟨J5,hJ5,hm⟩:=cg hm
     refine A.J (J:=J5) (r:=r) (λx8=>[(0,.ptr 900000115 0),(3,.ptr 30003 0),(4,.ptr 30004 0),(5,.ptr 30005 0),(9,.ptr 30009 0),(11,.ptr 30011 0),(12,i6 x8),(33,lf aJ p.aq),(34,i6 (p.aq.length:Int)),(35,i6 (j1:Int)),(56,lf bR p.Links),(57,i6 (p.Links.length:Int)),(58,i6 (j2:Int))]) (λx8=>[(900000115,.cells 115 [lf aF dK,i6 mA]),(30003,.cells 28 (k2 p)),(30004,.cells 32 [i6 0,.aU]),(30005,.cells 32 [i6 ai.1,.own 703000501]),(703000501,.slice 38 4 (ml ak iM) 0 false),(30009,.cells 42 (k0 e1)),(30011,.cells 89 (k1 e2))]) ?_ ?_
     ·refine qDs [] [] [(66,.bool (decide (e2.A=e1.ID)))] ?_
      rcases az hm with⟨c4,hm⟩|⟨c4,hm⟩
      ·exact qT c4<|qGs [] [12,66] [(12,i6 e2.B)]<|qX e2.B hm
      exact qF c4<|A.skip<|qX (0:Int) hm
     rintro x8 hm
     rw[hJ5]at hm
     obtain⟨J6,hJ6,hm⟩:=cg hm
     refine A.J (J:=J6) (r:=r) (λvO=>[(0,.ptr 900000115 0),(3,.ptr 30003 0),(4,.ptr 30004 0),(5,.ptr 30005 0),(9,.ptr 30009 0),(12,i6 vO),(33,lf aJ p.aq),(34,i6 (p.aq.length:Int)),(35,i6 (j1:Int)),(56,lf bR p.Links),(57,i6 (p.Links.length:Int)),(58,i6 (j2:Int))]) (λvO=>[(900000115,.cells 115 [lf aF dK,i6 mA]),(30003,.cells 28 (k2 p)),(30004,.cells 32 [i6 0,.aU]),(30005,.cells 32 [i6 ai.1,.own 703000501]),(703000501,.slice 38 4 (ml ak iM) 0 false),(30009,.cells 42 (k0 e1))]) ?_ ?_
     ·refine qDs [] [] [(73,.bool (decide (e2.B=e1.ID)))] ?_
      rcases az hm with⟨c5,hm⟩|⟨c5,hm⟩
      ·exact qT c5<|qG [] [11,12,73] [(12,i6 e2.A)] [30011] []<|qX e2.A hm
      exact qF c5<|A.skip<|qX x8 hm
     rintro vO hm
     rw[hJ6]at hm
     obtain⟨J7,hJ7,hm⟩:=cg hm
     refine A.J (J:=J7) (r:=r) (λ(v_2,lV,lW)=>[(0,.ptr 900000115 0),(3,.ptr 30003 0),(4,.ptr 30004 0),(5,.ptr 30005 0),(9,.ptr 30009 0),(12,i6 vO),(33,lf aJ p.aq),(34,i6 (p.aq.length:Int)),(35,i6 (j1:Int)),(56,lf bR p.Links),(57,i6 (p.Links.length:Int)),(58,i6 (j2:Int)),(82,.bool v_2)]) (λ(v_2,lV,lW)=>[(900000115,.cells 115 [lf aF lV,i6 lW]),(30003,.cells 28 (k2 p)),(30004,.cells 32 [i6 0,.aU]),(30005,.cells 32 [i6 ai.1,.own 703000501]),(703000501,.slice 38 4 (ml ak iM) 0 false),(30009,.cells 42 (k0 e1))]) ?_ ?_
     ·rcases az hm with⟨c6,hm⟩|⟨c6,hm⟩
      ·obtain⟨cq,h6,hm⟩:=af hm
       exact qG [(2,hto (bE c6)),(4,hdc [] (bT h6) mo)] [] [(82,.bool (decide (0<cq.1)))] [900000115] [(900000115,.cells 115 (k6 cq.2))]<|qX (decide (0<cq.1),cq.2.L,cq.2.At) hm
      exact qGs [(2,hto (bE c6))] [] [(82,.bool false)]<|qX (false,dK,mA) hm
     rintro⟨v_2,lV,lW⟩ hm
     rw[hJ7]at hm
     rcases az hm with⟨c7,hm⟩|⟨c7,hm⟩
     ·refine qT c7 ?_
      obtain⟨l_2,h7,hm⟩:=af hm
      exact qG [(4,hto (lnE ak iM)),(10,hap 30593 (ap ak (bytes:=32) (by decide) h7))] [12,82] [] [30005,703000501] [(30005,.cells 32 [i6 ai.1,.own 30593]),(30593,.slice 38 4 (ml ak l_2) 0 false)]<|Exists.intro (lV,lW,l_2) (And.intro hm (bq.go [.sw 30593 703000501] [] (by kernel_rfl)))
     exact qF c7<|A.skip<|qX (lV,lW,iM) hm
    rintro⟨qq,qs,ow⟩ hm
    rw[hJ4]at hm
    exact qGs [(0,hto (inc hx2 hb2))] [58] [(58,i6 ((j2+1:Nat):Int))]<|qX (ow,qq,qs) hm
   rintro j2 ⟨iM,dK,mA⟩ hj2 hl2 hm
   rw[hK2]at hm
   refine qDs [] [] [(59,.bool (decide ((j2:Int)<(p.Links.length:Int))))]<|A.seq<|qF (ltF hl2)<|A.exit ?_
   show ah _ _ _ _ _
   obtain⟨cH,h8,hm⟩:=af hm
   obtain⟨e_1,h9,hm⟩:=af hm
   refine qD [(5,hto (lnE aJ p.aq)),(6,hdc [] (bT h8) mo),(7,hix (ix aJ h9))] [56,57,58,59] [(13,i6 e_1.ID)] [900000115] [(900000115,.cells 115 (k6 cH.2))] ?_
   obtain⟨J8,hJ8,hm⟩:=cg hm
   refine A.J (J:=J8) (r:=r) (λ(v_3,kG,lX)=>[(0,.ptr 900000115 0),(3,.ptr 30003 0),(4,.ptr 30004 0),(5,.ptr 30005 0),(9,.ptr 30009 0),(13,i6 e_1.ID),(33,lf aJ p.aq),(34,i6 (p.aq.length:Int)),(35,i6 (j1:Int)),(114,.bool v_3)]) (λ(v_3,kG,lX)=>[(900000115,.cells 115 [lf aF kG,i6 lX]),(30003,.cells 28 (k2 p)),(30004,.cells 32 [i6 0,.aU]),(30005,.cells 32 [i6 ai.1,.own 703000501]),(703000501,.slice 38 4 (ml ak iM) 0 false),(30009,.cells 42 (k0 e1))]) ?_ ?_
   ·rcases az hm with⟨c8,hm⟩|⟨c8,hm⟩
    ·obtain⟨bZ,h10,hm⟩:=af hm
     exact qG [(4,hto (bE c8)),(6,hdc [] (bT h10) mo)] [] [(114,.bool (decide (bZ.1=0)))] [900000115] [(900000115,.cells 115 (k6 bZ.2))]<|qX (decide (bZ.1=0),bZ.2.L,bZ.2.At) hm
    exact qGs [(4,hto (bE c8))] [] [(114,.bool false)]<|qX (false,cH.2.L,cH.2.At) hm
   rintro⟨v_3,kG,lX⟩ hm
   rw[hJ8]at hm
   rcases az hm with⟨c9,hm⟩|⟨c9,hm⟩
   ·refine qT c9 ?_
    obtain⟨l_3,h11,hm⟩:=af hm
    exact qG [(4,hto (lnE ak iM)),(10,hap 30625 (ap ak (bytes:=32) (by decide) h11))] [9,13,114] [] [30005,703000501,30009] [(30005,.cells 32 [i6 ai.1,.own 30625]),(30625,.slice 38 4 (ml ak l_3) 0 false)]<|Exists.intro (kG,lX,l_3) (And.intro hm (bq.go [.sw 30625 703000501] [] (by kernel_rfl)))
   exact qF c9<|A.skip<|qX (kG,lX,iM) hm
  rintro⟨m_6,m_7,m_8⟩ hm
  rw[hJ2]at hm
  exact qGs [(0,hto (inc hx1 hb1))] [35] [(35,i6 ((j1+1:Nat):Int))]<|qX (m_8,m_6,m_7) hm
 rintro j1 ⟨m_3,m_4,m_5⟩ hj1 hl1 hm
 rw[hK1]at hm
 refine qDs [] [] [(36,.bool (decide ((j1:Int)<(p.aq.length:Int))))]<|A.seq<|qF (ltF hl1)<|A.exit ?_
 show ah _ _ _ _ _
 obtain⟨l_4,h12,hm⟩:=af hm
 refine qD [(4,hto (lnE ak m_3)),(8,hcu 30636 aqS (sl ak h12))] [3,33,34,35,36] [] [30003,30005,703000501] [(30005,.cells 32 [i6 ai.1,.own 30636]),(30636,.slice 38 4 (ml ak l_4) 0 false)] ?_
 obtain⟨J9,hJ9,hm⟩:=cg hm
 refine A.J (J:=J9) (r:=r) (λ(nw,rH,rI)=>[(4,.ptr 30004 0),(5,.ptr 30005 0)]) (λ(nw,rH,rI)=>[(900000115,.cells 115 [lf aF nw,i6 rH]),(30004,.cells 32 [i6 0,.aU]),(30005,.cells 32 [i6 ai.1,.own 703000501]),(703000501,.slice 38 4 (ml ak rI) 0 false)]) ?_ ?_
 ·obtain⟨J10,aeY,hm⟩:=cg hm
  refine A.J (J:=J10) (r:=r) (λ(v_4,nR,nT)=>[(4,.ptr 30004 0),(5,.ptr 30005 0),(148,.bool v_4)]) (λ(v_4,nR,nT)=>[(900000115,.cells 115 [lf aF nR,i6 nT]),(30004,.cells 32 [i6 0,.aU]),(30005,.cells 32 [i6 ai.1,.own 30636]),(30636,.slice 38 4 (ml ak l_4) 0 false)]) ?_ ?_
  ·obtain⟨dw,h13,hm⟩:=af hm
   rcases az hm with⟨c10,hm⟩|⟨c10,hm⟩
   ·exact qG [(1,hdc [] (bT h13) mo),(3,hto (bE c10)),(6,hto (lnE ak l_4))] [0] [(148,.bool (decide ((l_4.length:Int)<ai.1)))] [900000115] [(900000115,.cells 115 (k6 dw.2))]<|qX (decide ((l_4.length:Int)<ai.1),dw.2.L,dw.2.At) hm
   exact qG [(1,hdc [] (bT h13) mo),(3,hto (bE c10))] [0] [(148,.bool false)] [900000115] [(900000115,.cells 115 (k6 dw.2))]<|qX (false,dw.2.L,dw.2.At) hm
  rintro⟨v_4,nR,nT⟩ hm
  rw[aeY]at hm
  rcases az hm with⟨c11,hm⟩|⟨c11,hm⟩
  ·refine qT c11<|qDs [(2,hto (lnE ak l_4))] [148] [(151,i6 (l_4.length:Int)),(152,i6 0)]<|A.block<|A.bD 5 1 rfl rfl rfl rfl λhb3=>?_
   obtain⟨B3,K3,hB3,hK3,hm⟩:=bn hm
   refine A.lpI (l:=l_4) (j0:=0) (B:=B3) (K:=K3) hm (λj3=>λlY=>[(4,.ptr 30004 0),(5,.ptr 30005 0),(151,i6 (l_4.length:Int)),(152,i6 (j3:Int))]) (λj3=>λlY=>[(900000115,.cells 115 [lf aF nR,i6 nT]),(30004,.cells 32 [i6 0,.aU]),(30005,.cells 32 [i6 ai.1,.own 703000501]),(703000501,.slice 38 4 (ml ak lY) 0 false)]) ?_ ?_ ?_
   ·exact bq.go [.sw 30636 703000501] [] (by kernel_rfl)
   ·rintro j3 e3 Z3 lY hj3 hx3 hm
    rw[hB3]at hm
    refine qDs [] [] [(153,.bool (decide ((j3:Int)<(l_4.length:Int))))]<|A.seq<|qT (ltT hx3)<|A.skip ?_
    show ah _ _ _ _ _
    refine A.seq<|A.block ?_
    refine qDs [] [153] [(14,i6 (j3:Int))] ?_
    obtain⟨e_2,h14,hm⟩:=af hm
    obtain⟨l_5,h15,hm⟩:=af hm
    refine qG [(3,hix (ix ak h14)),(5,hlo 703000501 0 (ix ak h14)),(10,hto (lnE ak lY)),(13,hix (ix ak h14)),(15,hso 703000501 (st ak (off:=0) (ca:=[i6 (w64 (e_2.Bit+(w64 (ai.1-(lY.length:Int)))))]) h14 h15 rfl) (yR h14).1.1)] [14] [] [703000501] [(703000501,.slice 38 4 (ml ak l_5) 0 false)] ?_
    show ah _ _ _ _ _
    exact qGs [(0,hto (inc hx3 hb3))] [152] [(152,i6 ((j3+1:Nat):Int))]<|qX l_5 hm
   rintro j3 lY hj3 hl3 hm
   rw[hK3]at hm
   exact qDs [] [] [(153,.bool (decide ((j3:Int)<(l_4.length:Int))))]<|A.seq<|qF (ltF hl3)<|A.exit<|qX (nR,nT,lY) hm
  exact qF c11<|A.skip<|Exists.intro (nR,nT,l_4) (And.intro hm (bq.go [.sw 30636 703000501] [] (by kernel_rfl)))
 rintro⟨nw,rH,rI⟩ hm
 rw[hJ9]at hm
 refine qD [] [5] [] [30004,30005] [(30004,.cells 32 [i6 ai.1,.own 703000501])]<|A.ret ?_
 obtain rfl:=some_inj hm
 exact A.fin W0 [.fz [703000501]] rfl (by kernel_rfl)
end Go.Proofs.YtdjeacigeegklaaGreat
