/- The iJ of ee of the program. No condition but bJ aY stand in each. -/
import Derived.Test.YtdjeacigeegklaaGreatVX
namespace Go.Proofs.YtdjeacigeegklaaGreat
open Go Go.Proofs.Tryz
set_option maxRecDepth 100000
set_option linter.all false
theorem abp{t:bM}{most:Int}{r:aa×bM}(hm:ow t most=some r):dA prog 10 [(900000115,.cells 115 (k6 t))] [.ptr 900000115 0,i6 most] (λa σ'=>a=.agg (k2 r.1)∧σ'=[(900000115,.cells 115 (k6 r.2))]):=by
 refine bh func10 rfl rfl ?_
 unfold ow at hm
 refine qS [(0,.al 10004)] [(0,.ptr 900000115 0),(1,i6 most),(4,.ptr 10004 0)] [(900000115,.cells 115 (k6 t)),(10004,.cells 28 [.aQ,.aQ])] ?_
 obtain⟨ai,h1,hm⟩:=af hm
 refine qD [(2,hdc [] (lD h1) alL)] [1] [(5,i6 ai.1)] [900000115] [(900000115,.cells 115 (k6 ai.2))]<|qD [(0,.al 10006)] [] [(6,.ptr 10006 0)] [] [(10006,.cells 28 [.aQ,.aQ])]<|qDs [] [] [(7,i6 0)]<|A.seq<|qDs [] [] [(8,i6 0)]<|A.block ?_
 obtain⟨hh1,hm⟩:=fI hm
 obtain⟨B1,K1,hB1,hK1,hm⟩:=pR hm
 refine A.lpN (hi:=ai.1) (B:=B1) (K:=K1) hm rfl (λj1=>λ(xE,m_1,m_2,m_3)=>[(0,.ptr 900000115 0),(4,.ptr 10004 0),(5,i6 ai.1),(6,.ptr 10006 0),(7,i6 xE),(8,i6 (j1:Int))]) (λj1=>λ(xE,m_1,m_2,m_3)=>[(900000115,.cells 115 [lf aA m_2,i6 m_3]),(10004,.cells 28 [.aQ,.aQ]),(10006,.cells 28 [.own 701000600,.aQ]),(701000600,.slice 42 2 (ml aJ m_1) 0 false)]) ?_ ?_ ?_
 ·exact bx.go [.ac 10006 701000600 42 2 0] [] (by kernel_rfl)
 ·rintro j1 Z1 ⟨xE,m_1,m_2,m_3⟩ hj1 hx1 hm
  rw[hB1]at hm
  refine A.seq<|qDs [] [] [(24,.bool (decide ((j1:Int)<ai.1)))] ?_
  refine A.cT rfl (decide_eq_true hx1)<|A.skip<|A.seq<|A.block ?_
  obtain⟨aI,h2,hm⟩:=af hm
  refine qD [(3,hdc [] (iS h2) aiC)] [7,24] [(7,i6 (w64 (xE+aI.1)))] [900000115] [(900000115,.cells 115 (k6 aI.2))] ?_
  obtain⟨l_1,h3,hm⟩:=af hm
  exact qG [(5,hap 10537 (ap aJ (bytes:=16) (by decide) h3))] [] [] [10006,701000600] [(10006,.cells 28 [.own 10537,.aQ]),(10537,.slice 42 2 (ml aJ l_1) 0 false)]<|qGs [(1,hto (abX (by omega) hx1 (of_decide_eq_true hh1)))] [8] [(8,i6 (j1+1:Int))]<|Exists.intro (w64 (xE+aI.1),l_1,aI.2.L,aI.2.At) (And.intro hm (bx.go [.sw 10537 701000600] [] (by kernel_rfl)))
 rintro j1 ⟨xE,m_1,m_2,m_3⟩ hj1 hl1 hm
 rw[hK1]at hm
 refine A.seq<|qDs [] [] [(24,.bool (decide ((j1:Int)<ai.1)))] ?_
 refine A.cF rfl (geF hl1)<|A.exit ?_
 obtain⟨h4,hm⟩:=fI hm
 refine qD [(1,hmr 10040 ai.1 ajh aji h4 (by decide))] [7,8,24] [(9,.own 10040)] [] [(10040,.slice 118 1 (List.replicate ai.1.toNat [.aQ]) 0 false)]<|A.weak ((bx.atf (d:=10040) (e:=450010040) 4 1 fu.enc (awT h4) rfl rfl rfl rfl rfl))<|A.seq<|qS [(1,hno 4 1 fu.enc (List.replicate ai.1.toNat []:List (List Bool)) wQ)] [(0,.ptr 900000115 0),(4,.ptr 10004 0),(5,i6 ai.1),(6,.ptr 10006 0),(9,.own 10040),(42,i6 ((List.replicate ai.1.toNat []:List (List Bool)).length:Int)),(43,i6 0)] [(900000115,.cells 115 [lf aA m_2,i6 m_3]),(10004,.cells 28 [.aQ,.aQ]),(10006,.cells 28 [.own 701000600,.aQ]),(701000600,.slice 42 2 (ml aJ m_1) 0 false),(10040,.dw 118 450010040 ai.1.toNat none),(450010040,.bun (encS 4 1 fu.enc (List.replicate ai.1.toNat []:List (List Bool))))]<|A.block ?_
 obtain⟨hh2,hm⟩:=fI hm
 obtain⟨B2,K2,hB2,hK2,hm⟩:=pR hm
 refine A.lpN (hi:=((List.replicate ai.1.toNat []:List (List Bool)).length:Int)) (B:=B2) (K:=K2) hm rfl (λj2=>λm_4=>[(0,.ptr 900000115 0),(4,.ptr 10004 0),(5,i6 ai.1),(6,.ptr 10006 0),(9,.own 10040),(42,i6 ((List.replicate ai.1.toNat []:List (List Bool)).length:Int)),(43,i6 (j2:Int))]) (λj2=>λm_4=>[(900000115,.cells 115 [lf aA m_2,i6 m_3]),(10004,.cells 28 [.aQ,.aQ]),(10006,.cells 28 [.own 701000600,.aQ]),(701000600,.slice 42 2 (ml aJ m_1) 0 false),(10040,.dw 118 450010040 ai.1.toNat none),(450010040,.bun (encS 4 1 fu.enc m_4))]) ?_ ?_ ?_
 ·exact qW
 ·rintro j2 Z2 m_4 hj2 hx2 hm
  rw[hB2]at hm
  refine qDs [] [] [(44,.bool (decide ((j2:Int)<((List.replicate ai.1.toNat []:List (List Bool)).length:Int))))]<|A.seq<|A.cT rfl (decide_eq_true hx2)<|A.skip<|A.seq<|A.block<|qDs [] [44] [(10,i6 (j2:Int))] ?_
  obtain⟨h5,hm⟩:=fI hm
  obtain⟨e_1,h6,hm⟩:=af hm
  exact qG [(3,hms (a:=.bool false) 10049 false fu.enc ai.1 ajj ajk rfl (λI=>by simp[aL]) h5 (by decide)),(4,hio 4 1 fu.enc wQ h6),(5,hsS 4 1 530010001 fu.enc (List.replicate (ai.1).toNat false) acR h6)] [10] [] [10040,450010040] [(10040,.dw 118 530010001 ai.1.toNat none),(530010001,.bun (encS 4 1 fu.enc (List.set m_4 (j2:Int).toNat (List.replicate (ai.1).toNat false))))]<|qGs [(0,hto (abX (by omega) hx2 (of_decide_eq_true hh2)))] [43] [(43,i6 (j2+1:Int))]<|Exists.intro (List.set m_4 (j2:Int).toNat (List.replicate (ai.1).toNat false)) (And.intro hm (bx.go [.rn 530010001 450010040] [] (by kernel_rfl)))
 rintro j2 m_4 hj2 hl2 hm
 rw[hK2]at hm
 refine qDs [] [] [(44,.bool (decide ((j2:Int)<((List.replicate ai.1.toNat []:List (List Bool)).length:Int))))]<|A.seq<|A.cF rfl (geF hl2)<|A.exit<|A.seq<|qDs [] [42,43,44] [(11,i6 1)]<|A.block ?_
 obtain⟨hh3,hm⟩:=fI hm
 obtain⟨B3,K3,hB3,hK3,hm⟩:=pR hm
 refine A.lpN (hi:=ai.1) (B:=B3) (K:=K3) hm rfl (λj3=>λ(m_5,m_6,m_7)=>[(0,.ptr 900000115 0),(4,.ptr 10004 0),(5,i6 ai.1),(6,.ptr 10006 0),(9,.own 10040),(11,i6 (j3:Int))]) (λj3=>λ(m_5,m_6,m_7)=>[(900000115,.cells 115 [lf aA m_5,i6 m_6]),(10004,.cells 28 [.aQ,.aQ]),(10006,.cells 28 [.own 701000600,.aQ]),(701000600,.slice 42 2 (ml aJ m_1) 0 false),(10040,.dw 118 450010040 ai.1.toNat none),(450010040,.bun (encS 4 1 fu.enc m_7))]) ?_ ?_ ?_
 ·exact qW
 ·rintro j3 Z3 ⟨m_5,m_6,m_7⟩ hj3 hx3 hm
  rw[hB3]at hm
  refine A.seq<|qDs [] [] [(54,.bool (decide ((j3:Int)<ai.1)))] ?_
  refine A.cT rfl (decide_eq_true hx3)<|A.skip ?_
  obtain⟨J1,hJ1,hm⟩:=cw hm
  refine A.J (J:=J1) (r:=r) (λ(m_8,m_9,nc)=>[(0,.ptr 900000115 0),(4,.ptr 10004 0),(5,i6 ai.1),(6,.ptr 10006 0),(9,.own 10040),(11,i6 (j3:Int))]) (λ(m_8,m_9,nc)=>[(900000115,.cells 115 [lf aA m_9,i6 nc]),(10004,.cells 28 [.aQ,.aQ]),(10006,.cells 28 [.own 701000600,.aQ]),(701000600,.slice 42 2 (ml aJ m_1) 0 false),(10040,.dw 118 450010040 ai.1.toNat none),(450010040,.bun (encS 4 1 fu.enc m_8))]) ?_ ?_
  ·refine A.block ?_
   obtain⟨bf,h7,hm⟩:=af hm
   refine qD [(1,hdc [] (cG h7) qy)] [54] [(59,.bool (decide (bf.1<11)))] [900000115] [(900000115,.cells 115 (k6 bf.2))] ?_
   rcases ak hm with⟨c1,hm⟩|⟨c1,hm⟩
   ·refine qT c1 ?_
    obtain⟨bB,h8,hm⟩:=af hm
    obtain⟨e_2,h9,hm⟩:=af hm
    obtain⟨e_3,h10,hm⟩:=af hm
    obtain⟨l_2,h11,hm⟩:=af hm
    refine A.late (A.R W0 [] [(3,hdc [] (cG h8) qy),(4,hio 4 1 fu.enc wQ h9),(5,hlS 4 1 530010003 530010002 fu.enc acR h9),(7,hix (ix fu h10)),(8,hso 530010002 (st fu (off:=0) (ca:=[.bool true]) h10 h11 rfl) (afS h10).1.1)] [(0,.ptr 900000115 0),(4,.ptr 10004 0),(5,i6 ai.1),(6,.ptr 10006 0),(9,.own 10040),(11,i6 (j3:Int))] [(900000115,.cells 115 (k6 bB.2)),(10004,.cells 28 [.aQ,.aQ]),(10006,.cells 28 [.own 701000600,.aQ]),(701000600,.slice 42 2 (ml aJ m_1) 0 false),(10040,.dw 118 530010003 ai.1.toNat (some (some bB.1.toNat,530010002))),(530010003,.bun (encS 4 1 fu.enc (List.set m_7 bB.1.toNat []))),(530010002,.slice 4 1 (ml fu l_2) 0 false)] (by kernel_rfl) ?_)
    refine⟨_,_,(bx.aiz (d:=10040) (e:=530010003) (e2:=530010004) (t:=530010002) m_7 fu.enc l_2 rfl rfl rfl rfl rfl rfl rfl),?_⟩
    exact Exists.intro ((List.set m_7 bB.1.toNat l_2),bB.2.L,bB.2.At) (And.intro hm (bx.go [.rn 530010004 450010040] [] (by kernel_rfl)))
   exact qF c1<|A.skip<|qX (m_7,bf.2.L,bf.2.At) hm
  rintro⟨m_8,m_9,nc⟩ hm
  rw[hJ1]at hm
  exact qGs [(1,hto (abX (by omega) hx3 (of_decide_eq_true hh3)))] [11] [(11,i6 (j3+1:Int))]<|qX (m_9,nc,m_8) hm
 rintro j3 ⟨m_5,m_6,m_7⟩ hj3 hl3 hm
 rw[hK3]at hm
 refine A.seq<|qDs [] [] [(54,.bool (decide ((j3:Int)<ai.1)))] ?_
 refine A.cF rfl (geF hl3)<|A.exit<|A.seq ?_
 obtain⟨bD,h12,hm⟩:=af hm
 refine qD [(3,hdc [] (cG h12) qy)] [11,54] [(12,i6 bD.1)] [900000115] [(900000115,.cells 115 (k6 bD.2))]<|A.block ?_
 obtain⟨F4,n4,hF4,hm⟩:=jA hm
 refine A.lpW (F:=F4) hm (λ(i_1,ng,lF,ff)=>[(0,.ptr 900000115 0),(4,.ptr 10004 0),(5,i6 ai.1),(6,.ptr 10006 0),(9,.own 10040),(12,i6 i_1)]) (λ(i_1,ng,lF,ff)=>[(900000115,.cells 115 [lf aA ng,i6 lF]),(10004,.cells 28 [.aQ,.aQ]),(10006,.cells 28 [.own 701000600,.aQ]),(701000600,.slice 42 2 (ml aJ m_1) 0 false),(10040,.dw 118 450010040 ai.1.toNat none),(450010040,.bun (encS 4 1 fu.enc ff))]) ?_ ?_
 ·exact qW
 rintro Z4 ⟨i_1,ng,lF,ff⟩ hm
 rw[hF4]at hm
 refine A.seq<|qDs [] [] [(73,.bool (decide (0<i_1)))] ?_
 rcases ak hm with⟨c2,hm⟩|⟨c2,hm⟩
 ·refine qT c2<|A.skip ?_
  obtain⟨J2,hJ2,hm⟩:=cw hm
  refine A.J (J:=J2) (r:=r) (λ(rE,rF,adT)=>[(0,.ptr 900000115 0),(4,.ptr 10004 0),(5,i6 ai.1),(6,.ptr 10006 0),(9,.own 10040),(12,i6 i_1)]) (λ(rE,rF,adT)=>[(900000115,.cells 115 [lf aA rF,i6 adT]),(10004,.cells 28 [.aQ,.aQ]),(10006,.cells 28 [.own 701000600,.aQ]),(701000600,.slice 42 2 (ml aJ m_1) 0 false),(10040,.dw 118 450010040 ai.1.toNat none),(450010040,.bun (encS 4 1 fu.enc rE))]) ?_ ?_
  ·refine A.block ?_
   obtain⟨cW,h13,hm⟩:=af hm
   obtain⟨bH,h14,hm⟩:=af hm
   refine qD [(2,hdc [] (cG h13) qy),(5,hdc [] (cG h14) qy)] [73] [(13,i6 cW.1),(14,i6 bH.1)] [900000115] [(900000115,.cells 115 (k6 bH.2))]<|qDs [] [] [(84,.bool (!decide (cW.1=bH.1)))] ?_
   rcases ak hm with⟨c3,hm⟩|⟨c3,hm⟩
   ·refine qT c3 ?_
    obtain⟨e_4,h15,hm⟩:=af hm
    obtain⟨e_5,h16,hm⟩:=af hm
    obtain⟨l_3,h17,hm⟩:=af hm
    refine A.late (A.R W0 [] [(4,hio 4 1 fu.enc wQ h15),(5,hlS 4 1 530010006 530010005 fu.enc acR h15),(9,hix (ix fu h16)),(10,hso 530010005 (st fu (off:=0) (ca:=[.bool true]) h16 h17 rfl) (afS h16).1.1)] [(0,.ptr 900000115 0),(4,.ptr 10004 0),(5,i6 ai.1),(6,.ptr 10006 0),(9,.own 10040),(12,i6 i_1)] [(900000115,.cells 115 (k6 bH.2)),(10004,.cells 28 [.aQ,.aQ]),(10006,.cells 28 [.own 701000600,.aQ]),(701000600,.slice 42 2 (ml aJ m_1) 0 false),(10040,.dw 118 530010006 ai.1.toNat (some (some (if bH.1<cW.1 then bH.1 else cW.1).toNat,530010005))),(530010006,.bun (encS 4 1 fu.enc (List.set ff (if bH.1<cW.1 then bH.1 else cW.1).toNat []))),(530010005,.slice 4 1 (ml fu l_3) 0 false)] (by kernel_rfl) ?_)
    refine⟨_,_,(bx.aiz (d:=10040) (e:=530010006) (e2:=530010007) (t:=530010005) ff fu.enc l_3 rfl rfl rfl rfl rfl rfl rfl),?_⟩
    exact Exists.intro ((List.set ff (if bH.1<cW.1 then bH.1 else cW.1).toNat l_3),bH.2.L,bH.2.At) (And.intro hm (bx.go [.rn 530010007 450010040] [] (by kernel_rfl)))
   exact qF c3<|A.skip<|qX (ff,bH.2.L,bH.2.At) hm
  rintro⟨rE,rF,adT⟩ hm
  rw[hJ2]at hm
  exact qGs [] [12] [(12,i6 (w64 (i_1-1)))]<|qX (w64 (i_1-1),rF,adT,rE) hm
 refine qF c2<|A.exit ?_
 obtain⟨jY,h18,hm⟩:=af hm
 refine qD [(1,hdc [] (cG h18) qy)] [5,12,73] [(15,.bool (decide (jY.1=0)))] [900000115] [(900000115,.cells 115 (k6 jY.2))]<|A.seq<|qDs [(1,hno 4 1 fu.enc ff wQ)] [] [(99,i6 (ff.length:Int)),(100,i6 0)]<|A.block ?_
 obtain⟨hh5,hm⟩:=fI hm
 obtain⟨B5,K5,hB5,hK5,hm⟩:=pR hm
 refine A.lpN (hi:=(ff.length:Int)) (B:=B5) (K:=K5) hm rfl (λj5=>λ(aaj,aak,aal)=>[(0,.ptr 900000115 0),(4,.ptr 10004 0),(6,.ptr 10006 0),(9,.own 10040),(15,.bool (decide (jY.1=0))),(99,i6 (ff.length:Int)),(100,i6 (j5:Int))]) (λj5=>λ(aaj,aak,aal)=>[(900000115,.cells 115 [lf aA aak,i6 aal]),(10004,.cells 28 [.aQ,.aQ]),(10006,.cells 28 [.own 701000600,.own 701000601]),(701000600,.slice 42 2 (ml aJ m_1) 0 false),(10040,.dw 118 450010040 ai.1.toNat none),(450010040,.bun (encS 4 1 fu.enc ff)),(701000601,.slice 89 5 (ml aV aaj) 0 false)]) ?_ ?_ ?_
 ·exact bx.go [.ac 10006 701000601 89 5 1] [] (by kernel_rfl)
 ·rintro j5 Z5 ⟨aaj,aak,aal⟩ hj5 hx5 hm
  rw[hB5]at hm
  refine qDs [] [] [(101,.bool (decide ((j5:Int)<(ff.length:Int))))]<|A.seq<|A.cT rfl (decide_eq_true hx5)<|A.skip<|A.seq<|A.block<|qDs [] [101] [(16,i6 (j5:Int))]<|qDs [(1,hno 4 1 fu.enc ff wQ)] [] [(104,i6 (ff.length:Int)),(105,i6 0)]<|A.block ?_
  obtain⟨hh6,hm⟩:=fI hm
  obtain⟨B6,K6,hB6,hK6,hm⟩:=pR hm
  refine A.lpN (hi:=(ff.length:Int)) (B:=B6) (K:=K6) hm rfl (λj6=>λ(tO,vX,vY)=>[(0,.ptr 900000115 0),(4,.ptr 10004 0),(6,.ptr 10006 0),(9,.own 10040),(15,.bool (decide (jY.1=0))),(16,i6 (j5:Int)),(99,i6 (ff.length:Int)),(100,i6 (j5:Int)),(104,i6 (ff.length:Int)),(105,i6 (j6:Int))]) (λj6=>λ(tO,vX,vY)=>[(900000115,.cells 115 [lf aA vX,i6 vY]),(10004,.cells 28 [.aQ,.aQ]),(10006,.cells 28 [.own 701000600,.own 701000601]),(701000600,.slice 42 2 (ml aJ m_1) 0 false),(10040,.dw 118 450010040 ai.1.toNat none),(450010040,.bun (encS 4 1 fu.enc ff)),(701000601,.slice 89 5 (ml aV tO) 0 false)]) ?_ ?_ ?_
  ·exact qW
  ·rintro j6 Z6 ⟨tO,vX,vY⟩ hj6 hx6 hm
   rw[hB6]at hm
   refine qDs [] [] [(106,.bool (decide ((j6:Int)<(ff.length:Int))))]<|A.seq<|A.cT rfl (decide_eq_true hx6)<|A.skip ?_
   obtain⟨J3,hJ3,hm⟩:=cw hm
   refine A.J (J:=J3) (r:=r) (λ(adU,adV,adW)=>[(0,.ptr 900000115 0),(4,.ptr 10004 0),(6,.ptr 10006 0),(9,.own 10040),(15,.bool (decide (jY.1=0))),(16,i6 (j5:Int)),(99,i6 (ff.length:Int)),(100,i6 (j5:Int)),(104,i6 (ff.length:Int)),(105,i6 (j6:Int))]) (λ(adU,adV,adW)=>[(900000115,.cells 115 [lf aA adU,i6 adV]),(10004,.cells 28 [.aQ,.aQ]),(10006,.cells 28 [.own 701000600,.own 701000601]),(701000600,.slice 42 2 (ml aJ m_1) 0 false),(10040,.dw 118 450010040 ai.1.toNat none),(450010040,.bun (encS 4 1 fu.enc ff)),(701000601,.slice 89 5 (ml aV adW) 0 false)]) ?_ ?_
   ·refine A.block<|qDs [] [106] [(17,i6 (j6:Int))] ?_
    refine A.seq ?_
    obtain⟨e_6,h19,hm⟩:=af hm
    obtain⟨e_7,h20,hm⟩:=af hm
    refine qD [(2,hio 4 1 fu.enc wQ h19),(3,hlS 4 1 530010009 530010008 fu.enc acR h19),(5,hix (ix fu h20)),(6,hlo 530010008 0 (ix fu h20))] [] [(115,.bool (!e_7))] [10040,450010040] [(10040,.dw 118 530010009 ai.1.toNat (some (some (j5:Int).toNat,530010008))),(530010009,.bun (encS 4 1 fu.enc (List.set ff (j5:Int).toNat []))),(530010008,.slice 4 1 (ml fu e_6) 0 false)]<|A.weak ((bx.atg (d:=10040) (e:=530010009) (e2:=530010010) (t:=530010008) ff fu.enc h19 rfl rfl rfl rfl rfl rfl rfl)) ?_
    rcases ak hm with⟨c4,hm⟩|⟨c4,hm⟩
    ·exact qT c4<|A.exit<|Exists.intro (vX,vY,tO) (And.intro hm (bx.go [.rn 530010010 450010040] [] (by kernel_rfl)))
    refine qF c4<|A.skip ?_
    obtain⟨e_8,h21,hm⟩:=af hm
    obtain⟨e_9,h22,hm⟩:=af hm
    obtain⟨qH,h23,hm⟩:=af hm
    refine qS [(3,hix (ix aJ h21)),(5,hlo 701000600 0 (ix aJ h21)),(9,hix (ix aJ h22)),(11,hlo 701000600 0 (ix aJ h22)),(14,hdc [] (iS h23) aiC),(16,.al 10018)] [(0,.ptr 900000115 0),(4,.ptr 10004 0),(6,.ptr 10006 0),(9,.own 10040),(15,.bool (decide (jY.1=0))),(16,i6 (j5:Int)),(99,i6 (ff.length:Int)),(100,i6 (j5:Int)),(104,i6 (ff.length:Int)),(105,i6 (j6:Int)),(18,.ptr 10018 0)] [(900000115,.cells 115 (k6 qH.2)),(10004,.cells 28 [.aQ,.aQ]),(10006,.cells 28 [.own 701000600,.own 701000601]),(701000600,.slice 42 2 (ml aJ m_1) 0 false),(10040,.dw 118 530010010 ai.1.toNat none),(530010010,.bun (encS 4 1 fu.enc ff)),(701000601,.slice 89 5 (ml aV tO) 0 false),(10018,.cells 89 [i6 e_8.ID,i6 e_9.ID,i6 1,i6 1,i6 qH.1])] ?_
    obtain⟨J4,hJ4,hm⟩:=cw hm
    refine A.J (J:=J4) (r:=r) (λ(adX,adY,agb,agc)=>[(0,.ptr 900000115 0),(4,.ptr 10004 0),(6,.ptr 10006 0),(9,.own 10040),(15,.bool (decide (jY.1=0))),(16,i6 (j5:Int)),(18,.ptr 10018 0),(99,i6 (ff.length:Int)),(100,i6 (j5:Int)),(104,i6 (ff.length:Int)),(105,i6 (j6:Int))]) (λ(adX,adY,agb,agc)=>[(900000115,.cells 115 [lf aA adX,i6 adY]),(10004,.cells 28 [.aQ,.aQ]),(10006,.cells 28 [.own 701000600,.own 701000601]),(701000600,.slice 42 2 (ml aJ m_1) 0 false),(10040,.dw 118 530010010 ai.1.toNat none),(530010010,.bun (encS 4 1 fu.enc ff)),(701000601,.slice 89 5 (ml aV tO) 0 false),(10018,.cells 89 [i6 e_8.ID,i6 e_9.ID,i6 agb,i6 agc,i6 qH.1])]) ?_ ?_
    ·refine qDs [] [] [(133,.bool (!(decide (jY.1=0))))] ?_
     rcases ak hm with⟨c5,hm⟩|⟨c5,hm⟩
     ·refine qT c5 ?_
      obtain⟨uf,h24,hm⟩:=af hm
      obtain⟨pH,h25,hm⟩:=af hm
      refine qD [(2,hdc [] (lD h24) alL),(4,hdc [] (iS h25) aiC)] [133] [] [900000115,10018] [(900000115,.cells 115 (k6 pH.2)),(10018,.cells 89 [i6 e_8.ID,i6 e_9.ID,i6 pH.1,i6 1,i6 qH.1])] ?_
      obtain⟨aa5,h26,hm⟩:=af hm
      obtain⟨qn,h27,hm⟩:=af hm
      exact qG [(6,hdc [] (lD h26) alL),(8,hdc [] (iS h27) aiC)] [] [] [900000115,10018] [(900000115,.cells 115 (k6 qn.2)),(10018,.cells 89 [i6 e_8.ID,i6 e_9.ID,i6 pH.1,i6 qn.1,i6 qH.1])]<|qX (qn.2.L,qn.2.At,pH.1,qn.1) hm
     exact qF c5<|A.skip<|qX (qH.2.L,qH.2.At,(1:Int),(1:Int)) hm
    rintro⟨adX,adY,agb,agc⟩ hm
    rw[hJ4]at hm
    obtain⟨l_4,h28,hm⟩:=af hm
    exact qG [(4,hap 10654 (ap aV (bytes:=40) (by decide) h28))] [18] [] [10006,701000601,10018] [(10006,.cells 28 [.own 701000600,.own 10654]),(10654,.slice 89 5 (ml aV l_4) 0 false)]<|Exists.intro (adX,adY,l_4) (And.intro hm (bx.go [.sw 10654 701000601,.rn 530010010 450010040] [] (by kernel_rfl)))
   rintro⟨adU,adV,adW⟩ hm
   rw[hJ3]at hm
   exact qGs [(0,hto (abX (by omega) hx6 (of_decide_eq_true hh6)))] [105] [(105,i6 (j6+1:Int))]<|qX (adW,adU,adV) hm
  rintro j6 ⟨tO,vX,vY⟩ hj6 hl6 hm
  rw[hK6]at hm
  exact qDs [] [] [(106,.bool (decide ((j6:Int)<(ff.length:Int))))]<|A.seq<|A.cF rfl (geF hl6)<|A.exit<|qGs [(0,hto (abX (by omega) hx5 (of_decide_eq_true hh5)))] [16,100,104,105,106] [(100,i6 (j5+1:Int))]<|qX (tO,vX,vY) hm
 rintro j5 ⟨aaj,aak,aal⟩ hj5 hl5 hm
 rw[hK5]at hm
 refine qDs [] [] [(101,.bool (decide ((j5:Int)<(ff.length:Int))))]<|A.seq<|A.cF rfl (geF hl5)<|A.exit<|qD [] [0,6,9,15,99,100,101] [] [10004,10006,10040,450010040] [(10004,.cells 28 [.own 701000600,.own 701000601])]<|A.ret ?_
 obtain rfl:=some_inj hm
 exact A.fin W0 [.fz [701000600,701000601]] rfl (by kernel_rfl)
theorem agd{l:List aN}{ha1:aN}{r:(List aN)}(hm:uu l ha1=some r):RO prog 26 [] [lf bz l,.agg (k3 ha1)] (lf bz r):=by
 refine bh func26 rfl rfl ?_
 unfold uu at hm
 refine qS [(0,.al 26003)] [(0,lf bz l),(3,.ptr 26003 0)] [(26003,.cells 67 (k3 ha1))]<|qDs [] [] [(5,i6 0)]<|A.seq<|A.block ?_
 obtain⟨F1,n1,hF1,hm⟩:=jA hm
 refine A.lpW (F:=F1) hm (λk_1=>[(0,lf bz l),(3,.ptr 26003 0),(5,i6 k_1)]) (λk_1=>[(26003,.cells 67 (k3 ha1))]) ?_ ?_
 ·exact qW
 rintro Z1 k_1 hm
 rw[hF1]at hm
 refine A.seq ?_
 obtain⟨J1,hJ1,hm⟩:=cw hm
 refine A.J (J:=J1) (r:=r) (λv_1=>[(0,lf bz l),(3,.ptr 26003 0),(5,i6 k_1),(40,.bool v_1)]) (λv_1=>[(26003,.cells 67 (k3 ha1))]) ?_ ?_
 ·rcases ak hm with⟨c1,hm⟩|⟨c1,hm⟩
  ·obtain⟨e_1,h1,hm⟩:=af hm
   rcases ak hm with⟨c2,hm⟩|⟨c2,hm⟩
   ·exact qGs [(2,hto (lnE bz l)),(4,hto (bE c1)),(7,hix (ix bz h1)),(13,hto (bE c2))] [] [(40,.bool true)]<|qX true hm
   rcases ak hm with⟨c3,hm⟩|⟨c3,hm⟩
   ·exact qGs [(2,hto (lnE bz l)),(4,hto (bE c1)),(7,hix (ix bz h1)),(13,hto (bE c2)),(16,hix (ix bz h1)),(22,hto (bE c3)),(25,hix (ix bz h1))] [] [(40,.bool (decide (e_1.To<ha1.To)))]<|qX (decide (e_1.To<ha1.To)) hm
   exact qGs [(2,hto (lnE bz l)),(4,hto (bE c1)),(7,hix (ix bz h1)),(13,hto (bE c2)),(16,hix (ix bz h1)),(22,hto (bE c3))] [] [(40,.bool false)]<|qX false hm
  exact qGs [(2,hto (lnE bz l)),(4,hto (bE c1))] [] [(40,.bool false)]<|qX false hm
 rintro v_1 hm
 rw[hJ1]at hm
 rcases ak hm with⟨c4,hm⟩|⟨c4,hm⟩
 ·exact qT c4<|A.skip<|A.block<|qGs [] [5,40] [(5,i6 (w64 (k_1+1)))]<|qX (w64 (k_1+1)) hm
 refine qF c4<|A.exit ?_
 obtain⟨l_1,h2,hm⟩:=af hm
 obtain⟨l_2,h3,hm⟩:=af hm
 refine qD [(1,.al 26044),(4,hsl (adN bz h2)),(5,hap 26548 (ap bz (bytes:=16) (by decide) h3))] [3,40] [(6,.own 26548)] [26003] [(26548,.slice 67 2 (ml bz l_2) 0 false)] ?_
 obtain⟨l_3,h4,hm⟩:=af hm
 obtain⟨l_4,h5,hm⟩:=af hm
 refine A.RS W0 [.fz [26548]] [(3,hs3 (sl bz h4)),(5,atu 26554 amP (ap bz (bytes:=16) (by decide) h5) (atr bz h3 (Nat.succ_pos _)))] [(4,.own 26554)] [(26554,.slice 67 2 (ml bz l_4) 0 false)] (by kernel_rfl)<|A.ret ?_
 obtain rfl:=some_inj hm
 exact A.fin W0 [.fz [26554]] rfl (by kernel_rfl)
theorem aff{t:bM}{p:aa}{root:Int}{r:dz×bM}(hm:sY t p root=some r):dA prog 21 [(900000115,.cells 115 (k6 t))] [.ptr 900000115 0,.agg (k2 p),i6 root] (λa σ'=>a=.agg (k8 r.1)∧σ'=[(900000115,.cells 115 (k6 r.2))]):=by
 refine bh func21 rfl rfl ?_
 unfold sY at hm
 refine qS [(0,.al 21004),(1,.al 21006)] [(0,.ptr 900000115 0),(2,i6 root),(4,.ptr 21004 0),(6,.ptr 21006 0)] [(900000115,.cells 115 (k6 t)),(21004,.cells 28 (k2 p)),(21006,.cells 63 [i6 0,.aQ])]<|qD [(2,.al 21007)] [] [(7,.ptr 21007 0)] [] [(21007,.cells 63 [i6 root,.aQ])]<|qD [(1,.al 21015)] [2] [(8,.own 21015)] [] [(21015,.slice 3 1 (ml aA ([root]:List Int)) 0 false)]<|A.seq ?_
 obtain⟨ai,h1,hm⟩:=af hm
 refine qD [(3,hto (lnE aV p.Links)),(6,hdc [] (cG h1) qy)] [] [(9,i6 ai.1)] [900000115] [(900000115,.cells 115 (k6 ai.2))]<|A.block ?_
 obtain⟨F1,n1,hF1,hm⟩:=jA hm
 refine A.lpW (F:=F1) hm (λ(ry,i_1,m_1,m_2,m_3)=>[(0,.ptr 900000115 0),(4,.ptr 21004 0),(6,.ptr 21006 0),(7,.ptr 21007 0),(8,.own 600021008),(9,i6 i_1)]) (λ(ry,i_1,m_1,m_2,m_3)=>[(900000115,.cells 115 [lf aA m_2,i6 m_3]),(21004,.cells 28 (k2 p)),(21006,.cells 63 [i6 0,.aQ]),(21007,.cells 63 [i6 root,lf bz m_1]),(600021008,.slice 3 1 (ml aA ry) 0 false)]) ?_ ?_
 ·exact bx.go [.sw 21015 600021008,.sc 21007 [900000115,21004,21006,21007,600021008]] [] (by kernel_rfl)
 rintro Z1 ⟨ry,i_1,m_1,m_2,m_3⟩ hm
 rw[hF1]at hm
 refine A.seq<|qDs [] [] [(24,.bool (decide (0<i_1)))] ?_
 rcases ak hm with⟨c1,hm⟩|⟨c1,hm⟩
 ·refine qT c1<|A.skip ?_
  obtain⟨J1,hJ1,hm⟩:=cw hm
  refine A.J (J:=J1) (r:=r) (λ(aa6,m_4,m_5,m_6)=>[(0,.ptr 900000115 0),(4,.ptr 21004 0),(6,.ptr 21006 0),(7,.ptr 21007 0),(8,.own 600021008),(9,i6 i_1)]) (λ(aa6,m_4,m_5,m_6)=>[(900000115,.cells 115 [lf aA m_4,i6 m_5]),(21004,.cells 28 (k2 p)),(21006,.cells 63 [i6 0,.aQ]),(21007,.cells 63 [i6 root,lf bz m_6]),(600021008,.slice 3 1 (ml aA aa6) 0 false)]) ?_ ?_
  ·refine A.block ?_
   obtain⟨aI,h2,hm⟩:=af hm
   obtain⟨e_1,h3,hm⟩:=af hm
   refine qD [(5,hto (lnE aV p.Links)),(6,hdc [] (cG h2) qy),(7,hix (ix aV h3)),(9,.al 21010)] [24] [(10,.ptr 21010 0)] [900000115] [(900000115,.cells 115 (k6 aI.2)),(21010,.cells 89 (k1 e_1))]<|qD [(5,.al 21011)] [] [(11,.ptr 21011 0)] [] [(21011,.cells 67 [i6 e_1.A,i6 e_1.B])] ?_
   obtain⟨J2,hJ2,hm⟩:=cw hm
   refine A.J (J:=J2) (r:=r) (λ(m_7,m_8)=>[(0,.ptr 900000115 0),(4,.ptr 21004 0),(6,.ptr 21006 0),(7,.ptr 21007 0),(8,.own 600021008),(9,i6 i_1),(11,.ptr 21011 0)]) (λ(m_7,m_8)=>[(900000115,.cells 115 (k6 aI.2)),(21004,.cells 28 (k2 p)),(21006,.cells 63 [i6 0,.aQ]),(21007,.cells 63 [i6 root,lf bz m_1]),(600021008,.slice 3 1 (ml aA ry) 0 false),(21011,.cells 67 [i6 m_7,i6 m_8])]) ?_ ?_
   ·obtain⟨bf,h4,hm⟩:=af hm
    refine qDs [(3,hle [600021008] (eZ h4) xC)] [] [(44,.bool bf)] ?_
    rcases ak hm with⟨c2,hm⟩|⟨c2,hm⟩
    ·exact qT c2<|qG [] [10,44] [] [21010,21011] [(21011,.cells 67 [i6 e_1.B,i6 e_1.A])]<|qX (e_1.B,e_1.A) hm
    exact qF c2<|A.skip<|qX (e_1.A,e_1.B) hm
   rintro⟨m_7,m_8⟩ hm
   rw[hJ2]at hm
   obtain⟨J3,hJ3,hm⟩:=cw hm
   refine A.J (J:=J3) (r:=r) (λv_1=>[(0,.ptr 900000115 0),(4,.ptr 21004 0),(6,.ptr 21006 0),(7,.ptr 21007 0),(8,.own 600021008),(9,i6 i_1),(11,.ptr 21011 0),(60,.bool v_1)]) (λv_1=>[(900000115,.cells 115 (k6 aI.2)),(21004,.cells 28 (k2 p)),(21006,.cells 63 [i6 0,.aQ]),(21007,.cells 63 [i6 root,lf bz m_1]),(600021008,.slice 3 1 (ml aA ry) 0 false),(21011,.cells 67 [i6 m_7,i6 m_8])]) ?_ ?_
   ·obtain⟨bB,h5,hm⟩:=af hm
    rcases ak hm with⟨c3,hm⟩|⟨c3,hm⟩
    ·obtain⟨bD,h6,hm⟩:=af hm
     exact qGs [(3,hle [600021008] (eZ h5) xC),(4,hto (bE c3)),(8,hle [600021008] (eZ h6) xC)] [] [(60,.bool (!bD))]<|qX (!bD) hm
    exact qGs [(3,hle [600021008] (eZ h5) xC),(4,hto (bE c3))] [] [(60,.bool false)]<|qX false hm
   rintro v_1 hm
   rw[hJ3]at hm
   rcases ak hm with⟨c4,hm⟩|⟨c4,hm⟩
   ·refine qT c4 ?_
    obtain⟨l_1,h7,hm⟩:=af hm
    refine qD [(4,hap 21565 (ap aA (bytes:=8) (by decide) h7))] [8,60] [(8,.own 21565)] [600021008] [(21565,.slice 3 1 (ml aA l_1) 0 false)] ?_
    obtain⟨cW,h8,hm⟩:=af hm
    exact qG [(3,hro (agd h8) ck26)] [11] [] [21007,21011] [(21007,.cells 63 [i6 root,lf bz cW])]<|Exists.intro (l_1,aI.2.L,aI.2.At,cW) (And.intro hm (bx.go [.sw 21565 600021008] [] (by kernel_rfl)))
   exact qF c4<|A.skip<|qX (ry,aI.2.L,aI.2.At,m_1) hm
  rintro⟨aa6,m_4,m_5,m_6⟩ hm
  rw[hJ1]at hm
  exact qGs [] [9] [(9,i6 (w64 (i_1-1)))]<|qX (aa6,w64 (i_1-1),m_6,m_4,m_5) hm
 refine qF c1<|A.exit<|qD [] [0,4,7,8,9,24] [] [21004,21006,21007,600021008] [(21006,.cells 63 [i6 root,lf bz m_1])] ?_
 cases hm
 exact A.ret qE
end Go.Proofs.YtdjeacigeegklaaGreat
