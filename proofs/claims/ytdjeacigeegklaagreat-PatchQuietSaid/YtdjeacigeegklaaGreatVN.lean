/- The iJ of ez of the program. No condition but bK bn stand in each. -/
import Derived.Test.YtdjeacigeegklaaGreatVX
namespace Go.Proofs.YtdjeacigeegklaaGreat
open Go Go.Proofs.Tryz
set_option maxRecDepth 100000
set_option linter.all false
theorem abk{t:bL}{most:Int}{r:aa×bL}(hm:ow t most=some r):dN prog 10 [(900000115,.cells 115 (k6 t))] [.ptr 900000115 0,i6 most] (λa σ'=>a=.agg (k2 r.1)∧σ'=[(900000115,.cells 115 (k6 r.2))]):=by
 refine aY func10 rfl rfl ?_
 unfold ow at hm
 refine qS [(0,.al 10004)] [(0,.ptr 900000115 0),(1,i6 most),(4,.ptr 10004 0)] [(900000115,.cells 115 (k6 t)),(10004,.cells 28 [.aO,.aO])] ?_
 obtain⟨ai,h1,hm⟩:=af hm
 refine qD [(2,hdc [] (lF h1) alA)] [1] [(5,i6 ai.1)] [900000115] [(900000115,.cells 115 (k6 ai.2))]<|qD [(0,.al 10006)] [] [(6,.ptr 10006 0)] [] [(10006,.cells 28 [.aO,.aO])]<|qDs [] [] [(7,i6 0)]<|A.seq<|qDs [] [] [(8,i6 0)]<|A.block ?_
 obtain⟨hh1,hm⟩:=eE hm
 obtain⟨B1,K1,hB1,hK1,hm⟩:=oJ hm
 refine A.lpN (hi:=ai.1) (B:=B1) (K:=K1) hm rfl (λj1=>λ(xE,m_1,m_2,m_3)=>[(0,.ptr 900000115 0),(4,.ptr 10004 0),(5,i6 ai.1),(6,.ptr 10006 0),(7,i6 xE),(8,i6 (j1:Int))]) (λj1=>λ(xE,m_1,m_2,m_3)=>[(900000115,.cells 115 [lf aA m_2,i6 m_3]),(10004,.cells 28 [.aO,.aO]),(10006,.cells 28 [.own 701000600,.aO]),(701000600,.slice 42 2 (ml aI m_1) 0 false)]) ?_ ?_ ?_
 ·exact bt.go [.ac 10006 701000600 42 2 0] [] (by kernel_rfl)
 ·rintro j1 Z1 ⟨xE,m_1,m_2,m_3⟩ hj1 hx1 hm
  rw[hB1]at hm
  refine A.seq<|qDs [] [] [(24,.bool (decide ((j1:Int)<ai.1)))] ?_
  refine A.cT rfl (decide_eq_true hx1)<|A.skip<|A.seq<|A.block ?_
  obtain⟨aD,h2,hm⟩:=af hm
  refine qD [(3,hdc [] (iY h2) aih)] [7,24] [(7,i6 (w64 (xE+aD.1)))] [900000115] [(900000115,.cells 115 (k6 aD.2))] ?_
  obtain⟨l_1,h3,hm⟩:=af hm
  exact qG [(5,hap 10537 (ap aI (bytes:=16) (by decide) h3))] [] [] [10006,701000600] [(10006,.cells 28 [.own 10537,.aO]),(10537,.slice 42 2 (ml aI l_1) 0 false)]<|qGs [(1,hto (zT (by omega) hx1 (of_decide_eq_true hh1)))] [8] [(8,i6 (j1+1:Int))]<|Exists.intro (w64 (xE+aD.1),l_1,aD.2.L,aD.2.At) (And.intro hm (bt.go [.sw 10537 701000600] [] (by kernel_rfl)))
 rintro j1 ⟨xE,m_1,m_2,m_3⟩ hj1 hl1 hm
 rw[hK1]at hm
 refine A.seq<|qDs [] [] [(24,.bool (decide ((j1:Int)<ai.1)))] ?_
 refine A.cF rfl (geF hl1)<|A.exit ?_
 obtain⟨h4,hm⟩:=eE hm
 refine qD [(1,hmr 10040 ai.1 aiY aiZ h4 (by decide))] [7,8,24] [(9,.own 10040)] [] [(10040,.slice 118 1 (List.replicate ai.1.toNat [.aO]) 0 false)]<|A.weak ((bt.atc (d:=10040) (e:=450010040) 4 1 fB.enc (awQ h4) rfl rfl rfl rfl rfl))<|A.seq<|qS [(1,hno 4 1 fB.enc (List.replicate ai.1.toNat []:List (List Bool)) wT)] [(0,.ptr 900000115 0),(4,.ptr 10004 0),(5,i6 ai.1),(6,.ptr 10006 0),(9,.own 10040),(42,i6 ((List.replicate ai.1.toNat []:List (List Bool)).length:Int)),(43,i6 0)] [(900000115,.cells 115 [lf aA m_2,i6 m_3]),(10004,.cells 28 [.aO,.aO]),(10006,.cells 28 [.own 701000600,.aO]),(701000600,.slice 42 2 (ml aI m_1) 0 false),(10040,.dF 118 450010040 ai.1.toNat none),(450010040,.bun (encS 4 1 fB.enc (List.replicate ai.1.toNat []:List (List Bool))))]<|A.block ?_
 obtain⟨hh2,hm⟩:=eE hm
 obtain⟨B2,K2,hB2,hK2,hm⟩:=oJ hm
 refine A.lpN (hi:=((List.replicate ai.1.toNat []:List (List Bool)).length:Int)) (B:=B2) (K:=K2) hm rfl (λj2=>λm_4=>[(0,.ptr 900000115 0),(4,.ptr 10004 0),(5,i6 ai.1),(6,.ptr 10006 0),(9,.own 10040),(42,i6 ((List.replicate ai.1.toNat []:List (List Bool)).length:Int)),(43,i6 (j2:Int))]) (λj2=>λm_4=>[(900000115,.cells 115 [lf aA m_2,i6 m_3]),(10004,.cells 28 [.aO,.aO]),(10006,.cells 28 [.own 701000600,.aO]),(701000600,.slice 42 2 (ml aI m_1) 0 false),(10040,.dF 118 450010040 ai.1.toNat none),(450010040,.bun (encS 4 1 fB.enc m_4))]) ?_ ?_ ?_
 ·exact qW
 ·rintro j2 Z2 m_4 hj2 hx2 hm
  rw[hB2]at hm
  refine qDs [] [] [(44,.bool (decide ((j2:Int)<((List.replicate ai.1.toNat []:List (List Bool)).length:Int))))]<|A.seq<|A.cT rfl (decide_eq_true hx2)<|A.skip<|A.seq<|A.block<|qDs [] [44] [(10,i6 (j2:Int))] ?_
  obtain⟨h5,hm⟩:=eE hm
  obtain⟨e_1,h6,hm⟩:=af hm
  exact qG [(3,hms (a:=.bool false) 10049 false fB.enc ai.1 ai0 ai1 rfl (λI=>by simp[aL]) h5 (by decide)),(4,hio 4 1 fB.enc wT h6),(5,hsS 4 1 530010001 fB.enc (List.replicate (ai.1).toNat false) acN h6)] [10] [] [10040,450010040] [(10040,.dF 118 530010001 ai.1.toNat none),(530010001,.bun (encS 4 1 fB.enc (List.set m_4 (j2:Int).toNat (List.replicate (ai.1).toNat false))))]<|qGs [(0,hto (zT (by omega) hx2 (of_decide_eq_true hh2)))] [43] [(43,i6 (j2+1:Int))]<|Exists.intro (List.set m_4 (j2:Int).toNat (List.replicate (ai.1).toNat false)) (And.intro hm (bt.go [.rn 530010001 450010040] [] (by kernel_rfl)))
 rintro j2 m_4 hj2 hl2 hm
 rw[hK2]at hm
 refine qDs [] [] [(44,.bool (decide ((j2:Int)<((List.replicate ai.1.toNat []:List (List Bool)).length:Int))))]<|A.seq<|A.cF rfl (geF hl2)<|A.exit<|A.seq<|qDs [] [42,43,44] [(11,i6 1)]<|A.block ?_
 obtain⟨hh3,hm⟩:=eE hm
 obtain⟨B3,K3,hB3,hK3,hm⟩:=oJ hm
 refine A.lpN (hi:=ai.1) (B:=B3) (K:=K3) hm rfl (λj3=>λ(m_5,m_6,m_7)=>[(0,.ptr 900000115 0),(4,.ptr 10004 0),(5,i6 ai.1),(6,.ptr 10006 0),(9,.own 10040),(11,i6 (j3:Int))]) (λj3=>λ(m_5,m_6,m_7)=>[(900000115,.cells 115 [lf aA m_5,i6 m_6]),(10004,.cells 28 [.aO,.aO]),(10006,.cells 28 [.own 701000600,.aO]),(701000600,.slice 42 2 (ml aI m_1) 0 false),(10040,.dF 118 450010040 ai.1.toNat none),(450010040,.bun (encS 4 1 fB.enc m_7))]) ?_ ?_ ?_
 ·exact qW
 ·rintro j3 Z3 ⟨m_5,m_6,m_7⟩ hj3 hx3 hm
  rw[hB3]at hm
  refine A.seq<|qDs [] [] [(54,.bool (decide ((j3:Int)<ai.1)))] ?_
  refine A.cT rfl (decide_eq_true hx3)<|A.skip ?_
  obtain⟨J1,hJ1,hm⟩:=bZ hm
  refine A.J (J:=J1) (r:=r) (λ(m_8,m_9,mY)=>[(0,.ptr 900000115 0),(4,.ptr 10004 0),(5,i6 ai.1),(6,.ptr 10006 0),(9,.own 10040),(11,i6 (j3:Int))]) (λ(m_8,m_9,mY)=>[(900000115,.cells 115 [lf aA m_9,i6 mY]),(10004,.cells 28 [.aO,.aO]),(10006,.cells 28 [.own 701000600,.aO]),(701000600,.slice 42 2 (ml aI m_1) 0 false),(10040,.dF 118 450010040 ai.1.toNat none),(450010040,.bun (encS 4 1 fB.enc m_8))]) ?_ ?_
  ·refine A.block ?_
   obtain⟨aX,h7,hm⟩:=af hm
   refine qD [(1,hdc [] (cN h7) qB)] [54] [(59,.bool (decide (aX.1<11)))] [900000115] [(900000115,.cells 115 (k6 aX.2))] ?_
   rcases ak hm with⟨c1,hm⟩|⟨c1,hm⟩
   ·refine qT c1 ?_
    obtain⟨bu,h8,hm⟩:=af hm
    obtain⟨e_2,h9,hm⟩:=af hm
    obtain⟨e_3,h10,hm⟩:=af hm
    obtain⟨l_2,h11,hm⟩:=af hm
    refine A.late (A.R W0 [] [(3,hdc [] (cN h8) qB),(4,hio 4 1 fB.enc wT h9),(5,hlS 4 1 530010003 530010002 fB.enc acN h9),(7,hix (ix fB h10)),(8,hso 530010002 (st fB (off:=0) (ca:=[.bool true]) h10 h11 rfl) (tU h10).1.1)] [(0,.ptr 900000115 0),(4,.ptr 10004 0),(5,i6 ai.1),(6,.ptr 10006 0),(9,.own 10040),(11,i6 (j3:Int))] [(900000115,.cells 115 (k6 bu.2)),(10004,.cells 28 [.aO,.aO]),(10006,.cells 28 [.own 701000600,.aO]),(701000600,.slice 42 2 (ml aI m_1) 0 false),(10040,.dF 118 530010003 ai.1.toNat (some (some bu.1.toNat,530010002))),(530010003,.bun (encS 4 1 fB.enc (List.set m_7 bu.1.toNat []))),(530010002,.slice 4 1 (ml fB l_2) 0 false)] (by kernel_rfl) ?_)
    refine⟨_,_,(bt.aid (d:=10040) (e:=530010003) (e2:=530010004) (t:=530010002) m_7 fB.enc l_2 rfl rfl rfl rfl rfl rfl rfl),?_⟩
    exact Exists.intro ((List.set m_7 bu.1.toNat l_2),bu.2.L,bu.2.At) (And.intro hm (bt.go [.rn 530010004 450010040] [] (by kernel_rfl)))
   exact qF c1<|A.skip<|qX (m_7,aX.2.L,aX.2.At) hm
  rintro⟨m_8,m_9,mY⟩ hm
  rw[hJ1]at hm
  exact qGs [(1,hto (zT (by omega) hx3 (of_decide_eq_true hh3)))] [11] [(11,i6 (j3+1:Int))]<|qX (m_9,mY,m_8) hm
 rintro j3 ⟨m_5,m_6,m_7⟩ hj3 hl3 hm
 rw[hK3]at hm
 refine A.seq<|qDs [] [] [(54,.bool (decide ((j3:Int)<ai.1)))] ?_
 refine A.cF rfl (geF hl3)<|A.exit<|A.seq ?_
 obtain⟨bz,h12,hm⟩:=af hm
 refine qD [(3,hdc [] (cN h12) qB)] [11,54] [(12,i6 bz.1)] [900000115] [(900000115,.cells 115 (k6 bz.2))]<|A.block ?_
 obtain⟨F4,n4,hF4,hm⟩:=iE hm
 refine A.lpW (F:=F4) hm (λ(i_1,mw,lH,fm)=>[(0,.ptr 900000115 0),(4,.ptr 10004 0),(5,i6 ai.1),(6,.ptr 10006 0),(9,.own 10040),(12,i6 i_1)]) (λ(i_1,mw,lH,fm)=>[(900000115,.cells 115 [lf aA mw,i6 lH]),(10004,.cells 28 [.aO,.aO]),(10006,.cells 28 [.own 701000600,.aO]),(701000600,.slice 42 2 (ml aI m_1) 0 false),(10040,.dF 118 450010040 ai.1.toNat none),(450010040,.bun (encS 4 1 fB.enc fm))]) ?_ ?_
 ·exact qW
 rintro Z4 ⟨i_1,mw,lH,fm⟩ hm
 rw[hF4]at hm
 refine A.seq<|qDs [] [] [(73,.bool (decide (0<i_1)))] ?_
 rcases ak hm with⟨c2,hm⟩|⟨c2,hm⟩
 ·refine qT c2<|A.skip ?_
  obtain⟨J2,hJ2,hm⟩:=bZ hm
  refine A.J (J:=J2) (r:=r) (λ(rJ,rK,adM)=>[(0,.ptr 900000115 0),(4,.ptr 10004 0),(5,i6 ai.1),(6,.ptr 10006 0),(9,.own 10040),(12,i6 i_1)]) (λ(rJ,rK,adM)=>[(900000115,.cells 115 [lf aA rK,i6 adM]),(10004,.cells 28 [.aO,.aO]),(10006,.cells 28 [.own 701000600,.aO]),(701000600,.slice 42 2 (ml aI m_1) 0 false),(10040,.dF 118 450010040 ai.1.toNat none),(450010040,.bun (encS 4 1 fB.enc rJ))]) ?_ ?_
  ·refine A.block ?_
   obtain⟨cw,h13,hm⟩:=af hm
   obtain⟨bN,h14,hm⟩:=af hm
   refine qD [(2,hdc [] (cN h13) qB),(5,hdc [] (cN h14) qB)] [73] [(13,i6 cw.1),(14,i6 bN.1)] [900000115] [(900000115,.cells 115 (k6 bN.2))]<|qDs [] [] [(84,.bool (!decide (cw.1=bN.1)))] ?_
   rcases ak hm with⟨c3,hm⟩|⟨c3,hm⟩
   ·refine qT c3 ?_
    obtain⟨e_4,h15,hm⟩:=af hm
    obtain⟨e_5,h16,hm⟩:=af hm
    obtain⟨l_3,h17,hm⟩:=af hm
    refine A.late (A.R W0 [] [(4,hio 4 1 fB.enc wT h15),(5,hlS 4 1 530010006 530010005 fB.enc acN h15),(9,hix (ix fB h16)),(10,hso 530010005 (st fB (off:=0) (ca:=[.bool true]) h16 h17 rfl) (tU h16).1.1)] [(0,.ptr 900000115 0),(4,.ptr 10004 0),(5,i6 ai.1),(6,.ptr 10006 0),(9,.own 10040),(12,i6 i_1)] [(900000115,.cells 115 (k6 bN.2)),(10004,.cells 28 [.aO,.aO]),(10006,.cells 28 [.own 701000600,.aO]),(701000600,.slice 42 2 (ml aI m_1) 0 false),(10040,.dF 118 530010006 ai.1.toNat (some (some (if bN.1<cw.1 then bN.1 else cw.1).toNat,530010005))),(530010006,.bun (encS 4 1 fB.enc (List.set fm (if bN.1<cw.1 then bN.1 else cw.1).toNat []))),(530010005,.slice 4 1 (ml fB l_3) 0 false)] (by kernel_rfl) ?_)
    refine⟨_,_,(bt.aid (d:=10040) (e:=530010006) (e2:=530010007) (t:=530010005) fm fB.enc l_3 rfl rfl rfl rfl rfl rfl rfl),?_⟩
    exact Exists.intro ((List.set fm (if bN.1<cw.1 then bN.1 else cw.1).toNat l_3),bN.2.L,bN.2.At) (And.intro hm (bt.go [.rn 530010007 450010040] [] (by kernel_rfl)))
   exact qF c3<|A.skip<|qX (fm,bN.2.L,bN.2.At) hm
  rintro⟨rJ,rK,adM⟩ hm
  rw[hJ2]at hm
  exact qGs [] [12] [(12,i6 (w64 (i_1-1)))]<|qX (w64 (i_1-1),rK,adM,rJ) hm
 refine qF c2<|A.exit ?_
 obtain⟨fq,h18,hm⟩:=af hm
 refine qD [(1,hdc [] (cN h18) qB)] [5,12,73] [(15,.bool (decide (fq.1=0)))] [900000115] [(900000115,.cells 115 (k6 fq.2))]<|A.seq<|qDs [(1,hno 4 1 fB.enc fm wT)] [] [(99,i6 (fm.length:Int)),(100,i6 0)]<|A.block ?_
 obtain⟨hh5,hm⟩:=eE hm
 obtain⟨B5,K5,hB5,hK5,hm⟩:=oJ hm
 refine A.lpN (hi:=(fm.length:Int)) (B:=B5) (K:=K5) hm rfl (λj5=>λ(aah,aai,aaj)=>[(0,.ptr 900000115 0),(4,.ptr 10004 0),(6,.ptr 10006 0),(9,.own 10040),(15,.bool (decide (fq.1=0))),(99,i6 (fm.length:Int)),(100,i6 (j5:Int))]) (λj5=>λ(aah,aai,aaj)=>[(900000115,.cells 115 [lf aA aai,i6 aaj]),(10004,.cells 28 [.aO,.aO]),(10006,.cells 28 [.own 701000600,.own 701000601]),(701000600,.slice 42 2 (ml aI m_1) 0 false),(10040,.dF 118 450010040 ai.1.toNat none),(450010040,.bun (encS 4 1 fB.enc fm)),(701000601,.slice 89 5 (ml aT aah) 0 false)]) ?_ ?_ ?_
 ·exact bt.go [.ac 10006 701000601 89 5 1] [] (by kernel_rfl)
 ·rintro j5 Z5 ⟨aah,aai,aaj⟩ hj5 hx5 hm
  rw[hB5]at hm
  refine qDs [] [] [(101,.bool (decide ((j5:Int)<(fm.length:Int))))]<|A.seq<|A.cT rfl (decide_eq_true hx5)<|A.skip<|A.seq<|A.block<|qDs [] [101] [(16,i6 (j5:Int))]<|qDs [(1,hno 4 1 fB.enc fm wT)] [] [(104,i6 (fm.length:Int)),(105,i6 0)]<|A.block ?_
  obtain⟨hh6,hm⟩:=eE hm
  obtain⟨B6,K6,hB6,hK6,hm⟩:=oJ hm
  refine A.lpN (hi:=(fm.length:Int)) (B:=B6) (K:=K6) hm rfl (λj6=>λ(tZ,we,wg)=>[(0,.ptr 900000115 0),(4,.ptr 10004 0),(6,.ptr 10006 0),(9,.own 10040),(15,.bool (decide (fq.1=0))),(16,i6 (j5:Int)),(99,i6 (fm.length:Int)),(100,i6 (j5:Int)),(104,i6 (fm.length:Int)),(105,i6 (j6:Int))]) (λj6=>λ(tZ,we,wg)=>[(900000115,.cells 115 [lf aA we,i6 wg]),(10004,.cells 28 [.aO,.aO]),(10006,.cells 28 [.own 701000600,.own 701000601]),(701000600,.slice 42 2 (ml aI m_1) 0 false),(10040,.dF 118 450010040 ai.1.toNat none),(450010040,.bun (encS 4 1 fB.enc fm)),(701000601,.slice 89 5 (ml aT tZ) 0 false)]) ?_ ?_ ?_
  ·exact qW
  ·rintro j6 Z6 ⟨tZ,we,wg⟩ hj6 hx6 hm
   rw[hB6]at hm
   refine qDs [] [] [(106,.bool (decide ((j6:Int)<(fm.length:Int))))]<|A.seq<|A.cT rfl (decide_eq_true hx6)<|A.skip ?_
   obtain⟨J3,hJ3,hm⟩:=bZ hm
   refine A.J (J:=J3) (r:=r) (λ(adN,adO,adP)=>[(0,.ptr 900000115 0),(4,.ptr 10004 0),(6,.ptr 10006 0),(9,.own 10040),(15,.bool (decide (fq.1=0))),(16,i6 (j5:Int)),(99,i6 (fm.length:Int)),(100,i6 (j5:Int)),(104,i6 (fm.length:Int)),(105,i6 (j6:Int))]) (λ(adN,adO,adP)=>[(900000115,.cells 115 [lf aA adN,i6 adO]),(10004,.cells 28 [.aO,.aO]),(10006,.cells 28 [.own 701000600,.own 701000601]),(701000600,.slice 42 2 (ml aI m_1) 0 false),(10040,.dF 118 450010040 ai.1.toNat none),(450010040,.bun (encS 4 1 fB.enc fm)),(701000601,.slice 89 5 (ml aT adP) 0 false)]) ?_ ?_
   ·refine A.block<|qDs [] [106] [(17,i6 (j6:Int))] ?_
    refine A.seq ?_
    obtain⟨e_6,h19,hm⟩:=af hm
    obtain⟨e_7,h20,hm⟩:=af hm
    refine qD [(2,hio 4 1 fB.enc wT h19),(3,hlS 4 1 530010009 530010008 fB.enc acN h19),(5,hix (ix fB h20)),(6,hlo 530010008 0 (ix fB h20))] [] [(115,.bool (!e_7))] [10040,450010040] [(10040,.dF 118 530010009 ai.1.toNat (some (some (j5:Int).toNat,530010008))),(530010009,.bun (encS 4 1 fB.enc (List.set fm (j5:Int).toNat []))),(530010008,.slice 4 1 (ml fB e_6) 0 false)]<|A.weak ((bt.atd (d:=10040) (e:=530010009) (e2:=530010010) (t:=530010008) fm fB.enc h19 rfl rfl rfl rfl rfl rfl rfl)) ?_
    rcases ak hm with⟨c4,hm⟩|⟨c4,hm⟩
    ·exact qT c4<|A.exit<|Exists.intro (we,wg,tZ) (And.intro hm (bt.go [.rn 530010010 450010040] [] (by kernel_rfl)))
    refine qF c4<|A.skip ?_
    obtain⟨e_8,h21,hm⟩:=af hm
    obtain⟨e_9,h22,hm⟩:=af hm
    obtain⟨lI,h23,hm⟩:=af hm
    refine qS [(3,hix (ix aI h21)),(5,hlo 701000600 0 (ix aI h21)),(9,hix (ix aI h22)),(11,hlo 701000600 0 (ix aI h22)),(14,hdc [] (iY h23) aih),(16,.al 10018)] [(0,.ptr 900000115 0),(4,.ptr 10004 0),(6,.ptr 10006 0),(9,.own 10040),(15,.bool (decide (fq.1=0))),(16,i6 (j5:Int)),(99,i6 (fm.length:Int)),(100,i6 (j5:Int)),(104,i6 (fm.length:Int)),(105,i6 (j6:Int)),(18,.ptr 10018 0)] [(900000115,.cells 115 (k6 lI.2)),(10004,.cells 28 [.aO,.aO]),(10006,.cells 28 [.own 701000600,.own 701000601]),(701000600,.slice 42 2 (ml aI m_1) 0 false),(10040,.dF 118 530010010 ai.1.toNat none),(530010010,.bun (encS 4 1 fB.enc fm)),(701000601,.slice 89 5 (ml aT tZ) 0 false),(10018,.cells 89 [i6 e_8.ID,i6 e_9.ID,i6 1,i6 1,i6 lI.1])] ?_
    obtain⟨J4,hJ4,hm⟩:=bZ hm
    refine A.J (J:=J4) (r:=r) (λ(adQ,adR,afY,afZ)=>[(0,.ptr 900000115 0),(4,.ptr 10004 0),(6,.ptr 10006 0),(9,.own 10040),(15,.bool (decide (fq.1=0))),(16,i6 (j5:Int)),(18,.ptr 10018 0),(99,i6 (fm.length:Int)),(100,i6 (j5:Int)),(104,i6 (fm.length:Int)),(105,i6 (j6:Int))]) (λ(adQ,adR,afY,afZ)=>[(900000115,.cells 115 [lf aA adQ,i6 adR]),(10004,.cells 28 [.aO,.aO]),(10006,.cells 28 [.own 701000600,.own 701000601]),(701000600,.slice 42 2 (ml aI m_1) 0 false),(10040,.dF 118 530010010 ai.1.toNat none),(530010010,.bun (encS 4 1 fB.enc fm)),(701000601,.slice 89 5 (ml aT tZ) 0 false),(10018,.cells 89 [i6 e_8.ID,i6 e_9.ID,i6 afY,i6 afZ,i6 lI.1])]) ?_ ?_
    ·refine qDs [] [] [(133,.bool (!(decide (fq.1=0))))] ?_
     rcases ak hm with⟨c5,hm⟩|⟨c5,hm⟩
     ·refine qT c5 ?_
      obtain⟨yW,h24,hm⟩:=af hm
      obtain⟨oU,h25,hm⟩:=af hm
      refine qD [(2,hdc [] (lF h24) alA),(4,hdc [] (iY h25) aih)] [133] [] [900000115,10018] [(900000115,.cells 115 (k6 oU.2)),(10018,.cells 89 [i6 e_8.ID,i6 e_9.ID,i6 oU.1,i6 1,i6 lI.1])] ?_
      obtain⟨aa7,h26,hm⟩:=af hm
      obtain⟨qt,h27,hm⟩:=af hm
      exact qG [(6,hdc [] (lF h26) alA),(8,hdc [] (iY h27) aih)] [] [] [900000115,10018] [(900000115,.cells 115 (k6 qt.2)),(10018,.cells 89 [i6 e_8.ID,i6 e_9.ID,i6 oU.1,i6 qt.1,i6 lI.1])]<|qX (qt.2.L,qt.2.At,oU.1,qt.1) hm
     exact qF c5<|A.skip<|qX (lI.2.L,lI.2.At,(1:Int),(1:Int)) hm
    rintro⟨adQ,adR,afY,afZ⟩ hm
    rw[hJ4]at hm
    obtain⟨l_4,h28,hm⟩:=af hm
    exact qG [(4,hap 10654 (ap aT (bytes:=40) (by decide) h28))] [18] [] [10006,701000601,10018] [(10006,.cells 28 [.own 701000600,.own 10654]),(10654,.slice 89 5 (ml aT l_4) 0 false)]<|Exists.intro (adQ,adR,l_4) (And.intro hm (bt.go [.sw 10654 701000601,.rn 530010010 450010040] [] (by kernel_rfl)))
   rintro⟨adN,adO,adP⟩ hm
   rw[hJ3]at hm
   exact qGs [(0,hto (zT (by omega) hx6 (of_decide_eq_true hh6)))] [105] [(105,i6 (j6+1:Int))]<|qX (adP,adN,adO) hm
  rintro j6 ⟨tZ,we,wg⟩ hj6 hl6 hm
  rw[hK6]at hm
  exact qDs [] [] [(106,.bool (decide ((j6:Int)<(fm.length:Int))))]<|A.seq<|A.cF rfl (geF hl6)<|A.exit<|qGs [(0,hto (zT (by omega) hx5 (of_decide_eq_true hh5)))] [16,100,104,105,106] [(100,i6 (j5+1:Int))]<|qX (tZ,we,wg) hm
 rintro j5 ⟨aah,aai,aaj⟩ hj5 hl5 hm
 rw[hK5]at hm
 refine qDs [] [] [(101,.bool (decide ((j5:Int)<(fm.length:Int))))]<|A.seq<|A.cF rfl (geF hl5)<|A.exit<|qD [] [0,6,9,15,99,100,101] [] [10004,10006,10040,450010040] [(10004,.cells 28 [.own 701000600,.own 701000601])]<|A.ret ?_
 obtain rfl:=some_inj hm
 exact A.fin W0 [.fz [701000600,701000601]] rfl (by kernel_rfl)
theorem af0{l:List aV}{ha1:aV}{r:(List aV)}(hm:uz l ha1=some r):RO prog 26 [] [lf bJ l,.agg (k3 ha1)] (lf bJ r):=by
 refine aY func26 rfl rfl ?_
 unfold uz at hm
 refine qS [(0,.al 26003)] [(0,lf bJ l),(3,.ptr 26003 0)] [(26003,.cells 67 (k3 ha1))]<|qDs [] [] [(5,i6 0)]<|A.seq<|A.block ?_
 obtain⟨F1,n1,hF1,hm⟩:=iE hm
 refine A.lpW (F:=F1) hm (λk_1=>[(0,lf bJ l),(3,.ptr 26003 0),(5,i6 k_1)]) (λk_1=>[(26003,.cells 67 (k3 ha1))]) ?_ ?_
 ·exact qW
 rintro Z1 k_1 hm
 rw[hF1]at hm
 refine A.seq ?_
 obtain⟨J1,hJ1,hm⟩:=bZ hm
 refine A.J (J:=J1) (r:=r) (λv_1=>[(0,lf bJ l),(3,.ptr 26003 0),(5,i6 k_1),(40,.bool v_1)]) (λv_1=>[(26003,.cells 67 (k3 ha1))]) ?_ ?_
 ·rcases ak hm with⟨c1,hm⟩|⟨c1,hm⟩
  ·obtain⟨e_1,h1,hm⟩:=af hm
   rcases ak hm with⟨c2,hm⟩|⟨c2,hm⟩
   ·exact qGs [(2,hto (lnE bJ l)),(4,hto (bE c1)),(7,hix (ix bJ h1)),(13,hto (bE c2))] [] [(40,.bool true)]<|qX true hm
   rcases ak hm with⟨c3,hm⟩|⟨c3,hm⟩
   ·exact qGs [(2,hto (lnE bJ l)),(4,hto (bE c1)),(7,hix (ix bJ h1)),(13,hto (bE c2)),(16,hix (ix bJ h1)),(22,hto (bE c3)),(25,hix (ix bJ h1))] [] [(40,.bool (decide (e_1.To<ha1.To)))]<|qX (decide (e_1.To<ha1.To)) hm
   exact qGs [(2,hto (lnE bJ l)),(4,hto (bE c1)),(7,hix (ix bJ h1)),(13,hto (bE c2)),(16,hix (ix bJ h1)),(22,hto (bE c3))] [] [(40,.bool false)]<|qX false hm
  exact qGs [(2,hto (lnE bJ l)),(4,hto (bE c1))] [] [(40,.bool false)]<|qX false hm
 rintro v_1 hm
 rw[hJ1]at hm
 rcases ak hm with⟨c4,hm⟩|⟨c4,hm⟩
 ·exact qT c4<|A.skip<|A.block<|qGs [] [5,40] [(5,i6 (w64 (k_1+1)))]<|qX (w64 (k_1+1)) hm
 refine qF c4<|A.exit ?_
 obtain⟨l_1,h2,hm⟩:=af hm
 obtain⟨l_2,h3,hm⟩:=af hm
 refine qD [(1,.al 26044),(4,hsl (afJ bJ h2)),(5,hap 26548 (ap bJ (bytes:=16) (by decide) h3))] [3,40] [(6,.own 26548)] [26003] [(26548,.slice 67 2 (ml bJ l_2) 0 false)] ?_
 obtain⟨l_3,h4,hm⟩:=af hm
 obtain⟨l_4,h5,hm⟩:=af hm
 refine A.RS W0 [.fz [26548]] [(3,hs3 (sl bJ h4)),(5,atp 26554 amE (ap bJ (bytes:=16) (by decide) h5) (atn bJ h3 (Nat.succ_pos _)))] [(4,.own 26554)] [(26554,.slice 67 2 (ml bJ l_4) 0 false)] (by kernel_rfl)<|A.ret ?_
 obtain rfl:=some_inj hm
 exact A.fin W0 [.fz [26554]] rfl (by kernel_rfl)
theorem ae4{t:bL}{p:aa}{root:Int}{r:dY×bL}(hm:th t p root=some r):dN prog 21 [(900000115,.cells 115 (k6 t))] [.ptr 900000115 0,.agg (k2 p),i6 root] (λa σ'=>a=.agg (k8 r.1)∧σ'=[(900000115,.cells 115 (k6 r.2))]):=by
 refine aY func21 rfl rfl ?_
 unfold th at hm
 refine qS [(0,.al 21004),(1,.al 21006)] [(0,.ptr 900000115 0),(2,i6 root),(4,.ptr 21004 0),(6,.ptr 21006 0)] [(900000115,.cells 115 (k6 t)),(21004,.cells 28 (k2 p)),(21006,.cells 63 [i6 0,.aO])]<|qD [(2,.al 21007)] [] [(7,.ptr 21007 0)] [] [(21007,.cells 63 [i6 root,.aO])]<|qD [(1,.al 21015)] [2] [(8,.own 21015)] [] [(21015,.slice 3 1 (ml aA ([root]:List Int)) 0 false)]<|A.seq ?_
 obtain⟨ai,h1,hm⟩:=af hm
 refine qD [(3,hto (lnE aT p.Links)),(6,hdc [] (cN h1) qB)] [] [(9,i6 ai.1)] [900000115] [(900000115,.cells 115 (k6 ai.2))]<|A.block ?_
 obtain⟨F1,n1,hF1,hm⟩:=iE hm
 refine A.lpW (F:=F1) hm (λ(rC,i_1,m_1,m_2,m_3)=>[(0,.ptr 900000115 0),(4,.ptr 21004 0),(6,.ptr 21006 0),(7,.ptr 21007 0),(8,.own 600021008),(9,i6 i_1)]) (λ(rC,i_1,m_1,m_2,m_3)=>[(900000115,.cells 115 [lf aA m_2,i6 m_3]),(21004,.cells 28 (k2 p)),(21006,.cells 63 [i6 0,.aO]),(21007,.cells 63 [i6 root,lf bJ m_1]),(600021008,.slice 3 1 (ml aA rC) 0 false)]) ?_ ?_
 ·exact bt.go [.sw 21015 600021008,.sc 21007 [900000115,21004,21006,21007,600021008]] [] (by kernel_rfl)
 rintro Z1 ⟨rC,i_1,m_1,m_2,m_3⟩ hm
 rw[hF1]at hm
 refine A.seq<|qDs [] [] [(24,.bool (decide (0<i_1)))] ?_
 rcases ak hm with⟨c1,hm⟩|⟨c1,hm⟩
 ·refine qT c1<|A.skip ?_
  obtain⟨J1,hJ1,hm⟩:=bZ hm
  refine A.J (J:=J1) (r:=r) (λ(aa8,m_4,m_5,m_6)=>[(0,.ptr 900000115 0),(4,.ptr 21004 0),(6,.ptr 21006 0),(7,.ptr 21007 0),(8,.own 600021008),(9,i6 i_1)]) (λ(aa8,m_4,m_5,m_6)=>[(900000115,.cells 115 [lf aA m_4,i6 m_5]),(21004,.cells 28 (k2 p)),(21006,.cells 63 [i6 0,.aO]),(21007,.cells 63 [i6 root,lf bJ m_6]),(600021008,.slice 3 1 (ml aA aa8) 0 false)]) ?_ ?_
  ·refine A.block ?_
   obtain⟨aD,h2,hm⟩:=af hm
   obtain⟨e_1,h3,hm⟩:=af hm
   refine qD [(5,hto (lnE aT p.Links)),(6,hdc [] (cN h2) qB),(7,hix (ix aT h3)),(9,.al 21010)] [24] [(10,.ptr 21010 0)] [900000115] [(900000115,.cells 115 (k6 aD.2)),(21010,.cells 89 (k1 e_1))]<|qD [(5,.al 21011)] [] [(11,.ptr 21011 0)] [] [(21011,.cells 67 [i6 e_1.A,i6 e_1.B])] ?_
   obtain⟨J2,hJ2,hm⟩:=bZ hm
   refine A.J (J:=J2) (r:=r) (λ(m_7,m_8)=>[(0,.ptr 900000115 0),(4,.ptr 21004 0),(6,.ptr 21006 0),(7,.ptr 21007 0),(8,.own 600021008),(9,i6 i_1),(11,.ptr 21011 0)]) (λ(m_7,m_8)=>[(900000115,.cells 115 (k6 aD.2)),(21004,.cells 28 (k2 p)),(21006,.cells 63 [i6 0,.aO]),(21007,.cells 63 [i6 root,lf bJ m_1]),(600021008,.slice 3 1 (ml aA rC) 0 false),(21011,.cells 67 [i6 m_7,i6 m_8])]) ?_ ?_
   ·obtain⟨aX,h4,hm⟩:=af hm
    refine qDs [(3,hle [600021008] (ff h4) xC)] [] [(44,.bool aX)] ?_
    rcases ak hm with⟨c2,hm⟩|⟨c2,hm⟩
    ·exact qT c2<|qG [] [10,44] [] [21010,21011] [(21011,.cells 67 [i6 e_1.B,i6 e_1.A])]<|qX (e_1.B,e_1.A) hm
    exact qF c2<|A.skip<|qX (e_1.A,e_1.B) hm
   rintro⟨m_7,m_8⟩ hm
   rw[hJ2]at hm
   obtain⟨J3,hJ3,hm⟩:=bZ hm
   refine A.J (J:=J3) (r:=r) (λv_1=>[(0,.ptr 900000115 0),(4,.ptr 21004 0),(6,.ptr 21006 0),(7,.ptr 21007 0),(8,.own 600021008),(9,i6 i_1),(11,.ptr 21011 0),(60,.bool v_1)]) (λv_1=>[(900000115,.cells 115 (k6 aD.2)),(21004,.cells 28 (k2 p)),(21006,.cells 63 [i6 0,.aO]),(21007,.cells 63 [i6 root,lf bJ m_1]),(600021008,.slice 3 1 (ml aA rC) 0 false),(21011,.cells 67 [i6 m_7,i6 m_8])]) ?_ ?_
   ·obtain⟨bu,h5,hm⟩:=af hm
    rcases ak hm with⟨c3,hm⟩|⟨c3,hm⟩
    ·obtain⟨bz,h6,hm⟩:=af hm
     exact qGs [(3,hle [600021008] (ff h5) xC),(4,hto (bE c3)),(8,hle [600021008] (ff h6) xC)] [] [(60,.bool (!bz))]<|qX (!bz) hm
    exact qGs [(3,hle [600021008] (ff h5) xC),(4,hto (bE c3))] [] [(60,.bool false)]<|qX false hm
   rintro v_1 hm
   rw[hJ3]at hm
   rcases ak hm with⟨c4,hm⟩|⟨c4,hm⟩
   ·refine qT c4 ?_
    obtain⟨l_1,h7,hm⟩:=af hm
    refine qD [(4,hap 21565 (ap aA (bytes:=8) (by decide) h7))] [8,60] [(8,.own 21565)] [600021008] [(21565,.slice 3 1 (ml aA l_1) 0 false)] ?_
    obtain⟨cw,h8,hm⟩:=af hm
    exact qG [(3,hro (af0 h8) ck26)] [11] [] [21007,21011] [(21007,.cells 63 [i6 root,lf bJ cw])]<|Exists.intro (l_1,aD.2.L,aD.2.At,cw) (And.intro hm (bt.go [.sw 21565 600021008] [] (by kernel_rfl)))
   exact qF c4<|A.skip<|qX (rC,aD.2.L,aD.2.At,m_1) hm
  rintro⟨aa8,m_4,m_5,m_6⟩ hm
  rw[hJ1]at hm
  exact qGs [] [9] [(9,i6 (w64 (i_1-1)))]<|qX (aa8,w64 (i_1-1),m_6,m_4,m_5) hm
 refine qF c1<|A.exit<|qD [] [0,4,7,8,9,24] [] [21004,21006,21007,600021008] [(21006,.cells 63 [i6 root,lf bJ m_1])] ?_
 cases hm
 exact A.ret qE
end Go.Proofs.YtdjeacigeegklaaGreat
