/- The gW of dB of the program. No condition but bk aJ stand in each. -/
import Derived.Test.YtmnbolcmepihlaaGreatVX
namespace Go.Proofs.YtmnbolcmepihlaaGreat
open Go Go.Proofs.Tryz
set_option maxRecDepth 100000
set_option linter.all false
theorem vo{t:bx}{most:Int}{r:aj×bx}(hm:jU t most=some r):b8 prog 13 [(900000103,.cells 103 (k5 t))] [.ptr 900000103 0,i6 most] (λa σ'=>a=.agg (k2 r.1)∧σ'=[(900000103,.cells 103 (k5 r.2))]):=by
 refine aY func13 rfl rfl ?_
 unfold jU at hm
 refine qS [(0,.al 13004)] [(0,.ptr 900000103 0),(1,i6 most),(4,.ptr 13004 0)] [(900000103,.cells 103 (k5 t)),(13004,.cells 28 [.bn,.bn])] ?_
 obtain⟨az,h1,hm⟩:=aa hm
 refine qD [(2,hdc [] (gV h1) ae3)] [1] [(5,i6 az.1)] [900000103] [(900000103,.cells 103 (k5 az.2))]<|qD [(0,.al 13006)] [] [(6,.ptr 13006 0)] [] [(13006,.cells 28 [.bn,.bn])]<|qDs [] [] [(7,i6 0)]<|A.seq<|qDs [] [] [(8,i6 0)]<|A.block ?_
 obtain⟨hh1,hm⟩:=eC hm
 obtain⟨B1,K1,hB1,hK1,hm⟩:=jg hm
 refine A.lpN (hi:=az.1) (B:=B1) (K:=K1) hm rfl (λj1=>λ(rz,m_1,m_2,m_3)=>[(0,.ptr 900000103 0),(4,.ptr 13004 0),(5,i6 az.1),(6,.ptr 13006 0),(7,i6 rz),(8,i6 (j1:Int))]) (λj1=>λ(rz,m_1,m_2,m_3)=>[(900000103,.cells 103 [lf ai m_2,i6 m_3]),(13004,.cells 28 [.bn,.bn]),(13006,.cells 28 [.own 701300600,.bn]),(701300600,.slice 31 2 (ml aQ m_1) 0 false)]) ?_ ?_ ?_
 ·exact aV.go [.ac 13006 701300600 31 2 0] [] (by kernel_rfl)
 ·rintro j1 Z1 ⟨rz,m_1,m_2,m_3⟩ hj1 hx1 hm
  rw[hB1]at hm
  refine A.seq<|qDs [] [] [(24,.bool (decide ((j1:Int)<az.1)))] ?_
  refine A.cT rfl (decide_eq_true hx1)<|A.skip<|A.seq<|A.block ?_
  obtain⟨aD,h2,hm⟩:=aa hm
  refine qD [(3,hdc [] (fE h2) aco)] [7,24] [(7,i6 (w64 (rz+aD.1)))] [900000103] [(900000103,.cells 103 (k5 aD.2))] ?_
  obtain⟨l_1,h3,hm⟩:=aa hm
  exact qG [(5,hap 13537 (ap aQ (bytes:=16) (by decide) h3))] [] [] [13006,701300600] [(13006,.cells 28 [.own 13537,.bn]),(13537,.slice 31 2 (ml aQ l_1) 0 false)]<|qGs [(1,hto (sE (by omega) hx1 (of_decide_eq_true hh1)))] [8] [(8,i6 (j1+1:Int))]<|Exists.intro (w64 (rz+aD.1),l_1,aD.2.L,aD.2.At) (And.intro hm (aV.go [.sw 13537 701300600] [] (by kernel_rfl)))
 rintro j1 ⟨rz,m_1,m_2,m_3⟩ hj1 hl1 hm
 rw[hK1]at hm
 refine A.seq<|qDs [] [] [(24,.bool (decide ((j1:Int)<az.1)))] ?_
 refine A.cF rfl (geF hl1)<|A.exit ?_
 obtain⟨h4,hm⟩:=eC hm
 refine qD [(1,hmr 13040 az.1 acX acY h4 (by decide))] [7,8,24] [(9,.own 13040)] [] [(13040,.slice 106 1 (List.replicate az.1.toNat [.bn]) 0 false)]<|A.weak ((aV.aai (d:=13040) (e:=450013040) 4 1 cW.enc (ach h4) rfl rfl rfl rfl rfl))<|A.seq<|qS [(1,hno 4 1 cW.enc (List.replicate az.1.toNat []:List (List Bool)) qK)] [(0,.ptr 900000103 0),(4,.ptr 13004 0),(5,i6 az.1),(6,.ptr 13006 0),(9,.own 13040),(42,i6 ((List.replicate az.1.toNat []:List (List Bool)).length:Int)),(43,i6 0)] [(900000103,.cells 103 [lf ai m_2,i6 m_3]),(13004,.cells 28 [.bn,.bn]),(13006,.cells 28 [.own 701300600,.bn]),(701300600,.slice 31 2 (ml aQ m_1) 0 false),(13040,.bM 106 450013040 az.1.toNat none),(450013040,.bun (encS 4 1 cW.enc (List.replicate az.1.toNat []:List (List Bool))))]<|A.block ?_
 obtain⟨hh2,hm⟩:=eC hm
 obtain⟨B2,K2,hB2,hK2,hm⟩:=jg hm
 refine A.lpN (hi:=((List.replicate az.1.toNat []:List (List Bool)).length:Int)) (B:=B2) (K:=K2) hm rfl (λj2=>λm_4=>[(0,.ptr 900000103 0),(4,.ptr 13004 0),(5,i6 az.1),(6,.ptr 13006 0),(9,.own 13040),(42,i6 ((List.replicate az.1.toNat []:List (List Bool)).length:Int)),(43,i6 (j2:Int))]) (λj2=>λm_4=>[(900000103,.cells 103 [lf ai m_2,i6 m_3]),(13004,.cells 28 [.bn,.bn]),(13006,.cells 28 [.own 701300600,.bn]),(701300600,.slice 31 2 (ml aQ m_1) 0 false),(13040,.bM 106 450013040 az.1.toNat none),(450013040,.bun (encS 4 1 cW.enc m_4))]) ?_ ?_ ?_
 ·exact qW
 ·rintro j2 Z2 m_4 hj2 hx2 hm
  rw[hB2]at hm
  refine qDs [] [] [(44,.bool (decide ((j2:Int)<((List.replicate az.1.toNat []:List (List Bool)).length:Int))))]<|A.seq<|A.cT rfl (decide_eq_true hx2)<|A.skip<|A.seq<|A.block<|qDs [] [44] [(10,i6 (j2:Int))] ?_
  obtain⟨h5,hm⟩:=eC hm
  obtain⟨e_1,h6,hm⟩:=aa hm
  exact qG [(3,hms (a:=.bool false) 13049 false cW.enc az.1 acZ ac0 rfl (λI=>by simp[aA]) h5 (by decide)),(4,hio 4 1 cW.enc qK h6),(5,hsS 4 1 530013001 cW.enc (List.replicate (az.1).toNat false) w8 h6)] [10] [] [13040,450013040] [(13040,.bM 106 530013001 az.1.toNat none),(530013001,.bun (encS 4 1 cW.enc (List.set m_4 (j2:Int).toNat (List.replicate (az.1).toNat false))))]<|qGs [(0,hto (sE (by omega) hx2 (of_decide_eq_true hh2)))] [43] [(43,i6 (j2+1:Int))]<|Exists.intro (List.set m_4 (j2:Int).toNat (List.replicate (az.1).toNat false)) (And.intro hm (aV.go [.rn 530013001 450013040] [] (by kernel_rfl)))
 rintro j2 m_4 hj2 hl2 hm
 rw[hK2]at hm
 refine qDs [] [] [(44,.bool (decide ((j2:Int)<((List.replicate az.1.toNat []:List (List Bool)).length:Int))))]<|A.seq<|A.cF rfl (geF hl2)<|A.exit<|A.seq<|qDs [] [42,43,44] [(11,i6 1)]<|A.block ?_
 obtain⟨hh3,hm⟩:=eC hm
 obtain⟨B3,K3,hB3,hK3,hm⟩:=jg hm
 refine A.lpN (hi:=az.1) (B:=B3) (K:=K3) hm rfl (λj3=>λ(m_5,m_6,m_7)=>[(0,.ptr 900000103 0),(4,.ptr 13004 0),(5,i6 az.1),(6,.ptr 13006 0),(9,.own 13040),(11,i6 (j3:Int))]) (λj3=>λ(m_5,m_6,m_7)=>[(900000103,.cells 103 [lf ai m_5,i6 m_6]),(13004,.cells 28 [.bn,.bn]),(13006,.cells 28 [.own 701300600,.bn]),(701300600,.slice 31 2 (ml aQ m_1) 0 false),(13040,.bM 106 450013040 az.1.toNat none),(450013040,.bun (encS 4 1 cW.enc m_7))]) ?_ ?_ ?_
 ·exact qW
 ·rintro j3 Z3 ⟨m_5,m_6,m_7⟩ hj3 hx3 hm
  rw[hB3]at hm
  refine A.seq<|qDs [] [] [(54,.bool (decide ((j3:Int)<az.1)))] ?_
  refine A.cT rfl (decide_eq_true hx3)<|A.skip ?_
  obtain⟨J1,hJ1,hm⟩:=cV hm
  refine A.J (J:=J1) (r:=r) (λ(m_8,m_9,fI)=>[(0,.ptr 900000103 0),(4,.ptr 13004 0),(5,i6 az.1),(6,.ptr 13006 0),(9,.own 13040),(11,i6 (j3:Int))]) (λ(m_8,m_9,fI)=>[(900000103,.cells 103 [lf ai m_9,i6 fI]),(13004,.cells 28 [.bn,.bn]),(13006,.cells 28 [.own 701300600,.bn]),(701300600,.slice 31 2 (ml aQ m_1) 0 false),(13040,.bM 106 450013040 az.1.toNat none),(450013040,.bun (encS 4 1 cW.enc m_8))]) ?_ ?_
  ·refine A.block ?_
   obtain⟨bt,h7,hm⟩:=aa hm
   refine qD [(1,hdc [] (ck h7) qm)] [54] [(59,.bool (decide (bt.1<11)))] [900000103] [(900000103,.cells 103 (k5 bt.2))] ?_
   rcases aB hm with⟨c1,hm⟩|⟨c1,hm⟩
   ·refine qT c1 ?_
    obtain⟨bJ,h8,hm⟩:=aa hm
    obtain⟨e_2,h9,hm⟩:=aa hm
    obtain⟨e_3,h10,hm⟩:=aa hm
    obtain⟨l_2,h11,hm⟩:=aa hm
    refine A.late (A.R W0 [] [(3,hdc [] (ck h8) qm),(4,hio 4 1 cW.enc qK h9),(5,hlS 4 1 530013003 530013002 cW.enc w8 h9),(7,hix (ix cW h10)),(8,hso 530013002 (st cW (off:=0) (ca:=[.bool true]) h10 h11 rfl) (ov h10).1.1)] [(0,.ptr 900000103 0),(4,.ptr 13004 0),(5,i6 az.1),(6,.ptr 13006 0),(9,.own 13040),(11,i6 (j3:Int))] [(900000103,.cells 103 (k5 bJ.2)),(13004,.cells 28 [.bn,.bn]),(13006,.cells 28 [.own 701300600,.bn]),(701300600,.slice 31 2 (ml aQ m_1) 0 false),(13040,.bM 106 530013003 az.1.toNat (some (some bJ.1.toNat,530013002))),(530013003,.bun (encS 4 1 cW.enc (List.set m_7 bJ.1.toNat []))),(530013002,.slice 4 1 (ml cW l_2) 0 false)] (by kernel_rfl) ?_)
    refine⟨_,_,(aV.acg (d:=13040) (e:=530013003) (e2:=530013004) (t:=530013002) m_7 cW.enc l_2 rfl rfl rfl rfl rfl rfl rfl),?_⟩
    exact Exists.intro ((List.set m_7 bJ.1.toNat l_2),bJ.2.L,bJ.2.At) (And.intro hm (aV.go [.rn 530013004 450013040] [] (by kernel_rfl)))
   exact qF c1<|A.skip<|qX (m_7,bt.2.L,bt.2.At) hm
  rintro⟨m_8,m_9,fI⟩ hm
  rw[hJ1]at hm
  exact qGs [(1,hto (sE (by omega) hx3 (of_decide_eq_true hh3)))] [11] [(11,i6 (j3+1:Int))]<|qX (m_9,fI,m_8) hm
 rintro j3 ⟨m_5,m_6,m_7⟩ hj3 hl3 hm
 rw[hK3]at hm
 refine A.seq<|qDs [] [] [(54,.bool (decide ((j3:Int)<az.1)))] ?_
 refine A.cF rfl (geF hl3)<|A.exit<|A.seq ?_
 obtain⟨cc,h12,hm⟩:=aa hm
 refine qD [(3,hdc [] (ck h12) qm)] [11,54] [(12,i6 cc.1)] [900000103] [(900000103,.cells 103 (k5 cc.2))]<|A.block ?_
 obtain⟨F4,n4,hF4,hm⟩:=fW hm
 refine A.lpW (F:=F4) hm (λ(i_1,oy,x7,dQ)=>[(0,.ptr 900000103 0),(4,.ptr 13004 0),(5,i6 az.1),(6,.ptr 13006 0),(9,.own 13040),(12,i6 i_1)]) (λ(i_1,oy,x7,dQ)=>[(900000103,.cells 103 [lf ai oy,i6 x7]),(13004,.cells 28 [.bn,.bn]),(13006,.cells 28 [.own 701300600,.bn]),(701300600,.slice 31 2 (ml aQ m_1) 0 false),(13040,.bM 106 450013040 az.1.toNat none),(450013040,.bun (encS 4 1 cW.enc dQ))]) ?_ ?_
 ·exact qW
 rintro Z4 ⟨i_1,oy,x7,dQ⟩ hm
 rw[hF4]at hm
 refine A.seq<|qDs [] [] [(73,.bool (decide (0<i_1)))] ?_
 rcases aB hm with⟨c2,hm⟩|⟨c2,hm⟩
 ·refine qT c2<|A.skip ?_
  obtain⟨J2,hJ2,hm⟩:=cV hm
  refine A.J (J:=J2) (r:=r) (λ(x8,x9,ya)=>[(0,.ptr 900000103 0),(4,.ptr 13004 0),(5,i6 az.1),(6,.ptr 13006 0),(9,.own 13040),(12,i6 i_1)]) (λ(x8,x9,ya)=>[(900000103,.cells 103 [lf ai x9,i6 ya]),(13004,.cells 28 [.bn,.bn]),(13006,.cells 28 [.own 701300600,.bn]),(701300600,.slice 31 2 (ml aQ m_1) 0 false),(13040,.bM 106 450013040 az.1.toNat none),(450013040,.bun (encS 4 1 cW.enc x8))]) ?_ ?_
  ·refine A.block ?_
   obtain⟨dh,h13,hm⟩:=aa hm
   obtain⟨cU,h14,hm⟩:=aa hm
   refine qD [(2,hdc [] (ck h13) qm),(5,hdc [] (ck h14) qm)] [73] [(13,i6 dh.1),(14,i6 cU.1)] [900000103] [(900000103,.cells 103 (k5 cU.2))]<|qDs [] [] [(84,.bool (!decide (dh.1=cU.1)))] ?_
   rcases aB hm with⟨c3,hm⟩|⟨c3,hm⟩
   ·refine qT c3 ?_
    obtain⟨e_4,h15,hm⟩:=aa hm
    obtain⟨e_5,h16,hm⟩:=aa hm
    obtain⟨l_3,h17,hm⟩:=aa hm
    refine A.late (A.R W0 [] [(4,hio 4 1 cW.enc qK h15),(5,hlS 4 1 530013006 530013005 cW.enc w8 h15),(9,hix (ix cW h16)),(10,hso 530013005 (st cW (off:=0) (ca:=[.bool true]) h16 h17 rfl) (ov h16).1.1)] [(0,.ptr 900000103 0),(4,.ptr 13004 0),(5,i6 az.1),(6,.ptr 13006 0),(9,.own 13040),(12,i6 i_1)] [(900000103,.cells 103 (k5 cU.2)),(13004,.cells 28 [.bn,.bn]),(13006,.cells 28 [.own 701300600,.bn]),(701300600,.slice 31 2 (ml aQ m_1) 0 false),(13040,.bM 106 530013006 az.1.toNat (some (some (if cU.1<dh.1 then cU.1 else dh.1).toNat,530013005))),(530013006,.bun (encS 4 1 cW.enc (List.set dQ (if cU.1<dh.1 then cU.1 else dh.1).toNat []))),(530013005,.slice 4 1 (ml cW l_3) 0 false)] (by kernel_rfl) ?_)
    refine⟨_,_,(aV.acg (d:=13040) (e:=530013006) (e2:=530013007) (t:=530013005) dQ cW.enc l_3 rfl rfl rfl rfl rfl rfl rfl),?_⟩
    exact Exists.intro ((List.set dQ (if cU.1<dh.1 then cU.1 else dh.1).toNat l_3),cU.2.L,cU.2.At) (And.intro hm (aV.go [.rn 530013007 450013040] [] (by kernel_rfl)))
   exact qF c3<|A.skip<|qX (dQ,cU.2.L,cU.2.At) hm
  rintro⟨x8,x9,ya⟩ hm
  rw[hJ2]at hm
  exact qGs [] [12] [(12,i6 (w64 (i_1-1)))]<|qX (w64 (i_1-1),x9,ya,x8) hm
 refine qF c2<|A.exit ?_
 obtain⟨iU,h18,hm⟩:=aa hm
 refine qD [(1,hdc [] (ck h18) qm)] [5,12,73] [(15,.bool (decide (iU.1=0)))] [900000103] [(900000103,.cells 103 (k5 iU.2))]<|A.seq<|qDs [(1,hno 4 1 cW.enc dQ qK)] [] [(99,i6 (dQ.length:Int)),(100,i6 0)]<|A.block ?_
 obtain⟨hh5,hm⟩:=eC hm
 obtain⟨B5,K5,hB5,hK5,hm⟩:=jg hm
 refine A.lpN (hi:=(dQ.length:Int)) (B:=B5) (K:=K5) hm rfl (λj5=>λ(sX,sY,sZ)=>[(0,.ptr 900000103 0),(4,.ptr 13004 0),(6,.ptr 13006 0),(9,.own 13040),(15,.bool (decide (iU.1=0))),(99,i6 (dQ.length:Int)),(100,i6 (j5:Int))]) (λj5=>λ(sX,sY,sZ)=>[(900000103,.cells 103 [lf ai sY,i6 sZ]),(13004,.cells 28 [.bn,.bn]),(13006,.cells 28 [.own 701300600,.own 701300601]),(701300600,.slice 31 2 (ml aQ m_1) 0 false),(13040,.bM 106 450013040 az.1.toNat none),(450013040,.bun (encS 4 1 cW.enc dQ)),(701300601,.slice 62 5 (ml bG sX) 0 false)]) ?_ ?_ ?_
 ·exact aV.go [.ac 13006 701300601 62 5 1] [] (by kernel_rfl)
 ·rintro j5 Z5 ⟨sX,sY,sZ⟩ hj5 hx5 hm
  rw[hB5]at hm
  refine qDs [] [] [(101,.bool (decide ((j5:Int)<(dQ.length:Int))))]<|A.seq<|A.cT rfl (decide_eq_true hx5)<|A.skip<|A.seq<|A.block<|qDs [] [101] [(16,i6 (j5:Int))]<|qDs [(1,hno 4 1 cW.enc dQ qK)] [] [(104,i6 (dQ.length:Int)),(105,i6 0)]<|A.block ?_
  obtain⟨hh6,hm⟩:=eC hm
  obtain⟨B6,K6,hB6,hK6,hm⟩:=jg hm
  refine A.lpN (hi:=(dQ.length:Int)) (B:=B6) (K:=K6) hm rfl (λj6=>λ(oz,qn,qo)=>[(0,.ptr 900000103 0),(4,.ptr 13004 0),(6,.ptr 13006 0),(9,.own 13040),(15,.bool (decide (iU.1=0))),(16,i6 (j5:Int)),(99,i6 (dQ.length:Int)),(100,i6 (j5:Int)),(104,i6 (dQ.length:Int)),(105,i6 (j6:Int))]) (λj6=>λ(oz,qn,qo)=>[(900000103,.cells 103 [lf ai qn,i6 qo]),(13004,.cells 28 [.bn,.bn]),(13006,.cells 28 [.own 701300600,.own 701300601]),(701300600,.slice 31 2 (ml aQ m_1) 0 false),(13040,.bM 106 450013040 az.1.toNat none),(450013040,.bun (encS 4 1 cW.enc dQ)),(701300601,.slice 62 5 (ml bG oz) 0 false)]) ?_ ?_ ?_
  ·exact qW
  ·rintro j6 Z6 ⟨oz,qn,qo⟩ hj6 hx6 hm
   rw[hB6]at hm
   refine qDs [] [] [(106,.bool (decide ((j6:Int)<(dQ.length:Int))))]<|A.seq<|A.cT rfl (decide_eq_true hx6)<|A.skip ?_
   obtain⟨J3,hJ3,hm⟩:=cV hm
   refine A.J (J:=J3) (r:=r) (λ(yb,yc,yd)=>[(0,.ptr 900000103 0),(4,.ptr 13004 0),(6,.ptr 13006 0),(9,.own 13040),(15,.bool (decide (iU.1=0))),(16,i6 (j5:Int)),(99,i6 (dQ.length:Int)),(100,i6 (j5:Int)),(104,i6 (dQ.length:Int)),(105,i6 (j6:Int))]) (λ(yb,yc,yd)=>[(900000103,.cells 103 [lf ai yb,i6 yc]),(13004,.cells 28 [.bn,.bn]),(13006,.cells 28 [.own 701300600,.own 701300601]),(701300600,.slice 31 2 (ml aQ m_1) 0 false),(13040,.bM 106 450013040 az.1.toNat none),(450013040,.bun (encS 4 1 cW.enc dQ)),(701300601,.slice 62 5 (ml bG yd) 0 false)]) ?_ ?_
   ·refine A.block<|qDs [] [106] [(17,i6 (j6:Int))] ?_
    refine A.seq ?_
    obtain⟨e_6,h19,hm⟩:=aa hm
    obtain⟨e_7,h20,hm⟩:=aa hm
    refine qD [(2,hio 4 1 cW.enc qK h19),(3,hlS 4 1 530013009 530013008 cW.enc w8 h19),(5,hix (ix cW h20)),(6,hlo 530013008 0 (ix cW h20))] [] [(115,.bool (!e_7))] [13040,450013040] [(13040,.bM 106 530013009 az.1.toNat (some (some (j5:Int).toNat,530013008))),(530013009,.bun (encS 4 1 cW.enc (List.set dQ (j5:Int).toNat []))),(530013008,.slice 4 1 (ml cW e_6) 0 false)]<|A.weak ((aV.akl (d:=13040) (e:=530013009) (e2:=530013010) (t:=530013008) dQ cW.enc h19 rfl rfl rfl rfl rfl rfl rfl)) ?_
    rcases aB hm with⟨c4,hm⟩|⟨c4,hm⟩
    ·exact qT c4<|A.exit<|Exists.intro (qn,qo,oz) (And.intro hm (aV.go [.rn 530013010 450013040] [] (by kernel_rfl)))
    refine qF c4<|A.skip ?_
    obtain⟨e_8,h21,hm⟩:=aa hm
    obtain⟨e_9,h22,hm⟩:=aa hm
    obtain⟨mO,h23,hm⟩:=aa hm
    refine qS [(3,hix (ix aQ h21)),(5,hlo 701300600 0 (ix aQ h21)),(9,hix (ix aQ h22)),(11,hlo 701300600 0 (ix aQ h22)),(14,hdc [] (fE h23) aco),(16,.al 13018)] [(0,.ptr 900000103 0),(4,.ptr 13004 0),(6,.ptr 13006 0),(9,.own 13040),(15,.bool (decide (iU.1=0))),(16,i6 (j5:Int)),(99,i6 (dQ.length:Int)),(100,i6 (j5:Int)),(104,i6 (dQ.length:Int)),(105,i6 (j6:Int)),(18,.ptr 13018 0)] [(900000103,.cells 103 (k5 mO.2)),(13004,.cells 28 [.bn,.bn]),(13006,.cells 28 [.own 701300600,.own 701300601]),(701300600,.slice 31 2 (ml aQ m_1) 0 false),(13040,.bM 106 530013010 az.1.toNat none),(530013010,.bun (encS 4 1 cW.enc dQ)),(701300601,.slice 62 5 (ml bG oz) 0 false),(13018,.cells 62 [i6 e_8.ID,i6 e_9.ID,i6 1,i6 1,i6 mO.1])] ?_
    obtain⟨J4,hJ4,hm⟩:=cV hm
    refine A.J (J:=J4) (r:=r) (λ(ye,yf,aar,aas)=>[(0,.ptr 900000103 0),(4,.ptr 13004 0),(6,.ptr 13006 0),(9,.own 13040),(15,.bool (decide (iU.1=0))),(16,i6 (j5:Int)),(18,.ptr 13018 0),(99,i6 (dQ.length:Int)),(100,i6 (j5:Int)),(104,i6 (dQ.length:Int)),(105,i6 (j6:Int))]) (λ(ye,yf,aar,aas)=>[(900000103,.cells 103 [lf ai ye,i6 yf]),(13004,.cells 28 [.bn,.bn]),(13006,.cells 28 [.own 701300600,.own 701300601]),(701300600,.slice 31 2 (ml aQ m_1) 0 false),(13040,.bM 106 530013010 az.1.toNat none),(530013010,.bun (encS 4 1 cW.enc dQ)),(701300601,.slice 62 5 (ml bG oz) 0 false),(13018,.cells 62 [i6 e_8.ID,i6 e_9.ID,i6 aar,i6 aas,i6 mO.1])]) ?_ ?_
    ·refine qDs [] [] [(133,.bool (!(decide (iU.1=0))))] ?_
     rcases aB hm with⟨c5,hm⟩|⟨c5,hm⟩
     ·refine qT c5 ?_
      obtain⟨vj,h24,hm⟩:=aa hm
      obtain⟨l5,h25,hm⟩:=aa hm
      refine qD [(2,hdc [] (gV h24) ae3),(4,hdc [] (fE h25) aco)] [133] [] [900000103,13018] [(900000103,.cells 103 (k5 l5.2)),(13018,.cells 62 [i6 e_8.ID,i6 e_9.ID,i6 l5.1,i6 1,i6 mO.1])] ?_
      obtain⟨acu,h26,hm⟩:=aa hm
      obtain⟨pJ,h27,hm⟩:=aa hm
      exact qG [(6,hdc [] (gV h26) ae3),(8,hdc [] (fE h27) aco)] [] [] [900000103,13018] [(900000103,.cells 103 (k5 pJ.2)),(13018,.cells 62 [i6 e_8.ID,i6 e_9.ID,i6 l5.1,i6 pJ.1,i6 mO.1])]<|qX (pJ.2.L,pJ.2.At,l5.1,pJ.1) hm
     exact qF c5<|A.skip<|qX (mO.2.L,mO.2.At,(1:Int),(1:Int)) hm
    rintro⟨ye,yf,aar,aas⟩ hm
    rw[hJ4]at hm
    obtain⟨l_4,h28,hm⟩:=aa hm
    exact qG [(4,hap 13654 (ap bG (bytes:=40) (by decide) h28))] [18] [] [13006,701300601,13018] [(13006,.cells 28 [.own 701300600,.own 13654]),(13654,.slice 62 5 (ml bG l_4) 0 false)]<|Exists.intro (ye,yf,l_4) (And.intro hm (aV.go [.sw 13654 701300601,.rn 530013010 450013040] [] (by kernel_rfl)))
   rintro⟨yb,yc,yd⟩ hm
   rw[hJ3]at hm
   exact qGs [(0,hto (sE (by omega) hx6 (of_decide_eq_true hh6)))] [105] [(105,i6 (j6+1:Int))]<|qX (yd,yb,yc) hm
  rintro j6 ⟨oz,qn,qo⟩ hj6 hl6 hm
  rw[hK6]at hm
  exact qDs [] [] [(106,.bool (decide ((j6:Int)<(dQ.length:Int))))]<|A.seq<|A.cF rfl (geF hl6)<|A.exit<|qGs [(0,hto (sE (by omega) hx5 (of_decide_eq_true hh5)))] [16,100,104,105,106] [(100,i6 (j5+1:Int))]<|qX (oz,qn,qo) hm
 rintro j5 ⟨sX,sY,sZ⟩ hj5 hl5 hm
 rw[hK5]at hm
 refine qDs [] [] [(101,.bool (decide ((j5:Int)<(dQ.length:Int))))]<|A.seq<|A.cF rfl (geF hl5)<|A.exit<|A.weak (aV.ae0 (d:=13040) (e:=450013040) dQ cW.enc rfl rfl)<|qS [] [(4,.ptr 13004 0)] [(900000103,.cells 103 [lf ai sY,i6 sZ]),(13004,.cells 28 [.own 701300600,.own 701300601]),(701300600,.slice 31 2 (ml aQ m_1) 0 false),(701300601,.slice 62 5 (ml bG sX) 0 false)]<|A.ret ?_
 obtain rfl:=some_inj hm
 exact A.fin W0 [.fz [701300600,701300601]] rfl (by kernel_rfl)
theorem zo{t:bx}{p:aj}{n:Int}{r:(List Int)×bx}(hm:nS t p n=some r):b8 prog 15 [(900000103,.cells 103 (k5 t))] [.ptr 900000103 0,.agg (k2 p),i6 n] (λa σ'=>a=lf ai r.1∧σ'=[(900000103,.cells 103 (k5 r.2))]):=by
 refine aY func15 rfl rfl ?_
 unfold nS at hm
 refine qS [(0,.al 15004)] [(0,.ptr 900000103 0),(2,i6 n),(4,.ptr 15004 0)] [(900000103,.cells 103 (k5 t)),(15004,.cells 28 (k2 p))]<|qDs [] [] [(7,.bn)]<|A.seq ?_
 obtain⟨az,h1,hm⟩:=aa hm
 refine qD [(3,hdc [] (ck h1) qm)] [2] [(8,i6 az.1)] [900000103] [(900000103,.cells 103 (k5 az.2))]<|A.block ?_
 obtain⟨F1,n1,hF1,hm⟩:=fW hm
 refine A.lpW (F:=F1) hm (λ(dz,i_1,m_1,m_2)=>[(0,.ptr 900000103 0),(4,.ptr 15004 0),(7,lf ai dz),(8,i6 i_1)]) (λ(dz,i_1,m_1,m_2)=>[(900000103,.cells 103 [lf ai m_1,i6 m_2]),(15004,.cells 28 (k2 p))]) ?_ ?_
 ·exact aV.go [] [7] (by kernel_rfl)
 rintro Z1 ⟨dz,i_1,m_1,m_2⟩ hm
 rw[hF1]at hm
 refine A.seq<|A.mid [(0,.ptr 900000103 0),(4,.ptr 15004 0),(7,lf ai dz),(8,i6 i_1),(20,.bool ((decide (0<i_1))&&(decide (0<(p.ak.length:Int)))))] [(900000103,.cells 103 [lf ai m_1,i6 m_2]),(15004,.cells 28 (k2 p))] (λhk=>?_) ?_
 ·rcases tf (decide (0<i_1))with c1|c1
  ·exact qS [(2,hto (bE c1)),(5,hto (lnE aQ p.ak)),(7,hto (jC (q:=decide (0<(p.ak.length:Int))) c1))] _ _ hk
  exact qS [(2,hto (bE c1)),(7,hto (mN (q:=decide (0<(p.ak.length:Int))) c1))] _ _ hk
 rcases aB hm with⟨c2,hm⟩|⟨c2,hm⟩
 ·refine qT c2<|A.skip<|A.seq<|A.block ?_
  obtain⟨aD,h2,hm⟩:=aa hm
  obtain⟨e_1,h3,hm⟩:=aa hm
  obtain⟨bt,h4,hm⟩:=aa hm
  exact qG [(6,hto (lnE aQ p.ak)),(7,hdc [] (ck h2) qm),(8,hix (ix aQ h3)),(11,hro (nO h4) alu)] [7,20] [(7,lf ai bt)] [900000103] [(900000103,.cells 103 (k5 aD.2))]<|qGs [] [8] [(8,i6 (w64 (i_1-1)))]<|Exists.intro (bt,w64 (i_1-1),aD.2.L,aD.2.At) (And.intro hm (aV.go [] [7] (by kernel_rfl)))
 refine qF c2<|A.exit<|qD [] [0,4,7,8,20] [(6,lf ai dz)] [15004] [] ?_
 cases hm
 exact A.ret qE
end Go.Proofs.YtmnbolcmepihlaaGreat
