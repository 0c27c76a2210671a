/- The walks of cv of the program. No condition but aT aH stand in each. -/
import Derived.Test.YtmnbolcmepihlaaGreatVW
namespace Go.Proofs.YtmnbolcmepihlaaGreat
open Go Go.Proofs.Tryz
set_option maxRecDepth 100000
set_option linter.all false
theorem uZ{t:bp}{most:Int}{r:aq×bp}(hm:jL t most=some r):bM prog 13 [(900000103,.cells 103 (k5 t))] [.ptr 900000103 0,i6 most] (λa σ'=>a=.agg [lf bn r.1.aS,.own 500001300]∧σ'=[(900000103,.cells 103 (k5 r.2)),(500001300,.slice 62 5 (ml bQ r.1.Links) 0 false)]):=by
 refine bg func13 rfl rfl ?_
 unfold jL at hm
 refine qS [(0,.al 13004)] [(0,.ptr 900000103 0),(1,i6 most),(4,.ptr 13004 0)] [(900000103,.cells 103 (k5 t)),(13004,.cells 28 [.bw,.bw])] ?_
 obtain⟨ay,h1,hm⟩:=ah hm
 refine qD [(2,hdc [] (gM h1) aeV)] [1] [(5,i6 ay.1)] [900000103] [(900000103,.cells 103 (k5 ay.2))]<|qD [(0,.al 13006)] [] [(6,.ptr 13006 0)] [] [(13006,.cells 28 [.bw,.bw])]<|qDs [] [] [(7,i6 0)]<|A.seq<|qDs [] [] [(8,i6 0)]<|A.block ?_
 obtain⟨hh1,hm⟩:=gz hm
 obtain⟨B1,K1,hB1,hK1,hm⟩:=nZ hm
 refine A.lpN (hi:=ay.1) (B:=B1) (K:=K1) hm rfl (λj1=>λ(qw,m_1,m_2,m_3)=>[(0,.ptr 900000103 0),(4,.ptr 13004 0),(5,i6 ay.1),(6,.ptr 13006 0),(7,i6 qw),(8,i6 (j1:Int))]) (λj1=>λ(qw,m_1,m_2,m_3)=>[(900000103,.cells 103 [lf aB m_2,i6 m_3]),(13004,.cells 28 [.bw,.bw]),(13006,.cells 28 [.own 701300600,.bw]),(701300600,.slice 31 2 (ml bn m_1) 0 false)]) ?_ ?_ ?_
 ·exact aU.go [.ac 13006 701300600 31 2 0] [] (by kernel_rfl)
 ·rintro j1 Z1 ⟨qw,m_1,m_2,m_3⟩ hj1 hx1 hm
  rw[hB1]at hm
  refine A.seq<|qDs [] [] [(24,.bool (decide ((j1:Int)<ay.1)))] ?_
  refine A.cT rfl (decide_eq_true hx1)<|A.skip<|A.seq<|A.block ?_
  obtain⟨aI,h2,hm⟩:=ah hm
  refine qD [(3,hdc [] (eG h2) zY)] [7,24] [(7,i6 (w64 (qw+aI.1)))] [900000103] [(900000103,.cells 103 (k5 aI.2))] ?_
  obtain⟨l_1,h3,hm⟩:=ah hm
  exact qG [(5,hap 13537 (ap bn (bytes:=16) (by decide) h3))] [] [] [13006,701300600] [(13006,.cells 28 [.own 13537,.bw]),(13537,.slice 31 2 (ml bn l_1) 0 false)]<|qGs [(1,hto (zu (by omega) hx1 (of_decide_eq_true hh1)))] [8] [(8,i6 (j1+1:Int))]<|Exists.intro (w64 (qw+aI.1),l_1,aI.2.L,aI.2.At) (And.intro hm (aU.go [.sw 13537 701300600] [] (by kernel_rfl)))
 rintro j1 ⟨qw,m_1,m_2,m_3⟩ hj1 hl1 hm
 rw[hK1]at hm
 refine A.seq<|qDs [] [] [(24,.bool (decide ((j1:Int)<ay.1)))] ?_
 refine A.cF rfl (geF hl1)<|A.exit ?_
 obtain⟨h4,hm⟩:=gz hm
 refine qD [(1,hmr 13040 ay.1 acO acP h4 (by decide))] [7,8,24] [(9,.own 13040)] [] [(13040,.slice 106 1 (List.replicate ay.1.toNat [.bw]) 0 false)]<|A.weak ((aU.akm (d:=13040) (e:=450013040) 4 1 dG.enc (anx h4) rfl rfl rfl rfl rfl))<|A.seq<|qS [(1,hno 4 1 dG.enc (List.replicate ay.1.toNat []:List (List Bool)) qg)] [(0,.ptr 900000103 0),(4,.ptr 13004 0),(5,i6 ay.1),(6,.ptr 13006 0),(9,.own 13040),(42,i6 ((List.replicate ay.1.toNat []:List (List Bool)).length:Int)),(43,i6 0)] [(900000103,.cells 103 [lf aB m_2,i6 m_3]),(13004,.cells 28 [.bw,.bw]),(13006,.cells 28 [.own 701300600,.bw]),(701300600,.slice 31 2 (ml bn m_1) 0 false),(13040,.cM 106 450013040 ay.1.toNat none),(450013040,.bun (encS 4 1 dG.enc (List.replicate ay.1.toNat []:List (List Bool))))]<|A.block ?_
 obtain⟨hh2,hm⟩:=gz hm
 obtain⟨B2,K2,hB2,hK2,hm⟩:=nZ hm
 refine A.lpN (hi:=((List.replicate ay.1.toNat []:List (List Bool)).length:Int)) (B:=B2) (K:=K2) hm rfl (λj2=>λm_4=>[(0,.ptr 900000103 0),(4,.ptr 13004 0),(5,i6 ay.1),(6,.ptr 13006 0),(9,.own 13040),(42,i6 ((List.replicate ay.1.toNat []:List (List Bool)).length:Int)),(43,i6 (j2:Int))]) (λj2=>λm_4=>[(900000103,.cells 103 [lf aB m_2,i6 m_3]),(13004,.cells 28 [.bw,.bw]),(13006,.cells 28 [.own 701300600,.bw]),(701300600,.slice 31 2 (ml bn m_1) 0 false),(13040,.cM 106 450013040 ay.1.toNat none),(450013040,.bun (encS 4 1 dG.enc m_4))]) ?_ ?_ ?_
 ·exact qW
 ·rintro j2 Z2 m_4 hj2 hx2 hm
  rw[hB2]at hm
  refine qDs [] [] [(44,.bool (decide ((j2:Int)<((List.replicate ay.1.toNat []:List (List Bool)).length:Int))))]<|A.seq<|A.cT rfl (decide_eq_true hx2)<|A.skip<|A.seq<|A.block<|qDs [] [44] [(10,i6 (j2:Int))] ?_
  obtain⟨h5,hm⟩:=gz hm
  obtain⟨e_1,h6,hm⟩:=ah hm
  exact qG [(3,hms (a:=.bool false) 13049 false dG.enc ay.1 acQ acR rfl (λI=>by simp[ak]) h5 (by decide)),(4,hio 4 1 dG.enc qg h6),(5,hsS 4 1 530013001 dG.enc (List.replicate (ay.1).toNat false) wK h6)] [10] [] [13040,450013040] [(13040,.cM 106 530013001 ay.1.toNat none),(530013001,.bun (encS 4 1 dG.enc (List.set m_4 (j2:Int).toNat (List.replicate (ay.1).toNat false))))]<|qGs [(0,hto (zu (by omega) hx2 (of_decide_eq_true hh2)))] [43] [(43,i6 (j2+1:Int))]<|Exists.intro (List.set m_4 (j2:Int).toNat (List.replicate (ay.1).toNat false)) (And.intro hm (aU.go [.rn 530013001 450013040] [] (by kernel_rfl)))
 rintro j2 m_4 hj2 hl2 hm
 rw[hK2]at hm
 refine qDs [] [] [(44,.bool (decide ((j2:Int)<((List.replicate ay.1.toNat []:List (List Bool)).length:Int))))]<|A.seq<|A.cF rfl (geF hl2)<|A.exit<|A.seq<|qDs [] [42,43,44] [(11,i6 1)]<|A.block ?_
 obtain⟨hh3,hm⟩:=gz hm
 obtain⟨B3,K3,hB3,hK3,hm⟩:=nZ hm
 refine A.lpN (hi:=ay.1) (B:=B3) (K:=K3) hm rfl (λj3=>λ(m_5,m_6,m_7)=>[(0,.ptr 900000103 0),(4,.ptr 13004 0),(5,i6 ay.1),(6,.ptr 13006 0),(9,.own 13040),(11,i6 (j3:Int))]) (λj3=>λ(m_5,m_6,m_7)=>[(900000103,.cells 103 [lf aB m_5,i6 m_6]),(13004,.cells 28 [.bw,.bw]),(13006,.cells 28 [.own 701300600,.bw]),(701300600,.slice 31 2 (ml bn m_1) 0 false),(13040,.cM 106 450013040 ay.1.toNat none),(450013040,.bun (encS 4 1 dG.enc m_7))]) ?_ ?_ ?_
 ·exact qW
 ·rintro j3 Z3 ⟨m_5,m_6,m_7⟩ hj3 hx3 hm
  rw[hB3]at hm
  refine A.seq<|qDs [] [] [(54,.bool (decide ((j3:Int)<ay.1)))] ?_
  refine A.cT rfl (decide_eq_true hx3)<|A.skip ?_
  obtain⟨J1,hJ1,hm⟩:=eC hm
  refine A.J (J:=J1) (r:=r) (λ(m_8,m_9,xB)=>[(0,.ptr 900000103 0),(4,.ptr 13004 0),(5,i6 ay.1),(6,.ptr 13006 0),(9,.own 13040),(11,i6 (j3:Int))]) (λ(m_8,m_9,xB)=>[(900000103,.cells 103 [lf aB m_9,i6 xB]),(13004,.cells 28 [.bw,.bw]),(13006,.cells 28 [.own 701300600,.bw]),(701300600,.slice 31 2 (ml bn m_1) 0 false),(13040,.cM 106 450013040 ay.1.toNat none),(450013040,.bun (encS 4 1 dG.enc m_8))]) ?_ ?_
  ·refine A.block ?_
   obtain⟨bk,h7,hm⟩:=ah hm
   refine qD [(1,hdc [] (cc h7) oA)] [54] [(59,.bool (decide (bk.1<11)))] [900000103] [(900000103,.cells 103 (k5 bk.2))] ?_
   rcases aG hm with⟨c1,hm⟩|⟨c1,hm⟩
   ·refine qT c1 ?_
    obtain⟨ck,h8,hm⟩:=ah hm
    obtain⟨e_2,h9,hm⟩:=ah hm
    obtain⟨e_3,h10,hm⟩:=ah hm
    obtain⟨l_2,h11,hm⟩:=ah hm
    refine A.late (A.R W0 [] [(3,hdc [] (cc h8) oA),(4,hio 4 1 dG.enc qg h9),(5,hlS 4 1 530013003 530013002 dG.enc wK h9),(7,hix (ix dG h10)),(8,hso 530013002 (st dG (off:=0) (ca:=[.bool true]) h10 h11 rfl) (rT h10).1.1)] [(0,.ptr 900000103 0),(4,.ptr 13004 0),(5,i6 ay.1),(6,.ptr 13006 0),(9,.own 13040),(11,i6 (j3:Int))] [(900000103,.cells 103 (k5 ck.2)),(13004,.cells 28 [.bw,.bw]),(13006,.cells 28 [.own 701300600,.bw]),(701300600,.slice 31 2 (ml bn m_1) 0 false),(13040,.cM 106 530013003 ay.1.toNat (some (some ck.1.toNat,530013002))),(530013003,.bun (encS 4 1 dG.enc (List.set m_7 ck.1.toNat []))),(530013002,.slice 4 1 (ml dG l_2) 0 false)] (by kernel_rfl) ?_)
    refine⟨_,_,(aU.abS (d:=13040) (e:=530013003) (e2:=530013004) (t:=530013002) m_7 dG.enc l_2 rfl rfl rfl rfl rfl rfl rfl),?_⟩
    exact Exists.intro ((List.set m_7 ck.1.toNat l_2),ck.2.L,ck.2.At) (And.intro hm (aU.go [.rn 530013004 450013040] [] (by kernel_rfl)))
   exact qF c1<|A.skip<|qX (m_7,bk.2.L,bk.2.At) hm
  rintro⟨m_8,m_9,xB⟩ hm
  rw[hJ1]at hm
  exact qGs [(1,hto (zu (by omega) hx3 (of_decide_eq_true hh3)))] [11] [(11,i6 (j3+1:Int))]<|qX (m_9,xB,m_8) hm
 rintro j3 ⟨m_5,m_6,m_7⟩ hj3 hl3 hm
 rw[hK3]at hm
 refine A.seq<|qDs [] [] [(54,.bool (decide ((j3:Int)<ay.1)))] ?_
 refine A.cF rfl (geF hl3)<|A.exit<|A.seq ?_
 obtain⟨dA,h12,hm⟩:=ah hm
 refine qD [(3,hdc [] (cc h12) oA)] [11,54] [(12,i6 dA.1)] [900000103] [(900000103,.cells 103 (k5 dA.2))]<|A.block ?_
 obtain⟨F4,n4,hF4,hm⟩:=gW hm
 refine A.lpW (F:=F4) hm (λ(i_1,xC,xD,ec)=>[(0,.ptr 900000103 0),(4,.ptr 13004 0),(5,i6 ay.1),(6,.ptr 13006 0),(9,.own 13040),(12,i6 i_1)]) (λ(i_1,xC,xD,ec)=>[(900000103,.cells 103 [lf aB xC,i6 xD]),(13004,.cells 28 [.bw,.bw]),(13006,.cells 28 [.own 701300600,.bw]),(701300600,.slice 31 2 (ml bn m_1) 0 false),(13040,.cM 106 450013040 ay.1.toNat none),(450013040,.bun (encS 4 1 dG.enc ec))]) ?_ ?_
 ·exact qW
 rintro Z4 ⟨i_1,xC,xD,ec⟩ hm
 rw[hF4]at hm
 refine A.seq<|qDs [] [] [(73,.bool (decide (0<i_1)))] ?_
 rcases aG hm with⟨c2,hm⟩|⟨c2,hm⟩
 ·refine qT c2<|A.skip ?_
  obtain⟨J2,hJ2,hm⟩:=eC hm
  refine A.J (J:=J2) (r:=r) (λ(xE,xF,xG)=>[(0,.ptr 900000103 0),(4,.ptr 13004 0),(5,i6 ay.1),(6,.ptr 13006 0),(9,.own 13040),(12,i6 i_1)]) (λ(xE,xF,xG)=>[(900000103,.cells 103 [lf aB xF,i6 xG]),(13004,.cells 28 [.bw,.bw]),(13006,.cells 28 [.own 701300600,.bw]),(701300600,.slice 31 2 (ml bn m_1) 0 false),(13040,.cM 106 450013040 ay.1.toNat none),(450013040,.bun (encS 4 1 dG.enc xE))]) ?_ ?_
  ·refine A.block ?_
   obtain⟨dg,h13,hm⟩:=ah hm
   obtain⟨dD,h14,hm⟩:=ah hm
   refine qD [(2,hdc [] (cc h13) oA),(5,hdc [] (cc h14) oA)] [73] [(13,i6 dg.1),(14,i6 dD.1)] [900000103] [(900000103,.cells 103 (k5 dD.2))]<|qDs [] [] [(84,.bool (!decide (dg.1=dD.1)))] ?_
   rcases aG hm with⟨c3,hm⟩|⟨c3,hm⟩
   ·refine qT c3 ?_
    obtain⟨e_4,h15,hm⟩:=ah hm
    obtain⟨e_5,h16,hm⟩:=ah hm
    obtain⟨l_3,h17,hm⟩:=ah hm
    refine A.late (A.R W0 [] [(4,hio 4 1 dG.enc qg h15),(5,hlS 4 1 530013006 530013005 dG.enc wK h15),(9,hix (ix dG h16)),(10,hso 530013005 (st dG (off:=0) (ca:=[.bool true]) h16 h17 rfl) (rT h16).1.1)] [(0,.ptr 900000103 0),(4,.ptr 13004 0),(5,i6 ay.1),(6,.ptr 13006 0),(9,.own 13040),(12,i6 i_1)] [(900000103,.cells 103 (k5 dD.2)),(13004,.cells 28 [.bw,.bw]),(13006,.cells 28 [.own 701300600,.bw]),(701300600,.slice 31 2 (ml bn m_1) 0 false),(13040,.cM 106 530013006 ay.1.toNat (some (some (if dD.1<dg.1 then dD.1 else dg.1).toNat,530013005))),(530013006,.bun (encS 4 1 dG.enc (List.set ec (if dD.1<dg.1 then dD.1 else dg.1).toNat []))),(530013005,.slice 4 1 (ml dG l_3) 0 false)] (by kernel_rfl) ?_)
    refine⟨_,_,(aU.abS (d:=13040) (e:=530013006) (e2:=530013007) (t:=530013005) ec dG.enc l_3 rfl rfl rfl rfl rfl rfl rfl),?_⟩
    exact Exists.intro ((List.set ec (if dD.1<dg.1 then dD.1 else dg.1).toNat l_3),dD.2.L,dD.2.At) (And.intro hm (aU.go [.rn 530013007 450013040] [] (by kernel_rfl)))
   exact qF c3<|A.skip<|qX (ec,dD.2.L,dD.2.At) hm
  rintro⟨xE,xF,xG⟩ hm
  rw[hJ2]at hm
  exact qGs [] [12] [(12,i6 (w64 (i_1-1)))]<|qX (w64 (i_1-1),xF,xG,xE) hm
 refine qF c2<|A.exit ?_
 obtain⟨kY,h18,hm⟩:=ah hm
 refine qD [(1,hdc [] (cc h18) oA)] [5,12,73] [(15,.bool (decide (kY.1=0)))] [900000103] [(900000103,.cells 103 (k5 kY.2))]<|A.seq<|qDs [(1,hno 4 1 dG.enc ec qg)] [] [(99,i6 (ec.length:Int)),(100,i6 0)]<|A.block ?_
 obtain⟨hh5,hm⟩:=gz hm
 obtain⟨B5,K5,hB5,hK5,hm⟩:=nZ hm
 refine A.lpN (hi:=(ec.length:Int)) (B:=B5) (K:=K5) hm rfl (λj5=>λ(sI,sJ,sK)=>[(0,.ptr 900000103 0),(4,.ptr 13004 0),(6,.ptr 13006 0),(9,.own 13040),(15,.bool (decide (kY.1=0))),(99,i6 (ec.length:Int)),(100,i6 (j5:Int))]) (λj5=>λ(sI,sJ,sK)=>[(900000103,.cells 103 [lf aB sJ,i6 sK]),(13004,.cells 28 [.bw,.bw]),(13006,.cells 28 [.own 701300600,.own 701300601]),(701300600,.slice 31 2 (ml bn m_1) 0 false),(13040,.cM 106 450013040 ay.1.toNat none),(450013040,.bun (encS 4 1 dG.enc ec)),(701300601,.slice 62 5 (ml bQ sI) 0 false)]) ?_ ?_ ?_
 ·exact aU.go [.ac 13006 701300601 62 5 1] [] (by kernel_rfl)
 ·rintro j5 Z5 ⟨sI,sJ,sK⟩ hj5 hx5 hm
  rw[hB5]at hm
  refine qDs [] [] [(101,.bool (decide ((j5:Int)<(ec.length:Int))))]<|A.seq<|A.cT rfl (decide_eq_true hx5)<|A.skip<|A.seq<|A.block<|qDs [] [101] [(16,i6 (j5:Int))]<|qDs [(1,hno 4 1 dG.enc ec qg)] [] [(104,i6 (ec.length:Int)),(105,i6 0)]<|A.block ?_
  obtain⟨hh6,hm⟩:=gz hm
  obtain⟨B6,K6,hB6,hK6,hm⟩:=nZ hm
  refine A.lpN (hi:=(ec.length:Int)) (B:=B6) (K:=K6) hm rfl (λj6=>λ(nK,pQ,pR)=>[(0,.ptr 900000103 0),(4,.ptr 13004 0),(6,.ptr 13006 0),(9,.own 13040),(15,.bool (decide (kY.1=0))),(16,i6 (j5:Int)),(99,i6 (ec.length:Int)),(100,i6 (j5:Int)),(104,i6 (ec.length:Int)),(105,i6 (j6:Int))]) (λj6=>λ(nK,pQ,pR)=>[(900000103,.cells 103 [lf aB pQ,i6 pR]),(13004,.cells 28 [.bw,.bw]),(13006,.cells 28 [.own 701300600,.own 701300601]),(701300600,.slice 31 2 (ml bn m_1) 0 false),(13040,.cM 106 450013040 ay.1.toNat none),(450013040,.bun (encS 4 1 dG.enc ec)),(701300601,.slice 62 5 (ml bQ nK) 0 false)]) ?_ ?_ ?_
  ·exact qW
  ·rintro j6 Z6 ⟨nK,pQ,pR⟩ hj6 hx6 hm
   rw[hB6]at hm
   refine qDs [] [] [(106,.bool (decide ((j6:Int)<(ec.length:Int))))]<|A.seq<|A.cT rfl (decide_eq_true hx6)<|A.skip ?_
   obtain⟨J3,hJ3,hm⟩:=eC hm
   refine A.J (J:=J3) (r:=r) (λ(xH,xI,xJ)=>[(0,.ptr 900000103 0),(4,.ptr 13004 0),(6,.ptr 13006 0),(9,.own 13040),(15,.bool (decide (kY.1=0))),(16,i6 (j5:Int)),(99,i6 (ec.length:Int)),(100,i6 (j5:Int)),(104,i6 (ec.length:Int)),(105,i6 (j6:Int))]) (λ(xH,xI,xJ)=>[(900000103,.cells 103 [lf aB xH,i6 xI]),(13004,.cells 28 [.bw,.bw]),(13006,.cells 28 [.own 701300600,.own 701300601]),(701300600,.slice 31 2 (ml bn m_1) 0 false),(13040,.cM 106 450013040 ay.1.toNat none),(450013040,.bun (encS 4 1 dG.enc ec)),(701300601,.slice 62 5 (ml bQ xJ) 0 false)]) ?_ ?_
   ·refine A.block<|qDs [] [106] [(17,i6 (j6:Int))] ?_
    refine A.seq ?_
    obtain⟨e_6,h19,hm⟩:=ah hm
    obtain⟨e_7,h20,hm⟩:=ah hm
    refine qD [(2,hio 4 1 dG.enc qg h19),(3,hlS 4 1 530013009 530013008 dG.enc wK h19),(5,hix (ix dG h20)),(6,hlo 530013008 0 (ix dG h20))] [] [(115,.bool (!e_7))] [13040,450013040] [(13040,.cM 106 530013009 ay.1.toNat (some (some (j5:Int).toNat,530013008))),(530013009,.bun (encS 4 1 dG.enc (List.set ec (j5:Int).toNat []))),(530013008,.slice 4 1 (ml dG e_6) 0 false)]<|A.weak ((aU.akn (d:=13040) (e:=530013009) (e2:=530013010) (t:=530013008) ec dG.enc h19 rfl rfl rfl rfl rfl rfl rfl)) ?_
    rcases aG hm with⟨c4,hm⟩|⟨c4,hm⟩
    ·exact qT c4<|A.exit<|Exists.intro (pQ,pR,nK) (And.intro hm (aU.go [.rn 530013010 450013040] [] (by kernel_rfl)))
    refine qF c4<|A.skip ?_
    obtain⟨e_8,h21,hm⟩:=ah hm
    obtain⟨e_9,h22,hm⟩:=ah hm
    obtain⟨mm,h23,hm⟩:=ah hm
    refine qS [(3,hix (ix bn h21)),(5,hlo 701300600 0 (ix bn h21)),(9,hix (ix bn h22)),(11,hlo 701300600 0 (ix bn h22)),(14,hdc [] (eG h23) zY),(16,.al 13018)] [(0,.ptr 900000103 0),(4,.ptr 13004 0),(6,.ptr 13006 0),(9,.own 13040),(15,.bool (decide (kY.1=0))),(16,i6 (j5:Int)),(99,i6 (ec.length:Int)),(100,i6 (j5:Int)),(104,i6 (ec.length:Int)),(105,i6 (j6:Int)),(18,.ptr 13018 0)] [(900000103,.cells 103 (k5 mm.2)),(13004,.cells 28 [.bw,.bw]),(13006,.cells 28 [.own 701300600,.own 701300601]),(701300600,.slice 31 2 (ml bn m_1) 0 false),(13040,.cM 106 530013010 ay.1.toNat none),(530013010,.bun (encS 4 1 dG.enc ec)),(701300601,.slice 62 5 (ml bQ nK) 0 false),(13018,.cells 62 [i6 e_8.ID,i6 e_9.ID,i6 1,i6 1,i6 mm.1])] ?_
    obtain⟨J4,hJ4,hm⟩:=eC hm
    refine A.J (J:=J4) (r:=r) (λ(xK,xL,z6,z7)=>[(0,.ptr 900000103 0),(4,.ptr 13004 0),(6,.ptr 13006 0),(9,.own 13040),(15,.bool (decide (kY.1=0))),(16,i6 (j5:Int)),(18,.ptr 13018 0),(99,i6 (ec.length:Int)),(100,i6 (j5:Int)),(104,i6 (ec.length:Int)),(105,i6 (j6:Int))]) (λ(xK,xL,z6,z7)=>[(900000103,.cells 103 [lf aB xK,i6 xL]),(13004,.cells 28 [.bw,.bw]),(13006,.cells 28 [.own 701300600,.own 701300601]),(701300600,.slice 31 2 (ml bn m_1) 0 false),(13040,.cM 106 530013010 ay.1.toNat none),(530013010,.bun (encS 4 1 dG.enc ec)),(701300601,.slice 62 5 (ml bQ nK) 0 false),(13018,.cells 62 [i6 e_8.ID,i6 e_9.ID,i6 z6,i6 z7,i6 mm.1])]) ?_ ?_
    ·refine qDs [] [] [(133,.bool (!(decide (kY.1=0))))] ?_
     rcases aG hm with⟨c5,hm⟩|⟨c5,hm⟩
     ·refine qT c5 ?_
      obtain⟨uR,h24,hm⟩:=ah hm
      obtain⟨lF,h25,hm⟩:=ah hm
      refine qD [(2,hdc [] (gM h24) aeV),(4,hdc [] (eG h25) zY)] [133] [] [900000103,13018] [(900000103,.cells 103 (k5 lF.2)),(13018,.cells 62 [i6 e_8.ID,i6 e_9.ID,i6 lF.1,i6 1,i6 mm.1])] ?_
      obtain⟨ab8,h26,hm⟩:=ah hm
      obtain⟨oR,h27,hm⟩:=ah hm
      exact qG [(6,hdc [] (gM h26) aeV),(8,hdc [] (eG h27) zY)] [] [] [900000103,13018] [(900000103,.cells 103 (k5 oR.2)),(13018,.cells 62 [i6 e_8.ID,i6 e_9.ID,i6 lF.1,i6 oR.1,i6 mm.1])]<|qX (oR.2.L,oR.2.At,lF.1,oR.1) hm
     exact qF c5<|A.skip<|qX (mm.2.L,mm.2.At,(1:Int),(1:Int)) hm
    rintro⟨xK,xL,z6,z7⟩ hm
    rw[hJ4]at hm
    obtain⟨l_4,h28,hm⟩:=ah hm
    exact qG [(4,hap 13654 (ap bQ (bytes:=40) (by decide) h28))] [18] [] [13006,701300601,13018] [(13006,.cells 28 [.own 701300600,.own 13654]),(13654,.slice 62 5 (ml bQ l_4) 0 false)]<|Exists.intro (xK,xL,l_4) (And.intro hm (aU.go [.sw 13654 701300601,.rn 530013010 450013040] [] (by kernel_rfl)))
   rintro⟨xH,xI,xJ⟩ hm
   rw[hJ3]at hm
   exact qGs [(0,hto (zu (by omega) hx6 (of_decide_eq_true hh6)))] [105] [(105,i6 (j6+1:Int))]<|qX (xJ,xH,xI) hm
  rintro j6 ⟨nK,pQ,pR⟩ hj6 hl6 hm
  rw[hK6]at hm
  exact qDs [] [] [(106,.bool (decide ((j6:Int)<(ec.length:Int))))]<|A.seq<|A.cF rfl (geF hl6)<|A.exit<|qGs [(0,hto (zu (by omega) hx5 (of_decide_eq_true hh5)))] [16,100,104,105,106] [(100,i6 (j5+1:Int))]<|qX (nK,pQ,pR) hm
 rintro j5 ⟨sI,sJ,sK⟩ hj5 hl5 hm
 rw[hK5]at hm
 refine qDs [] [] [(101,.bool (decide ((j5:Int)<(ec.length:Int))))]<|A.seq<|A.cF rfl (geF hl5)<|A.exit<|A.weak (aU.frzS (d:=13040) (e:=450013040) ec dG.enc rfl rfl)<|qS [] [(4,.ptr 13004 0)] [(900000103,.cells 103 [lf aB sJ,i6 sK]),(13004,.cells 28 [.own 701300600,.own 701300601]),(701300600,.slice 31 2 (ml bn m_1) 0 false),(701300601,.slice 62 5 (ml bQ sI) 0 false)]<|A.ret ?_
 obtain rfl:=some_inj hm
 exact A.fin W0 [.fz [701300600],.sw 701300601 500001300] rfl (by kernel_rfl)
theorem yQ{t:bp}{p:aq}{n:Int}{r:(List Int)×bp}(hm:mZ t p n=some r):bM prog 15 [(900000103,.cells 103 (k5 t))] [.ptr 900000103 0,.agg (k2 p),i6 n] (λa σ'=>a=lf aB r.1∧σ'=[(900000103,.cells 103 (k5 r.2))]):=by
 refine bg func15 rfl rfl ?_
 unfold mZ at hm
 refine qS [(0,.al 15004)] [(0,.ptr 900000103 0),(2,i6 n),(4,.ptr 15004 0)] [(900000103,.cells 103 (k5 t)),(15004,.cells 28 (k2 p))]<|qDs [] [] [(7,.bw)]<|A.seq ?_
 obtain⟨ay,h1,hm⟩:=ah hm
 refine qD [(3,hdc [] (cc h1) oA)] [2] [(8,i6 ay.1)] [900000103] [(900000103,.cells 103 (k5 ay.2))]<|A.block ?_
 obtain⟨F1,n1,hF1,hm⟩:=gW hm
 refine A.lpW (F:=F1) hm (λ(bU,i_1,m_1,m_2)=>[(0,.ptr 900000103 0),(4,.ptr 15004 0),(7,lf aB bU),(8,i6 i_1)]) (λ(bU,i_1,m_1,m_2)=>[(900000103,.cells 103 [lf aB m_1,i6 m_2]),(15004,.cells 28 (k2 p))]) ?_ ?_
 ·exact aU.go [] [7] (by kernel_rfl)
 rintro Z1 ⟨bU,i_1,m_1,m_2⟩ hm
 rw[hF1]at hm
 refine A.seq<|A.mid [(0,.ptr 900000103 0),(4,.ptr 15004 0),(7,lf aB bU),(8,i6 i_1),(20,.bool ((decide (0<i_1))&&(decide (0<(p.aS.length:Int)))))] [(900000103,.cells 103 [lf aB m_1,i6 m_2]),(15004,.cells 28 (k2 p))] (λhk=>?_) ?_
 ·rcases tf (decide (0<i_1))with c1|c1
  ·exact qS [(2,hto (bE c1)),(5,hto (lnE bn p.aS)),(7,hto (zC (q:=decide (0<(p.aS.length:Int))) c1))] _ _ hk
  exact qS [(2,hto (bE c1)),(7,hto (zD (q:=decide (0<(p.aS.length:Int))) c1))] _ _ hk
 rcases aG hm with⟨c2,hm⟩|⟨c2,hm⟩
 ·refine qT c2<|A.skip<|A.seq<|A.block ?_
  obtain⟨aI,h2,hm⟩:=ah hm
  obtain⟨e_1,h3,hm⟩:=ah hm
  obtain⟨bk,h4,hm⟩:=ah hm
  exact qG [(6,hto (lnE bn p.aS)),(7,hdc [] (cc h2) oA),(8,hix (ix bn h3)),(11,hro (sH h4) ck46)] [7,20] [(7,lf aB bk)] [900000103] [(900000103,.cells 103 (k5 aI.2))]<|qGs [] [8] [(8,i6 (w64 (i_1-1)))]<|Exists.intro (bk,w64 (i_1-1),aI.2.L,aI.2.At) (And.intro hm (aU.go [] [7] (by kernel_rfl)))
 refine qF c2<|A.exit<|qD [] [0,4,7,8,20] [(6,lf aB bU)] [15004] [] ?_
 cases hm
 exact A.ret qE
end Go.Proofs.YtmnbolcmepihlaaGreat
