/- The eC of cr of the program. No condition but bT bB stand in each. -/
import Derived.Test.YtpmifmdidfgpdaaGreatDA
import Derived.Test.YtpmifmdidfgpdaaGreatVT
namespace Go.Proofs.YtpmifmdidfgpdaaGreat
open Go
set_option maxRecDepth 100000
set_option linter.all false
theorem uc {t : aR} {most : Int} {r : aF × aR} (hm : kU t most = some r) : bM Tryz.prog 51 [(900000074, .cells 74 (k3 t))] [.ptr 900000074 0, i6 most] (fun a σ' => a = .agg (k7 r.1) ∧ σ' = [(900000074, .cells 74 (k3 r.2))]) := by
 refine aT Tryz.func51 rfl rfl ?_
 unfold kU at hm
 refine qS [(0, .al 51004)] [(0, .ptr 900000074 0), (1, i6 most), (4, .ptr 51004 0)] [(900000074, .cells 74 (k3 t)), (51004, .cells 60 [.aG])] ?_
 refine A.seq ?_
 obtain ⟨af, h1, hm⟩ := aa hm
 refine qD [(1, hdc [] (bO h1) iN)] [] [(9, .bool (decide (af.1 = (0:Int))))] [900000074] [(900000074, .cells 74 (k3 af.2))] ?_
 rcases ai hm with ⟨c1,hm⟩|⟨c1,hm⟩
 ·refine qT c1 ?_
  refine qDs [] [0, 1, 9] [] ?_
  cases hm
  exact A.ret qE
 refine qF c1 ?_
 refine A.skip ?_
 show ah _ _ _ _ _
 obtain ⟨ay, h2, hm⟩ := aa hm
 refine qD [(1, hdc [500004900] (qa h2) api), (2, .al 51005)] [0, 9] [(5, .ptr 51005 0)] [900000074] [(900000074, .cells 74 (k3 ay.2)), (500004900, .slice 50 5 (ml aH ay.1.aq) 0 false), (51005, .cells 60 [.own 500004900])] ?_
 refine A.seq ?_
 refine qDs [] [] [(6, i6 0)] ?_
 refine A.block ?_
 obtain ⟨F1, n1, hF1, hm⟩ := fC hm
 refine A.lpW (F := F1) hm (fun sg => match sg with | (i_1, m_1) => [(1, i6 most), (4, .ptr 51004 0), (5, .ptr 51005 0), (6, i6 i_1)]) (fun sg => match sg with | (i_1, m_1) => [(900000074, .cells 74 (k3 ay.2)), (51004, .cells 60 [.aG]), (51005, .cells 60 [.own 705100500]), (705100500, .slice 50 5 (ml aH m_1) 0 false)]) ?_ ?_
 ·exact bA.go [.sw 500004900 705100500] [] (by kernel_rfl)
 rintro Z1 ⟨i_1, m_1⟩ hm
 rw [hF1] at hm
 refine A.seq ?_
 refine qDs [(3, hto (lnE aH m_1))] [] [(17, .bool (decide (i_1 < (m_1.length:Int))))] ?_
 rcases ai hm with ⟨c2,hm⟩|⟨c2,hm⟩
 ·refine qT c2 ?_
  refine A.skip ?_
  show ah _ _ _ _ _
  refine A.seq ?_
  refine A.block ?_
  obtain ⟨e_1, h3, hm⟩ := aa hm
  obtain ⟨l_1, h4, hm⟩ := aa hm
  refine qG [(6, hix (ix aH h3)), (8, hlo 705100500 1 (ix aH h3)), (11, hix (ix aH h3)), (13, hso 705100500 (st aH (off := 1) (ca := [i6 (if most < e_1.Seq then most else e_1.Seq)]) h3 h4 rfl) (iM h3).1.1)] [17] [] [705100500] [(705100500, .slice 50 5 (ml aH l_1) 0 false)] ?_
  show ah _ _ _ _ _
  refine qGs [] [6] [(6, i6 (w64 (i_1 + (1:Int))))] ?_
  exact qX (w64 (i_1 + (1:Int)), l_1) hm
 refine qF c2 ?_
 refine A.exit ?_
 show ah _ _ _ _ _
 refine qD [] [1, 5, 6, 17] [] [51004, 51005] [(51004, .cells 60 [.own 705100500])] ?_
 refine A.ret ?_
 obtain rfl := some_inj hm
 exact A.fin W0 [.fz [705100500]] rfl (by kernel_rfl)
theorem su {t : aR} {mE : Int} {most : Int} {r : aB × aR} (hm : jB t mE most = some r) : bM Tryz.prog 11 [(900000074, .cells 74 (k3 t))] [.ptr 900000074 0, i6 mE, i6 most] (fun a σ' => a = .agg (k11 r.1) ∧ σ' = [(900000074, .cells 74 (k3 r.2))]) := by
 refine aT Tryz.func11 rfl rfl ?_
 unfold jB at hm
 refine qS [(0, .al 11006)] [(0, .ptr 900000074 0), (1, i6 mE), (2, i6 most), (6, .ptr 11006 0)] [(900000074, .cells 74 (k3 t)), (11006, .cells 27 [.aG, .aG, .aG])] ?_
 obtain ⟨af, h1, hm⟩ := aa hm
 refine qD [(2, hdc [500003800, 500003801] (u9 h1) ck38), (3, .al 11007)] [1] [(7, .ptr 11007 0)] [900000074] [(900000074, .cells 74 (k3 af.2)), (500003800, .slice 87 2 (ml aU af.1.aI) 0 false), (500003801, .slice 78 5 (ml az af.1.Links) 0 false), (11007, .cells 44 [.own 500003800, .own 500003801])] ?_
 refine qD [(3, .al 11008)] [] [(8, .ptr 11008 0)] [] [(11008, .cells 27 [.own 500003801, .aG, .aG])] ?_
 refine A.seq ?_
 refine qDs [] [] [(9, i6 0)] ?_
 refine A.block ?_
 refine A.bD 7 0 rfl rfl rfl rfl fun hb1 => ?_
 obtain ⟨B1, K1, hB1, hK1, hm⟩ := bt hm
 refine A.lpI (l := af.1.aI) (j0 := 0) (B := B1) (K := K1) hm (fun j1 => fun sg => match sg with | (m_1, m_2, m_3) => [(0, .ptr 900000074 0), (2, i6 most), (6, .ptr 11006 0), (7, .ptr 11007 0), (8, .ptr 11008 0), (9, i6 (j1 : Int))]) (fun j1 => fun sg => match sg with | (m_1, m_2, m_3) => [(900000074, .cells 74 [lf bL m_2, i6 m_3]), (11006, .cells 27 [.aG, .aG, .aG]), (500003800, .slice 87 2 (ml aU af.1.aI) 0 false), (500003801, .slice 78 5 (ml az af.1.Links) 0 false), (11007, .cells 44 [.own 500003800, .own 500003801]), (11008, .cells 27 [.own 500003801, .own 701100801, .aG]), (701100801, .slice 81 5 (ml aO m_1) 0 false)]) ?_ ?_ ?_
 ·exact bA.go [.ac 11008 701100801 81 5 1] [] (by kernel_rfl)
 ·rintro j1 e1 Z1 ⟨m_1, m_2, m_3⟩ hj1 hx1 hm
  rw [hB1] at hm
  refine A.seq ?_
  refine qDs [(3, hto (lnE aU af.1.aI))] [] [(25, .bool (decide ((j1 : Int) < (af.1.aI.length:Int))))] ?_
  refine qT (ltT hx1) ?_
  refine A.skip ?_
  show ah _ _ _ _ _
  refine A.seq ?_
  refine A.block ?_
  obtain ⟨ay, h2, hm⟩ := aa hm
  obtain ⟨aK, h3, hm⟩ := aa hm
  obtain ⟨bh, h4, hm⟩ := aa hm
  refine qD [(3, hix (ix aU (bf hx1))), (5, hlo 500003800 0 (ix aU (bf hx1))), (9, hdc [] (di h2) qw), (12, hdc [] (bO h3) iN), (16, hdc [] (uc h4) apj), (18, .al 11010)] [25] [(10, .ptr 11010 0)] [900000074] [(900000074, .cells 74 (k3 bh.2)), (11010, .cells 81 [i6 e1.ID, i6 (if ay.1 < most then ay.1 else most), .bool (decide ((0:Int) < aK.1)), .aG, lf aH bh.1.aq])] ?_
  refine A.seq ?_
  refine qDs [] [] [(11, i6 0)] ?_
  refine A.block ?_
  obtain ⟨B2, K2, hB2, hK2, hm⟩ := jg hm
  refine A.lpN (hi := (2:Int)) (B := B2) (K := K2) hm rfl (fun j2 => fun sg => match sg with | (m_4, m_5, m_6) => [(0, .ptr 900000074 0), (2, i6 most), (6, .ptr 11006 0), (7, .ptr 11007 0), (8, .ptr 11008 0), (9, i6 (j1 : Int)), (10, .ptr 11010 0), (11, i6 (j2 : Int))]) (fun j2 => fun sg => match sg with | (m_4, m_5, m_6) => [(900000074, .cells 74 [lf bL m_5, i6 m_6]), (11006, .cells 27 [.aG, .aG, .aG]), (500003800, .slice 87 2 (ml aU af.1.aI) 0 false), (500003801, .slice 78 5 (ml az af.1.Links) 0 false), (11007, .cells 44 [.own 500003800, .own 500003801]), (11008, .cells 27 [.own 500003801, .own 701100801, .aG]), (701100801, .slice 81 5 (ml aO m_1) 0 false), (11010, .cells 81 [i6 e1.ID, i6 (if ay.1 < most then ay.1 else most), .bool (decide ((0:Int) < aK.1)), .own 701101003, lf aH bh.1.aq]), (701101003, .slice 85 3 (ml aS m_4) 0 false)]) ?_ ?_ ?_
  ·exact bA.go [.ac 11010 701101003 85 3 3] [] (by kernel_rfl)
  ·rintro j2 Z2 ⟨m_4, m_5, m_6⟩ hj2 hx2 hm
   rw [hB2] at hm
   refine A.seq ?_
   refine qDs [] [] [(47, .bool (decide ((j2 : Int) < (2:Int))))] ?_
   refine A.cT rfl (decide_eq_true hx2) ?_
   refine A.skip ?_
   show ah _ _ _ _ _
   obtain ⟨J1, hJ1, hm⟩ := bJ hm
   refine A.J (J := J1) (r := r) (fun sg => match sg with | (m_7, m_8, m_9) => [(0, .ptr 900000074 0), (2, i6 most), (6, .ptr 11006 0), (7, .ptr 11007 0), (8, .ptr 11008 0), (9, i6 (j1 : Int)), (10, .ptr 11010 0), (11, i6 (j2 : Int))]) (fun sg => match sg with | (m_7, m_8, m_9) => [(900000074, .cells 74 [lf bL m_7, i6 m_8]), (11006, .cells 27 [.aG, .aG, .aG]), (500003800, .slice 87 2 (ml aU af.1.aI) 0 false), (500003801, .slice 78 5 (ml az af.1.Links) 0 false), (11007, .cells 44 [.own 500003800, .own 500003801]), (11008, .cells 27 [.own 500003801, .own 701100801, .aG]), (701100801, .slice 81 5 (ml aO m_1) 0 false), (11010, .cells 81 [i6 e1.ID, i6 (if ay.1 < most then ay.1 else most), .bool (decide ((0:Int) < aK.1)), .own 701101003, lf aH bh.1.aq]), (701101003, .slice 85 3 (ml aS m_9) 0 false)]) ?_ ?_
   ·refine A.block ?_
    obtain ⟨bI, h5, hm⟩ := aa hm
    refine qD [(1, hdc [] (bO h5) iN)] [47] [(52, .bool (decide (bI.1 = (0:Int))))] [900000074] [(900000074, .cells 74 (k3 bI.2))] ?_
    rcases ai hm with ⟨c1,hm⟩|⟨c1,hm⟩
    ·refine qT c1 ?_
     obtain ⟨bV, h6, hm⟩ := aa hm
     obtain ⟨cD, h7, hm⟩ := aa hm
     obtain ⟨l_1, h8, hm⟩ := aa hm
     refine qG [(4, hdc [] (eN h6) w6), (6, hdc [] (ri h7) apk), (9, hap 11562 (ap aS (bytes := 24) (by decide) h8))] [52] [] [900000074, 11010, 701101003] [(900000074, .cells 74 (k3 cD.2)), (11010, .cells 81 [i6 e1.ID, i6 (if ay.1 < most then ay.1 else most), .bool (decide ((0:Int) < aK.1)), .own 11562, lf aH bh.1.aq]), (11562, .slice 85 3 (ml aS l_1) 0 false)] ?_
     exact Exists.intro (cD.2.L, cD.2.At, l_1) (And.intro hm (bA.go [.sw 11562 701101003] [] (by kernel_rfl)))
    refine qF c1 ?_
    refine A.skip ?_
    exact qX (bI.2.L, bI.2.At, m_4) hm
   rintro ⟨m_7, m_8, m_9⟩ hm
   rw [hJ1] at hm
   refine qGs [(1, hto (tL (by omega) hx2 (by decide)))] [11] [(11, i6 (j2 + 1 : Int))] ?_
   exact qX (m_9, m_7, m_8) hm
  rintro j2 ⟨m_4, m_5, m_6⟩ hj2 hl2 hm
  rw [hK2] at hm
  refine A.seq ?_
  refine qDs [] [] [(47, .bool (decide ((j2 : Int) < (2:Int))))] ?_
  refine A.cF rfl (geF hl2) ?_
  refine A.exit ?_
  show ah _ _ _ _ _
  obtain ⟨l_2, h9, hm⟩ := aa hm
  refine A.R W0 [.fz [701101003], .sc 11010 [900000074, 11006, 500003800, 500003801, 11007, 11008, 701100801, 11010]] [(4, hap 11568 (ap aO (bytes := 72) (by decide) h9))] [(0, .ptr 900000074 0), (2, i6 most), (6, .ptr 11006 0), (7, .ptr 11007 0), (8, .ptr 11008 0), (9, i6 (j1 : Int))] [(900000074, .cells 74 [lf bL m_5, i6 m_6]), (11006, .cells 27 [.aG, .aG, .aG]), (500003800, .slice 87 2 (ml aU af.1.aI) 0 false), (500003801, .slice 78 5 (ml az af.1.Links) 0 false), (11007, .cells 44 [.own 500003800, .own 500003801]), (11008, .cells 27 [.own 500003801, .own 11568, .aG]), (11568, .slice 81 5 (ml aO l_2) 0 false)] (by kernel_rfl) ?_
  show ah _ _ _ _ _
  refine qR [(1, hto (inc hx1 hb1))] [(0, .ptr 900000074 0), (2, i6 most), (6, .ptr 11006 0), (7, .ptr 11007 0), (8, .ptr 11008 0), (9, i6 ((j1 + 1 : Nat) : Int))] [(900000074, .cells 74 [lf bL m_5, i6 m_6]), (11006, .cells 27 [.aG, .aG, .aG]), (500003800, .slice 87 2 (ml aU af.1.aI) 0 false), (500003801, .slice 78 5 (ml az af.1.Links) 0 false), (11007, .cells 44 [.own 500003800, .own 500003801]), (11008, .cells 27 [.own 500003801, .own 11568, .aG]), (11568, .slice 81 5 (ml aO l_2) 0 false)] ?_
  exact Exists.intro (l_2, m_5, m_6) (And.intro hm (bA.go [.sw 11568 701100801] [] (by kernel_rfl)))
 rintro j1 ⟨m_1, m_2, m_3⟩ hj1 hl1 hm
 rw [hK1] at hm
 refine A.seq ?_
 refine qDs [(3, hto (lnE aU af.1.aI))] [] [(25, .bool (decide ((j1 : Int) < (af.1.aI.length:Int))))] ?_
 refine qF (ltF hl1) ?_
 refine A.exit ?_
 show ah _ _ _ _ _
 refine A.seq ?_
 obtain ⟨dg, h10, hm⟩ := aa hm
 refine qD [(1, hdc [] (bO h10) iN)] [9, 25] [(12, i6 dg.1)] [900000074] [(900000074, .cells 74 (k3 dg.2))] ?_
 refine A.block ?_
 obtain ⟨F3, n3, hF3, hm⟩ := fC hm
 refine A.lpW (F := F3) hm (fun sg => match sg with | (i_1, gu, gf, kK) => [(0, .ptr 900000074 0), (2, i6 most), (6, .ptr 11006 0), (7, .ptr 11007 0), (8, .ptr 11008 0), (12, i6 i_1)]) (fun sg => match sg with | (i_1, gu, gf, kK) => [(900000074, .cells 74 [lf bL gf, i6 kK]), (11006, .cells 27 [.aG, .aG, .aG]), (500003800, .slice 87 2 (ml aU af.1.aI) 0 false), (500003801, .slice 78 5 (ml az af.1.Links) 0 false), (11007, .cells 44 [.own 500003800, .own 500003801]), (11008, .cells 27 [.own 500003801, .own 701100801, .own 701100802]), (701100801, .slice 81 5 (ml aO m_1) 0 false), (701100802, .slice 62 3 (ml aN gu) 0 false)]) ?_ ?_
 ·exact bA.go [.ac 11008 701100802 62 3 2] [] (by kernel_rfl)
 rintro Z3 ⟨i_1, gu, gf, kK⟩ hm
 rw [hF3] at hm
 refine A.seq ?_
 refine A.mid [(0, .ptr 900000074 0), (2, i6 most), (6, .ptr 11006 0), (7, .ptr 11007 0), (8, .ptr 11008 0), (12, i6 i_1), (79, .bool ((decide ((0:Int) < i_1)) && (decide ((1:Int) < (af.1.aI.length:Int)))))] [(900000074, .cells 74 [lf bL gf, i6 kK]), (11006, .cells 27 [.aG, .aG, .aG]), (500003800, .slice 87 2 (ml aU af.1.aI) 0 false), (500003801, .slice 78 5 (ml az af.1.Links) 0 false), (11007, .cells 44 [.own 500003800, .own 500003801]), (11008, .cells 27 [.own 500003801, .own 701100801, .own 701100802]), (701100801, .slice 81 5 (ml aO m_1) 0 false), (701100802, .slice 62 3 (ml aN gu) 0 false)] (fun hk => ?_) ?_
 ·rcases tf (decide ((0:Int) < i_1)) with c2 | c2
  ·exact qS [(2, hto (bE c2)), (5, hto (lnE aU af.1.aI)), (7, hto (qu (q := decide ((1:Int) < (af.1.aI.length:Int))) c2))] _ _ hk
  exact qS [(2, hto (bE c2)), (7, hto (rF (q := decide ((1:Int) < (af.1.aI.length:Int))) c2))] _ _ hk
 rcases ai hm with ⟨c3,hm⟩|⟨c3,hm⟩
 ·refine qT c3 ?_
  refine A.skip ?_
  show ah _ _ _ _ _
  refine A.seq ?_
  refine A.block ?_
  obtain ⟨dB, h11, hm⟩ := aa hm
  refine qD [(3, hto (lnE aU af.1.aI)), (4, hdc [] (bO h11) iN)] [79] [(13, i6 dB.1)] [900000074] [(900000074, .cells 74 (k3 dB.2))] ?_
  obtain ⟨bQ, h12, hm⟩ := aa hm
  obtain ⟨en, h13, hm⟩ := aa hm
  refine qD [(4, hto (lnE aU af.1.aI)), (6, hdc [] (eN h12) w6), (10, hto (lnE aU af.1.aI)), (11, hro (yx h13) apl)] [] [(14, i6 en)] [900000074] [(900000074, .cells 74 (k3 bQ.2))] ?_
  obtain ⟨e_1, h14, hm⟩ := aa hm
  obtain ⟨e_2, h15, hm⟩ := aa hm
  obtain ⟨cm, h16, hm⟩ := aa hm
  obtain ⟨l_3, h17, hm⟩ := aa hm
  refine qG [(5, hix (ix aU h14)), (7, hlo 500003800 0 (ix aU h14)), (11, hix (ix aU h15)), (13, hlo 500003800 0 (ix aU h15)), (16, hdc [] (uc h16) apj), (19, hap 11618 (ap aN (bytes := 40) (by decide) h17))] [13, 14] [] [900000074, 11008, 701100802] [(900000074, .cells 74 (k3 cm.2)), (11008, .cells 27 [.own 500003801, .own 701100801, .own 11618]), (11618, .slice 62 3 (ml aN l_3) 0 false)] ?_
  show ah _ _ _ _ _
  refine qGs [] [12] [(12, i6 (w64 (i_1 - (1:Int))))] ?_
  exact Exists.intro (w64 (i_1 - (1:Int)), l_3, cm.2.L, cm.2.At) (And.intro hm (bA.go [.sw 11618 701100802] [] (by kernel_rfl)))
 refine qF c3 ?_
 refine A.exit ?_
 show ah _ _ _ _ _
 refine qD [] [0, 2, 7, 8, 12, 79] [] [11006, 500003800, 11007, 11008] [(11006, .cells 27 [.own 500003801, .own 701100801, .own 701100802])] ?_
 refine A.ret ?_
 obtain rfl := some_inj hm
 exact A.fin W0 [.fz [500003801, 701100801, 701100802]] rfl (by kernel_rfl)
end Go.Proofs.YtpmifmdidfgpdaaGreat
