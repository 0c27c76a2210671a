/- The eC of cr of the program. No condition but bT bB stand in each. -/
import Derived.Test.YtpmifmdidfgpdaaGreatDA
import Derived.Test.YtpmifmdidfgpdaaGreatV3
namespace Go.Proofs.YtpmifmdidfgpdaaGreat
open Go
set_option maxRecDepth 100000
set_option linter.all false
theorem rj {t : aR} {aJ : Int} {n : Int} {r : aj × aR} (hm : iR t aJ n = some r) : bM Tryz.prog 96 [(900000074, .cells 74 (k3 t))] [.ptr 900000074 0, i6 aJ, i6 n] (fun a σ' => a = .agg (k6 r.1) ∧ σ' = [(900000074, .cells 74 (k3 r.2))]) := by
 refine aT Tryz.func96 rfl rfl ?_
 unfold iR at hm
 refine qS [(0, .al 96006)] [(0, .ptr 900000074 0), (1, i6 aJ), (2, i6 n), (6, .ptr 96006 0)] [(900000074, .cells 74 (k3 t)), (96006, .cells 50 [i6 0, i6 0, .bool false, .aG, .aG])] ?_
 obtain ⟨af, h1, hm⟩ := aa hm
 obtain ⟨ay, h2, hm⟩ := aa hm
 refine qD [(3, hdc [] (di h1) qw), (5, hdc [] (bO h2) iN), (8, .al 96007)] [] [(7, .ptr 96007 0)] [900000074] [(900000074, .cells 74 (k3 ay.2)), (96007, .cells 50 [i6 aJ, i6 af.1, .bool (decide ((0:Int) < ay.1)), .aG, .aG])] ?_
 refine A.seq ?_
 refine qDs [] [] [(8, i6 1)] ?_
 refine A.block ?_
 obtain ⟨B1, K1, hB1, hK1, hm⟩ := jg hm
 refine A.lpN (hi := (7:Int)) (B := B1) (K := K1) hm rfl (fun j1 => fun sg => match sg with | (m_1, m_2, m_3) => [(0, .ptr 900000074 0), (1, i6 aJ), (2, i6 n), (6, .ptr 96006 0), (7, .ptr 96007 0), (8, i6 (j1 : Int))]) (fun j1 => fun sg => match sg with | (m_1, m_2, m_3) => [(900000074, .cells 74 [lf bL m_2, i6 m_3]), (96006, .cells 50 [i6 0, i6 0, .bool false, .aG, .aG]), (96007, .cells 50 [i6 aJ, i6 af.1, .bool (decide ((0:Int) < ay.1)), .own 709600703, .aG]), (709600703, .slice 106 3 (ml bk m_1) 0 false)]) ?_ ?_ ?_
 ·exact bA.go [.ac 96007 709600703 106 3 3] [] (by kernel_rfl)
 ·rintro j1 Z1 ⟨m_1, m_2, m_3⟩ hj1 hx1 hm
  rw [hB1] at hm
  refine A.seq ?_
  refine qDs [] [] [(20, .bool (decide ((j1 : Int) ≤ (6:Int))))] ?_
  refine A.cT rfl (leT hx1) ?_
  refine A.skip ?_
  show ah _ _ _ _ _
  obtain ⟨J1, hJ1, hm⟩ := bJ hm
  refine A.J (J := J1) (r := r) (fun sg => match sg with | (m_4, m_5, m_6) => [(0, .ptr 900000074 0), (1, i6 aJ), (2, i6 n), (6, .ptr 96006 0), (7, .ptr 96007 0), (8, i6 (j1 : Int))]) (fun sg => match sg with | (m_4, m_5, m_6) => [(900000074, .cells 74 [lf bL m_4, i6 m_5]), (96006, .cells 50 [i6 0, i6 0, .bool false, .aG, .aG]), (96007, .cells 50 [i6 aJ, i6 af.1, .bool (decide ((0:Int) < ay.1)), .own 709600703, .aG]), (709600703, .slice 106 3 (ml bk m_6) 0 false)]) ?_ ?_
  ·refine A.block ?_
   obtain ⟨J2, hJ2, hm⟩ := bJ hm
   refine A.J (J := J2) (r := r) (fun sg => match sg with | (v_1, m_7, m_8) => [(0, .ptr 900000074 0), (1, i6 aJ), (2, i6 n), (6, .ptr 96006 0), (7, .ptr 96007 0), (8, i6 (j1 : Int)), (30, .bool v_1)]) (fun sg => match sg with | (v_1, m_7, m_8) => [(900000074, .cells 74 [lf bL m_7, i6 m_8]), (96006, .cells 50 [i6 0, i6 0, .bool false, .aG, .aG]), (96007, .cells 50 [i6 aJ, i6 af.1, .bool (decide ((0:Int) < ay.1)), .own 709600703, .aG]), (709600703, .slice 106 3 (ml bk m_1) 0 false)]) ?_ ?_
   ·rcases ai hm with ⟨c1,hm⟩|⟨c1,hm⟩
    ·obtain ⟨aK, h3, hm⟩ := aa hm
     refine qG [(3, hto (bE c1)), (5, hdc [] (bO h3) iN)] [20] [(30, .bool (decide (aK.1 = (0:Int))))] [900000074] [(900000074, .cells 74 (k3 aK.2))] ?_
     exact qX (decide (aK.1 = (0:Int)), aK.2.L, aK.2.At) hm
    refine qGs [(3, hto (bE c1))] [20] [(30, .bool false)] ?_
    exact qX (false, m_2, m_3) hm
   rintro ⟨v_1, m_7, m_8⟩ hm
   rw [hJ2] at hm
   rcases ai hm with ⟨c2,hm⟩|⟨c2,hm⟩
   ·refine qT c2 ?_
    obtain ⟨bh, h4, hm⟩ := aa hm
    obtain ⟨bI, h5, hm⟩ := aa hm
    obtain ⟨l_1, h6, hm⟩ := aa hm
    refine qG [(4, hdc [] (eN h4) w6), (6, hdc [] (bO h5) iN), (9, hap 96540 (ap bk (bytes := 24) (by decide) h6))] [30] [] [900000074, 96007, 709600703] [(900000074, .cells 74 (k3 bI.2)), (96007, .cells 50 [i6 aJ, i6 af.1, .bool (decide ((0:Int) < ay.1)), .own 96540, .aG]), (96540, .slice 106 3 (ml bk l_1) 0 false)] ?_
    exact Exists.intro (bI.2.L, bI.2.At, l_1) (And.intro hm (bA.go [.sw 96540 709600703] [] (by kernel_rfl)))
   refine qF c2 ?_
   refine A.skip ?_
   exact qX (m_7, m_8, m_1) hm
  rintro ⟨m_4, m_5, m_6⟩ hm
  rw [hJ1] at hm
  refine qGs [(1, hto (tL (by omega) hx1 (by decide)))] [8] [(8, i6 (j1 + 1 : Int))] ?_
  exact qX (m_6, m_4, m_5) hm
 rintro j1 ⟨m_1, m_2, m_3⟩ hj1 hl1 hm
 rw [hK1] at hm
 refine A.seq ?_
 refine qDs [] [] [(20, .bool (decide ((j1 : Int) ≤ (6:Int))))] ?_
 refine A.cF rfl (gtF hl1) ?_
 refine A.exit ?_
 show ah _ _ _ _ _
 refine A.seq ?_
 refine qDs [] [8, 20] [(9, i6 0)] ?_
 refine A.block ?_
 obtain ⟨B2, K2, hB2, hK2, hm⟩ := jg hm
 refine A.lpN (hi := (2:Int)) (B := B2) (K := K2) hm rfl (fun j2 => fun sg => match sg with | (m_9, gu, gf) => [(0, .ptr 900000074 0), (1, i6 aJ), (2, i6 n), (6, .ptr 96006 0), (7, .ptr 96007 0), (9, i6 (j2 : Int))]) (fun j2 => fun sg => match sg with | (m_9, gu, gf) => [(900000074, .cells 74 [lf bL gu, i6 gf]), (96006, .cells 50 [i6 0, i6 0, .bool false, .aG, .aG]), (96007, .cells 50 [i6 aJ, i6 af.1, .bool (decide ((0:Int) < ay.1)), .own 709600703, .own 709600704]), (709600703, .slice 106 3 (ml bk m_1) 0 false), (709600704, .slice 85 3 (ml aS m_9) 0 false)]) ?_ ?_ ?_
 ·exact bA.go [.ac 96007 709600704 85 3 4] [] (by kernel_rfl)
 ·rintro j2 Z2 ⟨m_9, gu, gf⟩ hj2 hx2 hm
  rw [hB2] at hm
  refine A.seq ?_
  refine qDs [] [] [(43, .bool (decide ((j2 : Int) < (2:Int))))] ?_
  refine A.cT rfl (decide_eq_true hx2) ?_
  refine A.skip ?_
  show ah _ _ _ _ _
  obtain ⟨J3, hJ3, hm⟩ := bJ hm
  refine A.J (J := J3) (r := r) (fun sg => match sg with | (kK, sI, sJ) => [(0, .ptr 900000074 0), (1, i6 aJ), (2, i6 n), (6, .ptr 96006 0), (7, .ptr 96007 0), (9, i6 (j2 : Int))]) (fun sg => match sg with | (kK, sI, sJ) => [(900000074, .cells 74 [lf bL kK, i6 sI]), (96006, .cells 50 [i6 0, i6 0, .bool false, .aG, .aG]), (96007, .cells 50 [i6 aJ, i6 af.1, .bool (decide ((0:Int) < ay.1)), .own 709600703, .own 709600704]), (709600703, .slice 106 3 (ml bk m_1) 0 false), (709600704, .slice 85 3 (ml aS sJ) 0 false)]) ?_ ?_
  ·refine A.block ?_
   obtain ⟨bV, h7, hm⟩ := aa hm
   refine qD [(1, hdc [] (bO h7) iN)] [43] [(48, .bool (decide (bV.1 = (0:Int))))] [900000074] [(900000074, .cells 74 (k3 bV.2))] ?_
   rcases ai hm with ⟨c3,hm⟩|⟨c3,hm⟩
   ·refine qT c3 ?_
    obtain ⟨cD, h8, hm⟩ := aa hm
    obtain ⟨dg, h9, hm⟩ := aa hm
    obtain ⟨l_2, h10, hm⟩ := aa hm
    refine qG [(4, hdc [] (eN h8) w6), (6, hdc [] (ri h9) apk), (9, hap 96558 (ap aS (bytes := 24) (by decide) h10))] [48] [] [900000074, 96007, 709600704] [(900000074, .cells 74 (k3 dg.2)), (96007, .cells 50 [i6 aJ, i6 af.1, .bool (decide ((0:Int) < ay.1)), .own 709600703, .own 96558]), (96558, .slice 85 3 (ml aS l_2) 0 false)] ?_
    exact Exists.intro (dg.2.L, dg.2.At, l_2) (And.intro hm (bA.go [.sw 96558 709600704] [] (by kernel_rfl)))
   refine qF c3 ?_
   refine A.skip ?_
   exact qX (bV.2.L, bV.2.At, m_9) hm
  rintro ⟨kK, sI, sJ⟩ hm
  rw [hJ3] at hm
  refine qGs [(1, hto (tL (by omega) hx2 (by decide)))] [9] [(9, i6 (j2 + 1 : Int))] ?_
  exact qX (sJ, kK, sI) hm
 rintro j2 ⟨m_9, gu, gf⟩ hj2 hl2 hm
 rw [hK2] at hm
 refine A.seq ?_
 refine qDs [] [] [(43, .bool (decide ((j2 : Int) < (2:Int))))] ?_
 refine A.cF rfl (geF hl2) ?_
 refine A.exit ?_
 show ah _ _ _ _ _
 obtain ⟨J4, hJ4, hm⟩ := bJ hm
 refine A.J (J := J4) (r := r) (fun sg => match sg with | (tQ, tT, qy, qz, pM, aci) => [(6, .ptr 96006 0), (7, .ptr 96007 0)]) (fun sg => match sg with | (tQ, tT, qy, qz, pM, aci) => [(900000074, .cells 74 [lf bL tQ, i6 tT]), (96006, .cells 50 [i6 0, i6 0, .bool false, .aG, .aG]), (96007, .cells 50 [i6 qy, i6 qz, .bool (decide ((0:Int) < ay.1)), .own 709600703, .own 709600704]), (709600703, .slice 106 3 (ml bk pM) 0 false), (709600704, .slice 85 3 (ml aS aci) 0 false)]) ?_ ?_
 ·obtain ⟨J5, hJ5, hm⟩ := bJ hm
  refine A.J (J := J5) (r := r) (fun sg => match sg with | (v_2, y9, za) => [(0, .ptr 900000074 0), (1, i6 aJ), (6, .ptr 96006 0), (7, .ptr 96007 0), (66, .bool v_2)]) (fun sg => match sg with | (v_2, y9, za) => [(900000074, .cells 74 [lf bL y9, i6 za]), (96006, .cells 50 [i6 0, i6 0, .bool false, .aG, .aG]), (96007, .cells 50 [i6 aJ, i6 af.1, .bool (decide ((0:Int) < ay.1)), .own 709600703, .own 709600704]), (709600703, .slice 106 3 (ml bk m_1) 0 false), (709600704, .slice 85 3 (ml aS m_9) 0 false)]) ?_ ?_
  ·rcases ai hm with ⟨c4,hm⟩|⟨c4,hm⟩
   ·obtain ⟨dB, h11, hm⟩ := aa hm
    refine qG [(2, hto (bE c4)), (5, hdc [] (gI h11) y4)] [2, 9, 43] [(66, .bool dB.1)] [900000074] [(900000074, .cells 74 (k3 dB.2))] ?_
    exact qX (dB.1, dB.2.L, dB.2.At) hm
   refine qGs [(2, hto (bE c4))] [2, 9, 43] [(66, .bool false)] ?_
   exact qX (false, gu, gf) hm
  rintro ⟨v_2, y9, za⟩ hm
  rw [hJ5] at hm
  rcases ai hm with ⟨c5,hm⟩|⟨c5,hm⟩
  ·refine qT c5 ?_
   obtain ⟨bQ, h12, hm⟩ := aa hm
   refine qD [(1, hdc [] (bO h12) iN)] [66] [(68, i6 bQ.1)] [900000074] [(900000074, .cells 74 (k3 bQ.2))] ?_
   refine A.block ?_
   refine qDs [] [] [(79, .bool (decide (bQ.1 = (0:Int))))] ?_
   rcases ai hm with ⟨c6,hm⟩|⟨c6,hm⟩
   ·refine qT c6 ?_
    obtain ⟨en, h13, hm⟩ := aa hm
    refine qG [(1, hdc [] (gv h13) y5)] [0, 1, 68, 79] [] [900000074, 96007] [(900000074, .cells 74 (k3 en.2)), (96007, .cells 50 [i6 en.1, i6 af.1, .bool (decide ((0:Int) < ay.1)), .own 709600703, .own 709600704])] ?_
    exact qX (en.2.L, en.2.At, en.1, af.1, m_1, m_9) hm
   refine qF c6 ?_
   refine qDs [] [79] [(84, .bool (decide (bQ.1 = (1:Int))))] ?_
   rcases ai hm with ⟨c7,hm⟩|⟨c7,hm⟩
   ·refine qT c7 ?_
    obtain ⟨cm, h14, hm⟩ := aa hm
    refine qG [(1, hdc [] (gv h14) y5)] [0, 1, 68, 84] [] [900000074, 96007] [(900000074, .cells 74 (k3 cm.2)), (96007, .cells 50 [i6 aJ, i6 cm.1, .bool (decide ((0:Int) < ay.1)), .own 709600703, .own 709600704])] ?_
    exact qX (cm.2.L, cm.2.At, aJ, cm.1, m_1, m_9) hm
   refine qF c7 ?_
   refine qDs [] [84] [(89, .bool (decide (bQ.1 = (2:Int))))] ?_
   rcases ai hm with ⟨c8,hm⟩|⟨c8,hm⟩
   ·refine qT c8 ?_
    obtain ⟨gy, h15, hm⟩ := aa hm
    obtain ⟨lg, h16, hm⟩ := aa hm
    obtain ⟨ko, h17, hm⟩ := aa hm
    obtain ⟨l_3, h18, hm⟩ := aa hm
    refine qG [(5, hdc [] (di h15) qw), (8, hdc [] (di h16) qw), (11, hdc [] (di h17) qw), (14, hap 96605 (ap bk (bytes := 24) (by decide) h18))] [0, 1, 68, 89] [] [900000074, 96007, 709600703] [(900000074, .cells 74 (k3 ko.2)), (96007, .cells 50 [i6 aJ, i6 af.1, .bool (decide ((0:Int) < ay.1)), .own 96605, .own 709600704]), (96605, .slice 106 3 (ml bk l_3) 0 false)] ?_
    exact Exists.intro (ko.2.L, ko.2.At, aJ, af.1, l_3, m_9) (And.intro hm (bA.go [.sw 96605 709600703] [] (by kernel_rfl)))
   refine qF c8 ?_
   refine qDs [] [1, 89] [(107, .bool (decide (bQ.1 = (3:Int))))] ?_
   rcases ai hm with ⟨c9,hm⟩|⟨c9,hm⟩
   ·refine qT c9 ?_
    obtain ⟨nT, h19, hm⟩ := aa hm
    obtain ⟨pe, h20, hm⟩ := aa hm
    obtain ⟨pg, h21, hm⟩ := aa hm
    obtain ⟨l_4, h22, hm⟩ := aa hm
    refine qG [(4, hdc [] (di h19) qw), (7, hdc [] (di h20) qw), (10, hdc [] (di h21) qw), (13, hap 96622 (ap aS (bytes := 24) (by decide) h22))] [0, 68, 107] [] [900000074, 96007, 709600704] [(900000074, .cells 74 (k3 pg.2)), (96007, .cells 50 [i6 aJ, i6 af.1, .bool (decide ((0:Int) < ay.1)), .own 709600703, .own 96622]), (96622, .slice 85 3 (ml aS l_4) 0 false)] ?_
    exact Exists.intro (pg.2.L, pg.2.At, aJ, af.1, m_1, l_4) (And.intro hm (bA.go [.sw 96622 709600704] [] (by kernel_rfl)))
   refine qF c9 ?_
   refine qDs [] [68, 107] [(124, .bool (decide (bQ.1 = (4:Int))))] ?_
   rcases ai hm with ⟨c10,hm⟩|⟨c10,hm⟩
   ·refine qT c10 ?_
    refine qDs [] [0, 124] [(10, i6 30)] ?_
    refine A.block ?_
    obtain ⟨B3, K3, hB3, hK3, hm⟩ := jg hm
    refine A.lpN (hi := (54:Int)) (B := B3) (K := K3) hm rfl (fun j3 => fun vU => [(6, .ptr 96006 0), (7, .ptr 96007 0), (10, i6 (j3 : Int))]) (fun j3 => fun vU => [(900000074, .cells 74 (k3 bQ.2)), (96006, .cells 50 [i6 0, i6 0, .bool false, .aG, .aG]), (96007, .cells 50 [i6 aJ, i6 af.1, .bool (decide ((0:Int) < ay.1)), .own 709600703, .own 709600704]), (709600703, .slice 106 3 (ml bk vU) 0 false), (709600704, .slice 85 3 (ml aS m_9) 0 false)]) ?_ ?_ ?_
    ·exact qW
    ·rintro j3 Z3 vU hj3 hx3 hm
     rw [hB3] at hm
     refine A.seq ?_
     refine qDs [] [] [(127, .bool (decide ((j3 : Int) < (54:Int))))] ?_
     refine A.cT rfl (decide_eq_true hx3) ?_
     refine A.skip ?_
     show ah _ _ _ _ _
     refine A.seq ?_
     refine A.block ?_
     obtain ⟨l_5, h23, hm⟩ := aa hm
     refine qG [(5, hap 96635 (ap bk (bytes := 24) (by decide) h23))] [127] [] [96007, 709600703] [(96007, .cells 50 [i6 aJ, i6 af.1, .bool (decide ((0:Int) < ay.1)), .own 96635, .own 709600704]), (96635, .slice 106 3 (ml bk l_5) 0 false)] ?_
     show ah _ _ _ _ _
     refine qGs [(1, hto (tL (by omega) hx3 (by decide)))] [10] [(10, i6 (j3 + 1 : Int))] ?_
     exact Exists.intro l_5 (And.intro hm (bA.go [.sw 96635 709600703] [] (by kernel_rfl)))
    rintro j3 vU hj3 hl3 hm
    rw [hK3] at hm
    refine A.seq ?_
    refine qDs [] [] [(127, .bool (decide ((j3 : Int) < (54:Int))))] ?_
    refine A.cF rfl (geF hl3) ?_
    refine A.exit ?_
    exact qX (bQ.2.L, bQ.2.At, aJ, af.1, vU, m_9) hm
   refine qF c10 ?_
   refine qDs [(2, hto (lnE bk m_1))] [124] [(72, .bool (decide ((0:Int) < (m_1.length:Int))))] ?_
   rcases ai hm with ⟨c11,hm⟩|⟨c11,hm⟩
   ·refine qT c11 ?_
    obtain ⟨lp, h24, hm⟩ := aa hm
    obtain ⟨e_1, h25, hm⟩ := aa hm
    obtain ⟨l_6, h26, hm⟩ := aa hm
    refine qG [(3, hdc [] (gv h24) y5), (4, hix (ix bk h25)), (6, hso 709600703 (st bk (off := 1) (ca := [i6 lp.1]) h25 h26 rfl) (iM h25).1.1)] [0, 72] [] [900000074, 709600703] [(900000074, .cells 74 (k3 lp.2)), (709600703, .slice 106 3 (ml bk l_6) 0 false)] ?_
    exact qX (lp.2.L, lp.2.At, aJ, af.1, l_6, m_9) hm
   refine qF c11 ?_
   refine A.skip ?_
   exact qX (bQ.2.L, bQ.2.At, aJ, af.1, m_1, m_9) hm
  refine qF c5 ?_
  refine A.skip ?_
  exact qX (y9, za, aJ, af.1, m_1, m_9) hm
 rintro ⟨tQ, tT, qy, qz, pM, aci⟩ hm
 rw [hJ4] at hm
 refine qD [] [7] [] [96006, 96007] [(96006, .cells 50 [i6 qy, i6 qz, .bool (decide ((0:Int) < ay.1)), .own 709600703, .own 709600704])] ?_
 refine A.ret ?_
 obtain rfl := some_inj hm
 exact A.fin W0 [.fz [709600703, 709600704]] rfl (by kernel_rfl)
theorem qa {t : aR} {n : Int} {r : aF × aR} (hm : gQ t n = some r) : bM Tryz.prog 49 [(900000074, .cells 74 (k3 t))] [.ptr 900000074 0, i6 n] (fun a σ' => a = .agg [.own 500004900] ∧ σ' = [(900000074, .cells 74 (k3 r.2)), (500004900, .slice 50 5 (ml aH r.1.aq) 0 false)]) := by
 refine aT Tryz.func49 rfl rfl ?_
 unfold gQ at hm
 refine qS [(0, .al 49004)] [(0, .ptr 900000074 0), (1, i6 n), (4, .ptr 49004 0)] [(900000074, .cells 74 (k3 t)), (49004, .cells 60 [.aG])] ?_
 refine qD [(0, .al 49005)] [] [(5, .ptr 49005 0)] [] [(49005, .cells 60 [.aG])] ?_
 refine A.seq ?_
 refine qDs [] [] [(6, i6 1)] ?_
 refine A.block ?_
 obtain ⟨B1, K1, hB1, hK1, hm⟩ := jg hm
 refine A.lpN (hi := (7:Int)) (B := B1) (K := K1) hm rfl (fun j1 => fun sg => match sg with | (m_1, m_2, m_3) => [(0, .ptr 900000074 0), (1, i6 n), (4, .ptr 49004 0), (5, .ptr 49005 0), (6, i6 (j1 : Int))]) (fun j1 => fun sg => match sg with | (m_1, m_2, m_3) => [(900000074, .cells 74 [lf bL m_2, i6 m_3]), (49004, .cells 60 [.aG]), (49005, .cells 60 [.own 704900500]), (704900500, .slice 50 5 (ml aH m_1) 0 false)]) ?_ ?_ ?_
 ·exact bA.go [.ac 49005 704900500 50 5 0] [] (by kernel_rfl)
 ·rintro j1 Z1 ⟨m_1, m_2, m_3⟩ hj1 hx1 hm
  rw [hB1] at hm
  refine A.seq ?_
  refine qDs [] [] [(8, .bool (decide ((j1 : Int) ≤ (6:Int))))] ?_
  refine A.cT rfl (leT hx1) ?_
  refine A.skip ?_
  show ah _ _ _ _ _
  obtain ⟨J1, hJ1, hm⟩ := bJ hm
  refine A.J (J := J1) (r := r) (fun sg => match sg with | (m_4, m_5, m_6) => [(0, .ptr 900000074 0), (1, i6 n), (4, .ptr 49004 0), (5, .ptr 49005 0), (6, i6 (j1 : Int))]) (fun sg => match sg with | (m_4, m_5, m_6) => [(900000074, .cells 74 [lf bL m_4, i6 m_5]), (49004, .cells 60 [.aG]), (49005, .cells 60 [.own 704900500]), (704900500, .slice 50 5 (ml aH m_6) 0 false)]) ?_ ?_
  ·refine A.block ?_
   obtain ⟨af, h1, hm⟩ := aa hm
   refine qD [(1, hdc [] (bO h1) iN)] [8] [(13, .bool (decide ((0:Int) < af.1)))] [900000074] [(900000074, .cells 74 (k3 af.2))] ?_
   rcases ai hm with ⟨c1,hm⟩|⟨c1,hm⟩
   ·refine qT c1 ?_
    obtain ⟨ay, h2, hm⟩ := aa hm
    obtain ⟨l_1, h3, hm⟩ := aa hm
    refine qG [(4, hdc [] (rj h2) apy), (6, hap 49520 (ap aH (bytes := 72) (by decide) h3))] [13] [] [900000074, 49005, 704900500] [(900000074, .cells 74 (k3 ay.2)), (49005, .cells 60 [.own 49520]), (49520, .slice 50 5 (ml aH l_1) 0 false)] ?_
    exact Exists.intro (ay.2.L, ay.2.At, l_1) (And.intro hm (bA.go [.sw 49520 704900500] [] (by kernel_rfl)))
   refine qF c1 ?_
   refine A.skip ?_
   exact qX (af.2.L, af.2.At, m_1) hm
  rintro ⟨m_4, m_5, m_6⟩ hm
  rw [hJ1] at hm
  refine qGs [(1, hto (tL (by omega) hx1 (by decide)))] [6] [(6, i6 (j1 + 1 : Int))] ?_
  exact qX (m_6, m_4, m_5) hm
 rintro j1 ⟨m_1, m_2, m_3⟩ hj1 hl1 hm
 rw [hK1] at hm
 refine A.seq ?_
 refine qDs [] [] [(8, .bool (decide ((j1 : Int) ≤ (6:Int))))] ?_
 refine A.cF rfl (gtF hl1) ?_
 refine A.exit ?_
 show ah _ _ _ _ _
 obtain ⟨J2, hJ2, hm⟩ := bJ hm
 refine A.J (J := J2) (r := r) (fun sg => match sg with | (m_7, m_8, m_9) => [(4, .ptr 49004 0), (5, .ptr 49005 0)]) (fun sg => match sg with | (m_7, m_8, m_9) => [(900000074, .cells 74 [lf bL m_7, i6 m_8]), (49004, .cells 60 [.aG]), (49005, .cells 60 [.own 704900500]), (704900500, .slice 50 5 (ml aH m_9) 0 false)]) ?_ ?_
 ·obtain ⟨J3, hJ3, hm⟩ := bJ hm
  refine A.J (J := J3) (r := r) (fun sg => match sg with | (v_1, gu, gf) => [(0, .ptr 900000074 0), (4, .ptr 49004 0), (5, .ptr 49005 0), (28, .bool v_1)]) (fun sg => match sg with | (v_1, gu, gf) => [(900000074, .cells 74 [lf bL gu, i6 gf]), (49004, .cells 60 [.aG]), (49005, .cells 60 [.own 704900500]), (704900500, .slice 50 5 (ml aH m_1) 0 false)]) ?_ ?_
  ·rcases ai hm with ⟨c2,hm⟩|⟨c2,hm⟩
   ·obtain ⟨aK, h4, hm⟩ := aa hm
    refine qG [(2, hto (bE c2)), (5, hdc [] (gI h4) y4)] [1, 6, 8] [(28, .bool aK.1)] [900000074] [(900000074, .cells 74 (k3 aK.2))] ?_
    exact qX (aK.1, aK.2.L, aK.2.At) hm
   refine qGs [(2, hto (bE c2))] [1, 6, 8] [(28, .bool false)] ?_
   exact qX (false, m_2, m_3) hm
  rintro ⟨v_1, gu, gf⟩ hm
  rw [hJ3] at hm
  rcases ai hm with ⟨c3,hm⟩|⟨c3,hm⟩
  ·refine qT c3 ?_
   obtain ⟨bh, h5, hm⟩ := aa hm
   obtain ⟨bI, h6, hm⟩ := aa hm
   obtain ⟨l_2, h7, hm⟩ := aa hm
   refine qG [(5, hdc [] (di h5) qw), (6, hdc [] (rj h6) apy), (8, hap 49537 (ap aH (bytes := 72) (by decide) h7))] [0, 28] [] [900000074, 49005, 704900500] [(900000074, .cells 74 (k3 bI.2)), (49005, .cells 60 [.own 49537]), (49537, .slice 50 5 (ml aH l_2) 0 false)] ?_
   exact Exists.intro (bI.2.L, bI.2.At, l_2) (And.intro hm (bA.go [.sw 49537 704900500] [] (by kernel_rfl)))
  refine qF c3 ?_
  refine A.skip ?_
  exact qX (gu, gf, m_1) hm
 rintro ⟨m_7, m_8, m_9⟩ hm
 rw [hJ2] at hm
 refine qD [] [5] [] [49004, 49005] [(49004, .cells 60 [.own 704900500])] ?_
 refine A.ret ?_
 obtain rfl := some_inj hm
 exact A.fin W0 [.sw 704900500 500004900] rfl (by kernel_rfl)
end Go.Proofs.YtpmifmdidfgpdaaGreat
