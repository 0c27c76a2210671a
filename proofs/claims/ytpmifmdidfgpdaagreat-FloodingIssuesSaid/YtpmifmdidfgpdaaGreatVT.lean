/- The eR of cw of the program. No condition but bT bF stand in each. -/
import Derived.Test.YtpmifmdidfgpdaaGreatDA
import Derived.Test.YtpmifmdidfgpdaaGreatV3
namespace Go.Proofs.YtpmifmdidfgpdaaGreat
open Go
set_option maxRecDepth 100000
set_option linter.all false
theorem rQ {t : aP} {aC : Int} {n : Int} {r : ak × aP} (hm : jo t aC n = some r) : bO Tryz.prog 96 [(900000074, .cells 74 (k3 t))] [.ptr 900000074 0, i6 aC, i6 n] (fun a σ' => a = .agg (k6 r.1) ∧ σ' = [(900000074, .cells 74 (k3 r.2))]) := by
 refine aQ Tryz.func96 rfl rfl ?_
 unfold jo at hm
 refine qS [(0, .al 96006)] [(0, .ptr 900000074 0), (1, i6 aC), (2, i6 n), (6, .ptr 96006 0)] [(900000074, .cells 74 (k3 t)), (96006, .cells 50 [i6 0, i6 0, .bool false, .aD, .aD])] ?_
 obtain ⟨af, h1, hm⟩ := aa hm
 obtain ⟨aq, h2, hm⟩ := aa hm
 refine qD [(3, hdc [] (di h1) ri), (5, hdc [] (bQ h2) jj), (8, .al 96007)] [] [(7, .ptr 96007 0)] [900000074] [(900000074, .cells 74 (k3 aq.2)), (96007, .cells 50 [i6 aC, i6 af.1, .bool (decide ((0:Int) < aq.1)), .aD, .aD])] ?_
 refine A.seq ?_
 refine qDs [] [] [(8, i6 1)] ?_
 refine A.block ?_
 obtain ⟨B1, K1, hB1, hK1, hm⟩ := gO hm
 refine A.lpN (hi := (7:Int)) (B := B1) (K := K1) hm rfl (fun j1 => fun sg => match sg with | (m_1, m_2, m_3) => [(0, .ptr 900000074 0), (1, i6 aC), (2, i6 n), (6, .ptr 96006 0), (7, .ptr 96007 0), (8, i6 (j1 : Int))]) (fun j1 => fun sg => match sg with | (m_1, m_2, m_3) => [(900000074, .cells 74 [lf aY m_2, i6 m_3]), (96006, .cells 50 [i6 0, i6 0, .bool false, .aD, .aD]), (96007, .cells 50 [i6 aC, i6 af.1, .bool (decide ((0:Int) < aq.1)), .own 709600703, .aD]), (709600703, .slice 106 3 (ml bn m_1) 0 false)]) ?_ ?_ ?_
 ·exact bz.go [.ac 96007 709600703 106 3 3] [] (by kernel_rfl)
 ·rintro j1 Z1 ⟨m_1, m_2, m_3⟩ hj1 hx1 hm
  rw [hB1] at hm
  refine A.seq ?_
  refine qDs [] [] [(20, .bool (decide ((j1 : Int) ≤ (6:Int))))] ?_
  refine A.cT rfl (leT hx1) ?_
  refine A.skip ?_
  show ai _ _ _ _ _
  obtain ⟨J1, hJ1, hm⟩ := bB hm
  refine A.J (J := J1) (r := r) (fun sg => match sg with | (m_4, m_5, m_6) => [(0, .ptr 900000074 0), (1, i6 aC), (2, i6 n), (6, .ptr 96006 0), (7, .ptr 96007 0), (8, i6 (j1 : Int))]) (fun sg => match sg with | (m_4, m_5, m_6) => [(900000074, .cells 74 [lf aY m_4, i6 m_5]), (96006, .cells 50 [i6 0, i6 0, .bool false, .aD, .aD]), (96007, .cells 50 [i6 aC, i6 af.1, .bool (decide ((0:Int) < aq.1)), .own 709600703, .aD]), (709600703, .slice 106 3 (ml bn m_6) 0 false)]) ?_ ?_
  ·refine A.block ?_
   obtain ⟨J2, hJ2, hm⟩ := bB hm
   refine A.J (J := J2) (r := r) (fun sg => match sg with | (v_1, m_7, m_8) => [(0, .ptr 900000074 0), (1, i6 aC), (2, i6 n), (6, .ptr 96006 0), (7, .ptr 96007 0), (8, i6 (j1 : Int)), (30, .bool v_1)]) (fun sg => match sg with | (v_1, m_7, m_8) => [(900000074, .cells 74 [lf aY m_7, i6 m_8]), (96006, .cells 50 [i6 0, i6 0, .bool false, .aD, .aD]), (96007, .cells 50 [i6 aC, i6 af.1, .bool (decide ((0:Int) < aq.1)), .own 709600703, .aD]), (709600703, .slice 106 3 (ml bn m_1) 0 false)]) ?_ ?_
   ·rcases ah hm with ⟨c1,hm⟩|⟨c1,hm⟩
    ·obtain ⟨aI, h3, hm⟩ := aa hm
     refine qG [(3, hto (bE c1)), (5, hdc [] (bQ h3) jj)] [20] [(30, .bool (decide (aI.1 = (0:Int))))] [900000074] [(900000074, .cells 74 (k3 aI.2))] ?_
     exact qX (decide (aI.1 = (0:Int)), aI.2.L, aI.2.At) hm
    refine qGs [(3, hto (bE c1))] [20] [(30, .bool false)] ?_
    exact qX (false, m_2, m_3) hm
   rintro ⟨v_1, m_7, m_8⟩ hm
   rw [hJ2] at hm
   rcases ah hm with ⟨c2,hm⟩|⟨c2,hm⟩
   ·refine qT c2 ?_
    obtain ⟨bk, h4, hm⟩ := aa hm
    obtain ⟨bG, h5, hm⟩ := aa hm
    obtain ⟨l_1, h6, hm⟩ := aa hm
    refine qG [(4, hdc [] (dX h4) vr), (6, hdc [] (bQ h5) jj), (9, hap 96540 (ap bn (bytes := 24) (by decide) h6))] [30] [] [900000074, 96007, 709600703] [(900000074, .cells 74 (k3 bG.2)), (96007, .cells 50 [i6 aC, i6 af.1, .bool (decide ((0:Int) < aq.1)), .own 96540, .aD]), (96540, .slice 106 3 (ml bn l_1) 0 false)] ?_
    exact Exists.intro (bG.2.L, bG.2.At, l_1) (And.intro hm (bz.go [.sw 96540 709600703] [] (by kernel_rfl)))
   refine qF c2 ?_
   refine A.skip ?_
   exact qX (m_7, m_8, m_1) hm
  rintro ⟨m_4, m_5, m_6⟩ hm
  rw [hJ1] at hm
  refine qGs [(1, hto (qO (by omega) hx1 (by decide)))] [8] [(8, i6 (j1 + 1 : Int))] ?_
  exact qX (m_6, m_4, m_5) hm
 rintro j1 ⟨m_1, m_2, m_3⟩ hj1 hl1 hm
 rw [hK1] at hm
 refine A.seq ?_
 refine qDs [] [] [(20, .bool (decide ((j1 : Int) ≤ (6:Int))))] ?_
 refine A.cF rfl (gtF hl1) ?_
 refine A.exit ?_
 show ai _ _ _ _ _
 refine A.seq ?_
 refine qDs [] [8, 20] [(9, i6 0)] ?_
 refine A.block ?_
 obtain ⟨B2, K2, hB2, hK2, hm⟩ := gO hm
 refine A.lpN (hi := (2:Int)) (B := B2) (K := K2) hm rfl (fun j2 => fun sg => match sg with | (m_9, gL, gB) => [(0, .ptr 900000074 0), (1, i6 aC), (2, i6 n), (6, .ptr 96006 0), (7, .ptr 96007 0), (9, i6 (j2 : Int))]) (fun j2 => fun sg => match sg with | (m_9, gL, gB) => [(900000074, .cells 74 [lf aY gL, i6 gB]), (96006, .cells 50 [i6 0, i6 0, .bool false, .aD, .aD]), (96007, .cells 50 [i6 aC, i6 af.1, .bool (decide ((0:Int) < aq.1)), .own 709600703, .own 709600704]), (709600703, .slice 106 3 (ml bn m_1) 0 false), (709600704, .slice 85 3 (ml aR m_9) 0 false)]) ?_ ?_ ?_
 ·exact bz.go [.ac 96007 709600704 85 3 4] [] (by kernel_rfl)
 ·rintro j2 Z2 ⟨m_9, gL, gB⟩ hj2 hx2 hm
  rw [hB2] at hm
  refine A.seq ?_
  refine qDs [] [] [(43, .bool (decide ((j2 : Int) < (2:Int))))] ?_
  refine A.cT rfl (decide_eq_true hx2) ?_
  refine A.skip ?_
  show ai _ _ _ _ _
  obtain ⟨J3, hJ3, hm⟩ := bB hm
  refine A.J (J := J3) (r := r) (fun sg => match sg with | (lz, tg, th) => [(0, .ptr 900000074 0), (1, i6 aC), (2, i6 n), (6, .ptr 96006 0), (7, .ptr 96007 0), (9, i6 (j2 : Int))]) (fun sg => match sg with | (lz, tg, th) => [(900000074, .cells 74 [lf aY lz, i6 tg]), (96006, .cells 50 [i6 0, i6 0, .bool false, .aD, .aD]), (96007, .cells 50 [i6 aC, i6 af.1, .bool (decide ((0:Int) < aq.1)), .own 709600703, .own 709600704]), (709600703, .slice 106 3 (ml bn m_1) 0 false), (709600704, .slice 85 3 (ml aR th) 0 false)]) ?_ ?_
  ·refine A.block ?_
   obtain ⟨b9, h7, hm⟩ := aa hm
   refine qD [(1, hdc [] (bQ h7) jj)] [43] [(48, .bool (decide (b9.1 = (0:Int))))] [900000074] [(900000074, .cells 74 (k3 b9.2))] ?_
   rcases ah hm with ⟨c3,hm⟩|⟨c3,hm⟩
   ·refine qT c3 ?_
    obtain ⟨ct, h8, hm⟩ := aa hm
    obtain ⟨dw, h9, hm⟩ := aa hm
    obtain ⟨l_2, h10, hm⟩ := aa hm
    refine qG [(4, hdc [] (dX h8) vr), (6, hdc [] (rP h9) aqd), (9, hap 96558 (ap aR (bytes := 24) (by decide) h10))] [48] [] [900000074, 96007, 709600704] [(900000074, .cells 74 (k3 dw.2)), (96007, .cells 50 [i6 aC, i6 af.1, .bool (decide ((0:Int) < aq.1)), .own 709600703, .own 96558]), (96558, .slice 85 3 (ml aR l_2) 0 false)] ?_
    exact Exists.intro (dw.2.L, dw.2.At, l_2) (And.intro hm (bz.go [.sw 96558 709600704] [] (by kernel_rfl)))
   refine qF c3 ?_
   refine A.skip ?_
   exact qX (b9.2.L, b9.2.At, m_9) hm
  rintro ⟨lz, tg, th⟩ hm
  rw [hJ3] at hm
  refine qGs [(1, hto (qO (by omega) hx2 (by decide)))] [9] [(9, i6 (j2 + 1 : Int))] ?_
  exact qX (th, lz, tg) hm
 rintro j2 ⟨m_9, gL, gB⟩ hj2 hl2 hm
 rw [hK2] at hm
 refine A.seq ?_
 refine qDs [] [] [(43, .bool (decide ((j2 : Int) < (2:Int))))] ?_
 refine A.cF rfl (geF hl2) ?_
 refine A.exit ?_
 show ai _ _ _ _ _
 obtain ⟨J4, hJ4, hm⟩ := bB hm
 refine A.J (J := J4) (r := r) (fun sg => match sg with | (uA, uB, rz, rA, qb, ac6) => [(6, .ptr 96006 0), (7, .ptr 96007 0)]) (fun sg => match sg with | (uA, uB, rz, rA, qb, ac6) => [(900000074, .cells 74 [lf aY uA, i6 uB]), (96006, .cells 50 [i6 0, i6 0, .bool false, .aD, .aD]), (96007, .cells 50 [i6 rz, i6 rA, .bool (decide ((0:Int) < aq.1)), .own 709600703, .own 709600704]), (709600703, .slice 106 3 (ml bn qb) 0 false), (709600704, .slice 85 3 (ml aR ac6) 0 false)]) ?_ ?_
 ·obtain ⟨J5, hJ5, hm⟩ := bB hm
  refine A.J (J := J5) (r := r) (fun sg => match sg with | (v_2, zZ, z6) => [(0, .ptr 900000074 0), (1, i6 aC), (6, .ptr 96006 0), (7, .ptr 96007 0), (66, .bool v_2)]) (fun sg => match sg with | (v_2, zZ, z6) => [(900000074, .cells 74 [lf aY zZ, i6 z6]), (96006, .cells 50 [i6 0, i6 0, .bool false, .aD, .aD]), (96007, .cells 50 [i6 aC, i6 af.1, .bool (decide ((0:Int) < aq.1)), .own 709600703, .own 709600704]), (709600703, .slice 106 3 (ml bn m_1) 0 false), (709600704, .slice 85 3 (ml aR m_9) 0 false)]) ?_ ?_
  ·rcases ah hm with ⟨c4,hm⟩|⟨c4,hm⟩
   ·obtain ⟨dK, h11, hm⟩ := aa hm
    refine qG [(2, hto (bE c4)), (5, hdc [] (ia h11) zV)] [2, 9, 43] [(66, .bool dK.1)] [900000074] [(900000074, .cells 74 (k3 dK.2))] ?_
    exact qX (dK.1, dK.2.L, dK.2.At) hm
   refine qGs [(2, hto (bE c4))] [2, 9, 43] [(66, .bool false)] ?_
   exact qX (false, gL, gB) hm
  rintro ⟨v_2, zZ, z6⟩ hm
  rw [hJ5] at hm
  rcases ah hm with ⟨c5,hm⟩|⟨c5,hm⟩
  ·refine qT c5 ?_
   obtain ⟨bK, h12, hm⟩ := aa hm
   refine qD [(1, hdc [] (bQ h12) jj)] [66] [(68, i6 bK.1)] [900000074] [(900000074, .cells 74 (k3 bK.2))] ?_
   refine A.block ?_
   refine qDs [] [] [(79, .bool (decide (bK.1 = (0:Int))))] ?_
   rcases ah hm with ⟨c6,hm⟩|⟨c6,hm⟩
   ·refine qT c6 ?_
    obtain ⟨dA, h13, hm⟩ := aa hm
    refine qG [(1, hdc [] (gM h13) zW)] [0, 1, 68, 79] [] [900000074, 96007] [(900000074, .cells 74 (k3 dA.2)), (96007, .cells 50 [i6 dA.1, i6 af.1, .bool (decide ((0:Int) < aq.1)), .own 709600703, .own 709600704])] ?_
    exact qX (dA.2.L, dA.2.At, dA.1, af.1, m_1, m_9) hm
   refine qF c6 ?_
   refine qDs [] [79] [(84, .bool (decide (bK.1 = (1:Int))))] ?_
   rcases ah hm with ⟨c7,hm⟩|⟨c7,hm⟩
   ·refine qT c7 ?_
    obtain ⟨bZ, h14, hm⟩ := aa hm
    refine qG [(1, hdc [] (gM h14) zW)] [0, 1, 68, 84] [] [900000074, 96007] [(900000074, .cells 74 (k3 bZ.2)), (96007, .cells 50 [i6 aC, i6 bZ.1, .bool (decide ((0:Int) < aq.1)), .own 709600703, .own 709600704])] ?_
    exact qX (bZ.2.L, bZ.2.At, aC, bZ.1, m_1, m_9) hm
   refine qF c7 ?_
   refine qDs [] [84] [(89, .bool (decide (bK.1 = (2:Int))))] ?_
   rcases ah hm with ⟨c8,hm⟩|⟨c8,hm⟩
   ·refine qT c8 ?_
    obtain ⟨dL, h15, hm⟩ := aa hm
    obtain ⟨gb, h16, hm⟩ := aa hm
    obtain ⟨fJ, h17, hm⟩ := aa hm
    obtain ⟨l_3, h18, hm⟩ := aa hm
    refine qG [(5, hdc [] (di h15) ri), (8, hdc [] (di h16) ri), (11, hdc [] (di h17) ri), (14, hap 96605 (ap bn (bytes := 24) (by decide) h18))] [0, 1, 68, 89] [] [900000074, 96007, 709600703] [(900000074, .cells 74 (k3 fJ.2)), (96007, .cells 50 [i6 aC, i6 af.1, .bool (decide ((0:Int) < aq.1)), .own 96605, .own 709600704]), (96605, .slice 106 3 (ml bn l_3) 0 false)] ?_
    exact Exists.intro (fJ.2.L, fJ.2.At, aC, af.1, l_3, m_9) (And.intro hm (bz.go [.sw 96605 709600703] [] (by kernel_rfl)))
   refine qF c8 ?_
   refine qDs [] [1, 89] [(107, .bool (decide (bK.1 = (3:Int))))] ?_
   rcases ah hm with ⟨c9,hm⟩|⟨c9,hm⟩
   ·refine qT c9 ?_
    obtain ⟨lS, h19, hm⟩ := aa hm
    obtain ⟨mG, h20, hm⟩ := aa hm
    obtain ⟨pT, h21, hm⟩ := aa hm
    obtain ⟨l_4, h22, hm⟩ := aa hm
    refine qG [(4, hdc [] (di h19) ri), (7, hdc [] (di h20) ri), (10, hdc [] (di h21) ri), (13, hap 96622 (ap aR (bytes := 24) (by decide) h22))] [0, 68, 107] [] [900000074, 96007, 709600704] [(900000074, .cells 74 (k3 pT.2)), (96007, .cells 50 [i6 aC, i6 af.1, .bool (decide ((0:Int) < aq.1)), .own 709600703, .own 96622]), (96622, .slice 85 3 (ml aR l_4) 0 false)] ?_
    exact Exists.intro (pT.2.L, pT.2.At, aC, af.1, m_1, l_4) (And.intro hm (bz.go [.sw 96622 709600704] [] (by kernel_rfl)))
   refine qF c9 ?_
   refine qDs [] [68, 107] [(124, .bool (decide (bK.1 = (4:Int))))] ?_
   rcases ah hm with ⟨c10,hm⟩|⟨c10,hm⟩
   ·refine qT c10 ?_
    refine qDs [] [0, 124] [(10, i6 30)] ?_
    refine A.block ?_
    obtain ⟨B3, K3, hB3, hK3, hm⟩ := gO hm
    refine A.lpN (hi := (54:Int)) (B := B3) (K := K3) hm rfl (fun j3 => fun wP => [(6, .ptr 96006 0), (7, .ptr 96007 0), (10, i6 (j3 : Int))]) (fun j3 => fun wP => [(900000074, .cells 74 (k3 bK.2)), (96006, .cells 50 [i6 0, i6 0, .bool false, .aD, .aD]), (96007, .cells 50 [i6 aC, i6 af.1, .bool (decide ((0:Int) < aq.1)), .own 709600703, .own 709600704]), (709600703, .slice 106 3 (ml bn wP) 0 false), (709600704, .slice 85 3 (ml aR m_9) 0 false)]) ?_ ?_ ?_
    ·exact qW
    ·rintro j3 Z3 wP hj3 hx3 hm
     rw [hB3] at hm
     refine A.seq ?_
     refine qDs [] [] [(127, .bool (decide ((j3 : Int) < (54:Int))))] ?_
     refine A.cT rfl (decide_eq_true hx3) ?_
     refine A.skip ?_
     show ai _ _ _ _ _
     refine A.seq ?_
     refine A.block ?_
     obtain ⟨l_5, h23, hm⟩ := aa hm
     refine qG [(5, hap 96635 (ap bn (bytes := 24) (by decide) h23))] [127] [] [96007, 709600703] [(96007, .cells 50 [i6 aC, i6 af.1, .bool (decide ((0:Int) < aq.1)), .own 96635, .own 709600704]), (96635, .slice 106 3 (ml bn l_5) 0 false)] ?_
     show ai _ _ _ _ _
     refine qGs [(1, hto (qO (by omega) hx3 (by decide)))] [10] [(10, i6 (j3 + 1 : Int))] ?_
     exact Exists.intro l_5 (And.intro hm (bz.go [.sw 96635 709600703] [] (by kernel_rfl)))
    rintro j3 wP hj3 hl3 hm
    rw [hK3] at hm
    refine A.seq ?_
    refine qDs [] [] [(127, .bool (decide ((j3 : Int) < (54:Int))))] ?_
    refine A.cF rfl (geF hl3) ?_
    refine A.exit ?_
    exact qX (bK.2.L, bK.2.At, aC, af.1, wP, m_9) hm
   refine qF c10 ?_
   refine qDs [(2, hto (lnE bn m_1))] [124] [(72, .bool (decide ((0:Int) < (m_1.length:Int))))] ?_
   rcases ah hm with ⟨c11,hm⟩|⟨c11,hm⟩
   ·refine qT c11 ?_
    obtain ⟨lT, h24, hm⟩ := aa hm
    obtain ⟨e_1, h25, hm⟩ := aa hm
    obtain ⟨l_6, h26, hm⟩ := aa hm
    refine qG [(3, hdc [] (gM h24) zW), (4, hix (ix bn h25)), (6, hso 709600703 (st bn (off := 1) (ca := [i6 lT.1]) h25 h26 rfl) (gZ h25).1.1)] [0, 72] [] [900000074, 709600703] [(900000074, .cells 74 (k3 lT.2)), (709600703, .slice 106 3 (ml bn l_6) 0 false)] ?_
    exact qX (lT.2.L, lT.2.At, aC, af.1, l_6, m_9) hm
   refine qF c11 ?_
   refine A.skip ?_
   exact qX (bK.2.L, bK.2.At, aC, af.1, m_1, m_9) hm
  refine qF c5 ?_
  refine A.skip ?_
  exact qX (zZ, z6, aC, af.1, m_1, m_9) hm
 rintro ⟨uA, uB, rz, rA, qb, ac6⟩ hm
 rw [hJ4] at hm
 refine qD [] [7] [] [96006, 96007] [(96006, .cells 50 [i6 rz, i6 rA, .bool (decide ((0:Int) < aq.1)), .own 709600703, .own 709600704])] ?_
 refine A.ret ?_
 obtain rfl := some_inj hm
 exact A.fin W0 [.fz [709600703, 709600704]] rfl (by kernel_rfl)
theorem qt {t : aP} {n : Int} {r : aH × aP} (hm : iy t n = some r) : bO Tryz.prog 49 [(900000074, .cells 74 (k3 t))] [.ptr 900000074 0, i6 n] (fun a σ' => a = .agg [.own 500004900] ∧ σ' = [(900000074, .cells 74 (k3 r.2)), (500004900, .slice 50 5 (ml aJ r.1.ay) 0 false)]) := by
 refine aQ Tryz.func49 rfl rfl ?_
 unfold iy at hm
 refine qS [(0, .al 49004)] [(0, .ptr 900000074 0), (1, i6 n), (4, .ptr 49004 0)] [(900000074, .cells 74 (k3 t)), (49004, .cells 60 [.aD])] ?_
 refine qD [(0, .al 49005)] [] [(5, .ptr 49005 0)] [] [(49005, .cells 60 [.aD])] ?_
 refine A.seq ?_
 refine qDs [] [] [(6, i6 1)] ?_
 refine A.block ?_
 obtain ⟨B1, K1, hB1, hK1, hm⟩ := gO hm
 refine A.lpN (hi := (7:Int)) (B := B1) (K := K1) hm rfl (fun j1 => fun sg => match sg with | (m_1, m_2, m_3) => [(0, .ptr 900000074 0), (1, i6 n), (4, .ptr 49004 0), (5, .ptr 49005 0), (6, i6 (j1 : Int))]) (fun j1 => fun sg => match sg with | (m_1, m_2, m_3) => [(900000074, .cells 74 [lf aY m_2, i6 m_3]), (49004, .cells 60 [.aD]), (49005, .cells 60 [.own 704900500]), (704900500, .slice 50 5 (ml aJ m_1) 0 false)]) ?_ ?_ ?_
 ·exact bz.go [.ac 49005 704900500 50 5 0] [] (by kernel_rfl)
 ·rintro j1 Z1 ⟨m_1, m_2, m_3⟩ hj1 hx1 hm
  rw [hB1] at hm
  refine A.seq ?_
  refine qDs [] [] [(8, .bool (decide ((j1 : Int) ≤ (6:Int))))] ?_
  refine A.cT rfl (leT hx1) ?_
  refine A.skip ?_
  show ai _ _ _ _ _
  obtain ⟨J1, hJ1, hm⟩ := bB hm
  refine A.J (J := J1) (r := r) (fun sg => match sg with | (m_4, m_5, m_6) => [(0, .ptr 900000074 0), (1, i6 n), (4, .ptr 49004 0), (5, .ptr 49005 0), (6, i6 (j1 : Int))]) (fun sg => match sg with | (m_4, m_5, m_6) => [(900000074, .cells 74 [lf aY m_4, i6 m_5]), (49004, .cells 60 [.aD]), (49005, .cells 60 [.own 704900500]), (704900500, .slice 50 5 (ml aJ m_6) 0 false)]) ?_ ?_
  ·refine A.block ?_
   obtain ⟨af, h1, hm⟩ := aa hm
   refine qD [(1, hdc [] (bQ h1) jj)] [8] [(13, .bool (decide ((0:Int) < af.1)))] [900000074] [(900000074, .cells 74 (k3 af.2))] ?_
   rcases ah hm with ⟨c1,hm⟩|⟨c1,hm⟩
   ·refine qT c1 ?_
    obtain ⟨aq, h2, hm⟩ := aa hm
    obtain ⟨l_1, h3, hm⟩ := aa hm
    refine qG [(4, hdc [] (rQ h2) aqq), (6, hap 49520 (ap aJ (bytes := 72) (by decide) h3))] [13] [] [900000074, 49005, 704900500] [(900000074, .cells 74 (k3 aq.2)), (49005, .cells 60 [.own 49520]), (49520, .slice 50 5 (ml aJ l_1) 0 false)] ?_
    exact Exists.intro (aq.2.L, aq.2.At, l_1) (And.intro hm (bz.go [.sw 49520 704900500] [] (by kernel_rfl)))
   refine qF c1 ?_
   refine A.skip ?_
   exact qX (af.2.L, af.2.At, m_1) hm
  rintro ⟨m_4, m_5, m_6⟩ hm
  rw [hJ1] at hm
  refine qGs [(1, hto (qO (by omega) hx1 (by decide)))] [6] [(6, i6 (j1 + 1 : Int))] ?_
  exact qX (m_6, m_4, m_5) hm
 rintro j1 ⟨m_1, m_2, m_3⟩ hj1 hl1 hm
 rw [hK1] at hm
 refine A.seq ?_
 refine qDs [] [] [(8, .bool (decide ((j1 : Int) ≤ (6:Int))))] ?_
 refine A.cF rfl (gtF hl1) ?_
 refine A.exit ?_
 show ai _ _ _ _ _
 obtain ⟨J2, hJ2, hm⟩ := bB hm
 refine A.J (J := J2) (r := r) (fun sg => match sg with | (m_7, m_8, m_9) => [(4, .ptr 49004 0), (5, .ptr 49005 0)]) (fun sg => match sg with | (m_7, m_8, m_9) => [(900000074, .cells 74 [lf aY m_7, i6 m_8]), (49004, .cells 60 [.aD]), (49005, .cells 60 [.own 704900500]), (704900500, .slice 50 5 (ml aJ m_9) 0 false)]) ?_ ?_
 ·obtain ⟨J3, hJ3, hm⟩ := bB hm
  refine A.J (J := J3) (r := r) (fun sg => match sg with | (v_1, gL, gB) => [(0, .ptr 900000074 0), (4, .ptr 49004 0), (5, .ptr 49005 0), (28, .bool v_1)]) (fun sg => match sg with | (v_1, gL, gB) => [(900000074, .cells 74 [lf aY gL, i6 gB]), (49004, .cells 60 [.aD]), (49005, .cells 60 [.own 704900500]), (704900500, .slice 50 5 (ml aJ m_1) 0 false)]) ?_ ?_
  ·rcases ah hm with ⟨c2,hm⟩|⟨c2,hm⟩
   ·obtain ⟨aI, h4, hm⟩ := aa hm
    refine qG [(2, hto (bE c2)), (5, hdc [] (ia h4) zV)] [1, 6, 8] [(28, .bool aI.1)] [900000074] [(900000074, .cells 74 (k3 aI.2))] ?_
    exact qX (aI.1, aI.2.L, aI.2.At) hm
   refine qGs [(2, hto (bE c2))] [1, 6, 8] [(28, .bool false)] ?_
   exact qX (false, m_2, m_3) hm
  rintro ⟨v_1, gL, gB⟩ hm
  rw [hJ3] at hm
  rcases ah hm with ⟨c3,hm⟩|⟨c3,hm⟩
  ·refine qT c3 ?_
   obtain ⟨bk, h5, hm⟩ := aa hm
   obtain ⟨bG, h6, hm⟩ := aa hm
   obtain ⟨l_2, h7, hm⟩ := aa hm
   refine qG [(5, hdc [] (di h5) ri), (6, hdc [] (rQ h6) aqq), (8, hap 49537 (ap aJ (bytes := 72) (by decide) h7))] [0, 28] [] [900000074, 49005, 704900500] [(900000074, .cells 74 (k3 bG.2)), (49005, .cells 60 [.own 49537]), (49537, .slice 50 5 (ml aJ l_2) 0 false)] ?_
   exact Exists.intro (bG.2.L, bG.2.At, l_2) (And.intro hm (bz.go [.sw 49537 704900500] [] (by kernel_rfl)))
  refine qF c3 ?_
  refine A.skip ?_
  exact qX (gL, gB, m_1) hm
 rintro ⟨m_7, m_8, m_9⟩ hm
 rw [hJ2] at hm
 refine qD [] [5] [] [49004, 49005] [(49004, .cells 60 [.own 704900500])] ?_
 refine A.ret ?_
 obtain rfl := some_inj hm
 exact A.fin W0 [.sw 704900500 500004900] rfl (by kernel_rfl)
end Go.Proofs.YtpmifmdidfgpdaaGreat
