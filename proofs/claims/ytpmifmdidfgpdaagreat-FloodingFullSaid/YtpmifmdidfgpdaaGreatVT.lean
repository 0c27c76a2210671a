/- The eM of ct of the program. No condition but bU bB stand in each. -/
import Derived.Test.YtpmifmdidfgpdaaGreatDA
import Derived.Test.YtpmifmdidfgpdaaGreatV3
namespace Go.Proofs.YtpmifmdidfgpdaaGreat
open Go
set_option maxRecDepth 100000
set_option linter.all false
theorem rM {t : aQ} {aL : Int} {n : Int} {r : ak × aQ} (hm : jb t aL n = some r) : bM Tryz.prog 96 [(900000074, .cells 74 (k3 t))] [.ptr 900000074 0, i6 aL, i6 n] (fun a σ' => a = .agg (k6 r.1) ∧ σ' = [(900000074, .cells 74 (k3 r.2))]) := by
 refine aR Tryz.func96 rfl rfl ?_
 unfold jb at hm
 refine qS [(0, .al 96006)] [(0, .ptr 900000074 0), (1, i6 aL), (2, i6 n), (6, .ptr 96006 0)] [(900000074, .cells 74 (k3 t)), (96006, .cells 50 [i6 0, i6 0, .bool false, .aC, .aC])] ?_
 obtain ⟨af, h1, hm⟩ := aa hm
 obtain ⟨ay, h2, hm⟩ := aa hm
 refine qD [(3, hdc [] (dm h1) qY), (5, hdc [] (bP h2) iX), (8, .al 96007)] [] [(7, .ptr 96007 0)] [900000074] [(900000074, .cells 74 (k3 ay.2)), (96007, .cells 50 [i6 aL, i6 af.1, .bool (decide ((0:Int) < ay.1)), .aC, .aC])] ?_
 refine A.seq ?_
 refine qDs [] [] [(8, i6 1)] ?_
 refine A.block ?_
 obtain ⟨B1, K1, hB1, hK1, hm⟩ := iF hm
 refine A.lpN (hi := (7:Int)) (B := B1) (K := K1) hm rfl (fun j1 => fun sg => match sg with | (m_1, m_2, m_3) => [(0, .ptr 900000074 0), (1, i6 aL), (2, i6 n), (6, .ptr 96006 0), (7, .ptr 96007 0), (8, i6 (j1 : Int))]) (fun j1 => fun sg => match sg with | (m_1, m_2, m_3) => [(900000074, .cells 74 [lf bJ m_2, i6 m_3]), (96006, .cells 50 [i6 0, i6 0, .bool false, .aC, .aC]), (96007, .cells 50 [i6 aL, i6 af.1, .bool (decide ((0:Int) < ay.1)), .own 709600703, .aC]), (709600703, .slice 106 3 (ml bh m_1) 0 false)]) ?_ ?_ ?_
 ·exact bA.go [.ac 96007 709600703 106 3 3] [] (by kernel_rfl)
 ·rintro j1 Z1 ⟨m_1, m_2, m_3⟩ hj1 hx1 hm
  rw [hB1] at hm
  refine A.seq ?_
  refine qDs [] [] [(20, .bool (decide ((j1 : Int) ≤ (6:Int))))] ?_
  refine A.cT rfl (leT hx1) ?_
  refine A.skip ?_
  show ai _ _ _ _ _
  obtain ⟨J1, hJ1, hm⟩ := bK hm
  refine A.J (J := J1) (r := r) (fun sg => match sg with | (m_4, m_5, m_6) => [(0, .ptr 900000074 0), (1, i6 aL), (2, i6 n), (6, .ptr 96006 0), (7, .ptr 96007 0), (8, i6 (j1 : Int))]) (fun sg => match sg with | (m_4, m_5, m_6) => [(900000074, .cells 74 [lf bJ m_4, i6 m_5]), (96006, .cells 50 [i6 0, i6 0, .bool false, .aC, .aC]), (96007, .cells 50 [i6 aL, i6 af.1, .bool (decide ((0:Int) < ay.1)), .own 709600703, .aC]), (709600703, .slice 106 3 (ml bh m_6) 0 false)]) ?_ ?_
  ·refine A.block ?_
   obtain ⟨J2, hJ2, hm⟩ := bK hm
   refine A.J (J := J2) (r := r) (fun sg => match sg with | (v_1, m_7, m_8) => [(0, .ptr 900000074 0), (1, i6 aL), (2, i6 n), (6, .ptr 96006 0), (7, .ptr 96007 0), (8, i6 (j1 : Int)), (30, .bool v_1)]) (fun sg => match sg with | (v_1, m_7, m_8) => [(900000074, .cells 74 [lf bJ m_7, i6 m_8]), (96006, .cells 50 [i6 0, i6 0, .bool false, .aC, .aC]), (96007, .cells 50 [i6 aL, i6 af.1, .bool (decide ((0:Int) < ay.1)), .own 709600703, .aC]), (709600703, .slice 106 3 (ml bh m_1) 0 false)]) ?_ ?_
   ·rcases ah hm with ⟨c1,hm⟩|⟨c1,hm⟩
    ·obtain ⟨aJ, h3, hm⟩ := aa hm
     refine qG [(3, hto (bE c1)), (5, hdc [] (bP h3) iX)] [20] [(30, .bool (decide (aJ.1 = (0:Int))))] [900000074] [(900000074, .cells 74 (k3 aJ.2))] ?_
     exact qX (decide (aJ.1 = (0:Int)), aJ.2.L, aJ.2.At) hm
    refine qGs [(3, hto (bE c1))] [20] [(30, .bool false)] ?_
    exact qX (false, m_2, m_3) hm
   rintro ⟨v_1, m_7, m_8⟩ hm
   rw [hJ2] at hm
   rcases ah hm with ⟨c2,hm⟩|⟨c2,hm⟩
   ·refine qT c2 ?_
    obtain ⟨bk, h4, hm⟩ := aa hm
    obtain ⟨bF, h5, hm⟩ := aa hm
    obtain ⟨l_1, h6, hm⟩ := aa hm
    refine qG [(4, hdc [] (ez h4) wq), (6, hdc [] (bP h5) iX), (9, hap 96540 (ap bh (bytes := 24) (by decide) h6))] [30] [] [900000074, 96007, 709600703] [(900000074, .cells 74 (k3 bF.2)), (96007, .cells 50 [i6 aL, i6 af.1, .bool (decide ((0:Int) < ay.1)), .own 96540, .aC]), (96540, .slice 106 3 (ml bh l_1) 0 false)] ?_
    exact Exists.intro (bF.2.L, bF.2.At, l_1) (And.intro hm (bA.go [.sw 96540 709600703] [] (by kernel_rfl)))
   refine qF c2 ?_
   refine A.skip ?_
   exact qX (m_7, m_8, m_1) hm
  rintro ⟨m_4, m_5, m_6⟩ hm
  rw [hJ1] at hm
  refine qGs [(1, hto (sZ (by omega) hx1 (by decide)))] [8] [(8, i6 (j1 + 1 : Int))] ?_
  exact qX (m_6, m_4, m_5) hm
 rintro j1 ⟨m_1, m_2, m_3⟩ hj1 hl1 hm
 rw [hK1] at hm
 refine A.seq ?_
 refine qDs [] [] [(20, .bool (decide ((j1 : Int) ≤ (6:Int))))] ?_
 refine A.cF rfl (gtF hl1) ?_
 refine A.exit ?_
 show ai _ _ _ _ _
 refine A.seq ?_
 refine qDs [] [8, 20] [(9, i6 0)] ?_
 refine A.block ?_
 obtain ⟨B2, K2, hB2, hK2, hm⟩ := iF hm
 refine A.lpN (hi := (2:Int)) (B := B2) (K := K2) hm rfl (fun j2 => fun sg => match sg with | (m_9, gC, gv) => [(0, .ptr 900000074 0), (1, i6 aL), (2, i6 n), (6, .ptr 96006 0), (7, .ptr 96007 0), (9, i6 (j2 : Int))]) (fun j2 => fun sg => match sg with | (m_9, gC, gv) => [(900000074, .cells 74 [lf bJ gC, i6 gv]), (96006, .cells 50 [i6 0, i6 0, .bool false, .aC, .aC]), (96007, .cells 50 [i6 aL, i6 af.1, .bool (decide ((0:Int) < ay.1)), .own 709600703, .own 709600704]), (709600703, .slice 106 3 (ml bh m_1) 0 false), (709600704, .slice 85 3 (ml aS m_9) 0 false)]) ?_ ?_ ?_
 ·exact bA.go [.ac 96007 709600704 85 3 4] [] (by kernel_rfl)
 ·rintro j2 Z2 ⟨m_9, gC, gv⟩ hj2 hx2 hm
  rw [hB2] at hm
  refine A.seq ?_
  refine qDs [] [] [(43, .bool (decide ((j2 : Int) < (2:Int))))] ?_
  refine A.cT rfl (decide_eq_true hx2) ?_
  refine A.skip ?_
  show ai _ _ _ _ _
  obtain ⟨J3, hJ3, hm⟩ := bK hm
  refine A.J (J := J3) (r := r) (fun sg => match sg with | (kY, s9, ta) => [(0, .ptr 900000074 0), (1, i6 aL), (2, i6 n), (6, .ptr 96006 0), (7, .ptr 96007 0), (9, i6 (j2 : Int))]) (fun sg => match sg with | (kY, s9, ta) => [(900000074, .cells 74 [lf bJ kY, i6 s9]), (96006, .cells 50 [i6 0, i6 0, .bool false, .aC, .aC]), (96007, .cells 50 [i6 aL, i6 af.1, .bool (decide ((0:Int) < ay.1)), .own 709600703, .own 709600704]), (709600703, .slice 106 3 (ml bh m_1) 0 false), (709600704, .slice 85 3 (ml aS ta) 0 false)]) ?_ ?_
  ·refine A.block ?_
   obtain ⟨bR, h7, hm⟩ := aa hm
   refine qD [(1, hdc [] (bP h7) iX)] [43] [(48, .bool (decide (bR.1 = (0:Int))))] [900000074] [(900000074, .cells 74 (k3 bR.2))] ?_
   rcases ah hm with ⟨c3,hm⟩|⟨c3,hm⟩
   ·refine qT c3 ?_
    obtain ⟨cG, h8, hm⟩ := aa hm
    obtain ⟨cQ, h9, hm⟩ := aa hm
    obtain ⟨l_2, h10, hm⟩ := aa hm
    refine qG [(4, hdc [] (ez h8) wq), (6, hdc [] (rL h9) apC), (9, hap 96558 (ap aS (bytes := 24) (by decide) h10))] [48] [] [900000074, 96007, 709600704] [(900000074, .cells 74 (k3 cQ.2)), (96007, .cells 50 [i6 aL, i6 af.1, .bool (decide ((0:Int) < ay.1)), .own 709600703, .own 96558]), (96558, .slice 85 3 (ml aS l_2) 0 false)] ?_
    exact Exists.intro (cQ.2.L, cQ.2.At, l_2) (And.intro hm (bA.go [.sw 96558 709600704] [] (by kernel_rfl)))
   refine qF c3 ?_
   refine A.skip ?_
   exact qX (bR.2.L, bR.2.At, m_9) hm
  rintro ⟨kY, s9, ta⟩ hm
  rw [hJ3] at hm
  refine qGs [(1, hto (sZ (by omega) hx2 (by decide)))] [9] [(9, i6 (j2 + 1 : Int))] ?_
  exact qX (ta, kY, s9) hm
 rintro j2 ⟨m_9, gC, gv⟩ hj2 hl2 hm
 rw [hK2] at hm
 refine A.seq ?_
 refine qDs [] [] [(43, .bool (decide ((j2 : Int) < (2:Int))))] ?_
 refine A.cF rfl (geF hl2) ?_
 refine A.exit ?_
 show ai _ _ _ _ _
 obtain ⟨J4, hJ4, hm⟩ := bK hm
 refine A.J (J := J4) (r := r) (fun sg => match sg with | (uo, uq, ri, rj, qd, acQ) => [(6, .ptr 96006 0), (7, .ptr 96007 0)]) (fun sg => match sg with | (uo, uq, ri, rj, qd, acQ) => [(900000074, .cells 74 [lf bJ uo, i6 uq]), (96006, .cells 50 [i6 0, i6 0, .bool false, .aC, .aC]), (96007, .cells 50 [i6 ri, i6 rj, .bool (decide ((0:Int) < ay.1)), .own 709600703, .own 709600704]), (709600703, .slice 106 3 (ml bh qd) 0 false), (709600704, .slice 85 3 (ml aS acQ) 0 false)]) ?_ ?_
 ·obtain ⟨J5, hJ5, hm⟩ := bK hm
  refine A.J (J := J5) (r := r) (fun sg => match sg with | (v_2, zC, zD) => [(0, .ptr 900000074 0), (1, i6 aL), (6, .ptr 96006 0), (7, .ptr 96007 0), (66, .bool v_2)]) (fun sg => match sg with | (v_2, zC, zD) => [(900000074, .cells 74 [lf bJ zC, i6 zD]), (96006, .cells 50 [i6 0, i6 0, .bool false, .aC, .aC]), (96007, .cells 50 [i6 aL, i6 af.1, .bool (decide ((0:Int) < ay.1)), .own 709600703, .own 709600704]), (709600703, .slice 106 3 (ml bh m_1) 0 false), (709600704, .slice 85 3 (ml aS m_9) 0 false)]) ?_ ?_
  ·rcases ah hm with ⟨c4,hm⟩|⟨c4,hm⟩
   ·obtain ⟨dA, h11, hm⟩ := aa hm
    refine qG [(2, hto (bE c4)), (5, hdc [] (gO h11) zx)] [2, 9, 43] [(66, .bool dA.1)] [900000074] [(900000074, .cells 74 (k3 dA.2))] ?_
    exact qX (dA.1, dA.2.L, dA.2.At) hm
   refine qGs [(2, hto (bE c4))] [2, 9, 43] [(66, .bool false)] ?_
   exact qX (false, gC, gv) hm
  rintro ⟨v_2, zC, zD⟩ hm
  rw [hJ5] at hm
  rcases ah hm with ⟨c5,hm⟩|⟨c5,hm⟩
  ·refine qT c5 ?_
   obtain ⟨bN, h12, hm⟩ := aa hm
   refine qD [(1, hdc [] (bP h12) iX)] [66] [(68, i6 bN.1)] [900000074] [(900000074, .cells 74 (k3 bN.2))] ?_
   refine A.block ?_
   refine qDs [] [] [(79, .bool (decide (bN.1 = (0:Int))))] ?_
   rcases ah hm with ⟨c6,hm⟩|⟨c6,hm⟩
   ·refine qT c6 ?_
    obtain ⟨dI, h13, hm⟩ := aa hm
    refine qG [(1, hdc [] (gD h13) zy)] [0, 1, 68, 79] [] [900000074, 96007] [(900000074, .cells 74 (k3 dI.2)), (96007, .cells 50 [i6 dI.1, i6 af.1, .bool (decide ((0:Int) < ay.1)), .own 709600703, .own 709600704])] ?_
    exact qX (dI.2.L, dI.2.At, dI.1, af.1, m_1, m_9) hm
   refine qF c6 ?_
   refine qDs [] [79] [(84, .bool (decide (bN.1 = (1:Int))))] ?_
   rcases ah hm with ⟨c7,hm⟩|⟨c7,hm⟩
   ·refine qT c7 ?_
    obtain ⟨bZ, h14, hm⟩ := aa hm
    refine qG [(1, hdc [] (gD h14) zy)] [0, 1, 68, 84] [] [900000074, 96007] [(900000074, .cells 74 (k3 bZ.2)), (96007, .cells 50 [i6 aL, i6 bZ.1, .bool (decide ((0:Int) < ay.1)), .own 709600703, .own 709600704])] ?_
    exact qX (bZ.2.L, bZ.2.At, aL, bZ.1, m_1, m_9) hm
   refine qF c7 ?_
   refine qDs [] [84] [(89, .bool (decide (bN.1 = (2:Int))))] ?_
   rcases ah hm with ⟨c8,hm⟩|⟨c8,hm⟩
   ·refine qT c8 ?_
    obtain ⟨fN, h15, hm⟩ := aa hm
    obtain ⟨jD, h16, hm⟩ := aa hm
    obtain ⟨ji, h17, hm⟩ := aa hm
    obtain ⟨l_3, h18, hm⟩ := aa hm
    refine qG [(5, hdc [] (dm h15) qY), (8, hdc [] (dm h16) qY), (11, hdc [] (dm h17) qY), (14, hap 96605 (ap bh (bytes := 24) (by decide) h18))] [0, 1, 68, 89] [] [900000074, 96007, 709600703] [(900000074, .cells 74 (k3 ji.2)), (96007, .cells 50 [i6 aL, i6 af.1, .bool (decide ((0:Int) < ay.1)), .own 96605, .own 709600704]), (96605, .slice 106 3 (ml bh l_3) 0 false)] ?_
    exact Exists.intro (ji.2.L, ji.2.At, aL, af.1, l_3, m_9) (And.intro hm (bA.go [.sw 96605 709600703] [] (by kernel_rfl)))
   refine qF c8 ?_
   refine qDs [] [1, 89] [(107, .bool (decide (bN.1 = (3:Int))))] ?_
   rcases ah hm with ⟨c9,hm⟩|⟨c9,hm⟩
   ·refine qT c9 ?_
    obtain ⟨kQ, h19, hm⟩ := aa hm
    obtain ⟨pT, h20, hm⟩ := aa hm
    obtain ⟨pU, h21, hm⟩ := aa hm
    obtain ⟨l_4, h22, hm⟩ := aa hm
    refine qG [(4, hdc [] (dm h19) qY), (7, hdc [] (dm h20) qY), (10, hdc [] (dm h21) qY), (13, hap 96622 (ap aS (bytes := 24) (by decide) h22))] [0, 68, 107] [] [900000074, 96007, 709600704] [(900000074, .cells 74 (k3 pU.2)), (96007, .cells 50 [i6 aL, i6 af.1, .bool (decide ((0:Int) < ay.1)), .own 709600703, .own 96622]), (96622, .slice 85 3 (ml aS l_4) 0 false)] ?_
    exact Exists.intro (pU.2.L, pU.2.At, aL, af.1, m_1, l_4) (And.intro hm (bA.go [.sw 96622 709600704] [] (by kernel_rfl)))
   refine qF c9 ?_
   refine qDs [] [68, 107] [(124, .bool (decide (bN.1 = (4:Int))))] ?_
   rcases ah hm with ⟨c10,hm⟩|⟨c10,hm⟩
   ·refine qT c10 ?_
    refine qDs [] [0, 124] [(10, i6 30)] ?_
    refine A.block ?_
    obtain ⟨B3, K3, hB3, hK3, hm⟩ := iF hm
    refine A.lpN (hi := (54:Int)) (B := B3) (K := K3) hm rfl (fun j3 => fun wD => [(6, .ptr 96006 0), (7, .ptr 96007 0), (10, i6 (j3 : Int))]) (fun j3 => fun wD => [(900000074, .cells 74 (k3 bN.2)), (96006, .cells 50 [i6 0, i6 0, .bool false, .aC, .aC]), (96007, .cells 50 [i6 aL, i6 af.1, .bool (decide ((0:Int) < ay.1)), .own 709600703, .own 709600704]), (709600703, .slice 106 3 (ml bh wD) 0 false), (709600704, .slice 85 3 (ml aS m_9) 0 false)]) ?_ ?_ ?_
    ·exact qW
    ·rintro j3 Z3 wD hj3 hx3 hm
     rw [hB3] at hm
     refine A.seq ?_
     refine qDs [] [] [(127, .bool (decide ((j3 : Int) < (54:Int))))] ?_
     refine A.cT rfl (decide_eq_true hx3) ?_
     refine A.skip ?_
     show ai _ _ _ _ _
     refine A.seq ?_
     refine A.block ?_
     obtain ⟨l_5, h23, hm⟩ := aa hm
     refine qG [(5, hap 96635 (ap bh (bytes := 24) (by decide) h23))] [127] [] [96007, 709600703] [(96007, .cells 50 [i6 aL, i6 af.1, .bool (decide ((0:Int) < ay.1)), .own 96635, .own 709600704]), (96635, .slice 106 3 (ml bh l_5) 0 false)] ?_
     show ai _ _ _ _ _
     refine qGs [(1, hto (sZ (by omega) hx3 (by decide)))] [10] [(10, i6 (j3 + 1 : Int))] ?_
     exact Exists.intro l_5 (And.intro hm (bA.go [.sw 96635 709600703] [] (by kernel_rfl)))
    rintro j3 wD hj3 hl3 hm
    rw [hK3] at hm
    refine A.seq ?_
    refine qDs [] [] [(127, .bool (decide ((j3 : Int) < (54:Int))))] ?_
    refine A.cF rfl (geF hl3) ?_
    refine A.exit ?_
    exact qX (bN.2.L, bN.2.At, aL, af.1, wD, m_9) hm
   refine qF c10 ?_
   refine qDs [(2, hto (lnE bh m_1))] [124] [(72, .bool (decide ((0:Int) < (m_1.length:Int))))] ?_
   rcases ah hm with ⟨c11,hm⟩|⟨c11,hm⟩
   ·refine qT c11 ?_
    obtain ⟨lJ, h24, hm⟩ := aa hm
    obtain ⟨e_1, h25, hm⟩ := aa hm
    obtain ⟨l_6, h26, hm⟩ := aa hm
    refine qG [(3, hdc [] (gD h24) zy), (4, hix (ix bh h25)), (6, hso 709600703 (st bh (off := 1) (ca := [i6 lJ.1]) h25 h26 rfl) (iW h25).1.1)] [0, 72] [] [900000074, 709600703] [(900000074, .cells 74 (k3 lJ.2)), (709600703, .slice 106 3 (ml bh l_6) 0 false)] ?_
    exact qX (lJ.2.L, lJ.2.At, aL, af.1, l_6, m_9) hm
   refine qF c11 ?_
   refine A.skip ?_
   exact qX (bN.2.L, bN.2.At, aL, af.1, m_1, m_9) hm
  refine qF c5 ?_
  refine A.skip ?_
  exact qX (zC, zD, aL, af.1, m_1, m_9) hm
 rintro ⟨uo, uq, ri, rj, qd, acQ⟩ hm
 rw [hJ4] at hm
 refine qD [] [7] [] [96006, 96007] [(96006, .cells 50 [i6 ri, i6 rj, .bool (decide ((0:Int) < ay.1)), .own 709600703, .own 709600704])] ?_
 refine A.ret ?_
 obtain rfl := some_inj hm
 exact A.fin W0 [.fz [709600703, 709600704]] rfl (by kernel_rfl)
theorem qv {t : aQ} {n : Int} {r : aD × aQ} (hm : gZ t n = some r) : bM Tryz.prog 49 [(900000074, .cells 74 (k3 t))] [.ptr 900000074 0, i6 n] (fun a σ' => a = .agg [.own 500004900] ∧ σ' = [(900000074, .cells 74 (k3 r.2)), (500004900, .slice 50 5 (ml aI r.1.az) 0 false)]) := by
 refine aR Tryz.func49 rfl rfl ?_
 unfold gZ at hm
 refine qS [(0, .al 49004)] [(0, .ptr 900000074 0), (1, i6 n), (4, .ptr 49004 0)] [(900000074, .cells 74 (k3 t)), (49004, .cells 60 [.aC])] ?_
 refine qD [(0, .al 49005)] [] [(5, .ptr 49005 0)] [] [(49005, .cells 60 [.aC])] ?_
 refine A.seq ?_
 refine qDs [] [] [(6, i6 1)] ?_
 refine A.block ?_
 obtain ⟨B1, K1, hB1, hK1, hm⟩ := iF hm
 refine A.lpN (hi := (7:Int)) (B := B1) (K := K1) hm rfl (fun j1 => fun sg => match sg with | (m_1, m_2, m_3) => [(0, .ptr 900000074 0), (1, i6 n), (4, .ptr 49004 0), (5, .ptr 49005 0), (6, i6 (j1 : Int))]) (fun j1 => fun sg => match sg with | (m_1, m_2, m_3) => [(900000074, .cells 74 [lf bJ m_2, i6 m_3]), (49004, .cells 60 [.aC]), (49005, .cells 60 [.own 704900500]), (704900500, .slice 50 5 (ml aI m_1) 0 false)]) ?_ ?_ ?_
 ·exact bA.go [.ac 49005 704900500 50 5 0] [] (by kernel_rfl)
 ·rintro j1 Z1 ⟨m_1, m_2, m_3⟩ hj1 hx1 hm
  rw [hB1] at hm
  refine A.seq ?_
  refine qDs [] [] [(8, .bool (decide ((j1 : Int) ≤ (6:Int))))] ?_
  refine A.cT rfl (leT hx1) ?_
  refine A.skip ?_
  show ai _ _ _ _ _
  obtain ⟨J1, hJ1, hm⟩ := bK hm
  refine A.J (J := J1) (r := r) (fun sg => match sg with | (m_4, m_5, m_6) => [(0, .ptr 900000074 0), (1, i6 n), (4, .ptr 49004 0), (5, .ptr 49005 0), (6, i6 (j1 : Int))]) (fun sg => match sg with | (m_4, m_5, m_6) => [(900000074, .cells 74 [lf bJ m_4, i6 m_5]), (49004, .cells 60 [.aC]), (49005, .cells 60 [.own 704900500]), (704900500, .slice 50 5 (ml aI m_6) 0 false)]) ?_ ?_
  ·refine A.block ?_
   obtain ⟨af, h1, hm⟩ := aa hm
   refine qD [(1, hdc [] (bP h1) iX)] [8] [(13, .bool (decide ((0:Int) < af.1)))] [900000074] [(900000074, .cells 74 (k3 af.2))] ?_
   rcases ah hm with ⟨c1,hm⟩|⟨c1,hm⟩
   ·refine qT c1 ?_
    obtain ⟨ay, h2, hm⟩ := aa hm
    obtain ⟨l_1, h3, hm⟩ := aa hm
    refine qG [(4, hdc [] (rM h2) apQ), (6, hap 49520 (ap aI (bytes := 72) (by decide) h3))] [13] [] [900000074, 49005, 704900500] [(900000074, .cells 74 (k3 ay.2)), (49005, .cells 60 [.own 49520]), (49520, .slice 50 5 (ml aI l_1) 0 false)] ?_
    exact Exists.intro (ay.2.L, ay.2.At, l_1) (And.intro hm (bA.go [.sw 49520 704900500] [] (by kernel_rfl)))
   refine qF c1 ?_
   refine A.skip ?_
   exact qX (af.2.L, af.2.At, m_1) hm
  rintro ⟨m_4, m_5, m_6⟩ hm
  rw [hJ1] at hm
  refine qGs [(1, hto (sZ (by omega) hx1 (by decide)))] [6] [(6, i6 (j1 + 1 : Int))] ?_
  exact qX (m_6, m_4, m_5) hm
 rintro j1 ⟨m_1, m_2, m_3⟩ hj1 hl1 hm
 rw [hK1] at hm
 refine A.seq ?_
 refine qDs [] [] [(8, .bool (decide ((j1 : Int) ≤ (6:Int))))] ?_
 refine A.cF rfl (gtF hl1) ?_
 refine A.exit ?_
 show ai _ _ _ _ _
 obtain ⟨J2, hJ2, hm⟩ := bK hm
 refine A.J (J := J2) (r := r) (fun sg => match sg with | (m_7, m_8, m_9) => [(4, .ptr 49004 0), (5, .ptr 49005 0)]) (fun sg => match sg with | (m_7, m_8, m_9) => [(900000074, .cells 74 [lf bJ m_7, i6 m_8]), (49004, .cells 60 [.aC]), (49005, .cells 60 [.own 704900500]), (704900500, .slice 50 5 (ml aI m_9) 0 false)]) ?_ ?_
 ·obtain ⟨J3, hJ3, hm⟩ := bK hm
  refine A.J (J := J3) (r := r) (fun sg => match sg with | (v_1, gC, gv) => [(0, .ptr 900000074 0), (4, .ptr 49004 0), (5, .ptr 49005 0), (28, .bool v_1)]) (fun sg => match sg with | (v_1, gC, gv) => [(900000074, .cells 74 [lf bJ gC, i6 gv]), (49004, .cells 60 [.aC]), (49005, .cells 60 [.own 704900500]), (704900500, .slice 50 5 (ml aI m_1) 0 false)]) ?_ ?_
  ·rcases ah hm with ⟨c2,hm⟩|⟨c2,hm⟩
   ·obtain ⟨aJ, h4, hm⟩ := aa hm
    refine qG [(2, hto (bE c2)), (5, hdc [] (gO h4) zx)] [1, 6, 8] [(28, .bool aJ.1)] [900000074] [(900000074, .cells 74 (k3 aJ.2))] ?_
    exact qX (aJ.1, aJ.2.L, aJ.2.At) hm
   refine qGs [(2, hto (bE c2))] [1, 6, 8] [(28, .bool false)] ?_
   exact qX (false, m_2, m_3) hm
  rintro ⟨v_1, gC, gv⟩ hm
  rw [hJ3] at hm
  rcases ah hm with ⟨c3,hm⟩|⟨c3,hm⟩
  ·refine qT c3 ?_
   obtain ⟨bk, h5, hm⟩ := aa hm
   obtain ⟨bF, h6, hm⟩ := aa hm
   obtain ⟨l_2, h7, hm⟩ := aa hm
   refine qG [(5, hdc [] (dm h5) qY), (6, hdc [] (rM h6) apQ), (8, hap 49537 (ap aI (bytes := 72) (by decide) h7))] [0, 28] [] [900000074, 49005, 704900500] [(900000074, .cells 74 (k3 bF.2)), (49005, .cells 60 [.own 49537]), (49537, .slice 50 5 (ml aI l_2) 0 false)] ?_
   exact Exists.intro (bF.2.L, bF.2.At, l_2) (And.intro hm (bA.go [.sw 49537 704900500] [] (by kernel_rfl)))
  refine qF c3 ?_
  refine A.skip ?_
  exact qX (gC, gv, m_1) hm
 rintro ⟨m_7, m_8, m_9⟩ hm
 rw [hJ2] at hm
 refine qD [] [5] [] [49004, 49005] [(49004, .cells 60 [.own 704900500])] ?_
 refine A.ret ?_
 obtain rfl := some_inj hm
 exact A.fin W0 [.sw 704900500 500004900] rfl (by kernel_rfl)
end Go.Proofs.YtpmifmdidfgpdaaGreat
