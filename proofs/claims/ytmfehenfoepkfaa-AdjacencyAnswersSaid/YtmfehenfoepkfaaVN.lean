/- The jt of dK of the program. No condition but bR bw stand in each. -/
import Derived.Test.YtmfehenfoepkfaaDA
import Derived.Test.YtmfehenfoepkfaaVX
import Derived.Test.YtmfehenfoepkfaaVW
namespace Go.Proofs.Ytmfehenfoepkfaa
open Go
set_option maxRecDepth 100000
set_option linter.all false
theorem iQ {t : aC} {most : Int} {r : aj × aC} (hm : fu t most = some r) : cv Try.prog 9 [(900000081, .cells 81 (k4 t))] [.ptr 900000081 0, i6 most] (fun a σ' => a = .agg (k2 r.1) ∧ σ' = [(900000081, .cells 81 (k4 r.2))]) := by
 refine aZ Try.func9 rfl rfl ?_
 unfold fu at hm
 refine qS [(0, .al 9004)] [(0, .ptr 900000081 0), (1, i6 most), (4, .ptr 9004 0)] [(900000081, .cells 81 (k4 t)), (9004, .cells 32 [.bf, .bf])] ?_
 obtain ⟨ak, h1, hm⟩ := aa hm
 refine qD [(2, hdc [] (cN h1) xb)] [1] [(5, i6 ak.1)] [900000081] [(900000081, .cells 81 (k4 ak.2))] ?_
 refine qD [(0, .al 9006)] [] [(6, .ptr 9006 0)] [] [(9006, .cells 32 [.bf, .bf])] ?_
 refine qDs [] [] [(7, i6 0)] ?_
 refine A.seq ?_
 refine qDs [] [] [(8, i6 0)] ?_
 refine A.block ?_
 obtain ⟨hh1, hm⟩ := eP hm
 obtain ⟨B1, K1, hB1, hK1, hm⟩ := mH hm
 refine A.lpN (hi := ak.1) (B := B1) (K := K1) hm rfl (fun j1 => fun sg => match sg with | (sP, m_1, m_2, m_3) => [(0, .ptr 900000081 0), (4, .ptr 9004 0), (5, i6 ak.1), (6, .ptr 9006 0), (7, i6 sP), (8, i6 (j1 : Int))]) (fun j1 => fun sg => match sg with | (sP, m_1, m_2, m_3) => [(900000081, .cells 81 [lf aA m_2, i6 m_3]), (9004, .cells 32 [.bf, .bf]), (9006, .cells 32 [.own 700900600, .bf]), (700900600, .slice 57 2 (ml aH m_1) 0 false)]) ?_ ?_ ?_
 ·exact bp.go [.ac 9006 700900600 57 2 0] [] (by kernel_rfl)
 ·rintro j1 Z1 ⟨sP, m_1, m_2, m_3⟩ hj1 hx1 hm
  rw [hB1] at hm
  refine A.seq ?_
  refine qDs [] [] [(24, .bool (decide ((j1 : Int) < ak.1)))] ?_
  refine A.cT rfl (decide_eq_true hx1) ?_
  refine A.skip ?_
  show ah _ _ _ _ _
  refine A.seq ?_
  refine A.block ?_
  obtain ⟨aF, h2, hm⟩ := aa hm
  refine qD [(3, hdc [] (bF h2) mJ)] [7, 24] [(7, i6 (w64 (sP + aF.1)))] [900000081] [(900000081, .cells 81 (k4 aF.2))] ?_
  obtain ⟨l_1, h3, hm⟩ := aa hm
  refine qG [(5, hap 9537 (ap aH (bytes := 16) (by decide) h3))] [] [] [9006, 700900600] [(9006, .cells 32 [.own 9537, .bf]), (9537, .slice 57 2 (ml aH l_1) 0 false)] ?_
  show ah _ _ _ _ _
  refine qGs [(1, hto (wV (by omega) hx1 (of_decide_eq_true hh1)))] [8] [(8, i6 (j1 + 1 : Int))] ?_
  exact Exists.intro (w64 (sP + aF.1), l_1, aF.2.L, aF.2.At) (And.intro hm (bp.go [.sw 9537 700900600] [] (by kernel_rfl)))
 rintro j1 ⟨sP, m_1, m_2, m_3⟩ hj1 hl1 hm
 rw [hK1] at hm
 refine A.seq ?_
 refine qDs [] [] [(24, .bool (decide ((j1 : Int) < ak.1)))] ?_
 refine A.cF rfl (geF hl1) ?_
 refine A.exit ?_
 show ah _ _ _ _ _
 obtain ⟨h4, hm⟩ := eP hm
 refine qD [(1, hmr 9040 ak.1 afB afC h4 (by decide))] [7, 8, 24] [(9, .own 9040)] [] [(9040, .slice 83 1 (List.replicate ak.1.toNat [.bf]) 0 false)] ?_
 refine A.weak ((bp.aka (d := 9040) (e := 450009040) 4 1 cO.enc (ane h4) rfl rfl rfl rfl rfl)) ?_
 refine A.seq ?_
 refine qS [(1, hno 4 1 cO.enc (List.replicate ak.1.toNat [] : List (List Bool)) uY)] [(0, .ptr 900000081 0), (4, .ptr 9004 0), (5, i6 ak.1), (6, .ptr 9006 0), (9, .own 9040), (42, i6 ((List.replicate ak.1.toNat [] : List (List Bool)).length:Int)), (43, i6 0)] [(900000081, .cells 81 [lf aA m_2, i6 m_3]), (9004, .cells 32 [.bf, .bf]), (9006, .cells 32 [.own 700900600, .bf]), (700900600, .slice 57 2 (ml aH m_1) 0 false), (9040, .cA 83 450009040 ak.1.toNat none), (450009040, .bun (encS 4 1 cO.enc (List.replicate ak.1.toNat [] : List (List Bool))))] ?_
 refine A.block ?_
 obtain ⟨hh2, hm⟩ := eP hm
 obtain ⟨B2, K2, hB2, hK2, hm⟩ := mH hm
 refine A.lpN (hi := ((List.replicate ak.1.toNat [] : List (List Bool)).length:Int)) (B := B2) (K := K2) hm rfl (fun j2 => fun m_4 => [(0, .ptr 900000081 0), (4, .ptr 9004 0), (5, i6 ak.1), (6, .ptr 9006 0), (9, .own 9040), (42, i6 ((List.replicate ak.1.toNat [] : List (List Bool)).length:Int)), (43, i6 (j2 : Int))]) (fun j2 => fun m_4 => [(900000081, .cells 81 [lf aA m_2, i6 m_3]), (9004, .cells 32 [.bf, .bf]), (9006, .cells 32 [.own 700900600, .bf]), (700900600, .slice 57 2 (ml aH m_1) 0 false), (9040, .cA 83 450009040 ak.1.toNat none), (450009040, .bun (encS 4 1 cO.enc m_4))]) ?_ ?_ ?_
 ·exact qW
 ·rintro j2 Z2 m_4 hj2 hx2 hm
  rw [hB2] at hm
  refine qDs [] [] [(44, .bool (decide ((j2 : Int) < ((List.replicate ak.1.toNat [] : List (List Bool)).length:Int))))] ?_
  refine A.seq ?_
  refine A.cT rfl (decide_eq_true hx2) ?_
  refine A.skip ?_
  show ah _ _ _ _ _
  refine A.seq ?_
  refine A.block ?_
  refine qDs [] [44] [(10, i6 (j2 : Int))] ?_
  obtain ⟨h5, hm⟩ := eP hm
  obtain ⟨e_1, h6, hm⟩ := aa hm
  refine qG [(3, hms (a := .bool false) 9049 false cO.enc ak.1 afD afE rfl (fun I => by simp [aD]) h5 (by decide)), (4, hio 4 1 cO.enc uY h6), (5, hsS 4 1 530009001 cO.enc (List.replicate (ak.1).toNat false) z7 h6)] [10] [] [9040, 450009040] [(9040, .cA 83 530009001 ak.1.toNat none), (530009001, .bun (encS 4 1 cO.enc (List.set m_4 (j2 : Int).toNat (List.replicate (ak.1).toNat false))))] ?_
  show ah _ _ _ _ _
  refine qGs [(0, hto (wV (by omega) hx2 (of_decide_eq_true hh2)))] [43] [(43, i6 (j2 + 1 : Int))] ?_
  exact Exists.intro (List.set m_4 (j2 : Int).toNat (List.replicate (ak.1).toNat false)) (And.intro hm (bp.go [.rn 530009001 450009040] [] (by kernel_rfl)))
 rintro j2 m_4 hj2 hl2 hm
 rw [hK2] at hm
 refine qDs [] [] [(44, .bool (decide ((j2 : Int) < ((List.replicate ak.1.toNat [] : List (List Bool)).length:Int))))] ?_
 refine A.seq ?_
 refine A.cF rfl (geF hl2) ?_
 refine A.exit ?_
 show ah _ _ _ _ _
 refine A.seq ?_
 refine qDs [] [42, 43, 44] [(11, i6 1)] ?_
 refine A.block ?_
 obtain ⟨hh3, hm⟩ := eP hm
 obtain ⟨B3, K3, hB3, hK3, hm⟩ := mH hm
 refine A.lpN (hi := ak.1) (B := B3) (K := K3) hm rfl (fun j3 => fun sg => match sg with | (m_5, m_6, m_7) => [(0, .ptr 900000081 0), (4, .ptr 9004 0), (5, i6 ak.1), (6, .ptr 9006 0), (9, .own 9040), (11, i6 (j3 : Int))]) (fun j3 => fun sg => match sg with | (m_5, m_6, m_7) => [(900000081, .cells 81 [lf aA m_5, i6 m_6]), (9004, .cells 32 [.bf, .bf]), (9006, .cells 32 [.own 700900600, .bf]), (700900600, .slice 57 2 (ml aH m_1) 0 false), (9040, .cA 83 450009040 ak.1.toNat none), (450009040, .bun (encS 4 1 cO.enc m_7))]) ?_ ?_ ?_
 ·exact qW
 ·rintro j3 Z3 ⟨m_5, m_6, m_7⟩ hj3 hx3 hm
  rw [hB3] at hm
  refine A.seq ?_
  refine qDs [] [] [(54, .bool (decide ((j3 : Int) < ak.1)))] ?_
  refine A.cT rfl (decide_eq_true hx3) ?_
  refine A.skip ?_
  show ah _ _ _ _ _
  obtain ⟨J1, hJ1, hm⟩ := bN hm
  refine A.J (J := J1) (r := r) (fun sg => match sg with | (m_8, m_9, qq) => [(0, .ptr 900000081 0), (4, .ptr 9004 0), (5, i6 ak.1), (6, .ptr 9006 0), (9, .own 9040), (11, i6 (j3 : Int))]) (fun sg => match sg with | (m_8, m_9, qq) => [(900000081, .cells 81 [lf aA m_9, i6 qq]), (9004, .cells 32 [.bf, .bf]), (9006, .cells 32 [.own 700900600, .bf]), (700900600, .slice 57 2 (ml aH m_1) 0 false), (9040, .cA 83 450009040 ak.1.toNat none), (450009040, .bun (encS 4 1 cO.enc m_8))]) ?_ ?_
  ·refine A.block ?_
   obtain ⟨aI, h7, hm⟩ := aa hm
   refine qD [(1, hdc [] (aO h7) gv)] [54] [(59, .bool (decide (aI.1 < (11:Int))))] [900000081] [(900000081, .cells 81 (k4 aI.2))] ?_
   rcases aq hm with ⟨c1,hm⟩|⟨c1,hm⟩
   ·refine qT c1 ?_
    obtain ⟨aU, h8, hm⟩ := aa hm
    obtain ⟨e_2, h9, hm⟩ := aa hm
    obtain ⟨e_3, h10, hm⟩ := aa hm
    obtain ⟨l_2, h11, hm⟩ := aa hm
    refine A.late (A.R W0 [] [(3, hdc [] (aO h8) gv), (4, hio 4 1 cO.enc uY h9), (5, hlS 4 1 530009003 530009002 cO.enc z7 h9), (7, hix (ix cO h10)), (8, hso 530009002 (st cO (off := 0) (ca := [.bool true]) h10 h11 rfl) (iK h10).1.1)] [(0, .ptr 900000081 0), (4, .ptr 9004 0), (5, i6 ak.1), (6, .ptr 9006 0), (9, .own 9040), (11, i6 (j3 : Int))] [(900000081, .cells 81 (k4 aU.2)), (9004, .cells 32 [.bf, .bf]), (9006, .cells 32 [.own 700900600, .bf]), (700900600, .slice 57 2 (ml aH m_1) 0 false), (9040, .cA 83 530009003 ak.1.toNat (some (some aU.1.toNat, 530009002))), (530009003, .bun (encS 4 1 cO.enc (List.set m_7 aU.1.toNat []))), (530009002, .slice 4 1 (ml cO l_2) 0 false)] (by kernel_rfl) ?_)
    refine ⟨_, _, (bp.abY (d := 9040) (e := 530009003) (e2 := 530009004) (t := 530009002) m_7 cO.enc l_2 rfl rfl rfl rfl rfl rfl rfl), ?_⟩
    exact Exists.intro ((List.set m_7 aU.1.toNat l_2), aU.2.L, aU.2.At) (And.intro hm (bp.go [.rn 530009004 450009040] [] (by kernel_rfl)))
   refine qF c1 ?_
   refine A.skip ?_
   exact qX (m_7, aI.2.L, aI.2.At) hm
  rintro ⟨m_8, m_9, qq⟩ hm
  rw [hJ1] at hm
  refine qGs [(1, hto (wV (by omega) hx3 (of_decide_eq_true hh3)))] [11] [(11, i6 (j3 + 1 : Int))] ?_
  exact qX (m_9, qq, m_8) hm
 rintro j3 ⟨m_5, m_6, m_7⟩ hj3 hl3 hm
 rw [hK3] at hm
 refine A.seq ?_
 refine qDs [] [] [(54, .bool (decide ((j3 : Int) < ak.1)))] ?_
 refine A.cF rfl (geF hl3) ?_
 refine A.exit ?_
 show ah _ _ _ _ _
 refine A.seq ?_
 obtain ⟨aX, h12, hm⟩ := aa hm
 refine qD [(3, hdc [] (aO h12) gv)] [11, 54] [(12, i6 aX.1)] [900000081] [(900000081, .cells 81 (k4 aX.2))] ?_
 refine A.block ?_
 obtain ⟨F4, n4, hF4, hm⟩ := iJ hm
 refine A.lpW (F := F4) hm (fun sg => match sg with | (i_1, qs, gU, cL) => [(0, .ptr 900000081 0), (4, .ptr 9004 0), (5, i6 ak.1), (6, .ptr 9006 0), (9, .own 9040), (12, i6 i_1)]) (fun sg => match sg with | (i_1, qs, gU, cL) => [(900000081, .cells 81 [lf aA qs, i6 gU]), (9004, .cells 32 [.bf, .bf]), (9006, .cells 32 [.own 700900600, .bf]), (700900600, .slice 57 2 (ml aH m_1) 0 false), (9040, .cA 83 450009040 ak.1.toNat none), (450009040, .bun (encS 4 1 cO.enc cL))]) ?_ ?_
 ·exact qW
 rintro Z4 ⟨i_1, qs, gU, cL⟩ hm
 rw [hF4] at hm
 refine A.seq ?_
 refine qDs [] [] [(73, .bool (decide ((0:Int) < i_1)))] ?_
 rcases aq hm with ⟨c2,hm⟩|⟨c2,hm⟩
 ·refine qT c2 ?_
  refine A.skip ?_
  show ah _ _ _ _ _
  obtain ⟨J2, hJ2, hm⟩ := bN hm
  refine A.J (J := J2) (r := r) (fun sg => match sg with | (lP, pT, pU) => [(0, .ptr 900000081 0), (4, .ptr 9004 0), (5, i6 ak.1), (6, .ptr 9006 0), (9, .own 9040), (12, i6 i_1)]) (fun sg => match sg with | (lP, pT, pU) => [(900000081, .cells 81 [lf aA pT, i6 pU]), (9004, .cells 32 [.bf, .bf]), (9006, .cells 32 [.own 700900600, .bf]), (700900600, .slice 57 2 (ml aH m_1) 0 false), (9040, .cA 83 450009040 ak.1.toNat none), (450009040, .bun (encS 4 1 cO.enc lP))]) ?_ ?_
  ·refine A.block ?_
   obtain ⟨aS, h13, hm⟩ := aa hm
   obtain ⟨bh, h14, hm⟩ := aa hm
   refine qD [(2, hdc [] (aO h13) gv), (5, hdc [] (aO h14) gv)] [73] [(13, i6 aS.1), (14, i6 bh.1)] [900000081] [(900000081, .cells 81 (k4 bh.2))] ?_
   refine qDs [] [] [(84, .bool (!decide (aS.1 = bh.1)))] ?_
   rcases aq hm with ⟨c3,hm⟩|⟨c3,hm⟩
   ·refine qT c3 ?_
    obtain ⟨e_4, h15, hm⟩ := aa hm
    obtain ⟨e_5, h16, hm⟩ := aa hm
    obtain ⟨l_3, h17, hm⟩ := aa hm
    refine A.late (A.R W0 [] [(4, hio 4 1 cO.enc uY h15), (5, hlS 4 1 530009006 530009005 cO.enc z7 h15), (9, hix (ix cO h16)), (10, hso 530009005 (st cO (off := 0) (ca := [.bool true]) h16 h17 rfl) (iK h16).1.1)] [(0, .ptr 900000081 0), (4, .ptr 9004 0), (5, i6 ak.1), (6, .ptr 9006 0), (9, .own 9040), (12, i6 i_1)] [(900000081, .cells 81 (k4 bh.2)), (9004, .cells 32 [.bf, .bf]), (9006, .cells 32 [.own 700900600, .bf]), (700900600, .slice 57 2 (ml aH m_1) 0 false), (9040, .cA 83 530009006 ak.1.toNat (some (some (if bh.1 < aS.1 then bh.1 else aS.1).toNat, 530009005))), (530009006, .bun (encS 4 1 cO.enc (List.set cL (if bh.1 < aS.1 then bh.1 else aS.1).toNat []))), (530009005, .slice 4 1 (ml cO l_3) 0 false)] (by kernel_rfl) ?_)
    refine ⟨_, _, (bp.abY (d := 9040) (e := 530009006) (e2 := 530009007) (t := 530009005) cL cO.enc l_3 rfl rfl rfl rfl rfl rfl rfl), ?_⟩
    exact Exists.intro ((List.set cL (if bh.1 < aS.1 then bh.1 else aS.1).toNat l_3), bh.2.L, bh.2.At) (And.intro hm (bp.go [.rn 530009007 450009040] [] (by kernel_rfl)))
   refine qF c3 ?_
   refine A.skip ?_
   exact qX (cL, bh.2.L, bh.2.At) hm
  rintro ⟨lP, pT, pU⟩ hm
  rw [hJ2] at hm
  refine qGs [] [12] [(12, i6 (w64 (i_1 - (1:Int))))] ?_
  exact qX (w64 (i_1 - (1:Int)), pT, pU, lP) hm
 refine qF c2 ?_
 refine A.exit ?_
 show ah _ _ _ _ _
 obtain ⟨cC, h18, hm⟩ := aa hm
 refine qD [(1, hdc [] (aO h18) gv)] [5, 12, 73] [(15, .bool (decide (cC.1 = (0:Int))))] [900000081] [(900000081, .cells 81 (k4 cC.2))] ?_
 refine A.seq ?_
 refine qDs [(1, hno 4 1 cO.enc cL uY)] [] [(99, i6 (cL.length:Int)), (100, i6 0)] ?_
 refine A.block ?_
 obtain ⟨hh5, hm⟩ := eP hm
 obtain ⟨B5, K5, hB5, hK5, hm⟩ := mH hm
 refine A.lpN (hi := (cL.length:Int)) (B := B5) (K := K5) hm rfl (fun j5 => fun sg => match sg with | (nY, kR, kS) => [(0, .ptr 900000081 0), (4, .ptr 9004 0), (6, .ptr 9006 0), (9, .own 9040), (15, .bool (decide (cC.1 = (0:Int)))), (99, i6 (cL.length:Int)), (100, i6 (j5 : Int))]) (fun j5 => fun sg => match sg with | (nY, kR, kS) => [(900000081, .cells 81 [lf aA kR, i6 kS]), (9004, .cells 32 [.bf, .bf]), (9006, .cells 32 [.own 700900600, .own 700900601]), (700900600, .slice 57 2 (ml aH m_1) 0 false), (9040, .cA 83 450009040 ak.1.toNat none), (450009040, .bun (encS 4 1 cO.enc cL)), (700900601, .slice 85 5 (ml bu nY) 0 false)]) ?_ ?_ ?_
 ·exact bp.go [.ac 9006 700900601 85 5 1] [] (by kernel_rfl)
 ·rintro j5 Z5 ⟨nY, kR, kS⟩ hj5 hx5 hm
  rw [hB5] at hm
  refine qDs [] [] [(101, .bool (decide ((j5 : Int) < (cL.length:Int))))] ?_
  refine A.seq ?_
  refine A.cT rfl (decide_eq_true hx5) ?_
  refine A.skip ?_
  show ah _ _ _ _ _
  refine A.seq ?_
  refine A.block ?_
  refine qDs [] [101] [(16, i6 (j5 : Int))] ?_
  refine qDs [(1, hno 4 1 cO.enc cL uY)] [] [(104, i6 (cL.length:Int)), (105, i6 0)] ?_
  refine A.block ?_
  obtain ⟨hh6, hm⟩ := eP hm
  obtain ⟨B6, K6, hB6, hK6, hm⟩ := mH hm
  refine A.lpN (hi := (cL.length:Int)) (B := B6) (K := K6) hm rfl (fun j6 => fun sg => match sg with | (jE, kT, mQ) => [(0, .ptr 900000081 0), (4, .ptr 9004 0), (6, .ptr 9006 0), (9, .own 9040), (15, .bool (decide (cC.1 = (0:Int)))), (16, i6 (j5 : Int)), (99, i6 (cL.length:Int)), (100, i6 (j5 : Int)), (104, i6 (cL.length:Int)), (105, i6 (j6 : Int))]) (fun j6 => fun sg => match sg with | (jE, kT, mQ) => [(900000081, .cells 81 [lf aA kT, i6 mQ]), (9004, .cells 32 [.bf, .bf]), (9006, .cells 32 [.own 700900600, .own 700900601]), (700900600, .slice 57 2 (ml aH m_1) 0 false), (9040, .cA 83 450009040 ak.1.toNat none), (450009040, .bun (encS 4 1 cO.enc cL)), (700900601, .slice 85 5 (ml bu jE) 0 false)]) ?_ ?_ ?_
  ·exact qW
  ·rintro j6 Z6 ⟨jE, kT, mQ⟩ hj6 hx6 hm
   rw [hB6] at hm
   refine qDs [] [] [(106, .bool (decide ((j6 : Int) < (cL.length:Int))))] ?_
   refine A.seq ?_
   refine A.cT rfl (decide_eq_true hx6) ?_
   refine A.skip ?_
   show ah _ _ _ _ _
   obtain ⟨J3, hJ3, hm⟩ := bN hm
   refine A.J (J := J3) (r := r) (fun sg => match sg with | (qt, qu, nD) => [(0, .ptr 900000081 0), (4, .ptr 9004 0), (6, .ptr 9006 0), (9, .own 9040), (15, .bool (decide (cC.1 = (0:Int)))), (16, i6 (j5 : Int)), (99, i6 (cL.length:Int)), (100, i6 (j5 : Int)), (104, i6 (cL.length:Int)), (105, i6 (j6 : Int))]) (fun sg => match sg with | (qt, qu, nD) => [(900000081, .cells 81 [lf aA qt, i6 qu]), (9004, .cells 32 [.bf, .bf]), (9006, .cells 32 [.own 700900600, .own 700900601]), (700900600, .slice 57 2 (ml aH m_1) 0 false), (9040, .cA 83 450009040 ak.1.toNat none), (450009040, .bun (encS 4 1 cO.enc cL)), (700900601, .slice 85 5 (ml bu nD) 0 false)]) ?_ ?_
   ·refine A.block ?_
    refine qDs [] [106] [(17, i6 (j6 : Int))] ?_
    refine A.seq ?_
    obtain ⟨e_6, h19, hm⟩ := aa hm
    obtain ⟨e_7, h20, hm⟩ := aa hm
    refine qD [(2, hio 4 1 cO.enc uY h19), (3, hlS 4 1 530009009 530009008 cO.enc z7 h19), (5, hix (ix cO h20)), (6, hlo 530009008 0 (ix cO h20))] [] [(115, .bool (!e_7))] [9040, 450009040] [(9040, .cA 83 530009009 ak.1.toNat (some (some (j5 : Int).toNat, 530009008))), (530009009, .bun (encS 4 1 cO.enc (List.set cL (j5 : Int).toNat []))), (530009008, .slice 4 1 (ml cO e_6) 0 false)] ?_
    refine A.weak ((bp.akb (d := 9040) (e := 530009009) (e2 := 530009010) (t := 530009008) cL cO.enc h19 rfl rfl rfl rfl rfl rfl rfl)) ?_
    rcases aq hm with ⟨c4,hm⟩|⟨c4,hm⟩
    ·refine qT c4 ?_
     refine A.exit ?_
     exact Exists.intro (kT, mQ, jE) (And.intro hm (bp.go [.rn 530009010 450009040] [] (by kernel_rfl)))
    refine qF c4 ?_
    refine A.skip ?_
    show ah _ _ _ _ _
    obtain ⟨e_8, h21, hm⟩ := aa hm
    obtain ⟨e_9, h22, hm⟩ := aa hm
    obtain ⟨cI, h23, hm⟩ := aa hm
    refine qS [(3, hix (ix aH h21)), (5, hlo 700900600 0 (ix aH h21)), (9, hix (ix aH h22)), (11, hlo 700900600 0 (ix aH h22)), (14, hdc [] (bF h23) mJ), (16, .al 9018)] [(0, .ptr 900000081 0), (4, .ptr 9004 0), (6, .ptr 9006 0), (9, .own 9040), (15, .bool (decide (cC.1 = (0:Int)))), (16, i6 (j5 : Int)), (99, i6 (cL.length:Int)), (100, i6 (j5 : Int)), (104, i6 (cL.length:Int)), (105, i6 (j6 : Int)), (18, .ptr 9018 0)] [(900000081, .cells 81 (k4 cI.2)), (9004, .cells 32 [.bf, .bf]), (9006, .cells 32 [.own 700900600, .own 700900601]), (700900600, .slice 57 2 (ml aH m_1) 0 false), (9040, .cA 83 530009010 ak.1.toNat none), (530009010, .bun (encS 4 1 cO.enc cL)), (700900601, .slice 85 5 (ml bu jE) 0 false), (9018, .cells 85 [i6 e_8.ID, i6 e_9.ID, i6 1, i6 1, i6 cI.1])] ?_
    obtain ⟨J4, hJ4, hm⟩ := bN hm
    refine A.J (J := J4) (r := r) (fun sg => match sg with | (nE, kU, aan, aao) => [(0, .ptr 900000081 0), (4, .ptr 9004 0), (6, .ptr 9006 0), (9, .own 9040), (15, .bool (decide (cC.1 = (0:Int)))), (16, i6 (j5 : Int)), (18, .ptr 9018 0), (99, i6 (cL.length:Int)), (100, i6 (j5 : Int)), (104, i6 (cL.length:Int)), (105, i6 (j6 : Int))]) (fun sg => match sg with | (nE, kU, aan, aao) => [(900000081, .cells 81 [lf aA nE, i6 kU]), (9004, .cells 32 [.bf, .bf]), (9006, .cells 32 [.own 700900600, .own 700900601]), (700900600, .slice 57 2 (ml aH m_1) 0 false), (9040, .cA 83 530009010 ak.1.toNat none), (530009010, .bun (encS 4 1 cO.enc cL)), (700900601, .slice 85 5 (ml bu jE) 0 false), (9018, .cells 85 [i6 e_8.ID, i6 e_9.ID, i6 aan, i6 aao, i6 cI.1])]) ?_ ?_
    ·refine qDs [] [] [(133, .bool (!(decide (cC.1 = (0:Int)))))] ?_
     rcases aq hm with ⟨c5,hm⟩|⟨c5,hm⟩
     ·refine qT c5 ?_
      obtain ⟨gr, h24, hm⟩ := aa hm
      obtain ⟨eM, h25, hm⟩ := aa hm
      refine qD [(2, hdc [] (cN h24) xb), (4, hdc [] (bF h25) mJ)] [133] [] [900000081, 9018] [(900000081, .cells 81 (k4 eM.2)), (9018, .cells 85 [i6 e_8.ID, i6 e_9.ID, i6 eM.1, i6 1, i6 cI.1])] ?_
      obtain ⟨dZ, h26, hm⟩ := aa hm
      obtain ⟨cW, h27, hm⟩ := aa hm
      refine qG [(6, hdc [] (cN h26) xb), (8, hdc [] (bF h27) mJ)] [] [] [900000081, 9018] [(900000081, .cells 81 (k4 cW.2)), (9018, .cells 85 [i6 e_8.ID, i6 e_9.ID, i6 eM.1, i6 cW.1, i6 cI.1])] ?_
      exact qX (cW.2.L, cW.2.At, eM.1, cW.1) hm
     refine qF c5 ?_
     refine A.skip ?_
     exact qX (cI.2.L, cI.2.At, (1:Int), (1:Int)) hm
    rintro ⟨nE, kU, aan, aao⟩ hm
    rw [hJ4] at hm
    obtain ⟨l_4, h28, hm⟩ := aa hm
    refine qG [(4, hap 9654 (ap bu (bytes := 40) (by decide) h28))] [18] [] [9006, 700900601, 9018] [(9006, .cells 32 [.own 700900600, .own 9654]), (9654, .slice 85 5 (ml bu l_4) 0 false)] ?_
    exact Exists.intro (nE, kU, l_4) (And.intro hm (bp.go [.sw 9654 700900601, .rn 530009010 450009040] [] (by kernel_rfl)))
   rintro ⟨qt, qu, nD⟩ hm
   rw [hJ3] at hm
   refine qGs [(0, hto (wV (by omega) hx6 (of_decide_eq_true hh6)))] [105] [(105, i6 (j6 + 1 : Int))] ?_
   exact qX (nD, qt, qu) hm
  rintro j6 ⟨jE, kT, mQ⟩ hj6 hl6 hm
  rw [hK6] at hm
  refine qDs [] [] [(106, .bool (decide ((j6 : Int) < (cL.length:Int))))] ?_
  refine A.seq ?_
  refine A.cF rfl (geF hl6) ?_
  refine A.exit ?_
  show ah _ _ _ _ _
  refine qGs [(0, hto (wV (by omega) hx5 (of_decide_eq_true hh5)))] [16, 100, 104, 105, 106] [(100, i6 (j5 + 1 : Int))] ?_
  exact qX (jE, kT, mQ) hm
 rintro j5 ⟨nY, kR, kS⟩ hj5 hl5 hm
 rw [hK5] at hm
 refine qDs [] [] [(101, .bool (decide ((j5 : Int) < (cL.length:Int))))] ?_
 refine A.seq ?_
 refine A.cF rfl (geF hl5) ?_
 refine A.exit ?_
 show ah _ _ _ _ _
 refine qD [] [0, 6, 9, 15, 99, 100, 101] [] [9004, 9006, 9040, 450009040] [(9004, .cells 32 [.own 700900600, .own 700900601])] ?_
 refine A.ret ?_
 obtain rfl := some_inj hm
 exact A.fin W0 [.fz [700900600, 700900601]] rfl (by kernel_rfl)
theorem o9 {t : aC} {p : aj} {r : Int × aC} (hm : jk t p = some r) : cv Try.prog 12 [(900000081, .cells 81 (k4 t))] [.ptr 900000081 0, .agg (k2 p)] (fun a σ' => a = i6 r.1 ∧ σ' = [(900000081, .cells 81 (k4 r.2))]) := by
 refine aZ Try.func12 rfl rfl ?_
 unfold jk at hm
 refine qS [(0, .al 12003)] [(0, .ptr 900000081 0), (3, .ptr 12003 0)] [(900000081, .cells 81 (k4 t)), (12003, .cells 32 (k2 p))] ?_
 refine A.seq ?_
 obtain ⟨J1, hJ1, hm⟩ := bN hm
 refine A.J (J := J1) (r := r) (fun sg => match sg with | (v_1, m_1, m_2) => [(0, .ptr 900000081 0), (3, .ptr 12003 0), (13, .bool v_1)]) (fun sg => match sg with | (v_1, m_1, m_2) => [(900000081, .cells 81 [lf aA m_1, i6 m_2]), (12003, .cells 32 (k2 p))]) ?_ ?_
 ·rcases aq hm with ⟨c1,hm⟩|⟨c1,hm⟩
  ·refine qGs [(2, hto (lnE aH p.ay)), (4, hto (bE c1))] [] [(13, .bool true)] ?_
   exact qX (true, t.L, t.At) hm
  obtain ⟨ak, h1, hm⟩ := aa hm
  refine qG [(2, hto (lnE aH p.ay)), (4, hto (bE c1)), (6, hdc [] (aO h1) gv)] [] [(13, .bool (decide (ak.1 = (39:Int))))] [900000081] [(900000081, .cells 81 (k4 ak.2))] ?_
  exact qX (decide (ak.1 = (39:Int)), ak.2.L, ak.2.At) hm
 rintro ⟨v_1, m_1, m_2⟩ hm
 rw [hJ1] at hm
 rcases aq hm with ⟨c2,hm⟩|⟨c2,hm⟩
 ·refine qT c2 ?_
  obtain ⟨aF, h2, hm⟩ := aa hm
  refine qS [(2, hdc [] (bF h2) mJ)] [(4, i6 aF.1)] [(900000081, .cells 81 (k4 aF.2))] ?_
  cases hm
  exact A.ret qE
 refine qF c2 ?_
 refine A.skip ?_
 show ah _ _ _ _ _
 obtain ⟨aI, h3, hm⟩ := aa hm
 obtain ⟨e_1, h4, hm⟩ := aa hm
 refine qS [(5, hto (lnE aH p.ay)), (6, hdc [] (aO h3) gv), (7, hix (ix aH h4))] [(4, i6 e_1.ID)] [(900000081, .cells 81 (k4 aI.2))] ?_
 cases hm
 exact A.ret qE
theorem zx {t : aC} {p : aj} {n : Int} {r : (List Int) × aC} (hm : o8 t p n = some r) : cv Try.prog 19 [(900000081, .cells 81 (k4 t))] [.ptr 900000081 0, .agg (k2 p), i6 n] (fun a σ' => a = lf aA r.1 ∧ σ' = [(900000081, .cells 81 (k4 r.2))]) := by
 refine aZ Try.func19 rfl rfl ?_
 unfold o8 at hm
 refine qS [(0, .al 19004)] [(0, .ptr 900000081 0), (2, i6 n), (4, .ptr 19004 0)] [(900000081, .cells 81 (k4 t)), (19004, .cells 32 (k2 p))] ?_
 refine qDs [] [] [(7, .bf)] ?_
 refine A.seq ?_
 obtain ⟨ak, h1, hm⟩ := aa hm
 refine qD [(3, hdc [] (aO h1) gv)] [2] [(8, i6 ak.1)] [900000081] [(900000081, .cells 81 (k4 ak.2))] ?_
 refine A.block ?_
 obtain ⟨F1, n1, hF1, hm⟩ := iJ hm
 refine A.lpW (F := F1) hm (fun sg => match sg with | (bO, i_1, m_1, m_2) => [(0, .ptr 900000081 0), (4, .ptr 19004 0), (7, lf aA bO), (8, i6 i_1)]) (fun sg => match sg with | (bO, i_1, m_1, m_2) => [(900000081, .cells 81 [lf aA m_1, i6 m_2]), (19004, .cells 32 (k2 p))]) ?_ ?_
 ·exact bp.go [] [7] (by kernel_rfl)
 rintro Z1 ⟨bO, i_1, m_1, m_2⟩ hm
 rw [hF1] at hm
 refine A.seq ?_
 refine A.mid [(0, .ptr 900000081 0), (4, .ptr 19004 0), (7, lf aA bO), (8, i6 i_1), (20, .bool ((decide ((0:Int) < i_1)) && (decide ((0:Int) < (p.ay.length:Int)))))] [(900000081, .cells 81 [lf aA m_1, i6 m_2]), (19004, .cells 32 (k2 p))] (fun hk => ?_) ?_
 ·rcases tf (decide ((0:Int) < i_1)) with c1 | c1
  ·exact qS [(2, hto (bE c1)), (5, hto (lnE aH p.ay)), (7, hto (lG (q := decide ((0:Int) < (p.ay.length:Int))) c1))] _ _ hk
  exact qS [(2, hto (bE c1)), (7, hto (mI (q := decide ((0:Int) < (p.ay.length:Int))) c1))] _ _ hk
 rcases aq hm with ⟨c2,hm⟩|⟨c2,hm⟩
 ·refine qT c2 ?_
  refine A.skip ?_
  show ah _ _ _ _ _
  refine A.seq ?_
  refine A.block ?_
  obtain ⟨aF, h2, hm⟩ := aa hm
  obtain ⟨e_1, h3, hm⟩ := aa hm
  obtain ⟨aI, h4, hm⟩ := aa hm
  refine qG [(6, hto (lnE aH p.ay)), (7, hdc [] (aO h2) gv), (8, hix (ix aH h3)), (11, hro (o7 h4) alm)] [7, 20] [(7, lf aA aI)] [900000081] [(900000081, .cells 81 (k4 aF.2))] ?_
  show ah _ _ _ _ _
  refine qGs [] [8] [(8, i6 (w64 (i_1 - (1:Int))))] ?_
  exact Exists.intro (aI, w64 (i_1 - (1:Int)), aF.2.L, aF.2.At) (And.intro hm (bp.go [] [7] (by kernel_rfl)))
 refine qF c2 ?_
 refine A.exit ?_
 show ah _ _ _ _ _
 refine qD [] [0, 4, 7, 8, 20] [(6, lf aA bO)] [19004] [] ?_
 cases hm
 exact A.ret qE
theorem aap {l : List bq} {ha1 : bq} {r : (List bq)} (hm : qc l ha1 = some r) : RO Try.prog 44 [] [lf aJ l, .agg (k6 ha1)] (lf aJ r) := by
 refine aZ Try.func44 rfl rfl ?_
 unfold qc at hm
 refine qS [(0, .al 44003)] [(0, lf aJ l), (3, .ptr 44003 0)] [(44003, .cells 79 (k6 ha1))] ?_
 refine qDs [] [] [(5, i6 0)] ?_
 refine A.seq ?_
 refine A.block ?_
 obtain ⟨F1, n1, hF1, hm⟩ := iJ hm
 refine A.lpW (F := F1) hm (fun k_1 => [(0, lf aJ l), (3, .ptr 44003 0), (5, i6 k_1)]) (fun k_1 => [(44003, .cells 79 (k6 ha1))]) ?_ ?_
 ·exact qW
 rintro Z1 k_1 hm
 rw [hF1] at hm
 refine A.seq ?_
 obtain ⟨J1, hJ1, hm⟩ := bN hm
 refine A.J (J := J1) (r := r) (fun v_1 => [(0, lf aJ l), (3, .ptr 44003 0), (5, i6 k_1), (40, .bool v_1)]) (fun v_1 => [(44003, .cells 79 (k6 ha1))]) ?_ ?_
 ·rcases aq hm with ⟨c1,hm⟩|⟨c1,hm⟩
  ·obtain ⟨e_1, h1, hm⟩ := aa hm
   rcases aq hm with ⟨c2,hm⟩|⟨c2,hm⟩
   ·refine qGs [(2, hto (lnE aJ l)), (4, hto (bE c1)), (7, hix (ix aJ h1)), (13, hto (bE c2))] [] [(40, .bool true)] ?_
    exact qX true hm
   rcases aq hm with ⟨c3,hm⟩|⟨c3,hm⟩
   ·refine qGs [(2, hto (lnE aJ l)), (4, hto (bE c1)), (7, hix (ix aJ h1)), (13, hto (bE c2)), (16, hix (ix aJ h1)), (22, hto (bE c3)), (25, hix (ix aJ h1))] [] [(40, .bool (decide (e_1.To < ha1.To)))] ?_
    exact qX (decide (e_1.To < ha1.To)) hm
   refine qGs [(2, hto (lnE aJ l)), (4, hto (bE c1)), (7, hix (ix aJ h1)), (13, hto (bE c2)), (16, hix (ix aJ h1)), (22, hto (bE c3))] [] [(40, .bool false)] ?_
   exact qX false hm
  refine qGs [(2, hto (lnE aJ l)), (4, hto (bE c1))] [] [(40, .bool false)] ?_
  exact qX false hm
 rintro v_1 hm
 rw [hJ1] at hm
 rcases aq hm with ⟨c4,hm⟩|⟨c4,hm⟩
 ·refine qT c4 ?_
  refine A.skip ?_
  show ah _ _ _ _ _
  refine A.block ?_
  refine qGs [] [5, 40] [(5, i6 (w64 (k_1 + (1:Int))))] ?_
  exact qX (w64 (k_1 + (1:Int))) hm
 refine qF c4 ?_
 refine A.exit ?_
 show ah _ _ _ _ _
 obtain ⟨l_1, h2, hm⟩ := aa hm
 obtain ⟨l_2, h3, hm⟩ := aa hm
 refine qD [(1, .al 44044), (4, hsl (abP aJ h2)), (5, hap 44548 (ap aJ (bytes := 16) (by decide) h3))] [3, 40] [(6, .own 44548)] [44003] [(44548, .slice 79 2 (ml aJ l_2) 0 false)] ?_
 obtain ⟨l_3, h4, hm⟩ := aa hm
 obtain ⟨l_4, h5, hm⟩ := aa hm
 refine A.RS W0 [.fz [44548]] [(3, hs3 (sl aJ h4)), (5, ako 44554 afz (ap aJ (bytes := 16) (by decide) h5) (akm aJ h3 (Nat.succ_pos _)))] [(4, .own 44554)] [(44554, .slice 79 2 (ml aJ l_4) 0 false)] (by kernel_rfl) ?_
 refine A.ret ?_
 obtain rfl := some_inj hm
 exact A.fin W0 [.fz [44554]] rfl (by kernel_rfl)
theorem qv {t : aC} {p : aj} {root : Int} {r : bB × aC} (hm : lQ t p root = some r) : cv Try.prog 11 [(900000081, .cells 81 (k4 t))] [.ptr 900000081 0, .agg (k2 p), i6 root] (fun a σ' => a = .agg (k7 r.1) ∧ σ' = [(900000081, .cells 81 (k4 r.2))]) := by
 refine aZ Try.func11 rfl rfl ?_
 unfold lQ at hm
 refine qS [(0, .al 11004), (1, .al 11006)] [(0, .ptr 900000081 0), (2, i6 root), (4, .ptr 11004 0), (6, .ptr 11006 0)] [(900000081, .cells 81 (k4 t)), (11004, .cells 32 (k2 p)), (11006, .cells 25 [i6 0, .bf])] ?_
 refine qD [(2, .al 11007)] [] [(7, .ptr 11007 0)] [] [(11007, .cells 25 [i6 root, .bf])] ?_
 refine qD [(1, .al 11015)] [2] [(8, .own 11015)] [] [(11015, .slice 3 1 (ml aA ([root] : List Int)) 0 false)] ?_
 refine A.seq ?_
 obtain ⟨ak, h1, hm⟩ := aa hm
 refine qD [(3, hto (lnE bu p.Links)), (6, hdc [] (aO h1) gv)] [] [(9, i6 ak.1)] [900000081] [(900000081, .cells 81 (k4 ak.2))] ?_
 refine A.block ?_
 obtain ⟨F1, n1, hF1, hm⟩ := iJ hm
 refine A.lpW (F := F1) hm (fun sg => match sg with | (nS, i_1, m_1, m_2, m_3) => [(0, .ptr 900000081 0), (4, .ptr 11004 0), (6, .ptr 11006 0), (7, .ptr 11007 0), (8, .own 600011008), (9, i6 i_1)]) (fun sg => match sg with | (nS, i_1, m_1, m_2, m_3) => [(900000081, .cells 81 [lf aA m_2, i6 m_3]), (11004, .cells 32 (k2 p)), (11006, .cells 25 [i6 0, .bf]), (11007, .cells 25 [i6 root, lf aJ m_1]), (600011008, .slice 3 1 (ml aA nS) 0 false)]) ?_ ?_
 ·exact bp.go [.sw 11015 600011008, .sc 11007 [900000081, 11004, 11006, 11007, 600011008]] [] (by kernel_rfl)
 rintro Z1 ⟨nS, i_1, m_1, m_2, m_3⟩ hm
 rw [hF1] at hm
 refine A.seq ?_
 refine qDs [] [] [(24, .bool (decide ((0:Int) < i_1)))] ?_
 rcases aq hm with ⟨c1,hm⟩|⟨c1,hm⟩
 ·refine qT c1 ?_
  refine A.skip ?_
  show ah _ _ _ _ _
  obtain ⟨J1, hJ1, hm⟩ := bN hm
  refine A.J (J := J1) (r := r) (fun sg => match sg with | (vY, m_4, m_5, m_6) => [(0, .ptr 900000081 0), (4, .ptr 11004 0), (6, .ptr 11006 0), (7, .ptr 11007 0), (8, .own 600011008), (9, i6 i_1)]) (fun sg => match sg with | (vY, m_4, m_5, m_6) => [(900000081, .cells 81 [lf aA m_4, i6 m_5]), (11004, .cells 32 (k2 p)), (11006, .cells 25 [i6 0, .bf]), (11007, .cells 25 [i6 root, lf aJ m_6]), (600011008, .slice 3 1 (ml aA vY) 0 false)]) ?_ ?_
  ·refine A.block ?_
   obtain ⟨aF, h2, hm⟩ := aa hm
   obtain ⟨e_1, h3, hm⟩ := aa hm
   refine qD [(5, hto (lnE bu p.Links)), (6, hdc [] (aO h2) gv), (7, hix (ix bu h3)), (9, .al 11010)] [24] [(10, .ptr 11010 0)] [900000081] [(900000081, .cells 81 (k4 aF.2)), (11010, .cells 85 (k1 e_1))] ?_
   refine qD [(5, .al 11011)] [] [(11, .ptr 11011 0)] [] [(11011, .cells 79 [i6 e_1.A, i6 e_1.B])] ?_
   obtain ⟨J2, hJ2, hm⟩ := bN hm
   refine A.J (J := J2) (r := r) (fun sg => match sg with | (m_7, m_8) => [(0, .ptr 900000081 0), (4, .ptr 11004 0), (6, .ptr 11006 0), (7, .ptr 11007 0), (8, .own 600011008), (9, i6 i_1), (11, .ptr 11011 0)]) (fun sg => match sg with | (m_7, m_8) => [(900000081, .cells 81 (k4 aF.2)), (11004, .cells 32 (k2 p)), (11006, .cells 25 [i6 0, .bf]), (11007, .cells 25 [i6 root, lf aJ m_1]), (600011008, .slice 3 1 (ml aA nS) 0 false), (11011, .cells 79 [i6 m_7, i6 m_8])]) ?_ ?_
   ·obtain ⟨aI, h4, hm⟩ := aa hm
    refine qDs [(3, hle [600011008] (dn h4) tW)] [] [(44, .bool aI)] ?_
    rcases aq hm with ⟨c2,hm⟩|⟨c2,hm⟩
    ·refine qT c2 ?_
     refine qG [] [10, 44] [] [11010, 11011] [(11011, .cells 79 [i6 e_1.B, i6 e_1.A])] ?_
     exact qX (e_1.B, e_1.A) hm
    refine qF c2 ?_
    refine A.skip ?_
    exact qX (e_1.A, e_1.B) hm
   rintro ⟨m_7, m_8⟩ hm
   rw [hJ2] at hm
   obtain ⟨J3, hJ3, hm⟩ := bN hm
   refine A.J (J := J3) (r := r) (fun v_1 => [(0, .ptr 900000081 0), (4, .ptr 11004 0), (6, .ptr 11006 0), (7, .ptr 11007 0), (8, .own 600011008), (9, i6 i_1), (11, .ptr 11011 0), (60, .bool v_1)]) (fun v_1 => [(900000081, .cells 81 (k4 aF.2)), (11004, .cells 32 (k2 p)), (11006, .cells 25 [i6 0, .bf]), (11007, .cells 25 [i6 root, lf aJ m_1]), (600011008, .slice 3 1 (ml aA nS) 0 false), (11011, .cells 79 [i6 m_7, i6 m_8])]) ?_ ?_
   ·obtain ⟨aU, h5, hm⟩ := aa hm
    rcases aq hm with ⟨c3,hm⟩|⟨c3,hm⟩
    ·obtain ⟨aX, h6, hm⟩ := aa hm
     refine qGs [(3, hle [600011008] (dn h5) tW), (4, hto (bE c3)), (8, hle [600011008] (dn h6) tW)] [] [(60, .bool (!aX))] ?_
     exact qX (!aX) hm
    refine qGs [(3, hle [600011008] (dn h5) tW), (4, hto (bE c3))] [] [(60, .bool false)] ?_
    exact qX false hm
   rintro v_1 hm
   rw [hJ3] at hm
   rcases aq hm with ⟨c4,hm⟩|⟨c4,hm⟩
   ·refine qT c4 ?_
    obtain ⟨l_1, h7, hm⟩ := aa hm
    refine qD [(4, hap 11565 (ap aA (bytes := 8) (by decide) h7))] [8, 60] [(8, .own 11565)] [600011008] [(11565, .slice 3 1 (ml aA l_1) 0 false)] ?_
    obtain ⟨aS, h8, hm⟩ := aa hm
    refine qG [(3, hro (aap h8) ck44)] [11] [] [11007, 11011] [(11007, .cells 25 [i6 root, lf aJ aS])] ?_
    exact Exists.intro (l_1, aF.2.L, aF.2.At, aS) (And.intro hm (bp.go [.sw 11565 600011008] [] (by kernel_rfl)))
   refine qF c4 ?_
   refine A.skip ?_
   exact qX (nS, aF.2.L, aF.2.At, m_1) hm
  rintro ⟨vY, m_4, m_5, m_6⟩ hm
  rw [hJ1] at hm
  refine qGs [] [9] [(9, i6 (w64 (i_1 - (1:Int))))] ?_
  exact qX (vY, w64 (i_1 - (1:Int)), m_6, m_4, m_5) hm
 refine qF c1 ?_
 refine A.exit ?_
 show ah _ _ _ _ _
 refine qD [] [0, 4, 7, 8, 9, 24] [] [11004, 11006, 11007, 600011008] [(11006, .cells 25 [i6 root, lf aJ m_1])] ?_
 cases hm
 exact A.ret qE
theorem pe {t : aC} {p : aj} {r : aB × aC} (hm : jl t p = some r) : cv Try.prog 10 [(900000081, .cells 81 (k4 t))] [.ptr 900000081 0, .agg (k2 p)] (fun a σ' => a = .agg (k5 r.1) ∧ σ' = [(900000081, .cells 81 (k4 r.2))]) := by
 refine aZ Try.func10 rfl rfl ?_
 unfold jl at hm
 refine qS [(0, .al 10003), (1, .al 10004)] [(0, .ptr 900000081 0), (3, .ptr 10003 0), (4, .ptr 10004 0)] [(900000081, .cells 81 (k4 t)), (10003, .cells 32 (k2 p)), (10004, .cells 36 [i6 0, .bf])] ?_
 obtain ⟨ak, h1, hm⟩ := aa hm
 refine qD [(2, hdc [] (bF h1) mJ), (4, .al 10005)] [] [(5, .ptr 10005 0)] [900000081] [(900000081, .cells 81 (k4 ak.2)), (10005, .cells 36 [i6 ak.1, .bf])] ?_
 refine A.seq ?_
 obtain ⟨aF, h2, hm⟩ := aa hm
 refine qD [(1, hro (sA h2) ali), (5, .al 10006)] [] [(6, .ptr 10006 0), (7, i6 aF.2)] [] [(10006, .cells 36 (k5 aF.1))] ?_
 obtain ⟨J1, hJ1, hm⟩ := bN hm
 refine A.J (J := J1) (r := r) (fun sg => match sg with | (v_1, m_1, m_2) => [(0, .ptr 900000081 0), (3, .ptr 10003 0), (4, .ptr 10004 0), (5, .ptr 10005 0), (6, .ptr 10006 0), (30, .bool v_1)]) (fun sg => match sg with | (v_1, m_1, m_2) => [(900000081, .cells 81 [lf aA m_1, i6 m_2]), (10003, .cells 32 (k2 p)), (10004, .cells 36 [i6 0, .bf]), (10005, .cells 36 [i6 ak.1, .bf]), (10006, .cells 36 (k5 aF.1))]) ?_ ?_
 ·rcases aq hm with ⟨c1,hm⟩|⟨c1,hm⟩
  ·obtain ⟨aI, h3, hm⟩ := aa hm
   refine qG [(2, hto (bE c1)), (4, hdc [] (aO h3) gv)] [7] [(30, .bool (decide (aI.1 = (0:Int))))] [900000081] [(900000081, .cells 81 (k4 aI.2))] ?_
   exact qX (decide (aI.1 = (0:Int)), aI.2.L, aI.2.At) hm
  refine qGs [(2, hto (bE c1))] [7] [(30, .bool false)] ?_
  exact qX (false, ak.2.L, ak.2.At) hm
 rintro ⟨v_1, m_1, m_2⟩ hm
 rw [hJ1] at hm
 rcases aq hm with ⟨c2,hm⟩|⟨c2,hm⟩
 ·refine qT c2 ?_
  refine qD [] [0, 3, 5, 6, 30] [] [10003, 10004, 10005, 10006] [(10004, .cells 36 (k5 aF.1))] ?_
  cases hm
  exact A.ret qE
 refine qF c2 ?_
 refine A.skip ?_
 show ah _ _ _ _ _
 refine A.seq ?_
 refine qD [(2, hto (lnE aH p.ay))] [6, 30] [(33, lf aH p.ay), (34, i6 (p.ay.length:Int)), (35, i6 0)] [10006] [] ?_
 refine A.block ?_
 refine A.bS 33 rfl fun hb1 => ?_
 obtain ⟨B1, K1, hB1, hK1, hm⟩ := aP hm
 refine A.lpI (l := p.ay) (j0 := 0) (B := B1) (K := K1) hm (fun j1 => fun sg => match sg with | (m_3, m_4, m_5) => [(0, .ptr 900000081 0), (3, .ptr 10003 0), (4, .ptr 10004 0), (5, .ptr 10005 0), (33, lf aH p.ay), (34, i6 (p.ay.length:Int)), (35, i6 (j1 : Int))]) (fun j1 => fun sg => match sg with | (m_3, m_4, m_5) => [(900000081, .cells 81 [lf aA m_4, i6 m_5]), (10003, .cells 32 (k2 p)), (10004, .cells 36 [i6 0, .bf]), (10005, .cells 36 [i6 ak.1, .own 701000501]), (701000501, .slice 64 4 (ml af m_3) 0 false)]) ?_ ?_ ?_
 ·exact bp.go [.ac 10005 701000501 64 4 1] [] (by kernel_rfl)
 ·rintro j1 e1 Z1 ⟨m_3, m_4, m_5⟩ hj1 hx1 hm
  rw [hB1] at hm
  refine qDs [] [] [(36, .bool (decide ((j1 : Int) < (p.ay.length:Int))))] ?_
  refine A.seq ?_
  refine qT (ltT hx1) ?_
  refine A.skip ?_
  show ah _ _ _ _ _
  obtain ⟨J2, hJ2, hm⟩ := bN hm
  refine A.J (J := J2) (r := r) (fun sg => match sg with | (m_6, m_7, m_8) => [(0, .ptr 900000081 0), (3, .ptr 10003 0), (4, .ptr 10004 0), (5, .ptr 10005 0), (33, lf aH p.ay), (34, i6 (p.ay.length:Int)), (35, i6 (j1 : Int))]) (fun sg => match sg with | (m_6, m_7, m_8) => [(900000081, .cells 81 [lf aA m_6, i6 m_7]), (10003, .cells 32 (k2 p)), (10004, .cells 36 [i6 0, .bf]), (10005, .cells 36 [i6 ak.1, .own 701000501]), (701000501, .slice 64 4 (ml af m_8) 0 false)]) ?_ ?_
  ·refine A.block ?_
   refine qD [(0, hix (ix aH (aY hx1))), (2, .al 10009)] [36] [(9, .ptr 10009 0)] [] [(10009, .cells 57 (k0 e1))] ?_
   obtain ⟨J3, hJ3, hm⟩ := bN hm
   refine A.J (J := J3) (r := r) (fun sg => match sg with | (m_9, qq, qs) => [(0, .ptr 900000081 0), (3, .ptr 10003 0), (4, .ptr 10004 0), (5, .ptr 10005 0), (9, .ptr 10009 0), (33, lf aH p.ay), (34, i6 (p.ay.length:Int)), (35, i6 (j1 : Int))]) (fun sg => match sg with | (m_9, qq, qs) => [(900000081, .cells 81 [lf aA m_9, i6 qq]), (10003, .cells 32 (k2 p)), (10004, .cells 36 [i6 0, .bf]), (10005, .cells 36 [i6 ak.1, .own 701000501]), (701000501, .slice 64 4 (ml af qs) 0 false), (10009, .cells 57 (k0 e1))]) ?_ ?_
   ·obtain ⟨aU, h4, hm⟩ := aa hm
    refine qD [(1, hdc [] (aO h4) gv)] [] [(41, .bool (decide ((0:Int) < aU.1)))] [900000081] [(900000081, .cells 81 (k4 aU.2))] ?_
    rcases aq hm with ⟨c3,hm⟩|⟨c3,hm⟩
    ·refine qT c3 ?_
     obtain ⟨l_1, h5, hm⟩ := aa hm
     refine qG [(4, hto (lnE af m_3)), (11, hap 10553 (ap af (bytes := 32) (by decide) h5))] [41] [] [10005, 701000501] [(10005, .cells 36 [i6 ak.1, .own 10553]), (10553, .slice 64 4 (ml af l_1) 0 false)] ?_
     exact Exists.intro (aU.2.L, aU.2.At, l_1) (And.intro hm (bp.go [.sw 10553 701000501] [] (by kernel_rfl)))
    refine qF c3 ?_
    refine A.skip ?_
    exact qX (aU.2.L, aU.2.At, m_3) hm
   rintro ⟨m_9, qq, qs⟩ hm
   rw [hJ3] at hm
   refine A.seq ?_
   refine qDs [(2, hto (lnE bu p.Links))] [] [(56, lf bu p.Links), (57, i6 (p.Links.length:Int)), (58, i6 0)] ?_
   refine A.block ?_
   refine A.bS 56 rfl fun hb2 => ?_
   obtain ⟨B2, K2, hB2, hK2, hm⟩ := aP hm
   refine A.lpI (l := p.Links) (j0 := 0) (B := B2) (K := K2) hm (fun j2 => fun sg => match sg with | (gU, cL, lP) => [(0, .ptr 900000081 0), (3, .ptr 10003 0), (4, .ptr 10004 0), (5, .ptr 10005 0), (9, .ptr 10009 0), (33, lf aH p.ay), (34, i6 (p.ay.length:Int)), (35, i6 (j1 : Int)), (56, lf bu p.Links), (57, i6 (p.Links.length:Int)), (58, i6 (j2 : Int))]) (fun j2 => fun sg => match sg with | (gU, cL, lP) => [(900000081, .cells 81 [lf aA cL, i6 lP]), (10003, .cells 32 (k2 p)), (10004, .cells 36 [i6 0, .bf]), (10005, .cells 36 [i6 ak.1, .own 701000501]), (701000501, .slice 64 4 (ml af gU) 0 false), (10009, .cells 57 (k0 e1))]) ?_ ?_ ?_
   ·exact qW
   ·rintro j2 e2 Z2 ⟨gU, cL, lP⟩ hj2 hx2 hm
    rw [hB2] at hm
    refine qDs [] [] [(59, .bool (decide ((j2 : Int) < (p.Links.length:Int))))] ?_
    refine A.seq ?_
    refine qT (ltT hx2) ?_
    refine A.skip ?_
    show ah _ _ _ _ _
    obtain ⟨J4, hJ4, hm⟩ := bN hm
    refine A.J (J := J4) (r := r) (fun sg => match sg with | (pT, pU, nY) => [(0, .ptr 900000081 0), (3, .ptr 10003 0), (4, .ptr 10004 0), (5, .ptr 10005 0), (9, .ptr 10009 0), (33, lf aH p.ay), (34, i6 (p.ay.length:Int)), (35, i6 (j1 : Int)), (56, lf bu p.Links), (57, i6 (p.Links.length:Int)), (58, i6 (j2 : Int))]) (fun sg => match sg with | (pT, pU, nY) => [(900000081, .cells 81 [lf aA pT, i6 pU]), (10003, .cells 32 (k2 p)), (10004, .cells 36 [i6 0, .bf]), (10005, .cells 36 [i6 ak.1, .own 701000501]), (701000501, .slice 64 4 (ml af nY) 0 false), (10009, .cells 57 (k0 e1))]) ?_ ?_
    ·refine A.block ?_
     refine qD [(0, hix (ix bu (aY hx2))), (2, .al 10011)] [59] [(11, .ptr 10011 0)] [] [(10011, .cells 85 (k1 e2))] ?_
     refine qDs [] [] [(12, i6 0)] ?_
     obtain ⟨J5, hJ5, hm⟩ := bN hm
     refine A.J (J := J5) (r := r) (fun vZ => [(0, .ptr 900000081 0), (3, .ptr 10003 0), (4, .ptr 10004 0), (5, .ptr 10005 0), (9, .ptr 10009 0), (11, .ptr 10011 0), (12, i6 vZ), (33, lf aH p.ay), (34, i6 (p.ay.length:Int)), (35, i6 (j1 : Int)), (56, lf bu p.Links), (57, i6 (p.Links.length:Int)), (58, i6 (j2 : Int))]) (fun vZ => [(900000081, .cells 81 [lf aA cL, i6 lP]), (10003, .cells 32 (k2 p)), (10004, .cells 36 [i6 0, .bf]), (10005, .cells 36 [i6 ak.1, .own 701000501]), (701000501, .slice 64 4 (ml af gU) 0 false), (10009, .cells 57 (k0 e1)), (10011, .cells 85 (k1 e2))]) ?_ ?_
     ·refine qDs [] [] [(66, .bool (decide (e2.A = e1.ID)))] ?_
      rcases aq hm with ⟨c4,hm⟩|⟨c4,hm⟩
      ·refine qT c4 ?_
       refine qGs [] [12, 66] [(12, i6 e2.B)] ?_
       exact qX e2.B hm
      refine qF c4 ?_
      refine A.skip ?_
      exact qX (0:Int) hm
     rintro vZ hm
     rw [hJ5] at hm
     obtain ⟨J6, hJ6, hm⟩ := bN hm
     refine A.J (J := J6) (r := r) (fun uc => [(0, .ptr 900000081 0), (3, .ptr 10003 0), (4, .ptr 10004 0), (5, .ptr 10005 0), (9, .ptr 10009 0), (12, i6 uc), (33, lf aH p.ay), (34, i6 (p.ay.length:Int)), (35, i6 (j1 : Int)), (56, lf bu p.Links), (57, i6 (p.Links.length:Int)), (58, i6 (j2 : Int))]) (fun uc => [(900000081, .cells 81 [lf aA cL, i6 lP]), (10003, .cells 32 (k2 p)), (10004, .cells 36 [i6 0, .bf]), (10005, .cells 36 [i6 ak.1, .own 701000501]), (701000501, .slice 64 4 (ml af gU) 0 false), (10009, .cells 57 (k0 e1))]) ?_ ?_
     ·refine qDs [] [] [(73, .bool (decide (e2.B = e1.ID)))] ?_
      rcases aq hm with ⟨c5,hm⟩|⟨c5,hm⟩
      ·refine qT c5 ?_
       refine qG [] [11, 12, 73] [(12, i6 e2.A)] [10011] [] ?_
       exact qX e2.A hm
      refine qF c5 ?_
      refine A.skip ?_
      exact qX vZ hm
     rintro uc hm
     rw [hJ6] at hm
     obtain ⟨J7, hJ7, hm⟩ := bN hm
     refine A.J (J := J7) (r := r) (fun sg => match sg with | (v_2, kR, kS) => [(0, .ptr 900000081 0), (3, .ptr 10003 0), (4, .ptr 10004 0), (5, .ptr 10005 0), (9, .ptr 10009 0), (12, i6 uc), (33, lf aH p.ay), (34, i6 (p.ay.length:Int)), (35, i6 (j1 : Int)), (56, lf bu p.Links), (57, i6 (p.Links.length:Int)), (58, i6 (j2 : Int)), (82, .bool v_2)]) (fun sg => match sg with | (v_2, kR, kS) => [(900000081, .cells 81 [lf aA kR, i6 kS]), (10003, .cells 32 (k2 p)), (10004, .cells 36 [i6 0, .bf]), (10005, .cells 36 [i6 ak.1, .own 701000501]), (701000501, .slice 64 4 (ml af gU) 0 false), (10009, .cells 57 (k0 e1))]) ?_ ?_
     ·rcases aq hm with ⟨c6,hm⟩|⟨c6,hm⟩
      ·obtain ⟨aX, h6, hm⟩ := aa hm
       refine qG [(2, hto (bE c6)), (4, hdc [] (aO h6) gv)] [] [(82, .bool (decide ((0:Int) < aX.1)))] [900000081] [(900000081, .cells 81 (k4 aX.2))] ?_
       exact qX (decide ((0:Int) < aX.1), aX.2.L, aX.2.At) hm
      refine qGs [(2, hto (bE c6))] [] [(82, .bool false)] ?_
      exact qX (false, cL, lP) hm
     rintro ⟨v_2, kR, kS⟩ hm
     rw [hJ7] at hm
     rcases aq hm with ⟨c7,hm⟩|⟨c7,hm⟩
     ·refine qT c7 ?_
      obtain ⟨l_2, h7, hm⟩ := aa hm
      refine qG [(4, hto (lnE af gU)), (10, hap 10593 (ap af (bytes := 32) (by decide) h7))] [12, 82] [] [10005, 701000501] [(10005, .cells 36 [i6 ak.1, .own 10593]), (10593, .slice 64 4 (ml af l_2) 0 false)] ?_
      exact Exists.intro (kR, kS, l_2) (And.intro hm (bp.go [.sw 10593 701000501] [] (by kernel_rfl)))
     refine qF c7 ?_
     refine A.skip ?_
     exact qX (kR, kS, gU) hm
    rintro ⟨pT, pU, nY⟩ hm
    rw [hJ4] at hm
    refine qGs [(0, hto (inc hx2 hb2))] [58] [(58, i6 ((j2 + 1 : Nat) : Int))] ?_
    exact qX (nY, pT, pU) hm
   rintro j2 ⟨gU, cL, lP⟩ hj2 hl2 hm
   rw [hK2] at hm
   refine qDs [] [] [(59, .bool (decide ((j2 : Int) < (p.Links.length:Int))))] ?_
   refine A.seq ?_
   refine qF (ltF hl2) ?_
   refine A.exit ?_
   show ah _ _ _ _ _
   obtain ⟨aS, h8, hm⟩ := aa hm
   obtain ⟨e_1, h9, hm⟩ := aa hm
   refine qD [(5, hto (lnE aH p.ay)), (6, hdc [] (aO h8) gv), (7, hix (ix aH h9))] [56, 57, 58, 59] [(13, i6 e_1.ID)] [900000081] [(900000081, .cells 81 (k4 aS.2))] ?_
   obtain ⟨J8, hJ8, hm⟩ := bN hm
   refine A.J (J := J8) (r := r) (fun sg => match sg with | (v_3, jE, kT) => [(0, .ptr 900000081 0), (3, .ptr 10003 0), (4, .ptr 10004 0), (5, .ptr 10005 0), (9, .ptr 10009 0), (13, i6 e_1.ID), (33, lf aH p.ay), (34, i6 (p.ay.length:Int)), (35, i6 (j1 : Int)), (114, .bool v_3)]) (fun sg => match sg with | (v_3, jE, kT) => [(900000081, .cells 81 [lf aA jE, i6 kT]), (10003, .cells 32 (k2 p)), (10004, .cells 36 [i6 0, .bf]), (10005, .cells 36 [i6 ak.1, .own 701000501]), (701000501, .slice 64 4 (ml af gU) 0 false), (10009, .cells 57 (k0 e1))]) ?_ ?_
   ·rcases aq hm with ⟨c8,hm⟩|⟨c8,hm⟩
    ·obtain ⟨bh, h10, hm⟩ := aa hm
     refine qG [(4, hto (bE c8)), (6, hdc [] (aO h10) gv)] [] [(114, .bool (decide (bh.1 = (0:Int))))] [900000081] [(900000081, .cells 81 (k4 bh.2))] ?_
     exact qX (decide (bh.1 = (0:Int)), bh.2.L, bh.2.At) hm
    refine qGs [(4, hto (bE c8))] [] [(114, .bool false)] ?_
    exact qX (false, aS.2.L, aS.2.At) hm
   rintro ⟨v_3, jE, kT⟩ hm
   rw [hJ8] at hm
   rcases aq hm with ⟨c9,hm⟩|⟨c9,hm⟩
   ·refine qT c9 ?_
    obtain ⟨l_3, h11, hm⟩ := aa hm
    refine qG [(4, hto (lnE af gU)), (10, hap 10625 (ap af (bytes := 32) (by decide) h11))] [9, 13, 114] [] [10005, 701000501, 10009] [(10005, .cells 36 [i6 ak.1, .own 10625]), (10625, .slice 64 4 (ml af l_3) 0 false)] ?_
    exact Exists.intro (jE, kT, l_3) (And.intro hm (bp.go [.sw 10625 701000501] [] (by kernel_rfl)))
   refine qF c9 ?_
   refine A.skip ?_
   exact qX (jE, kT, gU) hm
  rintro ⟨m_6, m_7, m_8⟩ hm
  rw [hJ2] at hm
  refine qGs [(0, hto (inc hx1 hb1))] [35] [(35, i6 ((j1 + 1 : Nat) : Int))] ?_
  exact qX (m_8, m_6, m_7) hm
 rintro j1 ⟨m_3, m_4, m_5⟩ hj1 hl1 hm
 rw [hK1] at hm
 refine qDs [] [] [(36, .bool (decide ((j1 : Int) < (p.ay.length:Int))))] ?_
 refine A.seq ?_
 refine qF (ltF hl1) ?_
 refine A.exit ?_
 show ah _ _ _ _ _
 obtain ⟨l_4, h12, hm⟩ := aa hm
 refine qD [(4, hto (lnE af m_3)), (8, hcu 10636 abA (sl af h12))] [3, 33, 34, 35, 36] [] [10003, 10005, 701000501] [(10005, .cells 36 [i6 ak.1, .own 10636]), (10636, .slice 64 4 (ml af l_4) 0 false)] ?_
 obtain ⟨J9, hJ9, hm⟩ := bN hm
 refine A.J (J := J9) (r := r) (fun sg => match sg with | (mQ, qt, qu) => [(4, .ptr 10004 0), (5, .ptr 10005 0)]) (fun sg => match sg with | (mQ, qt, qu) => [(900000081, .cells 81 [lf aA mQ, i6 qt]), (10004, .cells 36 [i6 0, .bf]), (10005, .cells 36 [i6 ak.1, .own 701000501]), (701000501, .slice 64 4 (ml af qu) 0 false)]) ?_ ?_
 ·obtain ⟨J10, ab8, hm⟩ := bN hm
  refine A.J (J := J10) (r := r) (fun sg => match sg with | (v_4, nD, nE) => [(4, .ptr 10004 0), (5, .ptr 10005 0), (148, .bool v_4)]) (fun sg => match sg with | (v_4, nD, nE) => [(900000081, .cells 81 [lf aA nD, i6 nE]), (10004, .cells 36 [i6 0, .bf]), (10005, .cells 36 [i6 ak.1, .own 10636]), (10636, .slice 64 4 (ml af l_4) 0 false)]) ?_ ?_
  ·obtain ⟨cC, h13, hm⟩ := aa hm
   rcases aq hm with ⟨c10,hm⟩|⟨c10,hm⟩
   ·refine qG [(1, hdc [] (aO h13) gv), (3, hto (bE c10)), (6, hto (lnE af l_4))] [0] [(148, .bool (decide ((l_4.length:Int) < ak.1)))] [900000081] [(900000081, .cells 81 (k4 cC.2))] ?_
    exact qX (decide ((l_4.length:Int) < ak.1), cC.2.L, cC.2.At) hm
   refine qG [(1, hdc [] (aO h13) gv), (3, hto (bE c10))] [0] [(148, .bool false)] [900000081] [(900000081, .cells 81 (k4 cC.2))] ?_
   exact qX (false, cC.2.L, cC.2.At) hm
  rintro ⟨v_4, nD, nE⟩ hm
  rw [ab8] at hm
  rcases aq hm with ⟨c11,hm⟩|⟨c11,hm⟩
  ·refine qT c11 ?_
   refine qDs [(2, hto (lnE af l_4))] [148] [(151, i6 (l_4.length:Int)), (152, i6 0)] ?_
   refine A.block ?_
   refine A.bD 5 1 rfl rfl rfl rfl fun hb3 => ?_
   obtain ⟨B3, K3, hB3, hK3, hm⟩ := aP hm
   refine A.lpI (l := l_4) (j0 := 0) (B := B3) (K := K3) hm (fun j3 => fun kU => [(4, .ptr 10004 0), (5, .ptr 10005 0), (151, i6 (l_4.length:Int)), (152, i6 (j3 : Int))]) (fun j3 => fun kU => [(900000081, .cells 81 [lf aA nD, i6 nE]), (10004, .cells 36 [i6 0, .bf]), (10005, .cells 36 [i6 ak.1, .own 701000501]), (701000501, .slice 64 4 (ml af kU) 0 false)]) ?_ ?_ ?_
   ·exact bp.go [.sw 10636 701000501] [] (by kernel_rfl)
   ·rintro j3 e3 Z3 kU hj3 hx3 hm
    rw [hB3] at hm
    refine qDs [] [] [(153, .bool (decide ((j3 : Int) < (l_4.length:Int))))] ?_
    refine A.seq ?_
    refine qT (ltT hx3) ?_
    refine A.skip ?_
    show ah _ _ _ _ _
    refine A.seq ?_
    refine A.block ?_
    refine qDs [] [153] [(14, i6 (j3 : Int))] ?_
    obtain ⟨e_2, h14, hm⟩ := aa hm
    obtain ⟨l_5, h15, hm⟩ := aa hm
    refine qG [(3, hix (ix af h14)), (5, hlo 701000501 0 (ix af h14)), (10, hto (lnE af kU)), (13, hix (ix af h14)), (15, hso 701000501 (st af (off := 0) (ca := [i6 (w64 (e_2.Bit + (w64 (ak.1 - (kU.length:Int)))))]) h14 h15 rfl) (iK h14).1.1)] [14] [] [701000501] [(701000501, .slice 64 4 (ml af l_5) 0 false)] ?_
    show ah _ _ _ _ _
    refine qGs [(0, hto (inc hx3 hb3))] [152] [(152, i6 ((j3 + 1 : Nat) : Int))] ?_
    exact qX l_5 hm
   rintro j3 kU hj3 hl3 hm
   rw [hK3] at hm
   refine qDs [] [] [(153, .bool (decide ((j3 : Int) < (l_4.length:Int))))] ?_
   refine A.seq ?_
   refine qF (ltF hl3) ?_
   refine A.exit ?_
   exact qX (nD, nE, kU) hm
  refine qF c11 ?_
  refine A.skip ?_
  exact Exists.intro (nD, nE, l_4) (And.intro hm (bp.go [.sw 10636 701000501] [] (by kernel_rfl)))
 rintro ⟨mQ, qt, qu⟩ hm
 rw [hJ9] at hm
 refine qD [] [5] [] [10004, 10005] [(10004, .cells 36 [i6 ak.1, .own 701000501])] ?_
 refine A.ret ?_
 obtain rfl := some_inj hm
 exact A.fin W0 [.fz [701000501]] rfl (by kernel_rfl)
theorem oD {t : aC} {p : aj} {r : aj × aC} (hm : gp t p = some r) : cv Try.prog 35 [(900000081, .cells 81 (k4 t))] [.ptr 900000081 0, .agg (k2 p)] (fun a σ' => a = .agg (k2 r.1) ∧ σ' = [(900000081, .cells 81 (k4 r.2))]) := by
 refine aZ Try.func35 rfl rfl ?_
 unfold gp at hm
 refine qS [(0, .al 35003), (1, .al 35004)] [(0, .ptr 900000081 0), (3, .ptr 35003 0), (4, .ptr 35004 0)] [(900000081, .cells 81 (k4 t)), (35003, .cells 32 (k2 p)), (35004, .cells 32 [.bf, .bf])] ?_
 obtain ⟨l_1, h1, hm⟩ := aa hm
 obtain ⟨l_2, h2, hm⟩ := aa hm
 refine qD [(0, .al 35006), (3, hap 35509 (ap aH (bytes := 16) (by decide) h1)), (4, .al 35010), (7, hap 35513 (ap bu (bytes := 40) (by decide) h2)), (9, .al 35005)] [3] [(5, .ptr 35005 0)] [35003] [(35005, .cells 32 [.own 35509, .own 35513]), (35509, .slice 57 2 (ml aH l_1) 0 false), (35513, .slice 85 5 (ml bu l_2) 0 false)] ?_
 obtain ⟨J1, hJ1, hm⟩ := bN hm
 refine A.J (J := J1) (r := r) (fun sg => match sg with | (m_1, m_2, m_3, m_4) => [(4, .ptr 35004 0), (5, .ptr 35005 0)]) (fun sg => match sg with | (m_1, m_2, m_3, m_4) => [(900000081, .cells 81 [lf aA m_1, i6 m_2]), (35004, .cells 32 [.bf, .bf]), (35005, .cells 32 [lf aH m_3, .own 703500501]), (703500501, .slice 85 5 (ml bu m_4) 0 false)]) ?_ ?_
 ·obtain ⟨ak, h3, hm⟩ := aa hm
  refine qD [(1, hdc [] (aO h3) gv)] [] [(16, i6 ak.1)] [900000081] [(900000081, .cells 81 (k4 ak.2))] ?_
  refine A.block ?_
  refine qDs [] [] [(25, .bool (decide (ak.1 = (0:Int))))] ?_
  rcases aq hm with ⟨c1,hm⟩|⟨c1,hm⟩
  ·refine qT c1 ?_
   obtain ⟨aF, h4, hm⟩ := aa hm
   obtain ⟨l_3, h5, hm⟩ := aa hm
   refine qG [(4, hdc [] (bF h4) mJ), (7, hap 35534 (ap aH (bytes := 16) (by decide) h5))] [0, 16, 25] [] [900000081, 35005, 35509] [(900000081, .cells 81 (k4 aF.2)), (35005, .cells 32 [.own 35534, .own 35513]), (35534, .slice 57 2 (ml aH l_3) 0 false)] ?_
   exact Exists.intro (aF.2.L, aF.2.At, l_3, l_2) (And.intro hm (bp.go [.fz [35534], .sw 35513 703500501, .sc 35005 [900000081, 35004, 35005, 703500501]] [] (by kernel_rfl)))
  refine qF c1 ?_
  refine qDs [] [25] [(36, .bool (decide (ak.1 = (1:Int))))] ?_
  rcases aq hm with ⟨c2,hm⟩|⟨c2,hm⟩
  ·refine qT c2 ?_
   refine qDs [(2, hto (lnE bu l_2))] [16, 36] [(41, .bool (decide ((0:Int) < (l_2.length:Int))))] ?_
   rcases aq hm with ⟨c3,hm⟩|⟨c3,hm⟩
   ·refine qT c3 ?_
    obtain ⟨aI, h6, hm⟩ := aa hm
    obtain ⟨aU, h7, hm⟩ := aa hm
    obtain ⟨e_1, h8, hm⟩ := aa hm
    obtain ⟨l_4, h9, hm⟩ := aa hm
    refine qG [(5, hto (lnE bu l_2)), (6, hdc [] (aO h6) gv), (9, hdc [] (bF h7) mJ), (10, hix (ix bu h8)), (12, hso 35513 (st bu (off := 2) (ca := [i6 aU.1]) h8 h9 rfl) (iK h8).1.1)] [0, 41] [] [900000081, 35513] [(900000081, .cells 81 (k4 aU.2)), (35513, .slice 85 5 (ml bu l_4) 0 false)] ?_
    exact Exists.intro (aU.2.L, aU.2.At, l_1, l_4) (And.intro hm (bp.go [.fz [35509], .sw 35513 703500501, .sc 35005 [900000081, 35004, 35005, 703500501]] [] (by kernel_rfl)))
   refine qF c3 ?_
   refine A.skip ?_
   exact Exists.intro (ak.2.L, ak.2.At, l_1, l_2) (And.intro hm (bp.go [.fz [35509], .sw 35513 703500501, .sc 35005 [900000081, 35004, 35005, 703500501]] [] (by kernel_rfl)))
  refine qF c2 ?_
  refine qDs [] [0, 16, 36] [(54, .bool (decide (ak.1 = (2:Int))))] ?_
  rcases aq hm with ⟨c4,hm⟩|⟨c4,hm⟩
  ·refine qT c4 ?_
   refine qDs [(2, hto (lnE bu l_2))] [54] [(59, .bool (decide ((0:Int) < (l_2.length:Int))))] ?_
   rcases aq hm with ⟨c5,hm⟩|⟨c5,hm⟩
   ·refine qT c5 ?_
    obtain ⟨e_2, h10, hm⟩ := aa hm
    obtain ⟨l_5, h11, hm⟩ := aa hm
    refine qG [(4, hix (ix bu h10)), (5, hlo 35513 0 (ix bu h10)), (7, hap 35567 (ap bu (bytes := 40) (by decide) h11))] [59] [] [35005, 35513] [(35005, .cells 32 [.own 35509, .own 35567]), (35567, .slice 85 5 (ml bu l_5) 0 false)] ?_
    exact Exists.intro (ak.2.L, ak.2.At, l_1, l_5) (And.intro hm (bp.go [.fz [35509], .sw 35567 703500501, .sc 35005 [900000081, 35004, 35005, 703500501]] [] (by kernel_rfl)))
   refine qF c5 ?_
   refine A.skip ?_
   exact Exists.intro (ak.2.L, ak.2.At, l_1, l_2) (And.intro hm (bp.go [.fz [35509], .sw 35513 703500501, .sc 35005 [900000081, 35004, 35005, 703500501]] [] (by kernel_rfl)))
  refine qF c4 ?_
  refine qDs [(2, hto (lnE aH l_1))] [54] [(20, .bool (decide ((0:Int) < (l_1.length:Int))))] ?_
  rcases aq hm with ⟨c6,hm⟩|⟨c6,hm⟩
  ·refine qT c6 ?_
   obtain ⟨l_6, h12, hm⟩ := aa hm
   refine A.R W0 [.fz [35509]] [(2, hsl (abP aH h12))] [(4, .ptr 35004 0), (5, .ptr 35005 0)] [(900000081, .cells 81 (k4 ak.2)), (35004, .cells 32 [.bf, .bf]), (35005, .cells 32 [lf aH l_6, .own 35513]), (35513, .slice 85 5 (ml bu l_2) 0 false)] (by kernel_rfl) ?_
   exact Exists.intro (ak.2.L, ak.2.At, l_6, l_2) (And.intro hm (bp.go [.sw 35513 703500501] [] (by kernel_rfl)))
  refine qF c6 ?_
  refine A.skip ?_
  exact Exists.intro (ak.2.L, ak.2.At, l_1, l_2) (And.intro hm (bp.go [.fz [35509], .sw 35513 703500501, .sc 35005 [900000081, 35004, 35005, 703500501]] [] (by kernel_rfl)))
 rintro ⟨m_1, m_2, m_3, m_4⟩ hm
 rw [hJ1] at hm
 refine qD [] [5] [] [35004, 35005] [(35004, .cells 32 [lf aH m_3, .own 703500501])] ?_
 refine A.ret ?_
 obtain rfl := some_inj hm
 exact A.fin W0 [.fz [703500501]] rfl (by kernel_rfl)
theorem sQ {p : aj} {r : Bool} (hm : jy p = some r) : RO Try.prog 30 [] [.agg (k2 p)] (.bool r) := by
 refine aZ Try.func30 rfl rfl ?_
 unfold jy at hm
 refine qS [(0, .al 30001)] [(1, .ptr 30001 0)] [(30001, .cells 32 (k2 p))] ?_
 refine A.mid [(2, .bool ((decide ((p.ay.length:Int) ≤ (30:Int))) && (decide ((p.Links.length:Int) ≤ (70:Int)))))] [] (fun hk => ?_) ?_
 ·rcases tf (decide ((p.ay.length:Int) ≤ (30:Int))) with c1 | c1
  ·exact qS [(2, hto (lnE aH p.ay)), (4, hto (bE c1)), (7, hto (lnE bu p.Links)), (10, hto (lG (q := decide ((p.Links.length:Int) ≤ (70:Int))) c1))] _ _ hk
  exact qS [(2, hto (lnE aH p.ay)), (4, hto (bE c1)), (10, hto (mI (q := decide ((p.Links.length:Int) ≤ (70:Int))) c1))] _ _ hk
 cases hm
 exact A.ret qE
end Go.Proofs.Ytmfehenfoepkfaa
