/- The iY of ee of the program. No condition but bL aY stand in each. -/
import Derived.Test.YtdjeacigeegklaaDA
import Derived.Test.YtdjeacigeegklaaVX
import Derived.Test.YtdjeacigeegklaaVW
namespace Go.Proofs.Ytdjeacigeegklaa
open Go
set_option maxRecDepth 100000
set_option linter.all false
theorem mS {t : aQ} {most : Int} {r : aa × aQ} (hm : ia t most = some r) : dH Try.prog 7 [(900000074, .cells 74 (k3 t))] [.ptr 900000074 0, i6 most] (fun a σ' => a = .agg (k2 r.1) ∧ σ' = [(900000074, .cells 74 (k3 r.2))]) := by
 refine bO Try.func7 rfl rfl ?_
 unfold ia at hm
 refine qS [(0, .al 7004)] [(0, .ptr 900000074 0), (1, i6 most), (4, .ptr 7004 0)] [(900000074, .cells 74 (k3 t)), (7004, .cells 28 [.aW, .aW])] ?_
 obtain ⟨ay, h1, hm⟩ := af hm
 refine qD [(2, hdc [] (iF h1) afp)] [1] [(5, i6 ay.1)] [900000074] [(900000074, .cells 74 (k3 ay.2))] ?_
 refine qD [(0, .al 7006)] [] [(6, .ptr 7006 0)] [] [(7006, .cells 28 [.aW, .aW])] ?_
 refine qDs [] [] [(7, i6 0)] ?_
 refine A.seq ?_
 refine qDs [] [] [(8, i6 0)] ?_
 refine A.block ?_
 obtain ⟨hh1, hm⟩ := eB hm
 obtain ⟨B1, K1, hB1, hK1, hm⟩ := nM hm
 refine A.lpN (hi := ay.1) (B := B1) (K := K1) hm rfl (fun j1 => fun sg => match sg with | (sD, m_1, m_2, m_3) => [(0, .ptr 900000074 0), (4, .ptr 7004 0), (5, i6 ay.1), (6, .ptr 7006 0), (7, i6 sD), (8, i6 (j1 : Int))]) (fun j1 => fun sg => match sg with | (sD, m_1, m_2, m_3) => [(900000074, .cells 74 [lf bx m_2, i6 m_3]), (7004, .cells 28 [.aW, .aW]), (7006, .cells 28 [.own 700700600, .aW]), (700700600, .slice 50 2 (ml aL m_1) 0 false)]) ?_ ?_ ?_
 ·exact bz.go [.ac 7006 700700600 50 2 0] [] (by kernel_rfl)
 ·rintro j1 Z1 ⟨sD, m_1, m_2, m_3⟩ hj1 hx1 hm
  rw [hB1] at hm
  refine A.seq ?_
  refine qDs [] [] [(24, .bool (decide ((j1 : Int) < ay.1)))] ?_
  refine A.cT rfl (decide_eq_true hx1) ?_
  refine A.skip ?_
  show aj _ _ _ _ _
  refine A.seq ?_
  refine A.block ?_
  obtain ⟨aV, h2, hm⟩ := af hm
  refine qD [(3, hdc [] (dL h2) w8)] [7, 24] [(7, i6 (w64 (sD + aV.1)))] [900000074] [(900000074, .cells 74 (k3 aV.2))] ?_
  obtain ⟨l_1, h3, hm⟩ := af hm
  refine qG [(5, hap 7537 (ap aL (bytes := 16) (by decide) h3))] [] [] [7006, 700700600] [(7006, .cells 28 [.own 7537, .aW]), (7537, .slice 50 2 (ml aL l_1) 0 false)] ?_
  show aj _ _ _ _ _
  refine qGs [(1, hto (yp (by omega) hx1 (of_decide_eq_true hh1)))] [8] [(8, i6 (j1 + 1 : Int))] ?_
  exact Exists.intro (w64 (sD + aV.1), l_1, aV.2.L, aV.2.At) (And.intro hm (bz.go [.sw 7537 700700600] [] (by kernel_rfl)))
 rintro j1 ⟨sD, m_1, m_2, m_3⟩ hj1 hl1 hm
 rw [hK1] at hm
 refine A.seq ?_
 refine qDs [] [] [(24, .bool (decide ((j1 : Int) < ay.1)))] ?_
 refine A.cF rfl (geF hl1) ?_
 refine A.exit ?_
 show aj _ _ _ _ _
 obtain ⟨h4, hm⟩ := eB hm
 refine qD [(1, hmr 7040 ay.1 af7 af8 h4 (by decide))] [7, 8, 24] [(9, .own 7040)] [] [(7040, .slice 78 1 (List.replicate ay.1.toNat [.aW]) 0 false)] ?_
 refine A.weak ((bz.amQ (d := 7040) (e := 450007040) 4 1 dN.enc (aqO h4) rfl rfl rfl rfl rfl)) ?_
 refine A.seq ?_
 refine qS [(1, hno 4 1 dN.enc (List.replicate ay.1.toNat [] : List (List Bool)) uE)] [(0, .ptr 900000074 0), (4, .ptr 7004 0), (5, i6 ay.1), (6, .ptr 7006 0), (9, .own 7040), (42, i6 ((List.replicate ay.1.toNat [] : List (List Bool)).length:Int)), (43, i6 0)] [(900000074, .cells 74 [lf bx m_2, i6 m_3]), (7004, .cells 28 [.aW, .aW]), (7006, .cells 28 [.own 700700600, .aW]), (700700600, .slice 50 2 (ml aL m_1) 0 false), (7040, .cr 78 450007040 ay.1.toNat none), (450007040, .bun (dz 4 1 dN.enc (List.replicate ay.1.toNat [] : List (List Bool))))] ?_
 refine A.block ?_
 obtain ⟨hh2, hm⟩ := eB hm
 obtain ⟨B2, K2, hB2, hK2, hm⟩ := nM hm
 refine A.lpN (hi := ((List.replicate ay.1.toNat [] : List (List Bool)).length:Int)) (B := B2) (K := K2) hm rfl (fun j2 => fun m_4 => [(0, .ptr 900000074 0), (4, .ptr 7004 0), (5, i6 ay.1), (6, .ptr 7006 0), (9, .own 7040), (42, i6 ((List.replicate ay.1.toNat [] : List (List Bool)).length:Int)), (43, i6 (j2 : Int))]) (fun j2 => fun m_4 => [(900000074, .cells 74 [lf bx m_2, i6 m_3]), (7004, .cells 28 [.aW, .aW]), (7006, .cells 28 [.own 700700600, .aW]), (700700600, .slice 50 2 (ml aL m_1) 0 false), (7040, .cr 78 450007040 ay.1.toNat none), (450007040, .bun (dz 4 1 dN.enc m_4))]) ?_ ?_ ?_
 ·exact qW
 ·rintro j2 Z2 m_4 hj2 hx2 hm
  rw [hB2] at hm
  refine qDs [] [] [(44, .bool (decide ((j2 : Int) < ((List.replicate ay.1.toNat [] : List (List Bool)).length:Int))))] ?_
  refine A.seq ?_
  refine A.cT rfl (decide_eq_true hx2) ?_
  refine A.skip ?_
  show aj _ _ _ _ _
  refine A.seq ?_
  refine A.block ?_
  refine qDs [] [44] [(10, i6 (j2 : Int))] ?_
  obtain ⟨h5, hm⟩ := eB hm
  obtain ⟨e_1, h6, hm⟩ := af hm
  refine qG [(3, hms (a := .bool false) 7049 false dN.enc ay.1 af9 aga rfl (fun I => by simp [aF]) h5 (by decide)), (4, hio 4 1 dN.enc uE h6), (5, hsS 4 1 530007001 dN.enc (List.replicate (ay.1).toNat false) aaa h6)] [10] [] [7040, 450007040] [(7040, .cr 78 530007001 ay.1.toNat none), (530007001, .bun (dz 4 1 dN.enc (List.set m_4 (j2 : Int).toNat (List.replicate (ay.1).toNat false))))] ?_
  show aj _ _ _ _ _
  refine qGs [(0, hto (yp (by omega) hx2 (of_decide_eq_true hh2)))] [43] [(43, i6 (j2 + 1 : Int))] ?_
  exact Exists.intro (List.set m_4 (j2 : Int).toNat (List.replicate (ay.1).toNat false)) (And.intro hm (bz.go [.rn 530007001 450007040] [] (by kernel_rfl)))
 rintro j2 m_4 hj2 hl2 hm
 rw [hK2] at hm
 refine qDs [] [] [(44, .bool (decide ((j2 : Int) < ((List.replicate ay.1.toNat [] : List (List Bool)).length:Int))))] ?_
 refine A.seq ?_
 refine A.cF rfl (geF hl2) ?_
 refine A.exit ?_
 show aj _ _ _ _ _
 refine A.seq ?_
 refine qDs [] [42, 43, 44] [(11, i6 1)] ?_
 refine A.block ?_
 obtain ⟨hh3, hm⟩ := eB hm
 obtain ⟨B3, K3, hB3, hK3, hm⟩ := nM hm
 refine A.lpN (hi := ay.1) (B := B3) (K := K3) hm rfl (fun j3 => fun sg => match sg with | (m_5, m_6, m_7) => [(0, .ptr 900000074 0), (4, .ptr 7004 0), (5, i6 ay.1), (6, .ptr 7006 0), (9, .own 7040), (11, i6 (j3 : Int))]) (fun j3 => fun sg => match sg with | (m_5, m_6, m_7) => [(900000074, .cells 74 [lf bx m_5, i6 m_6]), (7004, .cells 28 [.aW, .aW]), (7006, .cells 28 [.own 700700600, .aW]), (700700600, .slice 50 2 (ml aL m_1) 0 false), (7040, .cr 78 450007040 ay.1.toNat none), (450007040, .bun (dz 4 1 dN.enc m_7))]) ?_ ?_ ?_
 ·exact qW
 ·rintro j3 Z3 ⟨m_5, m_6, m_7⟩ hj3 hx3 hm
  rw [hB3] at hm
  refine A.seq ?_
  refine qDs [] [] [(54, .bool (decide ((j3 : Int) < ay.1)))] ?_
  refine A.cT rfl (decide_eq_true hx3) ?_
  refine A.skip ?_
  show aj _ _ _ _ _
  obtain ⟨J1, hJ1, hm⟩ := cD hm
  refine A.J (J := J1) (r := r) (fun sg => match sg with | (m_8, m_9, fZ) => [(0, .ptr 900000074 0), (4, .ptr 7004 0), (5, i6 ay.1), (6, .ptr 7006 0), (9, .own 7040), (11, i6 (j3 : Int))]) (fun sg => match sg with | (m_8, m_9, fZ) => [(900000074, .cells 74 [lf bx m_9, i6 fZ]), (7004, .cells 28 [.aW, .aW]), (7006, .cells 28 [.own 700700600, .aW]), (700700600, .slice 50 2 (ml aL m_1) 0 false), (7040, .cr 78 450007040 ay.1.toNat none), (450007040, .bun (dz 4 1 dN.enc m_8))]) ?_ ?_
  ·refine A.block ?_
   obtain ⟨bu, h7, hm⟩ := af hm
   refine qD [(1, hdc [] (br h7) jl)] [54] [(59, .bool (decide (bu.1 < (11:Int))))] [900000074] [(900000074, .cells 74 (k3 bu.2))] ?_
   rcases aA hm with ⟨c1,hm⟩|⟨c1,hm⟩
   ·refine qT c1 ?_
    obtain ⟨aK, h8, hm⟩ := af hm
    obtain ⟨e_2, h9, hm⟩ := af hm
    obtain ⟨e_3, h10, hm⟩ := af hm
    obtain ⟨l_2, h11, hm⟩ := af hm
    refine A.late (A.R W0 [] [(3, hdc [] (br h8) jl), (4, hio 4 1 dN.enc uE h9), (5, hlS 4 1 530007003 530007002 dN.enc aaa h9), (7, hix (ix dN h10)), (8, hso 530007002 (st dN (off := 0) (ca := [.bool true]) h10 h11 rfl) (wK h10).1.1)] [(0, .ptr 900000074 0), (4, .ptr 7004 0), (5, i6 ay.1), (6, .ptr 7006 0), (9, .own 7040), (11, i6 (j3 : Int))] [(900000074, .cells 74 (k3 aK.2)), (7004, .cells 28 [.aW, .aW]), (7006, .cells 28 [.own 700700600, .aW]), (700700600, .slice 50 2 (ml aL m_1) 0 false), (7040, .cr 78 530007003 ay.1.toNat (some (some aK.1.toNat, 530007002))), (530007003, .bun (dz 4 1 dN.enc (List.set m_7 aK.1.toNat []))), (530007002, .slice 4 1 (ml dN l_2) 0 false)] (by kernel_rfl) ?_)
    refine ⟨_, _, (bz.ab1 (d := 7040) (e := 530007003) (e2 := 530007004) (t := 530007002) m_7 dN.enc l_2 rfl rfl rfl rfl rfl rfl rfl), ?_⟩
    exact Exists.intro ((List.set m_7 aK.1.toNat l_2), aK.2.L, aK.2.At) (And.intro hm (bz.go [.rn 530007004 450007040] [] (by kernel_rfl)))
   refine qF c1 ?_
   refine A.skip ?_
   exact qX (m_7, bu.2.L, bu.2.At) hm
  rintro ⟨m_8, m_9, fZ⟩ hm
  rw [hJ1] at hm
  refine qGs [(1, hto (yp (by omega) hx3 (of_decide_eq_true hh3)))] [11] [(11, i6 (j3 + 1 : Int))] ?_
  exact qX (m_9, fZ, m_8) hm
 rintro j3 ⟨m_5, m_6, m_7⟩ hj3 hl3 hm
 rw [hK3] at hm
 refine A.seq ?_
 refine qDs [] [] [(54, .bool (decide ((j3 : Int) < ay.1)))] ?_
 refine A.cF rfl (geF hl3) ?_
 refine A.exit ?_
 show aj _ _ _ _ _
 refine A.seq ?_
 obtain ⟨cO, h12, hm⟩ := af hm
 refine qD [(3, hdc [] (br h12) jl)] [11, 54] [(12, i6 cO.1)] [900000074] [(900000074, .cells 74 (k3 cO.2))] ?_
 refine A.block ?_
 obtain ⟨F4, n4, hF4, hm⟩ := oT hm
 refine A.lpW (F := F4) hm (fun sg => match sg with | (i_1, en, fK, dA) => [(0, .ptr 900000074 0), (4, .ptr 7004 0), (5, i6 ay.1), (6, .ptr 7006 0), (9, .own 7040), (12, i6 i_1)]) (fun sg => match sg with | (i_1, en, fK, dA) => [(900000074, .cells 74 [lf bx en, i6 fK]), (7004, .cells 28 [.aW, .aW]), (7006, .cells 28 [.own 700700600, .aW]), (700700600, .slice 50 2 (ml aL m_1) 0 false), (7040, .cr 78 450007040 ay.1.toNat none), (450007040, .bun (dz 4 1 dN.enc dA))]) ?_ ?_
 ·exact qW
 rintro Z4 ⟨i_1, en, fK, dA⟩ hm
 rw [hF4] at hm
 refine A.seq ?_
 refine qDs [] [] [(73, .bool (decide ((0:Int) < i_1)))] ?_
 rcases aA hm with ⟨c2,hm⟩|⟨c2,hm⟩
 ·refine qT c2 ?_
  refine A.skip ?_
  show aj _ _ _ _ _
  obtain ⟨J2, hJ2, hm⟩ := cD hm
  refine A.J (J := J2) (r := r) (fun sg => match sg with | (lG, o6, o7) => [(0, .ptr 900000074 0), (4, .ptr 7004 0), (5, i6 ay.1), (6, .ptr 7006 0), (9, .own 7040), (12, i6 i_1)]) (fun sg => match sg with | (lG, o6, o7) => [(900000074, .cells 74 [lf bx o6, i6 o7]), (7004, .cells 28 [.aW, .aW]), (7006, .cells 28 [.own 700700600, .aW]), (700700600, .slice 50 2 (ml aL m_1) 0 false), (7040, .cr 78 450007040 ay.1.toNat none), (450007040, .bun (dz 4 1 dN.enc lG))]) ?_ ?_
  ·refine A.block ?_
   obtain ⟨aU, h13, hm⟩ := af hm
   obtain ⟨dh, h14, hm⟩ := af hm
   refine qD [(2, hdc [] (br h13) jl), (5, hdc [] (br h14) jl)] [73] [(13, i6 aU.1), (14, i6 dh.1)] [900000074] [(900000074, .cells 74 (k3 dh.2))] ?_
   refine qDs [] [] [(84, .bool (!decide (aU.1 = dh.1)))] ?_
   rcases aA hm with ⟨c3,hm⟩|⟨c3,hm⟩
   ·refine qT c3 ?_
    obtain ⟨e_4, h15, hm⟩ := af hm
    obtain ⟨e_5, h16, hm⟩ := af hm
    obtain ⟨l_3, h17, hm⟩ := af hm
    refine A.late (A.R W0 [] [(4, hio 4 1 dN.enc uE h15), (5, hlS 4 1 530007006 530007005 dN.enc aaa h15), (9, hix (ix dN h16)), (10, hso 530007005 (st dN (off := 0) (ca := [.bool true]) h16 h17 rfl) (wK h16).1.1)] [(0, .ptr 900000074 0), (4, .ptr 7004 0), (5, i6 ay.1), (6, .ptr 7006 0), (9, .own 7040), (12, i6 i_1)] [(900000074, .cells 74 (k3 dh.2)), (7004, .cells 28 [.aW, .aW]), (7006, .cells 28 [.own 700700600, .aW]), (700700600, .slice 50 2 (ml aL m_1) 0 false), (7040, .cr 78 530007006 ay.1.toNat (some (some (if dh.1 < aU.1 then dh.1 else aU.1).toNat, 530007005))), (530007006, .bun (dz 4 1 dN.enc (List.set dA (if dh.1 < aU.1 then dh.1 else aU.1).toNat []))), (530007005, .slice 4 1 (ml dN l_3) 0 false)] (by kernel_rfl) ?_)
    refine ⟨_, _, (bz.ab1 (d := 7040) (e := 530007006) (e2 := 530007007) (t := 530007005) dA dN.enc l_3 rfl rfl rfl rfl rfl rfl rfl), ?_⟩
    exact Exists.intro ((List.set dA (if dh.1 < aU.1 then dh.1 else aU.1).toNat l_3), dh.2.L, dh.2.At) (And.intro hm (bz.go [.rn 530007007 450007040] [] (by kernel_rfl)))
   refine qF c3 ?_
   refine A.skip ?_
   exact qX (dA, dh.2.L, dh.2.At) hm
  rintro ⟨lG, o6, o7⟩ hm
  rw [hJ2] at hm
  refine qGs [] [12] [(12, i6 (w64 (i_1 - (1:Int))))] ?_
  exact qX (w64 (i_1 - (1:Int)), o6, o7, lG) hm
 refine qF c2 ?_
 refine A.exit ?_
 show aj _ _ _ _ _
 obtain ⟨de, h18, hm⟩ := af hm
 refine qD [(1, hdc [] (br h18) jl)] [5, 12, 73] [(15, .bool (decide (de.1 = (0:Int))))] [900000074] [(900000074, .cells 74 (k3 de.2))] ?_
 refine A.seq ?_
 refine qDs [(1, hno 4 1 dN.enc dA uE)] [] [(99, i6 (dA.length:Int)), (100, i6 0)] ?_
 refine A.block ?_
 obtain ⟨hh5, hm⟩ := eB hm
 obtain ⟨B5, K5, hB5, hK5, hm⟩ := nM hm
 refine A.lpN (hi := (dA.length:Int)) (B := B5) (K := K5) hm rfl (fun j5 => fun sg => match sg with | (nE, kO, kP) => [(0, .ptr 900000074 0), (4, .ptr 7004 0), (6, .ptr 7006 0), (9, .own 7040), (15, .bool (decide (de.1 = (0:Int)))), (99, i6 (dA.length:Int)), (100, i6 (j5 : Int))]) (fun j5 => fun sg => match sg with | (nE, kO, kP) => [(900000074, .cells 74 [lf bx kO, i6 kP]), (7004, .cells 28 [.aW, .aW]), (7006, .cells 28 [.own 700700600, .own 700700601]), (700700600, .slice 50 2 (ml aL m_1) 0 false), (7040, .cr 78 450007040 ay.1.toNat none), (450007040, .bun (dz 4 1 dN.enc dA)), (700700601, .slice 80 5 (ml b9 nE) 0 false)]) ?_ ?_ ?_
 ·exact bz.go [.ac 7006 700700601 80 5 1] [] (by kernel_rfl)
 ·rintro j5 Z5 ⟨nE, kO, kP⟩ hj5 hx5 hm
  rw [hB5] at hm
  refine qDs [] [] [(101, .bool (decide ((j5 : Int) < (dA.length:Int))))] ?_
  refine A.seq ?_
  refine A.cT rfl (decide_eq_true hx5) ?_
  refine A.skip ?_
  show aj _ _ _ _ _
  refine A.seq ?_
  refine A.block ?_
  refine qDs [] [101] [(16, i6 (j5 : Int))] ?_
  refine qDs [(1, hno 4 1 dN.enc dA uE)] [] [(104, i6 (dA.length:Int)), (105, i6 0)] ?_
  refine A.block ?_
  obtain ⟨hh6, hm⟩ := eB hm
  obtain ⟨B6, K6, hB6, hK6, hm⟩ := nM hm
  refine A.lpN (hi := (dA.length:Int)) (B := B6) (K := K6) hm rfl (fun j6 => fun sg => match sg with | (jB, kQ, mo) => [(0, .ptr 900000074 0), (4, .ptr 7004 0), (6, .ptr 7006 0), (9, .own 7040), (15, .bool (decide (de.1 = (0:Int)))), (16, i6 (j5 : Int)), (99, i6 (dA.length:Int)), (100, i6 (j5 : Int)), (104, i6 (dA.length:Int)), (105, i6 (j6 : Int))]) (fun j6 => fun sg => match sg with | (jB, kQ, mo) => [(900000074, .cells 74 [lf bx kQ, i6 mo]), (7004, .cells 28 [.aW, .aW]), (7006, .cells 28 [.own 700700600, .own 700700601]), (700700600, .slice 50 2 (ml aL m_1) 0 false), (7040, .cr 78 450007040 ay.1.toNat none), (450007040, .bun (dz 4 1 dN.enc dA)), (700700601, .slice 80 5 (ml b9 jB) 0 false)]) ?_ ?_ ?_
  ·exact qW
  ·rintro j6 Z6 ⟨jB, kQ, mo⟩ hj6 hx6 hm
   rw [hB6] at hm
   refine qDs [] [] [(106, .bool (decide ((j6 : Int) < (dA.length:Int))))] ?_
   refine A.seq ?_
   refine A.cT rfl (decide_eq_true hx6) ?_
   refine A.skip ?_
   show aj _ _ _ _ _
   obtain ⟨J3, hJ3, hm⟩ := cD hm
   refine A.J (J := J3) (r := r) (fun sg => match sg with | (pX, pY, mQ) => [(0, .ptr 900000074 0), (4, .ptr 7004 0), (6, .ptr 7006 0), (9, .own 7040), (15, .bool (decide (de.1 = (0:Int)))), (16, i6 (j5 : Int)), (99, i6 (dA.length:Int)), (100, i6 (j5 : Int)), (104, i6 (dA.length:Int)), (105, i6 (j6 : Int))]) (fun sg => match sg with | (pX, pY, mQ) => [(900000074, .cells 74 [lf bx pX, i6 pY]), (7004, .cells 28 [.aW, .aW]), (7006, .cells 28 [.own 700700600, .own 700700601]), (700700600, .slice 50 2 (ml aL m_1) 0 false), (7040, .cr 78 450007040 ay.1.toNat none), (450007040, .bun (dz 4 1 dN.enc dA)), (700700601, .slice 80 5 (ml b9 mQ) 0 false)]) ?_ ?_
   ·refine A.block ?_
    refine qDs [] [106] [(17, i6 (j6 : Int))] ?_
    refine A.seq ?_
    obtain ⟨e_6, h19, hm⟩ := af hm
    obtain ⟨e_7, h20, hm⟩ := af hm
    refine qD [(2, hio 4 1 dN.enc uE h19), (3, hlS 4 1 530007009 530007008 dN.enc aaa h19), (5, hix (ix dN h20)), (6, hlo 530007008 0 (ix dN h20))] [] [(115, .bool (!e_7))] [7040, 450007040] [(7040, .cr 78 530007009 ay.1.toNat (some (some (j5 : Int).toNat, 530007008))), (530007009, .bun (dz 4 1 dN.enc (List.set dA (j5 : Int).toNat []))), (530007008, .slice 4 1 (ml dN e_6) 0 false)] ?_
    refine A.weak ((bz.amR (d := 7040) (e := 530007009) (e2 := 530007010) (t := 530007008) dA dN.enc h19 rfl rfl rfl rfl rfl rfl rfl)) ?_
    rcases aA hm with ⟨c4,hm⟩|⟨c4,hm⟩
    ·refine qT c4 ?_
     refine A.exit ?_
     exact Exists.intro (kQ, mo, jB) (And.intro hm (bz.go [.rn 530007010 450007040] [] (by kernel_rfl)))
    refine qF c4 ?_
    refine A.skip ?_
    show aj _ _ _ _ _
    obtain ⟨e_8, h21, hm⟩ := af hm
    obtain ⟨e_9, h22, hm⟩ := af hm
    obtain ⟨iG, h23, hm⟩ := af hm
    refine qS [(3, hix (ix aL h21)), (5, hlo 700700600 0 (ix aL h21)), (9, hix (ix aL h22)), (11, hlo 700700600 0 (ix aL h22)), (14, hdc [] (dL h23) w8), (16, .al 7018)] [(0, .ptr 900000074 0), (4, .ptr 7004 0), (6, .ptr 7006 0), (9, .own 7040), (15, .bool (decide (de.1 = (0:Int)))), (16, i6 (j5 : Int)), (99, i6 (dA.length:Int)), (100, i6 (j5 : Int)), (104, i6 (dA.length:Int)), (105, i6 (j6 : Int)), (18, .ptr 7018 0)] [(900000074, .cells 74 (k3 iG.2)), (7004, .cells 28 [.aW, .aW]), (7006, .cells 28 [.own 700700600, .own 700700601]), (700700600, .slice 50 2 (ml aL m_1) 0 false), (7040, .cr 78 530007010 ay.1.toNat none), (530007010, .bun (dz 4 1 dN.enc dA)), (700700601, .slice 80 5 (ml b9 jB) 0 false), (7018, .cells 80 [i6 e_8.ID, i6 e_9.ID, i6 1, i6 1, i6 iG.1])] ?_
    obtain ⟨J4, hJ4, hm⟩ := cD hm
    refine A.J (J := J4) (r := r) (fun sg => match sg with | (mR, kR, aan, aao) => [(0, .ptr 900000074 0), (4, .ptr 7004 0), (6, .ptr 7006 0), (9, .own 7040), (15, .bool (decide (de.1 = (0:Int)))), (16, i6 (j5 : Int)), (18, .ptr 7018 0), (99, i6 (dA.length:Int)), (100, i6 (j5 : Int)), (104, i6 (dA.length:Int)), (105, i6 (j6 : Int))]) (fun sg => match sg with | (mR, kR, aan, aao) => [(900000074, .cells 74 [lf bx mR, i6 kR]), (7004, .cells 28 [.aW, .aW]), (7006, .cells 28 [.own 700700600, .own 700700601]), (700700600, .slice 50 2 (ml aL m_1) 0 false), (7040, .cr 78 530007010 ay.1.toNat none), (530007010, .bun (dz 4 1 dN.enc dA)), (700700601, .slice 80 5 (ml b9 jB) 0 false), (7018, .cells 80 [i6 e_8.ID, i6 e_9.ID, i6 aan, i6 aao, i6 iG.1])]) ?_ ?_
    ·refine qDs [] [] [(133, .bool (!(decide (de.1 = (0:Int)))))] ?_
     rcases aA hm with ⟨c5,hm⟩|⟨c5,hm⟩
     ·refine qT c5 ?_
      obtain ⟨gV, h24, hm⟩ := af hm
      obtain ⟨mF, h25, hm⟩ := af hm
      refine qD [(2, hdc [] (iF h24) afp), (4, hdc [] (dL h25) w8)] [133] [] [900000074, 7018] [(900000074, .cells 74 (k3 mF.2)), (7018, .cells 80 [i6 e_8.ID, i6 e_9.ID, i6 mF.1, i6 1, i6 iG.1])] ?_
      obtain ⟨ab7, h26, hm⟩ := af hm
      obtain ⟨ql, h27, hm⟩ := af hm
      refine qG [(6, hdc [] (iF h26) afp), (8, hdc [] (dL h27) w8)] [] [] [900000074, 7018] [(900000074, .cells 74 (k3 ql.2)), (7018, .cells 80 [i6 e_8.ID, i6 e_9.ID, i6 mF.1, i6 ql.1, i6 iG.1])] ?_
      exact qX (ql.2.L, ql.2.At, mF.1, ql.1) hm
     refine qF c5 ?_
     refine A.skip ?_
     exact qX (iG.2.L, iG.2.At, (1:Int), (1:Int)) hm
    rintro ⟨mR, kR, aan, aao⟩ hm
    rw [hJ4] at hm
    obtain ⟨l_4, h28, hm⟩ := af hm
    refine qG [(4, hap 7654 (ap b9 (bytes := 40) (by decide) h28))] [18] [] [7006, 700700601, 7018] [(7006, .cells 28 [.own 700700600, .own 7654]), (7654, .slice 80 5 (ml b9 l_4) 0 false)] ?_
    exact Exists.intro (mR, kR, l_4) (And.intro hm (bz.go [.sw 7654 700700601, .rn 530007010 450007040] [] (by kernel_rfl)))
   rintro ⟨pX, pY, mQ⟩ hm
   rw [hJ3] at hm
   refine qGs [(0, hto (yp (by omega) hx6 (of_decide_eq_true hh6)))] [105] [(105, i6 (j6 + 1 : Int))] ?_
   exact qX (mQ, pX, pY) hm
  rintro j6 ⟨jB, kQ, mo⟩ hj6 hl6 hm
  rw [hK6] at hm
  refine qDs [] [] [(106, .bool (decide ((j6 : Int) < (dA.length:Int))))] ?_
  refine A.seq ?_
  refine A.cF rfl (geF hl6) ?_
  refine A.exit ?_
  show aj _ _ _ _ _
  refine qGs [(0, hto (yp (by omega) hx5 (of_decide_eq_true hh5)))] [16, 100, 104, 105, 106] [(100, i6 (j5 + 1 : Int))] ?_
  exact qX (jB, kQ, mo) hm
 rintro j5 ⟨nE, kO, kP⟩ hj5 hl5 hm
 rw [hK5] at hm
 refine qDs [] [] [(101, .bool (decide ((j5 : Int) < (dA.length:Int))))] ?_
 refine A.seq ?_
 refine A.cF rfl (geF hl5) ?_
 refine A.exit ?_
 show aj _ _ _ _ _
 refine qD [] [0, 6, 9, 15, 99, 100, 101] [] [7004, 7006, 7040, 450007040] [(7004, .cells 28 [.own 700700600, .own 700700601])] ?_
 refine A.ret ?_
 obtain rfl := some_inj hm
 exact A.fin W0 [.fz [700700600, 700700601]] rfl (by kernel_rfl)
theorem rW {t : aQ} {p : aa} {r : aM × aQ} (hm : kS t p = some r) : dH Try.prog 8 [(900000074, .cells 74 (k3 t))] [.ptr 900000074 0, .agg (k2 p)] (fun a σ' => a = .agg (k5 r.1) ∧ σ' = [(900000074, .cells 74 (k3 r.2))]) := by
 refine bO Try.func8 rfl rfl ?_
 unfold kS at hm
 refine qS [(0, .al 8003), (1, .al 8004)] [(0, .ptr 900000074 0), (3, .ptr 8003 0), (4, .ptr 8004 0)] [(900000074, .cells 74 (k3 t)), (8003, .cells 28 (k2 p)), (8004, .cells 32 [i6 0, .aW])] ?_
 obtain ⟨ay, h1, hm⟩ := af hm
 refine qD [(2, hdc [] (dL h1) w8), (4, .al 8005)] [] [(5, .ptr 8005 0)] [900000074] [(900000074, .cells 74 (k3 ay.2)), (8005, .cells 32 [i6 ay.1, .aW])] ?_
 refine A.seq ?_
 obtain ⟨aV, h2, hm⟩ := af hm
 refine qD [(1, hro (rV h2) an2), (5, .al 8006)] [] [(6, .ptr 8006 0), (7, i6 aV.2)] [] [(8006, .cells 32 (k5 aV.1))] ?_
 obtain ⟨J1, hJ1, hm⟩ := cD hm
 refine A.J (J := J1) (r := r) (fun sg => match sg with | (v_1, m_1, m_2) => [(0, .ptr 900000074 0), (3, .ptr 8003 0), (4, .ptr 8004 0), (5, .ptr 8005 0), (6, .ptr 8006 0), (30, .bool v_1)]) (fun sg => match sg with | (v_1, m_1, m_2) => [(900000074, .cells 74 [lf bx m_1, i6 m_2]), (8003, .cells 28 (k2 p)), (8004, .cells 32 [i6 0, .aW]), (8005, .cells 32 [i6 ay.1, .aW]), (8006, .cells 32 (k5 aV.1))]) ?_ ?_
 ·rcases aA hm with ⟨c1,hm⟩|⟨c1,hm⟩
  ·obtain ⟨bu, h3, hm⟩ := af hm
   refine qG [(2, hto (bE c1)), (4, hdc [] (br h3) jl)] [7] [(30, .bool (decide (bu.1 = (0:Int))))] [900000074] [(900000074, .cells 74 (k3 bu.2))] ?_
   exact qX (decide (bu.1 = (0:Int)), bu.2.L, bu.2.At) hm
  refine qGs [(2, hto (bE c1))] [7] [(30, .bool false)] ?_
  exact qX (false, ay.2.L, ay.2.At) hm
 rintro ⟨v_1, m_1, m_2⟩ hm
 rw [hJ1] at hm
 rcases aA hm with ⟨c2,hm⟩|⟨c2,hm⟩
 ·refine qT c2 ?_
  refine qD [] [0, 3, 5, 6, 30] [] [8003, 8004, 8005, 8006] [(8004, .cells 32 (k5 aV.1))] ?_
  cases hm
  exact A.ret qE
 refine qF c2 ?_
 refine A.skip ?_
 show aj _ _ _ _ _
 refine A.seq ?_
 refine qD [(2, hto (lnE aL p.aC))] [6, 30] [(33, lf aL p.aC), (34, i6 (p.aC.length:Int)), (35, i6 0)] [8006] [] ?_
 refine A.block ?_
 refine A.bS 33 rfl fun hb1 => ?_
 obtain ⟨B1, K1, hB1, hK1, hm⟩ := bN hm
 refine A.lpI (l := p.aC) (j0 := 0) (B := B1) (K := K1) hm (fun j1 => fun sg => match sg with | (m_3, m_4, m_5) => [(0, .ptr 900000074 0), (3, .ptr 8003 0), (4, .ptr 8004 0), (5, .ptr 8005 0), (33, lf aL p.aC), (34, i6 (p.aC.length:Int)), (35, i6 (j1 : Int))]) (fun j1 => fun sg => match sg with | (m_3, m_4, m_5) => [(900000074, .cells 74 [lf bx m_4, i6 m_5]), (8003, .cells 28 (k2 p)), (8004, .cells 32 [i6 0, .aW]), (8005, .cells 32 [i6 ay.1, .own 700800501]), (700800501, .slice 39 4 (ml ak m_3) 0 false)]) ?_ ?_ ?_
 ·exact bz.go [.ac 8005 700800501 39 4 1] [] (by kernel_rfl)
 ·rintro j1 e1 Z1 ⟨m_3, m_4, m_5⟩ hj1 hx1 hm
  rw [hB1] at hm
  refine qDs [] [] [(36, .bool (decide ((j1 : Int) < (p.aC.length:Int))))] ?_
  refine A.seq ?_
  refine qT (ltT hx1) ?_
  refine A.skip ?_
  show aj _ _ _ _ _
  obtain ⟨J2, hJ2, hm⟩ := cD hm
  refine A.J (J := J2) (r := r) (fun sg => match sg with | (m_6, m_7, m_8) => [(0, .ptr 900000074 0), (3, .ptr 8003 0), (4, .ptr 8004 0), (5, .ptr 8005 0), (33, lf aL p.aC), (34, i6 (p.aC.length:Int)), (35, i6 (j1 : Int))]) (fun sg => match sg with | (m_6, m_7, m_8) => [(900000074, .cells 74 [lf bx m_6, i6 m_7]), (8003, .cells 28 (k2 p)), (8004, .cells 32 [i6 0, .aW]), (8005, .cells 32 [i6 ay.1, .own 700800501]), (700800501, .slice 39 4 (ml ak m_8) 0 false)]) ?_ ?_
  ·refine A.block ?_
   refine qD [(0, hix (ix aL (b8 hx1))), (2, .al 8009)] [36] [(9, .ptr 8009 0)] [] [(8009, .cells 50 (k0 e1))] ?_
   obtain ⟨J3, hJ3, hm⟩ := cD hm
   refine A.J (J := J3) (r := r) (fun sg => match sg with | (m_9, fZ, en) => [(0, .ptr 900000074 0), (3, .ptr 8003 0), (4, .ptr 8004 0), (5, .ptr 8005 0), (9, .ptr 8009 0), (33, lf aL p.aC), (34, i6 (p.aC.length:Int)), (35, i6 (j1 : Int))]) (fun sg => match sg with | (m_9, fZ, en) => [(900000074, .cells 74 [lf bx m_9, i6 fZ]), (8003, .cells 28 (k2 p)), (8004, .cells 32 [i6 0, .aW]), (8005, .cells 32 [i6 ay.1, .own 700800501]), (700800501, .slice 39 4 (ml ak en) 0 false), (8009, .cells 50 (k0 e1))]) ?_ ?_
   ·obtain ⟨aK, h4, hm⟩ := af hm
    refine qD [(1, hdc [] (br h4) jl)] [] [(41, .bool (decide ((0:Int) < aK.1)))] [900000074] [(900000074, .cells 74 (k3 aK.2))] ?_
    rcases aA hm with ⟨c3,hm⟩|⟨c3,hm⟩
    ·refine qT c3 ?_
     obtain ⟨l_1, h5, hm⟩ := af hm
     refine qG [(4, hto (lnE ak m_3)), (11, hap 8553 (ap ak (bytes := 32) (by decide) h5))] [41] [] [8005, 700800501] [(8005, .cells 32 [i6 ay.1, .own 8553]), (8553, .slice 39 4 (ml ak l_1) 0 false)] ?_
     exact Exists.intro (aK.2.L, aK.2.At, l_1) (And.intro hm (bz.go [.sw 8553 700800501] [] (by kernel_rfl)))
    refine qF c3 ?_
    refine A.skip ?_
    exact qX (aK.2.L, aK.2.At, m_3) hm
   rintro ⟨m_9, fZ, en⟩ hm
   rw [hJ3] at hm
   refine A.seq ?_
   refine qDs [(2, hto (lnE b9 p.Links))] [] [(56, lf b9 p.Links), (57, i6 (p.Links.length:Int)), (58, i6 0)] ?_
   refine A.block ?_
   refine A.bS 56 rfl fun hb2 => ?_
   obtain ⟨B2, K2, hB2, hK2, hm⟩ := bN hm
   refine A.lpI (l := p.Links) (j0 := 0) (B := B2) (K := K2) hm (fun j2 => fun sg => match sg with | (fK, dA, lG) => [(0, .ptr 900000074 0), (3, .ptr 8003 0), (4, .ptr 8004 0), (5, .ptr 8005 0), (9, .ptr 8009 0), (33, lf aL p.aC), (34, i6 (p.aC.length:Int)), (35, i6 (j1 : Int)), (56, lf b9 p.Links), (57, i6 (p.Links.length:Int)), (58, i6 (j2 : Int))]) (fun j2 => fun sg => match sg with | (fK, dA, lG) => [(900000074, .cells 74 [lf bx dA, i6 lG]), (8003, .cells 28 (k2 p)), (8004, .cells 32 [i6 0, .aW]), (8005, .cells 32 [i6 ay.1, .own 700800501]), (700800501, .slice 39 4 (ml ak fK) 0 false), (8009, .cells 50 (k0 e1))]) ?_ ?_ ?_
   ·exact qW
   ·rintro j2 e2 Z2 ⟨fK, dA, lG⟩ hj2 hx2 hm
    rw [hB2] at hm
    refine qDs [] [] [(59, .bool (decide ((j2 : Int) < (p.Links.length:Int))))] ?_
    refine A.seq ?_
    refine qT (ltT hx2) ?_
    refine A.skip ?_
    show aj _ _ _ _ _
    obtain ⟨J4, hJ4, hm⟩ := cD hm
    refine A.J (J := J4) (r := r) (fun sg => match sg with | (o6, o7, nE) => [(0, .ptr 900000074 0), (3, .ptr 8003 0), (4, .ptr 8004 0), (5, .ptr 8005 0), (9, .ptr 8009 0), (33, lf aL p.aC), (34, i6 (p.aC.length:Int)), (35, i6 (j1 : Int)), (56, lf b9 p.Links), (57, i6 (p.Links.length:Int)), (58, i6 (j2 : Int))]) (fun sg => match sg with | (o6, o7, nE) => [(900000074, .cells 74 [lf bx o6, i6 o7]), (8003, .cells 28 (k2 p)), (8004, .cells 32 [i6 0, .aW]), (8005, .cells 32 [i6 ay.1, .own 700800501]), (700800501, .slice 39 4 (ml ak nE) 0 false), (8009, .cells 50 (k0 e1))]) ?_ ?_
    ·refine A.block ?_
     refine qD [(0, hix (ix b9 (b8 hx2))), (2, .al 8011)] [59] [(11, .ptr 8011 0)] [] [(8011, .cells 80 (k1 e2))] ?_
     refine qDs [] [] [(12, i6 0)] ?_
     obtain ⟨J5, hJ5, hm⟩ := cD hm
     refine A.J (J := J5) (r := r) (fun vN => [(0, .ptr 900000074 0), (3, .ptr 8003 0), (4, .ptr 8004 0), (5, .ptr 8005 0), (9, .ptr 8009 0), (11, .ptr 8011 0), (12, i6 vN), (33, lf aL p.aC), (34, i6 (p.aC.length:Int)), (35, i6 (j1 : Int)), (56, lf b9 p.Links), (57, i6 (p.Links.length:Int)), (58, i6 (j2 : Int))]) (fun vN => [(900000074, .cells 74 [lf bx dA, i6 lG]), (8003, .cells 28 (k2 p)), (8004, .cells 32 [i6 0, .aW]), (8005, .cells 32 [i6 ay.1, .own 700800501]), (700800501, .slice 39 4 (ml ak fK) 0 false), (8009, .cells 50 (k0 e1)), (8011, .cells 80 (k1 e2))]) ?_ ?_
     ·refine qDs [] [] [(66, .bool (decide (e2.A = e1.ID)))] ?_
      rcases aA hm with ⟨c4,hm⟩|⟨c4,hm⟩
      ·refine qT c4 ?_
       refine qGs [] [12, 66] [(12, i6 e2.B)] ?_
       exact qX e2.B hm
      refine qF c4 ?_
      refine A.skip ?_
      exact qX (0:Int) hm
     rintro vN hm
     rw [hJ5] at hm
     obtain ⟨J6, hJ6, hm⟩ := cD hm
     refine A.J (J := J6) (r := r) (fun tJ => [(0, .ptr 900000074 0), (3, .ptr 8003 0), (4, .ptr 8004 0), (5, .ptr 8005 0), (9, .ptr 8009 0), (12, i6 tJ), (33, lf aL p.aC), (34, i6 (p.aC.length:Int)), (35, i6 (j1 : Int)), (56, lf b9 p.Links), (57, i6 (p.Links.length:Int)), (58, i6 (j2 : Int))]) (fun tJ => [(900000074, .cells 74 [lf bx dA, i6 lG]), (8003, .cells 28 (k2 p)), (8004, .cells 32 [i6 0, .aW]), (8005, .cells 32 [i6 ay.1, .own 700800501]), (700800501, .slice 39 4 (ml ak fK) 0 false), (8009, .cells 50 (k0 e1))]) ?_ ?_
     ·refine qDs [] [] [(73, .bool (decide (e2.B = e1.ID)))] ?_
      rcases aA hm with ⟨c5,hm⟩|⟨c5,hm⟩
      ·refine qT c5 ?_
       refine qG [] [11, 12, 73] [(12, i6 e2.A)] [8011] [] ?_
       exact qX e2.A hm
      refine qF c5 ?_
      refine A.skip ?_
      exact qX vN hm
     rintro tJ hm
     rw [hJ6] at hm
     obtain ⟨J7, hJ7, hm⟩ := cD hm
     refine A.J (J := J7) (r := r) (fun sg => match sg with | (v_2, kO, kP) => [(0, .ptr 900000074 0), (3, .ptr 8003 0), (4, .ptr 8004 0), (5, .ptr 8005 0), (9, .ptr 8009 0), (12, i6 tJ), (33, lf aL p.aC), (34, i6 (p.aC.length:Int)), (35, i6 (j1 : Int)), (56, lf b9 p.Links), (57, i6 (p.Links.length:Int)), (58, i6 (j2 : Int)), (82, .bool v_2)]) (fun sg => match sg with | (v_2, kO, kP) => [(900000074, .cells 74 [lf bx kO, i6 kP]), (8003, .cells 28 (k2 p)), (8004, .cells 32 [i6 0, .aW]), (8005, .cells 32 [i6 ay.1, .own 700800501]), (700800501, .slice 39 4 (ml ak fK) 0 false), (8009, .cells 50 (k0 e1))]) ?_ ?_
     ·rcases aA hm with ⟨c6,hm⟩|⟨c6,hm⟩
      ·obtain ⟨cO, h6, hm⟩ := af hm
       refine qG [(2, hto (bE c6)), (4, hdc [] (br h6) jl)] [] [(82, .bool (decide ((0:Int) < cO.1)))] [900000074] [(900000074, .cells 74 (k3 cO.2))] ?_
       exact qX (decide ((0:Int) < cO.1), cO.2.L, cO.2.At) hm
      refine qGs [(2, hto (bE c6))] [] [(82, .bool false)] ?_
      exact qX (false, dA, lG) hm
     rintro ⟨v_2, kO, kP⟩ hm
     rw [hJ7] at hm
     rcases aA hm with ⟨c7,hm⟩|⟨c7,hm⟩
     ·refine qT c7 ?_
      obtain ⟨l_2, h7, hm⟩ := af hm
      refine qG [(4, hto (lnE ak fK)), (10, hap 8593 (ap ak (bytes := 32) (by decide) h7))] [12, 82] [] [8005, 700800501] [(8005, .cells 32 [i6 ay.1, .own 8593]), (8593, .slice 39 4 (ml ak l_2) 0 false)] ?_
      exact Exists.intro (kO, kP, l_2) (And.intro hm (bz.go [.sw 8593 700800501] [] (by kernel_rfl)))
     refine qF c7 ?_
     refine A.skip ?_
     exact qX (kO, kP, fK) hm
    rintro ⟨o6, o7, nE⟩ hm
    rw [hJ4] at hm
    refine qGs [(0, hto (inc hx2 hb2))] [58] [(58, i6 ((j2 + 1 : Nat) : Int))] ?_
    exact qX (nE, o6, o7) hm
   rintro j2 ⟨fK, dA, lG⟩ hj2 hl2 hm
   rw [hK2] at hm
   refine qDs [] [] [(59, .bool (decide ((j2 : Int) < (p.Links.length:Int))))] ?_
   refine A.seq ?_
   refine qF (ltF hl2) ?_
   refine A.exit ?_
   show aj _ _ _ _ _
   obtain ⟨aU, h8, hm⟩ := af hm
   obtain ⟨e_1, h9, hm⟩ := af hm
   refine qD [(5, hto (lnE aL p.aC)), (6, hdc [] (br h8) jl), (7, hix (ix aL h9))] [56, 57, 58, 59] [(13, i6 e_1.ID)] [900000074] [(900000074, .cells 74 (k3 aU.2))] ?_
   obtain ⟨J8, hJ8, hm⟩ := cD hm
   refine A.J (J := J8) (r := r) (fun sg => match sg with | (v_3, jB, kQ) => [(0, .ptr 900000074 0), (3, .ptr 8003 0), (4, .ptr 8004 0), (5, .ptr 8005 0), (9, .ptr 8009 0), (13, i6 e_1.ID), (33, lf aL p.aC), (34, i6 (p.aC.length:Int)), (35, i6 (j1 : Int)), (114, .bool v_3)]) (fun sg => match sg with | (v_3, jB, kQ) => [(900000074, .cells 74 [lf bx jB, i6 kQ]), (8003, .cells 28 (k2 p)), (8004, .cells 32 [i6 0, .aW]), (8005, .cells 32 [i6 ay.1, .own 700800501]), (700800501, .slice 39 4 (ml ak fK) 0 false), (8009, .cells 50 (k0 e1))]) ?_ ?_
   ·rcases aA hm with ⟨c8,hm⟩|⟨c8,hm⟩
    ·obtain ⟨dh, h10, hm⟩ := af hm
     refine qG [(4, hto (bE c8)), (6, hdc [] (br h10) jl)] [] [(114, .bool (decide (dh.1 = (0:Int))))] [900000074] [(900000074, .cells 74 (k3 dh.2))] ?_
     exact qX (decide (dh.1 = (0:Int)), dh.2.L, dh.2.At) hm
    refine qGs [(4, hto (bE c8))] [] [(114, .bool false)] ?_
    exact qX (false, aU.2.L, aU.2.At) hm
   rintro ⟨v_3, jB, kQ⟩ hm
   rw [hJ8] at hm
   rcases aA hm with ⟨c9,hm⟩|⟨c9,hm⟩
   ·refine qT c9 ?_
    obtain ⟨l_3, h11, hm⟩ := af hm
    refine qG [(4, hto (lnE ak fK)), (10, hap 8625 (ap ak (bytes := 32) (by decide) h11))] [9, 13, 114] [] [8005, 700800501, 8009] [(8005, .cells 32 [i6 ay.1, .own 8625]), (8625, .slice 39 4 (ml ak l_3) 0 false)] ?_
    exact Exists.intro (jB, kQ, l_3) (And.intro hm (bz.go [.sw 8625 700800501] [] (by kernel_rfl)))
   refine qF c9 ?_
   refine A.skip ?_
   exact qX (jB, kQ, fK) hm
  rintro ⟨m_6, m_7, m_8⟩ hm
  rw [hJ2] at hm
  refine qGs [(0, hto (inc hx1 hb1))] [35] [(35, i6 ((j1 + 1 : Nat) : Int))] ?_
  exact qX (m_8, m_6, m_7) hm
 rintro j1 ⟨m_3, m_4, m_5⟩ hj1 hl1 hm
 rw [hK1] at hm
 refine qDs [] [] [(36, .bool (decide ((j1 : Int) < (p.aC.length:Int))))] ?_
 refine A.seq ?_
 refine qF (ltF hl1) ?_
 refine A.exit ?_
 show aj _ _ _ _ _
 obtain ⟨l_4, h12, hm⟩ := af hm
 refine qD [(4, hto (lnE ak m_3)), (8, hcu 8636 alI (sl ak h12))] [3, 33, 34, 35, 36] [] [8003, 8005, 700800501] [(8005, .cells 32 [i6 ay.1, .own 8636]), (8636, .slice 39 4 (ml ak l_4) 0 false)] ?_
 obtain ⟨J9, hJ9, hm⟩ := cD hm
 refine A.J (J := J9) (r := r) (fun sg => match sg with | (mo, pX, pY) => [(4, .ptr 8004 0), (5, .ptr 8005 0)]) (fun sg => match sg with | (mo, pX, pY) => [(900000074, .cells 74 [lf bx mo, i6 pX]), (8004, .cells 32 [i6 0, .aW]), (8005, .cells 32 [i6 ay.1, .own 700800501]), (700800501, .slice 39 4 (ml ak pY) 0 false)]) ?_ ?_
 ·obtain ⟨J10, ab8, hm⟩ := cD hm
  refine A.J (J := J10) (r := r) (fun sg => match sg with | (v_4, mQ, mR) => [(4, .ptr 8004 0), (5, .ptr 8005 0), (148, .bool v_4)]) (fun sg => match sg with | (v_4, mQ, mR) => [(900000074, .cells 74 [lf bx mQ, i6 mR]), (8004, .cells 32 [i6 0, .aW]), (8005, .cells 32 [i6 ay.1, .own 8636]), (8636, .slice 39 4 (ml ak l_4) 0 false)]) ?_ ?_
  ·obtain ⟨de, h13, hm⟩ := af hm
   rcases aA hm with ⟨c10,hm⟩|⟨c10,hm⟩
   ·refine qG [(1, hdc [] (br h13) jl), (3, hto (bE c10)), (6, hto (lnE ak l_4))] [0] [(148, .bool (decide ((l_4.length:Int) < ay.1)))] [900000074] [(900000074, .cells 74 (k3 de.2))] ?_
    exact qX (decide ((l_4.length:Int) < ay.1), de.2.L, de.2.At) hm
   refine qG [(1, hdc [] (br h13) jl), (3, hto (bE c10))] [0] [(148, .bool false)] [900000074] [(900000074, .cells 74 (k3 de.2))] ?_
   exact qX (false, de.2.L, de.2.At) hm
  rintro ⟨v_4, mQ, mR⟩ hm
  rw [ab8] at hm
  rcases aA hm with ⟨c11,hm⟩|⟨c11,hm⟩
  ·refine qT c11 ?_
   refine qDs [(2, hto (lnE ak l_4))] [148] [(151, i6 (l_4.length:Int)), (152, i6 0)] ?_
   refine A.block ?_
   refine A.bD 5 1 rfl rfl rfl rfl fun hb3 => ?_
   obtain ⟨B3, K3, hB3, hK3, hm⟩ := bN hm
   refine A.lpI (l := l_4) (j0 := 0) (B := B3) (K := K3) hm (fun j3 => fun kR => [(4, .ptr 8004 0), (5, .ptr 8005 0), (151, i6 (l_4.length:Int)), (152, i6 (j3 : Int))]) (fun j3 => fun kR => [(900000074, .cells 74 [lf bx mQ, i6 mR]), (8004, .cells 32 [i6 0, .aW]), (8005, .cells 32 [i6 ay.1, .own 700800501]), (700800501, .slice 39 4 (ml ak kR) 0 false)]) ?_ ?_ ?_
   ·exact bz.go [.sw 8636 700800501] [] (by kernel_rfl)
   ·rintro j3 e3 Z3 kR hj3 hx3 hm
    rw [hB3] at hm
    refine qDs [] [] [(153, .bool (decide ((j3 : Int) < (l_4.length:Int))))] ?_
    refine A.seq ?_
    refine qT (ltT hx3) ?_
    refine A.skip ?_
    show aj _ _ _ _ _
    refine A.seq ?_
    refine A.block ?_
    refine qDs [] [153] [(14, i6 (j3 : Int))] ?_
    obtain ⟨e_2, h14, hm⟩ := af hm
    obtain ⟨l_5, h15, hm⟩ := af hm
    refine qG [(3, hix (ix ak h14)), (5, hlo 700800501 0 (ix ak h14)), (10, hto (lnE ak kR)), (13, hix (ix ak h14)), (15, hso 700800501 (st ak (off := 0) (ca := [i6 (w64 (e_2.Bit + (w64 (ay.1 - (kR.length:Int)))))]) h14 h15 rfl) (wK h14).1.1)] [14] [] [700800501] [(700800501, .slice 39 4 (ml ak l_5) 0 false)] ?_
    show aj _ _ _ _ _
    refine qGs [(0, hto (inc hx3 hb3))] [152] [(152, i6 ((j3 + 1 : Nat) : Int))] ?_
    exact qX l_5 hm
   rintro j3 kR hj3 hl3 hm
   rw [hK3] at hm
   refine qDs [] [] [(153, .bool (decide ((j3 : Int) < (l_4.length:Int))))] ?_
   refine A.seq ?_
   refine qF (ltF hl3) ?_
   refine A.exit ?_
   exact qX (mQ, mR, kR) hm
  refine qF c11 ?_
  refine A.skip ?_
  exact Exists.intro (mQ, mR, l_4) (And.intro hm (bz.go [.sw 8636 700800501] [] (by kernel_rfl)))
 rintro ⟨mo, pX, pY⟩ hm
 rw [hJ9] at hm
 refine qD [] [5] [] [8004, 8005] [(8004, .cells 32 [i6 ay.1, .own 700800501])] ?_
 refine A.ret ?_
 obtain rfl := some_inj hm
 exact A.fin W0 [.fz [700800501]] rfl (by kernel_rfl)
end Go.Proofs.Ytdjeacigeegklaa
