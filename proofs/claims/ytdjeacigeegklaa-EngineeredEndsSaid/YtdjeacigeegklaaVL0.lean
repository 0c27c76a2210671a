/- The iY of ee of the program. No condition but bL aY stand in each. -/
import Derived.Test.YtdjeacigeegklaaDL0
import Derived.Test.YtdjeacigeegklaaVN
import Derived.Test.YtdjeacigeegklaaVX
import Derived.Test.YtdjeacigeegklaaVE
import Derived.Test.YtdjeacigeegklaaVL
namespace Go.Proofs.Ytdjeacigeegklaa
open Go
set_option maxRecDepth 100000
set_option linter.all false
theorem qm {t : List Int} {r : Bool} (hm : ir t = some r) : RO Try.prog 3 [] [lf bx t] (.bool r) := by
 refine bO Try.func3 rfl rfl ?_
 unfold ir at hm
 refine qS [] [(0, lf bx t)] [] ?_
 obtain ⟨ay, h1, hm⟩ := af hm
 refine qS [(1, hdc [900000074] (lE h1) ck6)] [(3, .ptr 900000074 0)] [(900000074, .cells 74 (k3 ay))] ?_
 obtain ⟨aV, h2, hm⟩ := af hm
 refine qD [(1, hdc [] (mS h2) ck7), (2, .al 3004)] [] [(4, .ptr 3004 0)] [900000074] [(900000074, .cells 74 (k3 aV.2)), (3004, .cells 28 (k2 aV.1))] ?_
 obtain ⟨bu, h3, hm⟩ := af hm
 refine qD [(2, hdc [] (rW h3) ck8), (3, .al 3005)] [] [(5, .ptr 3005 0)] [900000074] [(900000074, .cells 74 (k3 bu.2)), (3005, .cells 32 (k5 bu.1))] ?_
 obtain ⟨aK, h4, hm⟩ := af hm
 refine qD [(2, hdc [] (qd h4) ck9), (3, .al 3006)] [] [(6, .ptr 3006 0)] [900000074] [(900000074, .cells 74 (k3 aK.2)), (3006, .cells 36 (k7 aK.1))] ?_
 refine qD [] [] [] [3006] [(3006, .cells 36 [i6 aK.1.Mode, i6 aK.1.bQ, i6 aK.1.Set, i6 aK.1.Length, i6 63, i6 aK.1.cv, i6 aK.1.cw, i6 aK.1.dx, .int .u64 aK.1.Bits, .str aK.1.cz])] ?_
 refine A.seq ?_
 refine qDs [(2, hto (lnE ak bu.1.List))] [] [(31, lf ak bu.1.List), (32, i6 (bu.1.List.length:Int)), (33, i6 0)] ?_
 refine A.block ?_
 refine A.bS 31 rfl fun hb1 => ?_
 obtain ⟨B1, K1, hB1, hK1, hm⟩ := bN hm
 refine A.lpI (l := bu.1.List) (j0 := 0) (B := B1) (K := K1) hm (fun j1 => fun m_1 => [(3, .ptr 900000074 0), (4, .ptr 3004 0), (5, .ptr 3005 0), (6, .ptr 3006 0), (31, lf ak bu.1.List), (32, i6 (bu.1.List.length:Int)), (33, i6 (j1 : Int))]) (fun j1 => fun m_1 => [(900000074, .cells 74 (k3 aK.2)), (3004, .cells 28 (k2 aV.1)), (3005, .cells 32 (k5 bu.1)), (3006, .cells 36 [i6 aK.1.Mode, i6 aK.1.bQ, i6 aK.1.Set, i6 aK.1.Length, i6 63, i6 aK.1.cv, i6 aK.1.cw, i6 aK.1.dx, .int .u64 m_1, .str aK.1.cz])]) ?_ ?_ ?_
 ·exact qW
 ·rintro j1 e1 Z1 m_1 hj1 hx1 hm
  rw [hB1] at hm
  refine qDs [] [] [(34, .bool (decide ((j1 : Int) < (bu.1.List.length:Int))))] ?_
  refine A.seq ?_
  refine qT (ltT hx1) ?_
  refine A.skip ?_
  show aj _ _ _ _ _
  obtain ⟨J1, hJ1, hm⟩ := cD hm
  refine A.J (J := J1) (r := r) (fun m_2 => [(3, .ptr 900000074 0), (4, .ptr 3004 0), (5, .ptr 3005 0), (6, .ptr 3006 0), (31, lf ak bu.1.List), (32, i6 (bu.1.List.length:Int)), (33, i6 (j1 : Int))]) (fun m_2 => [(900000074, .cells 74 (k3 aK.2)), (3004, .cells 28 (k2 aV.1)), (3005, .cells 32 (k5 bu.1)), (3006, .cells 36 [i6 aK.1.Mode, i6 aK.1.bQ, i6 aK.1.Set, i6 aK.1.Length, i6 63, i6 aK.1.cv, i6 aK.1.cw, i6 aK.1.dx, .int .u64 m_2, .str aK.1.cz])]) ?_ ?_
  ·refine A.block ?_
   refine qD [(0, hix (ix ak (b8 hx1))), (2, .al 3008)] [34] [(8, .ptr 3008 0)] [] [(3008, .cells 39 (k4 e1))] ?_
   refine qDs [] [] [(39, .bool (decide (e1.Kind = (2:Int))))] ?_
   rcases aA hm with ⟨c1,hm⟩|⟨c1,hm⟩
   ·refine qT c1 ?_
    obtain ⟨h5, hm⟩ := eB hm
    refine qG [(5, .sh (IntKind.wrap .u64 e1.Bit) (of_decide_eq_true h5))] [8, 39] [] [3006, 3008] [(3006, .cells 36 [i6 aK.1.Mode, i6 aK.1.bQ, i6 aK.1.Set, i6 aK.1.Length, i6 63, i6 aK.1.cv, i6 aK.1.cw, i6 aK.1.dx, .int .u64 (bH .andNot .u64 m_1 (IntKind.wrap .u64 ((1:Int) * 2 ^ min (IntKind.wrap .u64 e1.Bit).toNat 64))), .str aK.1.cz])] ?_
    exact qX (bH .andNot .u64 m_1 (IntKind.wrap .u64 ((1:Int) * 2 ^ min (IntKind.wrap .u64 e1.Bit).toNat 64))) hm
   refine qF c1 ?_
   refine A.skip ?_
   exact qX m_1 hm
  rintro m_2 hm
  rw [hJ1] at hm
  refine qGs [(0, hto (inc hx1 hb1))] [33] [(33, i6 ((j1 + 1 : Nat) : Int))] ?_
  exact qX m_2 hm
 rintro j1 m_1 hj1 hl1 hm
 rw [hK1] at hm
 refine qDs [] [] [(34, .bool (decide ((j1 : Int) < (bu.1.List.length:Int))))] ?_
 refine A.seq ?_
 refine qF (ltF hl1) ?_
 refine A.exit ?_
 show aj _ _ _ _ _
 obtain ⟨cO, h6, hm⟩ := af hm
 obtain ⟨e_1, h7, hm⟩ := af hm
 obtain ⟨aU, h8, hm⟩ := af hm
 refine qD [(8, hto (lnE aL aV.1.aC)), (9, hdc [] (br h6) jl), (10, hix (ix aL h7)), (13, hro (lV h8) afo), (17, .al 3009)] [3, 4, 31, 32, 33, 34] [(9, .ptr 3009 0), (10, i6 aU.2)] [900000074, 3004] [(3009, .cells 45 (k12 aU.1))] ?_
 refine A.seq ?_
 refine qDs [] [] [(67, .bool (!decide (aU.2 = (0:Int))))] ?_
 rcases aA hm with ⟨c2,hm⟩|⟨c2,hm⟩
 ·refine qT c2 ?_
  rcases aA hm with ⟨c3,hm⟩|⟨c3,hm⟩
  ·obtain ⟨dh, h9, hm⟩ := af hm
   refine qS [(2, hto (bE c3)), (3, hro (gu h9) w6)] [(2, .bool dh)] [] ?_
   cases hm
   exact A.ret qE
  refine qS [(2, hto (bE c3))] [(2, .bool false)] [] ?_
  cases hm
  exact A.ret qE
 refine qF c2 ?_
 refine A.skip ?_
 show aj _ _ _ _ _
 refine A.seq ?_
 refine qDs [(2, hto (lnE cG aU.1.cB))] [10, 67] [(74, lf cG aU.1.cB), (75, i6 (aU.1.cB.length:Int)), (76, i6 0)] ?_
 refine A.block ?_
 refine A.bS 74 rfl fun hb2 => ?_
 obtain ⟨B2, K2, hB2, hK2, hm⟩ := bN hm
 refine A.lpI (l := aU.1.cB) (j0 := 0) (B := B2) (K := K2) hm (fun j2 => fun sg => match sg with | () => [(5, .ptr 3005 0), (6, .ptr 3006 0), (9, .ptr 3009 0), (74, lf cG aU.1.cB), (75, i6 (aU.1.cB.length:Int)), (76, i6 (j2 : Int))]) (fun j2 => fun sg => match sg with | () => [(3005, .cells 32 (k5 bu.1)), (3006, .cells 36 [i6 aK.1.Mode, i6 aK.1.bQ, i6 aK.1.Set, i6 aK.1.Length, i6 63, i6 aK.1.cv, i6 aK.1.cw, i6 aK.1.dx, .int .u64 m_1, .str aK.1.cz]), (3009, .cells 45 (k12 aU.1))]) ?_ ?_ ?_
 ·exact qW
 ·rintro j2 e2 Z2 ⟨⟩ hj2 hx2 hm
  rw [hB2] at hm
  refine qDs [] [] [(77, .bool (decide ((j2 : Int) < (aU.1.cB.length:Int))))] ?_
  refine A.seq ?_
  refine qT (ltT hx2) ?_
  refine A.skip ?_
  show aj _ _ _ _ _
  refine A.seq ?_
  refine A.block ?_
  refine qD [(0, hix (ix cG (b8 hx2))), (2, .al 3012)] [77] [(12, .ptr 3012 0)] [] [(3012, .cells 54 (k10 e2))] ?_
  refine A.seq ?_
  obtain ⟨J2, hJ2, hm⟩ := cD hm
  refine A.J (J := J2) (r := r) (fun v_1 => [(5, .ptr 3005 0), (6, .ptr 3006 0), (9, .ptr 3009 0), (12, .ptr 3012 0), (74, lf cG aU.1.cB), (75, i6 (aU.1.cB.length:Int)), (76, i6 (j2 : Int)), (100, .bool v_1)]) (fun v_1 => [(3005, .cells 32 (k5 bu.1)), (3006, .cells 36 [i6 aK.1.Mode, i6 aK.1.bQ, i6 aK.1.Set, i6 aK.1.Length, i6 63, i6 aK.1.cv, i6 aK.1.cw, i6 aK.1.dx, .int .u64 m_1, .str aK.1.cz]), (3009, .cells 45 (k12 aU.1)), (3012, .cells 54 (k10 e2))]) ?_ ?_
  ·rcases aA hm with ⟨c4,hm⟩|⟨c4,hm⟩
   ·refine qGs [(3, hto (bE c4))] [] [(100, .bool true)] ?_
    exact qX true hm
   rcases aA hm with ⟨c5,hm⟩|⟨c5,hm⟩
   ·refine qGs [(3, hto (bE c4)), (11, hto (bE c5))] [] [(100, .bool true)] ?_
    exact qX true hm
   obtain ⟨de, h10, hm⟩ := af hm
   refine qGs [(3, hto (bE c4)), (11, hto (bE c5)), (17, hro (yF h10) ck13)] [] [(100, .bool (!decide (bH .and .u64 e2.Bits de = (0:Int))))] ?_
   exact qX (!decide (bH .and .u64 e2.Bits de = (0:Int))) hm
  rintro v_1 hm
  rw [hJ2] at hm
  rcases aA hm with ⟨c6,hm⟩|⟨c6,hm⟩
  ·refine qT c6 ?_
   refine qS [] [(2, .bool false)] [] ?_
   cases hm
   exact A.ret qE
  refine qF c6 ?_
  refine A.skip ?_
  show aj _ _ _ _ _
  obtain ⟨iG, h11, hm⟩ := af hm
  refine qD [(5, hro (rU h11) an1)] [12, 100] [(13, i6 iG.1), (14, .bool iG.2)] [3012] [] ?_
  obtain ⟨J3, hJ3, hm⟩ := cD hm
  refine A.J (J := J3) (r := r) (fun v_2 => [(5, .ptr 3005 0), (6, .ptr 3006 0), (9, .ptr 3009 0), (74, lf cG aU.1.cB), (75, i6 (aU.1.cB.length:Int)), (76, i6 (j2 : Int)), (120, .bool v_2)]) (fun v_2 => [(3005, .cells 32 (k5 bu.1)), (3006, .cells 36 [i6 aK.1.Mode, i6 aK.1.bQ, i6 aK.1.Set, i6 aK.1.Length, i6 63, i6 aK.1.cv, i6 aK.1.cw, i6 aK.1.dx, .int .u64 m_1, .str aK.1.cz]), (3009, .cells 45 (k12 aU.1))]) ?_ ?_
  ·rcases aA hm with ⟨c7,hm⟩|⟨c7,hm⟩
   ·refine qGs [(2, hto (bE c7))] [13, 14] [(120, .bool true)] ?_
    exact qX true hm
   obtain ⟨h12, hm⟩ := eB hm
   refine qGs [(2, hto (bE c7)), (7, .sh (IntKind.wrap .u64 iG.1) (of_decide_eq_true h12))] [13, 14] [(120, .bool (decide (bH .and .u64 (Int.fdiv m_1 (2 ^ min (IntKind.wrap .u64 iG.1).toNat 64)) (1:Int) = (0:Int))))] ?_
   exact qX (decide (bH .and .u64 (Int.fdiv m_1 (2 ^ min (IntKind.wrap .u64 iG.1).toNat 64)) (1:Int) = (0:Int))) hm
  rintro v_2 hm
  rw [hJ3] at hm
  rcases aA hm with ⟨c8,hm⟩|⟨c8,hm⟩
  ·refine qT c8 ?_
   refine qS [] [(2, .bool false)] [] ?_
   cases hm
   exact A.ret qE
  refine qF c8 ?_
  refine A.skip ?_
  show aj _ _ _ _ _
  refine qGs [(0, hto (inc hx2 hb2))] [76, 120] [(76, i6 ((j2 + 1 : Nat) : Int))] ?_
  exact qX () hm
 rintro j2 ⟨⟩ hj2 hl2 hm
 rw [hK2] at hm
 refine qDs [] [] [(77, .bool (decide ((j2 : Int) < (aU.1.cB.length:Int))))] ?_
 refine A.seq ?_
 refine qF (ltF hl2) ?_
 refine A.exit ?_
 show aj _ _ _ _ _
 refine A.seq ?_
 refine qD [(2, hto (lnE ck aU.1.cK))] [6, 74, 75, 76, 77] [(123, lf ck aU.1.cK), (124, i6 (aU.1.cK.length:Int)), (125, i6 0)] [3006] [] ?_
 refine A.block ?_
 refine A.bS 123 rfl fun hb3 => ?_
 obtain ⟨B3, K3, hB3, hK3, hm⟩ := bN hm
 refine A.lpI (l := aU.1.cK) (j0 := 0) (B := B3) (K := K3) hm (fun j3 => fun sg => match sg with | () => [(5, .ptr 3005 0), (9, .ptr 3009 0), (123, lf ck aU.1.cK), (124, i6 (aU.1.cK.length:Int)), (125, i6 (j3 : Int))]) (fun j3 => fun sg => match sg with | () => [(3005, .cells 32 (k5 bu.1)), (3009, .cells 45 (k12 aU.1))]) ?_ ?_ ?_
 ·exact qW
 ·rintro j3 e3 Z3 ⟨⟩ hj3 hx3 hm
  rw [hB3] at hm
  refine qDs [] [] [(126, .bool (decide ((j3 : Int) < (aU.1.cK.length:Int))))] ?_
  refine A.seq ?_
  refine qT (ltT hx3) ?_
  refine A.skip ?_
  show aj _ _ _ _ _
  refine A.seq ?_
  refine A.block ?_
  refine qD [(0, hix (ix ck (b8 hx3))), (2, .al 3016)] [126] [(16, .ptr 3016 0)] [] [(3016, .cells 59 [i6 e3.aR, i6 e3.aJ.Mode, i6 e3.aJ.bQ, i6 e3.aJ.Set, i6 e3.aJ.Length, i6 e3.aJ.TTL, i6 e3.aJ.cv, i6 e3.aJ.cw, i6 e3.aJ.dx, .int .u64 e3.aJ.Bits, .str e3.aJ.cz])] ?_
  obtain ⟨gV, h13, hm⟩ := af hm
  refine qDs [(5, hro (rU h13) an1)] [] [(17, i6 gV.1), (18, .bool gV.2)] ?_
  obtain ⟨J4, hJ4, hm⟩ := cD hm
  refine A.J (J := J4) (r := r) (fun v_3 => [(5, .ptr 3005 0), (9, .ptr 3009 0), (123, lf ck aU.1.cK), (124, i6 (aU.1.cK.length:Int)), (125, i6 (j3 : Int)), (148, .bool v_3)]) (fun v_3 => [(3005, .cells 32 (k5 bu.1)), (3009, .cells 45 (k12 aU.1))]) ?_ ?_
  ·rcases aA hm with ⟨c9,hm⟩|⟨c9,hm⟩
   ·refine qG [(2, hto (bE c9))] [16, 17, 18] [(148, .bool true)] [3016] [] ?_
    exact qX true hm
   obtain ⟨h14, hm⟩ := eB hm
   refine qG [(2, hto (bE c9)), (8, .sh (IntKind.wrap .u64 gV.1) (of_decide_eq_true h14))] [16, 17, 18] [(148, .bool (!decide (e3.aJ.Bits = IntKind.wrap .u64 ((1:Int) * 2 ^ min (IntKind.wrap .u64 gV.1).toNat 64))))] [3016] [] ?_
   exact qX (!decide (e3.aJ.Bits = IntKind.wrap .u64 ((1:Int) * 2 ^ min (IntKind.wrap .u64 gV.1).toNat 64))) hm
  rintro v_3 hm
  rw [hJ4] at hm
  rcases aA hm with ⟨c10,hm⟩|⟨c10,hm⟩
  ·refine qT c10 ?_
   refine qS [] [(2, .bool false)] [] ?_
   cases hm
   exact A.ret qE
  refine qF c10 ?_
  refine A.skip ?_
  show aj _ _ _ _ _
  refine qGs [(0, hto (inc hx3 hb3))] [125, 148] [(125, i6 ((j3 + 1 : Nat) : Int))] ?_
  exact qX () hm
 rintro j3 ⟨⟩ hj3 hl3 hm
 rw [hK3] at hm
 refine qDs [] [] [(126, .bool (decide ((j3 : Int) < (aU.1.cK.length:Int))))] ?_
 refine A.seq ?_
 refine qF (ltF hl3) ?_
 refine A.exit ?_
 show aj _ _ _ _ _
 rcases aA hm with ⟨c11,hm⟩|⟨c11,hm⟩
 ·obtain ⟨mF, h15, hm⟩ := af hm
  refine qS [(2, hto (lnE gl aU.1.ng)), (4, hto (bE c11)), (5, hro (gu h15) w6)] [(2, .bool mF)] [] ?_
  cases hm
  exact A.ret qE
 refine qS [(2, hto (lnE gl aU.1.ng)), (4, hto (bE c11))] [(2, .bool false)] [] ?_
 cases hm
 exact A.ret qE
end Go.Proofs.Ytdjeacigeegklaa
