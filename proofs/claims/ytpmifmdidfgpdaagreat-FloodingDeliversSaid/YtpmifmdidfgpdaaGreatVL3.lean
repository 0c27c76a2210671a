/- The eM of ct of the program. No condition but bU bB stand in each. -/
import Derived.Test.YtpmifmdidfgpdaaGreatDL3
import Derived.Test.YtpmifmdidfgpdaaGreatVQ
import Derived.Test.YtpmifmdidfgpdaaGreatVL
namespace Go.Proofs.YtpmifmdidfgpdaaGreat
open Go
set_option maxRecDepth 100000
set_option linter.all false
theorem sP {t : List Int} {raw : aB} {k : Int} {r : Bool} (hm : iC t raw k = some r) : RO Tryz.prog 8 [] [lf bJ t, .agg (k11 raw), i6 k] (.bool r) := by
 refine aR Tryz.func8 rfl rfl ?_
 unfold iC at hm
 refine qS [(0, .al 8004)] [(0, lf bJ t), (2, i6 k), (4, .ptr 8004 0)] [(8004, .cells 27 (k11 raw))] ?_
 obtain ⟨af, h1, hm⟩ := aa hm
 refine qD [(1, hdc [900000074] (adq h1) ck9)] [0] [(7, .ptr 900000074 0)] [] [(900000074, .cells 74 (k3 af))] ?_
 obtain ⟨ay, h2, hm⟩ := aa hm
 obtain ⟨aJ, h3, hm⟩ := aa hm
 obtain ⟨bk, h4, hm⟩ := aa hm
 refine qD [(2, hdc [] (sO h2) apv), (3, hdc [] (zQ h3) ck10), (5, hdc [] (sO h4) apv)] [] [(8, .lst true (ml gU ([aJ.1, bk.1, raw] : List aB)))] [900000074] [(900000074, .cells 74 (k3 bk.2))] ?_
 refine A.seq ?_
 refine qDs [] [] [(9, i6 0)] ?_
 refine A.block ?_
 obtain ⟨F1, n1, hF1, hm⟩ := fZ hm
 refine A.lpW (F := F1) hm (fun sg => match sg with | (i_1, m_1, m_2) => [(2, i6 k), (4, .ptr 8004 0), (7, .ptr 900000074 0), (8, .lst true (ml gU ([aJ.1, bk.1, raw] : List aB))), (9, i6 i_1)]) (fun sg => match sg with | (i_1, m_1, m_2) => [(8004, .cells 27 (k11 raw)), (900000074, .cells 74 [lf bJ m_1, i6 m_2])]) ?_ ?_
 ·exact qW
 rintro Z1 ⟨i_1, m_1, m_2⟩ hm
 rw [hF1] at hm
 refine A.seq ?_
 obtain ⟨J1, hJ1, hm⟩ := bK hm
 refine A.J (J := J1) (r := r) (fun v_1 => [(2, i6 k), (4, .ptr 8004 0), (7, .ptr 900000074 0), (8, .lst true (ml gU ([aJ.1, bk.1, raw] : List aB))), (9, i6 i_1), (42, .bool v_1)]) (fun v_1 => [(8004, .cells 27 (k11 raw)), (900000074, .cells 74 [lf bJ m_1, i6 m_2])]) ?_ ?_
 ·rcases ah hm with ⟨c1,hm⟩|⟨c1,hm⟩
  ·obtain ⟨bF, h5, hm⟩ := aa hm
   refine qGs [(2, hto (lnE gU ([aJ.1, bk.1, raw] : List aB))), (4, hto (bE c1)), (6, hro (aa8 h5) ck12)] [] [(42, .bool (!bF))] ?_
   exact qX (!bF) hm
  refine qGs [(2, hto (lnE gU ([aJ.1, bk.1, raw] : List aB))), (4, hto (bE c1))] [] [(42, .bool false)] ?_
  exact qX false hm
 rintro v_1 hm
 rw [hJ1] at hm
 rcases ah hm with ⟨c2,hm⟩|⟨c2,hm⟩
 ·refine qT c2 ?_
  refine A.skip ?_
  show ai _ _ _ _ _
  refine A.seq ?_
  refine A.block ?_
  obtain ⟨bR, h6, hm⟩ := aa hm
  refine qD [(2, hdc [] (ez h6) wq)] [42] [(10, .lst true (ml bJ ([k, bR.1, (0:Int)] : List Int)))] [900000074] [(900000074, .cells 74 (k3 bR.2))] ?_
  refine qDs [] [] [(11, i6 0)] ?_
  refine A.block ?_
  obtain ⟨B2, K2, hB2, hK2, hm⟩ := iF hm
  refine A.lpN (hi := (3:Int)) (B := B2) (K := K2) hm rfl (fun j2 => fun sg => match sg with | () => [(2, i6 k), (4, .ptr 8004 0), (7, .ptr 900000074 0), (8, .lst true (ml gU ([aJ.1, bk.1, raw] : List aB))), (9, i6 i_1), (10, .lst true (ml bJ ([k, bR.1, (0:Int)] : List Int))), (11, i6 (j2 : Int))]) (fun j2 => fun sg => match sg with | () => [(8004, .cells 27 (k11 raw)), (900000074, .cells 74 (k3 bR.2))]) ?_ ?_ ?_
  ·exact qW
  ·rintro j2 Z2 ⟨⟩ hj2 hx2 hm
   rw [hB2] at hm
   refine A.seq ?_
   refine qDs [] [] [(50, .bool (decide ((j2 : Int) < (3:Int))))] ?_
   refine A.cT rfl (decide_eq_true hx2) ?_
   refine A.skip ?_
   show ai _ _ _ _ _
   refine A.seq ?_
   refine A.block ?_
   obtain ⟨e_1, h7, hm⟩ := aa hm
   obtain ⟨e_2, h8, hm⟩ := aa hm
   obtain ⟨cG, h9, hm⟩ := aa hm
   refine qD [(2, hix (ix gU h7)), (6, hix (ix bJ h8)), (8, hro (vN h9) ck41), (12, .al 8012)] [50] [(12, .ptr 8012 0), (13, i6 cG.2)] [] [(8012, .cells 27 (k11 cG.1))] ?_
   obtain ⟨cQ, h10, hm⟩ := aa hm
   refine qD [(2, hix (ix gU h7)), (6, hix (ix bJ h8)), (8, hro (xQ h10) ck42), (12, .al 8014)] [] [(14, .ptr 8014 0), (15, i6 cQ.2)] [] [(8014, .cells 27 (k11 cQ.1))] ?_
   obtain ⟨dA, h11, hm⟩ := aa hm
   refine qD [(2, hix (ix gU h7)), (6, hix (ix bJ h8)), (8, hro (xP h11) ck43), (12, .al 8016)] [] [(16, .ptr 8016 0), (17, i6 dA.2)] [] [(8016, .cells 27 (k11 dA.1))] ?_
   obtain ⟨bN, h12, hm⟩ := aa hm
   refine qD [(2, hix (ix gU h7)), (6, hix (ix bJ h8)), (8, hro (aaw h12) ck44), (12, .al 8018)] [] [(18, .ptr 8018 0), (19, i6 bN.2)] [] [(8018, .cells 27 (k11 bN.1))] ?_
   obtain ⟨dI, h13, hm⟩ := aa hm
   refine qD [(2, hix (ix gU h7)), (6, hix (ix bJ h8)), (8, hro (rE h13) apz), (12, .al 8020)] [] [(20, .ptr 8020 0), (21, i6 dI.2)] [] [(8020, .cells 27 (k11 dI.1))] ?_
   obtain ⟨bZ, h14, hm⟩ := aa hm
   refine qD [(2, hix (ix gU h7)), (6, hix (ix bJ h8)), (8, hro (yR h14) ck45), (12, .al 8022)] [] [(22, .ptr 8022 0), (23, i6 bZ.2)] [] [(8022, .cells 27 (k11 bZ.1))] ?_
   obtain ⟨J2, hJ2, hm⟩ := bK hm
   refine A.J (J := J2) (r := r) (fun v_2 => [(2, i6 k), (4, .ptr 8004 0), (7, .ptr 900000074 0), (8, .lst true (ml gU ([aJ.1, bk.1, raw] : List aB))), (9, i6 i_1), (10, .lst true (ml bJ ([k, bR.1, (0:Int)] : List Int))), (11, i6 (j2 : Int)), (155, .bool v_2)]) (fun v_2 => [(8004, .cells 27 (k11 raw)), (900000074, .cells 74 (k3 bR.2))]) ?_ ?_
   ·obtain ⟨fN, h15, hm⟩ := aa hm
    rcases ah hm with ⟨c3,hm⟩|⟨c3,hm⟩
    ·refine qG [(2, hro (dW h15) s7), (4, hto (bE c3))] [12, 13, 14, 15, 16, 17, 18, 19, 20, 21, 22, 23] [(155, .bool true)] [8012, 8014, 8016, 8018, 8020, 8022] [] ?_
     exact qX true hm
    rcases ah hm with ⟨c4,hm⟩|⟨c4,hm⟩
    ·refine qG [(2, hro (dW h15) s7), (4, hto (bE c3)), (9, hto (bE c4))] [12, 13, 14, 15, 16, 17, 18, 19, 20, 21, 22, 23] [(155, .bool true)] [8012, 8014, 8016, 8018, 8020, 8022] [] ?_
     exact qX true hm
    obtain ⟨jD, h16, hm⟩ := aa hm
    rcases ah hm with ⟨c5,hm⟩|⟨c5,hm⟩
    ·refine qG [(2, hro (dW h15) s7), (4, hto (bE c3)), (9, hto (bE c4)), (12, hro (dW h16) s7), (15, hto (bE c5))] [12, 13, 14, 15, 16, 17, 18, 19, 20, 21, 22, 23] [(155, .bool true)] [8012, 8014, 8016, 8018, 8020, 8022] [] ?_
     exact qX true hm
    rcases ah hm with ⟨c6,hm⟩|⟨c6,hm⟩
    ·refine qG [(2, hro (dW h15) s7), (4, hto (bE c3)), (9, hto (bE c4)), (12, hro (dW h16) s7), (15, hto (bE c5)), (20, hto (bE c6))] [12, 13, 14, 15, 16, 17, 18, 19, 20, 21, 22, 23] [(155, .bool true)] [8012, 8014, 8016, 8018, 8020, 8022] [] ?_
     exact qX true hm
    obtain ⟨ji, h17, hm⟩ := aa hm
    rcases ah hm with ⟨c7,hm⟩|⟨c7,hm⟩
    ·refine qG [(2, hro (dW h15) s7), (4, hto (bE c3)), (9, hto (bE c4)), (12, hro (dW h16) s7), (15, hto (bE c5)), (20, hto (bE c6)), (23, hro (dW h17) s7), (26, hto (bE c7))] [12, 13, 14, 15, 16, 17, 18, 19, 20, 21, 22, 23] [(155, .bool true)] [8012, 8014, 8016, 8018, 8020, 8022] [] ?_
     exact qX true hm
    refine qG [(2, hro (dW h15) s7), (4, hto (bE c3)), (9, hto (bE c4)), (12, hro (dW h16) s7), (15, hto (bE c5)), (20, hto (bE c6)), (23, hro (dW h17) s7), (26, hto (bE c7))] [12, 13, 14, 15, 16, 17, 18, 19, 20, 21, 22, 23] [(155, .bool (!decide (dI.2 = bZ.2)))] [8012, 8014, 8016, 8018, 8020, 8022] [] ?_
    exact qX (!decide (dI.2 = bZ.2)) hm
   rintro v_2 hm
   rw [hJ2] at hm
   rcases ah hm with ⟨c8,hm⟩|⟨c8,hm⟩
   ·refine qT c8 ?_
    refine qS [] [(6, .bool false)] [] ?_
    cases hm
    exact A.ret qE
   refine qF c8 ?_
   refine A.skip ?_
   show ai _ _ _ _ _
   refine qGs [(1, hto (sZ (by omega) hx2 (by decide)))] [11, 155] [(11, i6 (j2 + 1 : Int))] ?_
   exact qX () hm
  rintro j2 ⟨⟩ hj2 hl2 hm
  rw [hK2] at hm
  refine A.seq ?_
  refine qDs [] [] [(50, .bool (decide ((j2 : Int) < (3:Int))))] ?_
  refine A.cF rfl (geF hl2) ?_
  refine A.exit ?_
  show ai _ _ _ _ _
  refine qGs [] [9, 10, 11, 50] [(9, i6 (w64 (i_1 + (1:Int))))] ?_
  exact qX (w64 (i_1 + (1:Int)), bR.2.L, bR.2.At) hm
 refine qF c2 ?_
 refine A.exit ?_
 show ai _ _ _ _ _
 obtain ⟨kQ, h18, hm⟩ := aa hm
 refine qS [(0, hro (qi h18) ah8)] [(6, .bool kQ)] [] ?_
 cases hm
 exact A.ret qE
end Go.Proofs.YtpmifmdidfgpdaaGreat
