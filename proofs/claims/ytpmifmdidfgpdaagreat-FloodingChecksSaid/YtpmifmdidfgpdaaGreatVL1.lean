/- The eR of cw of the program. No condition but bT bF stand in each. -/
import Derived.Test.YtpmifmdidfgpdaaGreatDL1
import Derived.Test.YtpmifmdidfgpdaaGreatVQ
import Derived.Test.YtpmifmdidfgpdaaGreatVL
namespace Go.Proofs.YtpmifmdidfgpdaaGreat
open Go
set_option maxRecDepth 100000
set_option linter.all false
theorem tL {t : List Int} {raw : aA} {ra2 : Int} {r : Bool} (hm : jB t raw ra2 = some r) : RO Tryz.prog 4 [] [lf aY t, .agg (k11 raw), i6 ra2] (.bool r) := by
 refine aQ Tryz.func4 rfl rfl ?_
 unfold jB at hm
 refine qS [(0, .al 4004)] [(0, lf aY t), (2, i6 ra2), (4, .ptr 4004 0)] [(4004, .cells 27 (k11 raw))] ?_
 obtain ⟨af, h1, hm⟩ := aa hm
 refine qD [(1, hdc [900000074] (zn h1) ck9)] [0] [(7, .ptr 900000074 0)] [] [(900000074, .cells 74 (k3 af))] ?_
 obtain ⟨aq, h2, hm⟩ := aa hm
 obtain ⟨aI, h3, hm⟩ := aa hm
 obtain ⟨bk, h4, hm⟩ := aa hm
 refine qD [(2, hdc [] (oT h2) aiQ), (3, hdc [] (uK h3) ap6), (5, hdc [] (oT h4) aiQ)] [] [(8, .lst true (ml cI ([aI.1, bk.1, raw] : List aA)))] [900000074] [(900000074, .cells 74 (k3 bk.2))] ?_
 refine A.seq ?_
 refine qDs [] [] [(9, i6 0)] ?_
 refine A.block ?_
 obtain ⟨F1, n1, hF1, hm⟩ := fu hm
 refine A.lpW (F := F1) hm (fun sg => match sg with | (i_1, m_1, m_2) => [(2, i6 ra2), (4, .ptr 4004 0), (7, .ptr 900000074 0), (8, .lst true (ml cI ([aI.1, bk.1, raw] : List aA))), (9, i6 i_1)]) (fun sg => match sg with | (i_1, m_1, m_2) => [(4004, .cells 27 (k11 raw)), (900000074, .cells 74 [lf aY m_1, i6 m_2])]) ?_ ?_
 ·exact qW
 rintro Z1 ⟨i_1, m_1, m_2⟩ hm
 rw [hF1] at hm
 refine A.seq ?_
 obtain ⟨J1, hJ1, hm⟩ := bB hm
 refine A.J (J := J1) (r := r) (fun v_1 => [(2, i6 ra2), (4, .ptr 4004 0), (7, .ptr 900000074 0), (8, .lst true (ml cI ([aI.1, bk.1, raw] : List aA))), (9, i6 i_1), (34, .bool v_1)]) (fun v_1 => [(4004, .cells 27 (k11 raw)), (900000074, .cells 74 [lf aY m_1, i6 m_2])]) ?_ ?_
 ·rcases ah hm with ⟨c1,hm⟩|⟨c1,hm⟩
  ·obtain ⟨bG, h5, hm⟩ := aa hm
   refine qGs [(2, hto (lnE cI ([aI.1, bk.1, raw] : List aA))), (4, hto (bE c1)), (6, hro (vZ h5) ap7)] [] [(34, .bool (!bG))] ?_
   exact qX (!bG) hm
  refine qGs [(2, hto (lnE cI ([aI.1, bk.1, raw] : List aA))), (4, hto (bE c1))] [] [(34, .bool false)] ?_
  exact qX false hm
 rintro v_1 hm
 rw [hJ1] at hm
 rcases ah hm with ⟨c2,hm⟩|⟨c2,hm⟩
 ·refine qT c2 ?_
  refine A.skip ?_
  show ai _ _ _ _ _
  refine A.seq ?_
  refine A.block ?_
  refine A.seq ?_
  obtain ⟨J2, hJ2, hm⟩ := bB hm
  refine A.J (J := J2) (r := r) (fun v_2 => [(2, i6 ra2), (4, .ptr 4004 0), (7, .ptr 900000074 0), (8, .lst true (ml cI ([aI.1, bk.1, raw] : List aA))), (9, i6 i_1), (74, .bool v_2)]) (fun v_2 => [(4004, .cells 27 (k11 raw)), (900000074, .cells 74 [lf aY m_1, i6 m_2])]) ?_ ?_
  ·obtain ⟨e_1, h6, hm⟩ := aa hm
   obtain ⟨b9, h7, hm⟩ := aa hm
   obtain ⟨ct, h8, hm⟩ := aa hm
   rcases ah hm with ⟨c3,hm⟩|⟨c3,hm⟩
   ·refine qGs [(2, hix (ix cI h6)), (4, hro (dF h7) ux), (7, hix (ix cI h6)), (9, hro (qg h8) aiR), (11, hto (bE c3))] [34] [(74, .bool true)] ?_
    exact qX true hm
   obtain ⟨dw, h9, hm⟩ := aa hm
   obtain ⟨dK, h10, hm⟩ := aa hm
   rcases ah hm with ⟨c4,hm⟩|⟨c4,hm⟩
   ·refine qGs [(2, hix (ix cI h6)), (4, hro (dF h7) ux), (7, hix (ix cI h6)), (9, hro (qg h8) aiR), (11, hto (bE c3)), (14, hix (ix cI h6)), (16, hro (nj h9) aiS), (19, hix (ix cI h6)), (21, hro (sS h10) ap9), (24, hto (bE c4))] [34] [(74, .bool true)] ?_
    exact qX true hm
   obtain ⟨bK, h11, hm⟩ := aa hm
   obtain ⟨dA, h12, hm⟩ := aa hm
   obtain ⟨bZ, h13, hm⟩ := aa hm
   refine qGs [(2, hix (ix cI h6)), (4, hro (dF h7) ux), (7, hix (ix cI h6)), (9, hro (qg h8) aiR), (11, hto (bE c3)), (14, hix (ix cI h6)), (16, hro (nj h9) aiS), (19, hix (ix cI h6)), (21, hro (sS h10) ap9), (24, hto (bE c4)), (27, hix (ix cI h6)), (29, hdc [510004001, 510004002] (SC.at [(500002200, 510004001), (500002201, 510004002)] (eN h11)) zU), (32, hix (ix cI h6)), (34, hro (dO h12) vq), (35, hle [510004001, 510004002] (ru h13) aiT)] [34] [(74, .bool (!bZ))] ?_
   exact qX (!bZ) hm
  rintro v_2 hm
  rw [hJ2] at hm
  rcases ah hm with ⟨c5,hm⟩|⟨c5,hm⟩
  ·refine qT c5 ?_
   refine qS [] [(6, .bool false)] [] ?_
   cases hm
   exact A.ret qE
  refine qF c5 ?_
  refine A.skip ?_
  show ai _ _ _ _ _
  obtain ⟨dL, h14, hm⟩ := aa hm
  refine qD [(2, hdc [] (dX h14) vr)] [74] [(10, .lst true (ml aY ([ra2, dL.1] : List Int)))] [900000074] [(900000074, .cells 74 (k3 dL.2))] ?_
  refine qDs [] [] [(11, i6 0)] ?_
  refine A.block ?_
  obtain ⟨B2, K2, hB2, hK2, hm⟩ := gO hm
  refine A.lpN (hi := (2:Int)) (B := B2) (K := K2) hm rfl (fun j2 => fun sg => match sg with | () => [(2, i6 ra2), (4, .ptr 4004 0), (7, .ptr 900000074 0), (8, .lst true (ml cI ([aI.1, bk.1, raw] : List aA))), (9, i6 i_1), (10, .lst true (ml aY ([ra2, dL.1] : List Int))), (11, i6 (j2 : Int))]) (fun j2 => fun sg => match sg with | () => [(4004, .cells 27 (k11 raw)), (900000074, .cells 74 (k3 dL.2))]) ?_ ?_ ?_
  ·exact qW
  ·rintro j2 Z2 ⟨⟩ hj2 hx2 hm
   rw [hB2] at hm
   refine A.seq ?_
   refine qDs [] [] [(80, .bool (decide ((j2 : Int) < (2:Int))))] ?_
   refine A.cT rfl (decide_eq_true hx2) ?_
   refine A.skip ?_
   show ai _ _ _ _ _
   refine A.seq ?_
   refine A.block ?_
   obtain ⟨e_2, h15, hm⟩ := aa hm
   obtain ⟨e_3, h16, hm⟩ := aa hm
   obtain ⟨gb, h17, hm⟩ := aa hm
   refine qD [(2, hix (ix cI h15)), (6, hix (ix aY h16)), (8, hro (zd h17) ck25), (12, .al 4012)] [80] [(12, .ptr 4012 0), (13, .bool gb.2)] [] [(4012, .cells 50 (k6 gb.1))] ?_
   obtain ⟨fJ, h18, hm⟩ := aa hm
   refine qD [(2, hix (ix cI h15)), (6, hix (ix aY h16)), (8, hro (vY h18) aqa), (12, .al 4014)] [] [(14, .ptr 4014 0), (15, .bool fJ.2)] [] [(4014, .cells 50 (k6 fJ.1))] ?_
   obtain ⟨J3, hJ3, hm⟩ := bB hm
   refine A.J (J := J3) (r := r) (fun v_3 => [(2, i6 ra2), (4, .ptr 4004 0), (7, .ptr 900000074 0), (8, .lst true (ml cI ([aI.1, bk.1, raw] : List aA))), (9, i6 i_1), (10, .lst true (ml aY ([ra2, dL.1] : List Int))), (11, i6 (j2 : Int)), (115, .bool v_3)]) (fun v_3 => [(4004, .cells 27 (k11 raw)), (900000074, .cells 74 (k3 dL.2))]) ?_ ?_
   ·obtain ⟨lS, h19, hm⟩ := aa hm
    rcases ah hm with ⟨c6,hm⟩|⟨c6,hm⟩
    ·refine qG [(2, hro (oE h19) ae5), (4, hto (bE c6))] [12, 13, 14, 15] [(115, .bool true)] [4012, 4014] [] ?_
     exact qX true hm
    refine qG [(2, hro (oE h19) ae5), (4, hto (bE c6))] [12, 13, 14, 15] [(115, .bool (!(gb.2 == fJ.2)))] [4012, 4014] [] ?_
    exact qX (!(gb.2 == fJ.2)) hm
   rintro v_3 hm
   rw [hJ3] at hm
   rcases ah hm with ⟨c7,hm⟩|⟨c7,hm⟩
   ·refine qT c7 ?_
    refine qS [] [(6, .bool false)] [] ?_
    cases hm
    exact A.ret qE
   refine qF c7 ?_
   refine A.skip ?_
   show ai _ _ _ _ _
   refine qGs [(1, hto (qO (by omega) hx2 (by decide)))] [11, 115] [(11, i6 (j2 + 1 : Int))] ?_
   exact qX () hm
  rintro j2 ⟨⟩ hj2 hl2 hm
  rw [hK2] at hm
  refine A.seq ?_
  refine qDs [] [] [(80, .bool (decide ((j2 : Int) < (2:Int))))] ?_
  refine A.cF rfl (geF hl2) ?_
  refine A.exit ?_
  show ai _ _ _ _ _
  refine qGs [] [9, 10, 11, 80] [(9, i6 (w64 (i_1 + (1:Int))))] ?_
  exact qX (w64 (i_1 + (1:Int)), dL.2.L, dL.2.At) hm
 refine qF c2 ?_
 refine A.exit ?_
 show ai _ _ _ _ _
 obtain ⟨mG, h20, hm⟩ := aa hm
 refine qS [(0, hro (uJ h20) ap8)] [(6, .bool mG)] [] ?_
 cases hm
 exact A.ret qE
end Go.Proofs.YtpmifmdidfgpdaaGreat
