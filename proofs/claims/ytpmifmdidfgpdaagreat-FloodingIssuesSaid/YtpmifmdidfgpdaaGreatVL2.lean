/- The eR of cw of the program. No condition but bT bF stand in each. -/
import Derived.Test.YtpmifmdidfgpdaaGreatDL2
import Derived.Test.YtpmifmdidfgpdaaGreatVQ
import Derived.Test.YtpmifmdidfgpdaaGreatVL
namespace Go.Proofs.YtpmifmdidfgpdaaGreat
open Go
set_option maxRecDepth 100000
set_option linter.all false
theorem tM {t : List Int} {raw : aA} {ra2 : Int} {r : Bool} (hm : jC t raw ra2 = some r) : RO Tryz.prog 5 [] [lf aY t, .agg (k11 raw), i6 ra2] (.bool r) := by
 refine aQ Tryz.func5 rfl rfl ?_
 unfold jC at hm
 refine qS [(0, .al 5004)] [(0, lf aY t), (2, i6 ra2), (4, .ptr 5004 0)] [(5004, .cells 27 (k11 raw))] ?_
 obtain ⟨af, h1, hm⟩ := aa hm
 refine qD [(1, hdc [900000074] (zn h1) ck9)] [0] [(7, .ptr 900000074 0)] [] [(900000074, .cells 74 (k3 af))] ?_
 obtain ⟨aq, h2, hm⟩ := aa hm
 obtain ⟨aI, h3, hm⟩ := aa hm
 refine qD [(2, hdc [] (oT h2) aiQ), (3, hdc [] (uK h3) ap6)] [] [(8, .lst true (ml cI ([aI.1, raw] : List aA)))] [900000074] [(900000074, .cells 74 (k3 aI.2))] ?_
 refine A.seq ?_
 refine qDs [] [] [(9, i6 0)] ?_
 refine A.block ?_
 obtain ⟨F1, n1, hF1, hm⟩ := fu hm
 refine A.lpW (F := F1) hm (fun sg => match sg with | (i_1, m_1, m_2) => [(2, i6 ra2), (4, .ptr 5004 0), (7, .ptr 900000074 0), (8, .lst true (ml cI ([aI.1, raw] : List aA))), (9, i6 i_1)]) (fun sg => match sg with | (i_1, m_1, m_2) => [(5004, .cells 27 (k11 raw)), (900000074, .cells 74 [lf aY m_1, i6 m_2])]) ?_ ?_
 ·exact qW
 rintro Z1 ⟨i_1, m_1, m_2⟩ hm
 rw [hF1] at hm
 refine A.seq ?_
 obtain ⟨J1, hJ1, hm⟩ := bB hm
 refine A.J (J := J1) (r := r) (fun v_1 => [(2, i6 ra2), (4, .ptr 5004 0), (7, .ptr 900000074 0), (8, .lst true (ml cI ([aI.1, raw] : List aA))), (9, i6 i_1), (40, .bool v_1)]) (fun v_1 => [(5004, .cells 27 (k11 raw)), (900000074, .cells 74 [lf aY m_1, i6 m_2])]) ?_ ?_
 ·rcases ah hm with ⟨c1,hm⟩|⟨c1,hm⟩
  ·obtain ⟨bk, h4, hm⟩ := aa hm
   refine qGs [(2, hto (lnE cI ([aI.1, raw] : List aA))), (4, hto (bE c1)), (6, hro (vZ h4) ap7)] [] [(40, .bool (!bk))] ?_
   exact qX (!bk) hm
  refine qGs [(2, hto (lnE cI ([aI.1, raw] : List aA))), (4, hto (bE c1))] [] [(40, .bool false)] ?_
  exact qX false hm
 rintro v_1 hm
 rw [hJ1] at hm
 rcases ah hm with ⟨c2,hm⟩|⟨c2,hm⟩
 ·refine qT c2 ?_
  refine A.skip ?_
  show ai _ _ _ _ _
  refine A.seq ?_
  refine A.block ?_
  obtain ⟨bG, h5, hm⟩ := aa hm
  refine qD [(2, hdc [] (dX h5) vr)] [40] [(10, .lst true (ml aY ([ra2, bG.1] : List Int)))] [900000074] [(900000074, .cells 74 (k3 bG.2))] ?_
  refine qDs [] [] [(11, i6 0)] ?_
  refine A.block ?_
  obtain ⟨B2, K2, hB2, hK2, hm⟩ := gO hm
  refine A.lpN (hi := (2:Int)) (B := B2) (K := K2) hm rfl (fun j2 => fun sg => match sg with | () => [(2, i6 ra2), (4, .ptr 5004 0), (7, .ptr 900000074 0), (8, .lst true (ml cI ([aI.1, raw] : List aA))), (9, i6 i_1), (10, .lst true (ml aY ([ra2, bG.1] : List Int))), (11, i6 (j2 : Int))]) (fun j2 => fun sg => match sg with | () => [(5004, .cells 27 (k11 raw)), (900000074, .cells 74 (k3 bG.2))]) ?_ ?_ ?_
  ·exact qW
  ·rintro j2 Z2 ⟨⟩ hj2 hx2 hm
   rw [hB2] at hm
   refine A.seq ?_
   refine qDs [] [] [(48, .bool (decide ((j2 : Int) < (2:Int))))] ?_
   refine A.cT rfl (decide_eq_true hx2) ?_
   refine A.skip ?_
   show ai _ _ _ _ _
   refine A.seq ?_
   refine A.block ?_
   obtain ⟨e_1, h6, hm⟩ := aa hm
   obtain ⟨e_2, h7, hm⟩ := aa hm
   obtain ⟨b9, h8, hm⟩ := aa hm
   refine qD [(2, hix (ix cI h6)), (6, hix (ix aY h7)), (8, hdc [510005001, 510005002] (SC.at [(500002800, 510005001), (500002801, 510005002)] (lD h8)) aiU), (12, .al 5012)] [48] [(12, .ptr 5012 0), (13, i6 b9.2)] [] [(5012, .cells 27 [lf az b9.1.Links, .own 510005001, .own 510005002]), (510005001, .slice 81 5 (ml aL b9.1.aG) 0 false), (510005002, .slice 62 3 (ml aN b9.1.aF) 0 false)] ?_
   obtain ⟨ct, h9, hm⟩ := aa hm
   refine qD [(2, hix (ix cI h6)), (6, hix (ix aY h7)), (8, hro (wR h9) ck29), (12, .al 5014)] [] [(14, .ptr 5014 0), (15, i6 ct.2)] [] [(5014, .cells 27 (k11 ct.1))] ?_
   obtain ⟨dw, h10, hm⟩ := aa hm
   refine qD [(2, hix (ix cI h6)), (6, hix (ix aY h7)), (8, hro (vW h10) ck30), (12, .al 5016)] [] [(16, .ptr 5016 0), (17, i6 dw.2)] [] [(5016, .cells 27 (k11 dw.1))] ?_
   obtain ⟨dK, h11, hm⟩ := aa hm
   refine qD [(2, hix (ix cI h6)), (6, hix (ix aY h7)), (8, hro (xY h11) ck31), (12, .al 5018)] [] [(18, .ptr 5018 0), (19, i6 dK.2)] [] [(5018, .cells 27 (k11 dK.1))] ?_
   obtain ⟨bK, h12, hm⟩ := aa hm
   refine qD [(2, hix (ix cI h6)), (6, hix (ix aY h7)), (8, hro (xX h12) ck32), (12, .al 5020)] [] [(20, .ptr 5020 0), (21, i6 bK.2)] [] [(5020, .cells 27 (k11 bK.1))] ?_
   obtain ⟨dA, h13, hm⟩ := aa hm
   refine qD [(2, hix (ix cI h6)), (6, hix (ix aY h7)), (8, hro (aaQ h13) ck33), (12, .al 5022)] [] [(22, .ptr 5022 0), (23, i6 dA.2)] [] [(5022, .cells 27 (k11 dA.1))] ?_
   obtain ⟨J2, hJ2, hm⟩ := bB hm
   refine A.J (J := J2) (r := r) (fun v_2 => [(2, i6 ra2), (4, .ptr 5004 0), (7, .ptr 900000074 0), (8, .lst true (ml cI ([aI.1, raw] : List aA))), (9, i6 i_1), (10, .lst true (ml aY ([ra2, bG.1] : List Int))), (11, i6 (j2 : Int)), (153, .bool v_2)]) (fun v_2 => [(5004, .cells 27 (k11 raw)), (900000074, .cells 74 (k3 bG.2))]) ?_ ?_
   ·obtain ⟨bZ, h14, hm⟩ := aa hm
    rcases ah hm with ⟨c3,hm⟩|⟨c3,hm⟩
    ·refine qG [(2, hle [510005001, 510005002] (ec h14) td), (4, hto (bE c3))] [12, 13, 14, 15, 16, 17, 18, 19, 20, 21, 22, 23] [(153, .bool true)] [5012, 510005001, 510005002, 5014, 5016, 5018, 5020, 5022] [] ?_
     exact qX true hm
    rcases ah hm with ⟨c4,hm⟩|⟨c4,hm⟩
    ·refine qG [(2, hle [510005001, 510005002] (ec h14) td), (4, hto (bE c3)), (9, hto (bE c4))] [12, 13, 14, 15, 16, 17, 18, 19, 20, 21, 22, 23] [(153, .bool true)] [5012, 510005001, 510005002, 5014, 5016, 5018, 5020, 5022] [] ?_
     exact qX true hm
    obtain ⟨dL, h15, hm⟩ := aa hm
    rcases ah hm with ⟨c5,hm⟩|⟨c5,hm⟩
    ·refine qG [(2, hle [510005001, 510005002] (ec h14) td), (4, hto (bE c3)), (9, hto (bE c4)), (12, hro (ec h15) td), (15, hto (bE c5))] [12, 13, 14, 15, 16, 17, 18, 19, 20, 21, 22, 23] [(153, .bool true)] [5012, 510005001, 510005002, 5014, 5016, 5018, 5020, 5022] [] ?_
     exact qX true hm
    rcases ah hm with ⟨c6,hm⟩|⟨c6,hm⟩
    ·refine qG [(2, hle [510005001, 510005002] (ec h14) td), (4, hto (bE c3)), (9, hto (bE c4)), (12, hro (ec h15) td), (15, hto (bE c5)), (20, hto (bE c6))] [12, 13, 14, 15, 16, 17, 18, 19, 20, 21, 22, 23] [(153, .bool true)] [5012, 510005001, 510005002, 5014, 5016, 5018, 5020, 5022] [] ?_
     exact qX true hm
    obtain ⟨gb, h16, hm⟩ := aa hm
    rcases ah hm with ⟨c7,hm⟩|⟨c7,hm⟩
    ·refine qG [(2, hle [510005001, 510005002] (ec h14) td), (4, hto (bE c3)), (9, hto (bE c4)), (12, hro (ec h15) td), (15, hto (bE c5)), (20, hto (bE c6)), (23, hro (ec h16) td), (26, hto (bE c7))] [12, 13, 14, 15, 16, 17, 18, 19, 20, 21, 22, 23] [(153, .bool true)] [5012, 510005001, 510005002, 5014, 5016, 5018, 5020, 5022] [] ?_
     exact qX true hm
    refine qG [(2, hle [510005001, 510005002] (ec h14) td), (4, hto (bE c3)), (9, hto (bE c4)), (12, hro (ec h15) td), (15, hto (bE c5)), (20, hto (bE c6)), (23, hro (ec h16) td), (26, hto (bE c7))] [12, 13, 14, 15, 16, 17, 18, 19, 20, 21, 22, 23] [(153, .bool (!decide (bK.2 = dA.2)))] [5012, 510005001, 510005002, 5014, 5016, 5018, 5020, 5022] [] ?_
    exact qX (!decide (bK.2 = dA.2)) hm
   rintro v_2 hm
   rw [hJ2] at hm
   rcases ah hm with ⟨c8,hm⟩|⟨c8,hm⟩
   ·refine qT c8 ?_
    refine qS [] [(6, .bool false)] [] ?_
    cases hm
    exact A.ret qE
   refine qF c8 ?_
   refine A.skip ?_
   show ai _ _ _ _ _
   refine qGs [(1, hto (qO (by omega) hx2 (by decide)))] [11, 153] [(11, i6 (j2 + 1 : Int))] ?_
   exact qX () hm
  rintro j2 ⟨⟩ hj2 hl2 hm
  rw [hK2] at hm
  refine A.seq ?_
  refine qDs [] [] [(48, .bool (decide ((j2 : Int) < (2:Int))))] ?_
  refine A.cF rfl (geF hl2) ?_
  refine A.exit ?_
  show ai _ _ _ _ _
  refine qGs [] [9, 10, 11, 48] [(9, i6 (w64 (i_1 + (1:Int))))] ?_
  exact qX (w64 (i_1 + (1:Int)), bG.2.L, bG.2.At) hm
 refine qF c2 ?_
 refine A.exit ?_
 show ai _ _ _ _ _
 obtain ⟨fJ, h17, hm⟩ := aa hm
 refine qS [(0, hro (uJ h17) ap8)] [(6, .bool fJ)] [] ?_
 cases hm
 exact A.ret qE
end Go.Proofs.YtpmifmdidfgpdaaGreat
