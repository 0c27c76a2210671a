/- The eC of cr of the program. No condition but bT bB stand in each. -/
import Derived.Test.YtpmifmdidfgpdaaGreatDL6
import Derived.Test.YtpmifmdidfgpdaaGreatVQ
import Derived.Test.YtpmifmdidfgpdaaGreatVL
namespace Go.Proofs.YtpmifmdidfgpdaaGreat
open Go
set_option maxRecDepth 100000
set_option linter.all false
theorem sY {t : List Int} {raw : aB} {r : Bool} (hm : jd t raw = some r) : RO Tryz.prog 3 [] [lf bL t, .agg (k11 raw)] (.bool r) := by
 refine aT Tryz.func3 rfl rfl ?_
 unfold jd at hm
 refine qS [(0, .al 3003)] [(0, lf bL t), (3, .ptr 3003 0)] [(3003, .cells 27 (k11 raw))] ?_
 obtain ⟨af, h1, hm⟩ := aa hm
 refine qD [(1, hdc [900000074] (acW h1) ck9)] [0] [(5, .ptr 900000074 0)] [] [(900000074, .cells 74 (k3 af))] ?_
 obtain ⟨ay, h2, hm⟩ := aa hm
 obtain ⟨aK, h3, hm⟩ := aa hm
 obtain ⟨bh, h4, hm⟩ := aa hm
 refine qD [(2, hdc [] (su h2) apd), (3, hdc [] (zp h3) ck10), (5, hdc [] (su h4) apd)] [5] [(6, .lst true (ml kQ ([aK.1, bh.1, raw] : List aB)))] [900000074] [] ?_
 refine A.seq ?_
 refine qDs [] [] [(7, i6 0)] ?_
 refine A.block ?_
 obtain ⟨F1, n1, hF1, hm⟩ := fC hm
 refine A.lpW (F := F1) hm (fun i_1 => [(3, .ptr 3003 0), (6, .lst true (ml kQ ([aK.1, bh.1, raw] : List aB))), (7, i6 i_1)]) (fun i_1 => [(3003, .cells 27 (k11 raw))]) ?_ ?_
 ·exact qW
 rintro Z1 i_1 hm
 rw [hF1] at hm
 refine A.seq ?_
 obtain ⟨J1, hJ1, hm⟩ := bJ hm
 refine A.J (J := J1) (r := r) (fun v_1 => [(3, .ptr 3003 0), (6, .lst true (ml kQ ([aK.1, bh.1, raw] : List aB))), (7, i6 i_1), (30, .bool v_1)]) (fun v_1 => [(3003, .cells 27 (k11 raw))]) ?_ ?_
 ·rcases ai hm with ⟨c1,hm⟩|⟨c1,hm⟩
  ·obtain ⟨bI, h5, hm⟩ := aa hm
   refine qGs [(2, hto (lnE kQ ([aK.1, bh.1, raw] : List aB))), (4, hto (bE c1)), (6, hro (aaF h5) ck12)] [] [(30, .bool (!bI))] ?_
   exact qX (!bI) hm
  refine qGs [(2, hto (lnE kQ ([aK.1, bh.1, raw] : List aB))), (4, hto (bE c1))] [] [(30, .bool false)] ?_
  exact qX false hm
 rintro v_1 hm
 rw [hJ1] at hm
 rcases ai hm with ⟨c2,hm⟩|⟨c2,hm⟩
 ·refine qT c2 ?_
  refine A.skip ?_
  show ah _ _ _ _ _
  refine A.seq ?_
  refine A.block ?_
  obtain ⟨e_1, h6, hm⟩ := aa hm
  obtain ⟨bV, h7, hm⟩ := aa hm
  refine qD [(2, hix (ix kQ h6)), (4, hro (ru h7) ape), (8, .al 3008)] [30] [(8, .ptr 3008 0), (9, i6 bV.2)] [] [(3008, .cells 27 (k11 bV.1))] ?_
  obtain ⟨cD, h8, hm⟩ := aa hm
  refine qD [(2, hix (ix kQ h6)), (4, hro (zn h8) ck14), (8, .al 3010)] [] [(10, .ptr 3010 0), (11, i6 cD.2)] [] [(3010, .cells 27 (k11 cD.1))] ?_
  obtain ⟨J2, hJ2, hm⟩ := bJ hm
  refine A.J (J := J2) (r := r) (fun v_2 => [(3, .ptr 3003 0), (6, .lst true (ml kQ ([aK.1, bh.1, raw] : List aB))), (7, i6 i_1), (57, .bool v_2)]) (fun v_2 => [(3003, .cells 27 (k11 raw))]) ?_ ?_
  ·obtain ⟨dg, h9, hm⟩ := aa hm
   rcases ai hm with ⟨c3,hm⟩|⟨c3,hm⟩
   ·refine qG [(2, hro (uG h9) apf), (4, hto (bE c3))] [8, 9, 10, 11] [(57, .bool true)] [3008, 3010] [] ?_
    exact qX true hm
   refine qG [(2, hro (uG h9) apf), (4, hto (bE c3))] [8, 9, 10, 11] [(57, .bool (!decide (bV.2 = cD.2)))] [3008, 3010] [] ?_
   exact qX (!decide (bV.2 = cD.2)) hm
  rintro v_2 hm
  rw [hJ2] at hm
  rcases ai hm with ⟨c4,hm⟩|⟨c4,hm⟩
  ·refine qT c4 ?_
   refine qS [] [(4, .bool false)] [] ?_
   cases hm
   exact A.ret qE
  refine qF c4 ?_
  refine A.skip ?_
  show ah _ _ _ _ _
  refine qGs [] [7, 57] [(7, i6 (w64 (i_1 + (1:Int))))] ?_
  exact qX (w64 (i_1 + (1:Int))) hm
 refine qF c2 ?_
 refine A.exit ?_
 show ah _ _ _ _ _
 obtain ⟨dB, h10, hm⟩ := aa hm
 refine qS [(0, hro (zo h10) ck16)] [(4, .bool dB)] [] ?_
 cases hm
 exact A.ret qE
end Go.Proofs.YtpmifmdidfgpdaaGreat
