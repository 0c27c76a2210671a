/- The eC of cr of the program. No condition but bT bB stand in each. -/
import Derived.Test.YtpmifmdidfgpdaaGreatDA
import Derived.Test.YtpmifmdidfgpdaaGreatVM
import Derived.Test.YtpmifmdidfgpdaaGreatIN
namespace Go.Proofs.YtpmifmdidfgpdaaGreat
open Go
set_option maxRecDepth 100000
set_option linter.all false
theorem ur {f : aB} {aJ : Int} {r : aL × Int × Int} (hm : ni f aJ = some r) : bM Tryz.prog 74 [] [.agg (k11 f), i6 aJ] (fun a σ' => a = .tup [.ptr 900000091 0, i6 r.2.1, i6 r.2.2] ∧ σ' = [(507007400, .slice 81 5 (ml aO r.1.f_.aC) 0 false), (507007401, .slice 62 3 (ml aN r.1.f_.aA) 0 false), (900000091, .cells 91 [lf az r.1.f_.Links, .own 507007400, .own 507007401])]) := by
 refine aT Tryz.func74 rfl rfl ?_
 unfold ni at hm
 refine qS [(0, .al 74002)] [(1, i6 aJ), (2, .ptr 74002 0)] [(74002, .cells 27 (k11 f))] ?_
 refine A.seq ?_
 obtain ⟨af, h1, hm⟩ := aa hm
 refine qDs [(1, hro (gD h1) aau)] [] [(11, .bool (!decide (af = (0:Int))))] ?_
 rcases ai hm with ⟨c1,hm⟩|⟨c1,hm⟩
 ·refine qT c1 ?_
  refine qS [] [(4, .je), (5, i6 0), (6, i6 1)] [] ?_
  refine A.ret ?_
  cases hm
 refine qF c1 ?_
 refine A.skip ?_
 show ah _ _ _ _ _
 obtain ⟨ay, h2, hm⟩ := aa hm
 refine qDs [(2, hro (jq h2) acf)] [1, 11] [(7, i6 ay.1), (8, .bool ay.2)] ?_
 refine A.seq ?_
 refine qDs [] [8] [(19, .bool (!ay.2))] ?_
 rcases ai hm with ⟨c2,hm⟩|⟨c2,hm⟩
 ·refine qT c2 ?_
  refine qS [] [(4, .je), (5, i6 0), (6, i6 4)] [] ?_
  refine A.ret ?_
  cases hm
 refine qF c2 ?_
 refine A.skip ?_
 show ah _ _ _ _ _
 obtain ⟨aK, h3, hm⟩ := aa hm
 refine qS [(1, hdc [500005400, 500005401, 500005402] (nP h3) ahI), (3, .al 74023)] [(4, .ptr 74023 0), (5, i6 ay.1), (6, i6 0)] [(500005400, .slice 78 5 (ml az aK.Links) 0 false), (500005401, .slice 81 5 (ml aO aK.aC) 0 false), (500005402, .slice 62 3 (ml aN aK.aA) 0 false), (74023, .cells 91 [.own 500005400, .own 500005401, .own 500005402])] ?_
 refine A.ret ?_
 obtain rfl := some_inj hm
 exact A.fin W0 [.fz [500005400], .sw 74023 900000091, .sw 500005401 507007400, .sw 500005402 507007401, .sc 900000091 [507007400, 507007401]] rfl (by kernel_rfl)
theorem uR {f : aB} {aJ : Int} {r : Int × Int} (hm : nQ f aJ = some r) : RO Tryz.prog 74 [] [.agg (k11 f), i6 aJ] (.tup [.je, i6 r.1, i6 r.2]) := by
 refine aT Tryz.func74 rfl rfl ?_
 unfold nQ at hm
 refine qS [(0, .al 74002)] [(1, i6 aJ), (2, .ptr 74002 0)] [(74002, .cells 27 (k11 f))] ?_
 refine A.seq ?_
 obtain ⟨af, h1, hm⟩ := aa hm
 refine qDs [(1, hro (gD h1) aau)] [] [(11, .bool (!decide (af = (0:Int))))] ?_
 rcases ai hm with ⟨c1,hm⟩|⟨c1,hm⟩
 ·refine qT c1 ?_
  refine qS [] [(4, .je), (5, i6 0), (6, i6 1)] [] ?_
  cases hm
  exact A.ret qE
 refine qF c1 ?_
 refine A.skip ?_
 show ah _ _ _ _ _
 obtain ⟨ay, h2, hm⟩ := aa hm
 refine qDs [(2, hro (jq h2) acf)] [1, 11] [(7, i6 ay.1), (8, .bool ay.2)] ?_
 refine A.seq ?_
 refine qDs [] [8] [(19, .bool (!ay.2))] ?_
 rcases ai hm with ⟨c2,hm⟩|⟨c2,hm⟩
 ·refine qT c2 ?_
  refine qS [] [(4, .je), (5, i6 0), (6, i6 4)] [] ?_
  cases hm
  exact A.ret qE
 refine qF c2 ?_
 refine A.skip ?_
 show ah _ _ _ _ _
 obtain ⟨aK, h3, hm⟩ := aa hm
 refine qS [(1, hdc [500005400, 500005401, 500005402] (nP h3) ahI), (3, .al 74023)] [(4, .ptr 74023 0), (5, i6 ay.1), (6, i6 0)] [(500005400, .slice 78 5 (ml az aK.Links) 0 false), (500005401, .slice 81 5 (ml aO aK.aC) 0 false), (500005402, .slice 62 3 (ml aN aK.aA) 0 false), (74023, .cells 91 [.own 500005400, .own 500005401, .own 500005402])] ?_
 refine A.ret ?_
 cases hm
theorem vq {oa0 : fQ} {c_0 : aD} {r : Bool} (hm : ot oa0 c_0 = some r) : RO Tryz.prog 132 [] [.agg (k10 oa0), .dO (k2 c_0)] (.bool r) := by
 refine aT Tryz.func132 rfl rfl ?_
 unfold ot at hm
 refine qS [(0, .al 132002)] [(1, .dO (k2 c_0)), (2, .ptr 132002 0)] [(132002, .cells 155 (k10 oa0))] ?_
 obtain ⟨af, h1, hm⟩ := aa hm
 refine qS [(3, hro (gw h1) vQ)] [(3, .bool (!af))] [] ?_
 cases hm
 exact A.ret qE
theorem wL {t : aD} {cB : List fQ} {r : aB × Int} (hm : pO t cB = some r) : RO Tryz.prog 80 [] [.agg (k2 t), lf dV cB] (.tup [.agg (k11 r.1), i6 r.2]) := by
 refine aT Tryz.func80 rfl rfl ?_
 unfold pO at hm
 refine qS [(0, .al 80002), (1, .al 80004)] [(1, lf dV cB), (2, .ptr 80002 0), (4, .ptr 80004 0)] [(80002, .cells 44 (k2 t)), (80004, .cells 27 [.aG, .aG, .aG])] ?_
 refine A.seq ?_
 obtain ⟨af, h1, hm⟩ := aa hm
 refine qDs [(1, hro (iH h1) ace)] [] [(15, .bool (!decide (af = (0:Int))))] ?_
 rcases ai hm with ⟨c1,hm⟩|⟨c1,hm⟩
 ·refine qT c1 ?_
  refine qD [] [1, 2, 15] [(5, i6 1)] [80002] [] ?_
  cases hm
  exact A.ret qE
 refine qF c1 ?_
 refine A.skip ?_
 show ah _ _ _ _ _
 refine A.seq ?_
 obtain ⟨ay, h2, hm⟩ := aa hm
 refine qDs [(2, hle [80002] (lC (f_g := 132) (f_c := [.dO (k2 t)]) (f_k := atE) (f_f := fun _ _ h => vq h) h2) atD)] [15] [(19, .bool ay)] ?_
 rcases ai hm with ⟨c2,hm⟩|⟨c2,hm⟩
 ·refine qT c2 ?_
  refine qD [] [1, 2, 19] [(5, i6 4)] [80002] [] ?_
  cases hm
  exact A.ret qE
 refine qF c2 ?_
 refine A.skip ?_
 show ah _ _ _ _ _
 refine A.seq ?_
 refine qDs [(1, hto (lnE dV cB))] [19] [(22, i6 (cB.length:Int)), (23, i6 0)] ?_
 refine A.block ?_
 refine A.bS 1 rfl fun hb1 => ?_
 obtain ⟨B1, K1, hB1, hK1, hm⟩ := bt hm
 refine A.lpI (l := cB) (j0 := 0) (B := B1) (K := K1) hm (fun j1 => fun sg => match sg with | () => [(1, lf dV cB), (2, .ptr 80002 0), (4, .ptr 80004 0), (22, i6 (cB.length:Int)), (23, i6 (j1 : Int))]) (fun j1 => fun sg => match sg with | () => [(80002, .cells 44 (k2 t)), (80004, .cells 27 [.aG, .aG, .aG])]) ?_ ?_ ?_
 ·exact qW
 ·rintro j1 e1 Z1 ⟨⟩ hj1 hx1 hm
  rw [hB1] at hm
  refine qDs [] [] [(24, .bool (decide ((j1 : Int) < (cB.length:Int))))] ?_
  refine A.seq ?_
  refine qT (ltT hx1) ?_
  refine A.skip ?_
  show ah _ _ _ _ _
  refine A.seq ?_
  refine A.block ?_
  refine qDs [] [24] [(6, i6 (j1 : Int))] ?_
  obtain ⟨J1, hJ1, hm⟩ := bJ hm
  refine A.J (J := J1) (r := r) (fun v_1 => [(1, lf dV cB), (2, .ptr 80002 0), (4, .ptr 80004 0), (22, i6 (cB.length:Int)), (23, i6 (j1 : Int)), (58, .bool v_1)]) (fun v_1 => [(80002, .cells 44 (k2 t)), (80004, .cells 27 [.aG, .aG, .aG])]) ?_ ?_
  ·rcases ai hm with ⟨c3,hm⟩|⟨c3,hm⟩
   ·obtain ⟨e_1, h3, hm⟩ := aa hm
    obtain ⟨aK, h4, hm⟩ := aa hm
    obtain ⟨bh, h5, hm⟩ := aa hm
    obtain ⟨bI, h6, hm⟩ := aa hm
    refine qGs [(2, hto (bE c3)), (6, hix (ix dV h3)), (11, hix (ix dV (bf hx1))), (14, hro (gh h4) xZ), (18, hix (ix dV h3)), (24, hix (ix dV (bf hx1))), (28, hro (gh h5) xZ), (30, hro (uD h6) ajl)] [6] [(58, .bool (decide ((0:Int) ≤ bI)))] ?_
    exact qX (decide ((0:Int) ≤ bI)) hm
   refine qGs [(2, hto (bE c3))] [6] [(58, .bool false)] ?_
   exact qX false hm
  rintro v_1 hm
  rw [hJ1] at hm
  rcases ai hm with ⟨c4,hm⟩|⟨c4,hm⟩
  ·refine qT c4 ?_
   refine qD [] [1, 2, 22, 23, 58] [(5, i6 25)] [80002] [] ?_
   cases hm
   exact A.ret qE
  refine qF c4 ?_
  refine A.skip ?_
  show ah _ _ _ _ _
  refine qGs [(0, hto (inc hx1 hb1))] [23, 58] [(23, i6 ((j1 + 1 : Nat) : Int))] ?_
  exact qX () hm
 rintro j1 ⟨⟩ hj1 hl1 hm
 rw [hK1] at hm
 refine qDs [] [] [(24, .bool (decide ((j1 : Int) < (cB.length:Int))))] ?_
 refine A.seq ?_
 refine qF (ltF hl1) ?_
 refine A.exit ?_
 show ah _ _ _ _ _
 obtain ⟨bV, h7, hm⟩ := aa hm
 refine qD [(2, hdc [500007100] (fV h7) ahL), (4, .al 80007)] [22, 23, 24] [(7, .ptr 80007 0)] [] [(500007100, .slice 78 5 (ml az bV) 0 false), (80007, .cells 27 [.own 500007100, .aG, .aG])] ?_
 refine A.seq ?_
 refine qD [(2, hto (lnE aU t.aI))] [2] [(66, lf aU t.aI), (67, i6 (t.aI.length:Int)), (68, i6 0)] [80002] [] ?_
 refine A.block ?_
 refine A.bS 66 rfl fun hb2 => ?_
 obtain ⟨B2, K2, hB2, hK2, hm⟩ := bt hm
 refine A.lpI (l := t.aI) (j0 := 0) (B := B2) (K := K2) hm (fun j2 => fun m_1 => [(1, lf dV cB), (4, .ptr 80004 0), (7, .ptr 80007 0), (66, lf aU t.aI), (67, i6 (t.aI.length:Int)), (68, i6 (j2 : Int))]) (fun j2 => fun m_1 => [(80004, .cells 27 [.aG, .aG, .aG]), (500007100, .slice 78 5 (ml az bV) 0 false), (80007, .cells 27 [.own 500007100, .own 708000701, .aG]), (708000701, .slice 81 5 (ml aO m_1) 0 false)]) ?_ ?_ ?_
 ·exact bA.go [.ac 80007 708000701 81 5 1] [] (by kernel_rfl)
 ·rintro j2 e2 Z2 m_1 hj2 hx2 hm
  rw [hB2] at hm
  refine qDs [] [] [(69, .bool (decide ((j2 : Int) < (t.aI.length:Int))))] ?_
  refine A.seq ?_
  refine qT (ltT hx2) ?_
  refine A.skip ?_
  show ah _ _ _ _ _
  refine A.seq ?_
  refine A.block ?_
  refine qD [(0, hix (ix aU (bf hx2))), (2, .al 80009)] [69] [(9, .ptr 80009 0)] [] [(80009, .cells 87 (k0 e2))] ?_
  refine qD [(5, .al 80010)] [] [(10, .ptr 80010 0)] [] [(80010, .cells 81 [i6 e2.ID, i6 0, .bool e2.aX, .aG, .aG])] ?_
  refine A.seq ?_
  refine qDs [(1, hto (lnE dV cB))] [] [(77, lf dV cB), (78, i6 (cB.length:Int)), (79, i6 0)] ?_
  refine A.block ?_
  refine A.bS 1 rfl fun hb3 => ?_
  obtain ⟨B3, K3, hB3, hK3, hm⟩ := bt hm
  refine A.lpI (l := cB) (j0 := 0) (B := B3) (K := K3) hm (fun j3 => fun m_2 => [(1, lf dV cB), (4, .ptr 80004 0), (7, .ptr 80007 0), (9, .ptr 80009 0), (10, .ptr 80010 0), (66, lf aU t.aI), (67, i6 (t.aI.length:Int)), (68, i6 (j2 : Int)), (77, lf dV cB), (78, i6 (cB.length:Int)), (79, i6 (j3 : Int))]) (fun j3 => fun m_2 => [(80004, .cells 27 [.aG, .aG, .aG]), (500007100, .slice 78 5 (ml az bV) 0 false), (80007, .cells 27 [.own 500007100, .own 708000701, .aG]), (708000701, .slice 81 5 (ml aO m_1) 0 false), (80009, .cells 87 (k0 e2)), (80010, .cells 81 [i6 e2.ID, i6 0, .bool e2.aX, .own 708001003, .aG]), (708001003, .slice 85 3 (ml aS m_2) 0 false)]) ?_ ?_ ?_
  ·exact bA.go [.ac 80010 708001003 85 3 3] [] (by kernel_rfl)
  ·rintro j3 e3 Z3 m_2 hj3 hx3 hm
   rw [hB3] at hm
   refine qDs [] [] [(80, .bool (decide ((j3 : Int) < (cB.length:Int))))] ?_
   refine A.seq ?_
   refine qT (ltT hx3) ?_
   refine A.skip ?_
   show ah _ _ _ _ _
   obtain ⟨J2, hJ2, hm⟩ := bJ hm
   refine A.J (J := J2) (r := r) (fun m_3 => [(1, lf dV cB), (4, .ptr 80004 0), (7, .ptr 80007 0), (9, .ptr 80009 0), (10, .ptr 80010 0), (66, lf aU t.aI), (67, i6 (t.aI.length:Int)), (68, i6 (j2 : Int)), (77, lf dV cB), (78, i6 (cB.length:Int)), (79, i6 (j3 : Int))]) (fun m_3 => [(80004, .cells 27 [.aG, .aG, .aG]), (500007100, .slice 78 5 (ml az bV) 0 false), (80007, .cells 27 [.own 500007100, .own 708000701, .aG]), (708000701, .slice 81 5 (ml aO m_1) 0 false), (80009, .cells 87 (k0 e2)), (80010, .cells 81 [i6 e2.ID, i6 0, .bool e2.aX, .own 708001003, .aG]), (708001003, .slice 85 3 (ml aS m_3) 0 false)]) ?_ ?_
   ·refine A.block ?_
    refine qD [(0, hix (ix dV (bf hx3))), (2, .al 80012)] [80] [(12, .ptr 80012 0)] [] [(80012, .cells 155 (k10 e3))] ?_
    refine qDs [] [] [(87, .bool (decide (e3.ak = e2.ID)))] ?_
    rcases ai hm with ⟨c5,hm⟩|⟨c5,hm⟩
    ·refine qT c5 ?_
     obtain ⟨l_1, h8, hm⟩ := aa hm
     refine qG [(5, hap 80593 (ap aS (bytes := 24) (by decide) h8))] [12, 87] [] [80010, 708001003, 80012] [(80010, .cells 81 [i6 e2.ID, i6 0, .bool e2.aX, .own 80593, .aG]), (80593, .slice 85 3 (ml aS l_1) 0 false)] ?_
     exact Exists.intro l_1 (And.intro hm (bA.go [.sw 80593 708001003] [] (by kernel_rfl)))
    refine qF c5 ?_
    refine A.skip ?_
    exact qX m_2 hm
   rintro m_3 hm
   rw [hJ2] at hm
   refine qGs [(0, hto (inc hx3 hb3))] [79] [(79, i6 ((j3 + 1 : Nat) : Int))] ?_
   exact qX m_3 hm
  rintro j3 m_2 hj3 hl3 hm
  rw [hK3] at hm
  refine qDs [] [] [(80, .bool (decide ((j3 : Int) < (cB.length:Int))))] ?_
  refine A.seq ?_
  refine qF (ltF hl3) ?_
  refine A.exit ?_
  show ah _ _ _ _ _
  obtain ⟨l_2, h9, hm⟩ := aa hm
  refine A.R W0 [.fz [708001003], .sc 80010 [80004, 500007100, 80007, 708000701, 80009, 80010]] [(4, hap 80600 (ap aO (bytes := 72) (by decide) h9))] [(1, lf dV cB), (4, .ptr 80004 0), (7, .ptr 80007 0), (66, lf aU t.aI), (67, i6 (t.aI.length:Int)), (68, i6 (j2 : Int))] [(80004, .cells 27 [.aG, .aG, .aG]), (500007100, .slice 78 5 (ml az bV) 0 false), (80007, .cells 27 [.own 500007100, .own 80600, .aG]), (80600, .slice 81 5 (ml aO l_2) 0 false)] (by kernel_rfl) ?_
  show ah _ _ _ _ _
  refine qR [(0, hto (inc hx2 hb2))] [(1, lf dV cB), (4, .ptr 80004 0), (7, .ptr 80007 0), (66, lf aU t.aI), (67, i6 (t.aI.length:Int)), (68, i6 ((j2 + 1 : Nat) : Int))] [(80004, .cells 27 [.aG, .aG, .aG]), (500007100, .slice 78 5 (ml az bV) 0 false), (80007, .cells 27 [.own 500007100, .own 80600, .aG]), (80600, .slice 81 5 (ml aO l_2) 0 false)] ?_
  exact Exists.intro l_2 (And.intro hm (bA.go [.sw 80600 708000701] [] (by kernel_rfl)))
 rintro j2 m_1 hj2 hl2 hm
 rw [hK2] at hm
 refine qDs [] [] [(69, .bool (decide ((j2 : Int) < (t.aI.length:Int))))] ?_
 refine A.seq ?_
 refine qF (ltF hl2) ?_
 refine A.exit ?_
 show ah _ _ _ _ _
 refine A.seq ?_
 obtain ⟨cD, h10, hm⟩ := aa hm
 refine qDs [(1, hle [500007100, 708000701] (gD h10) aau)] [1, 66, 67, 68, 69] [(105, .bool (!decide (cD = (0:Int))))] ?_
 rcases ai hm with ⟨c6,hm⟩|⟨c6,hm⟩
 ·refine qT c6 ?_
  refine qD [] [7, 105] [(5, i6 1)] [500007100, 80007, 708000701] [] ?_
  cases hm
  exact A.ret qE
 refine qF c6 ?_
 refine A.skip ?_
 show ah _ _ _ _ _
 refine qD [] [7, 105] [(5, i6 0)] [80004, 80007] [(80004, .cells 27 [.own 500007100, .own 708000701, .aG])] ?_
 refine A.ret ?_
 obtain rfl := some_inj hm
 exact A.fin W0 [.fz [500007100, 708000701]] rfl (by kernel_rfl)
theorem oI {f : aB} {aJ : Int} {r : aB × Int} (hm : jT f aJ = some r) : bM Tryz.prog 28 [] [.agg (k11 f), i6 aJ] (fun a σ' => a = .tup [.agg [lf az r.1.Links, .own 500002800, .own 500002801], i6 r.2] ∧ σ' = [(500002800, .slice 81 5 (ml aO r.1.aC) 0 false), (500002801, .slice 62 3 (ml aN r.1.aA) 0 false)]) := by
 refine aT Tryz.func28 rfl rfl ?_
 unfold jT at hm
 refine qS [(0, .al 28002), (1, .al 28004)] [(1, i6 aJ), (2, .ptr 28002 0), (4, .ptr 28004 0)] [(28002, .cells 27 (k11 f)), (28004, .cells 27 [.aG, .aG, .aG])] ?_
 rcases aho hm with ⟨af, h1, hm⟩ | hm
 ·refine qS [(2, hdc [900000091, 507007400, 507007401] (ur h1) apu)] [(4, .ptr 28004 0), (6, .ptr 900000091 0), (7, i6 af.2.1), (8, i6 af.2.2)] [(28004, .cells 27 [.aG, .aG, .aG]), (507007400, .slice 81 5 (ml aO af.1.f_.aC) 0 false), (507007401, .slice 62 3 (ml aN af.1.f_.aA) 0 false), (900000091, .cells 91 [lf az af.1.f_.Links, .own 507007400, .own 507007401])] ?_
  refine A.seq ?_
  refine qDs [] [] [(17, .bool (!decide (af.2.2 = (0:Int))))] ?_
  rcases ai hm with ⟨c1,hm⟩|⟨c1,hm⟩
  ·refine qT c1 ?_
   refine qD [] [6, 7, 8, 17] [(5, i6 af.2.2)] [507007400, 507007401, 900000091] [] ?_
   refine A.ret ?_
   obtain rfl := some_inj hm
   exact A.fin W0 [.ac 28004 500002800 81 5 1, .ac 28004 500002801 62 3 2] rfl (by kernel_rfl)
  refine qF c1 ?_
  refine A.skip ?_
  show ah _ _ _ _ _
  refine A.seq ?_
  obtain ⟨e_1, h2, hm⟩ := aa hm
  refine qDs [(6, hix (ix aO h2)), (8, hlo 507007400 1 (ix aO h2))] [8, 17] [(29, .bool (decide (e_1.Seq = (1000000:Int))))] ?_
  rcases ai hm with ⟨c2,hm⟩|⟨c2,hm⟩
  ·refine qT c2 ?_
   refine qD [] [6, 7, 29] [(5, i6 7)] [507007400, 507007401, 900000091] [] ?_
   refine A.ret ?_
   obtain rfl := some_inj hm
   exact A.fin W0 [.ac 28004 500002800 81 5 1, .ac 28004 500002801 62 3 2] rfl (by kernel_rfl)
  refine qF c2 ?_
  refine A.skip ?_
  show ah _ _ _ _ _
  obtain ⟨l_1, h3, hm⟩ := aa hm
  refine qD [(6, hix (ix aO h2)), (8, hlo 507007400 1 (ix aO h2)), (10, hix (ix aO h2)), (12, hso 507007400 (st aO (off := 1) (ca := [i6 (w64 (e_1.Seq + (1:Int)))]) h2 h3 rfl) (iM h2).1.1)] [29] [] [507007400] [(507007400, .slice 81 5 (ml aO l_1) 0 false)] ?_
  obtain ⟨ay, h4, hm⟩ := aa hm
  refine qD [(2, hdc [520028001, 520028002] (SC.at [(505007500, 507007400), (505007502, 507007401), (505007501, 520028001), (505007503, 520028002)] (lU h4)) apv)] [7] [] [507007400, 507007401, 900000091] [(900000091, .cells 91 [lf az ay.f_.Links, .own 520028001, .own 520028002]), (520028001, .slice 81 5 (ml aO ay.f_.aC) 0 false), (520028002, .slice 62 3 (ml aN ay.f_.aA) 0 false)] ?_
  refine qD [] [6] [(5, i6 0)] [28004, 900000091] [(28004, .cells 27 [lf az ay.f_.Links, .own 520028001, .own 520028002])] ?_
  refine A.ret ?_
  obtain rfl := some_inj hm
  exact A.fin W0 [.sw 520028001 500002800, .sw 520028002 500002801] rfl (by kernel_rfl)
 obtain ⟨aK, h5, hm⟩ := aa hm
 refine qS [(2, hro (uR h5) apu)] [(4, .ptr 28004 0), (6, .je), (7, i6 aK.1), (8, i6 aK.2)] [(28004, .cells 27 [.aG, .aG, .aG])] ?_
 refine A.seq ?_
 refine qDs [] [] [(17, .bool (!decide (aK.2 = (0:Int))))] ?_
 rcases ai hm with ⟨c3,hm⟩|⟨c3,hm⟩
 ·refine qT c3 ?_
  refine qDs [] [6, 7, 8, 17] [(5, i6 aK.2)] ?_
  refine A.ret ?_
  obtain rfl := some_inj hm
  exact A.fin W0 [.ac 28004 500002800 81 5 1, .ac 28004 500002801 62 3 2] rfl (by kernel_rfl)
 refine qF c3 ?_
 refine A.skip ?_
 show ah _ _ _ _ _
 refine A.seq ?_
 cases hm
theorem ru {f : aB} {r : aB × Int} (hm : iU f = some r) : RO Tryz.prog 13 [] [.agg (k11 f)] (.tup [.agg (k11 r.1), i6 r.2]) := by
 refine aT Tryz.func13 rfl rfl ?_
 unfold iU at hm
 refine qS [(0, .al 13001), (1, .al 13002)] [(1, .ptr 13001 0), (2, .ptr 13002 0)] [(13001, .cells 27 (k11 f)), (13002, .cells 27 [.aG, .aG, .aG])] ?_
 refine A.seq ?_
 obtain ⟨af, h1, hm⟩ := aa hm
 refine qDs [(1, hro (gD h1) aau)] [] [(9, .bool (!decide (af = (0:Int))))] ?_
 rcases ai hm with ⟨c1,hm⟩|⟨c1,hm⟩
 ·refine qT c1 ?_
  refine qD [] [1, 9] [(3, i6 1)] [13001] [] ?_
  cases hm
  exact A.ret qE
 refine qF c1 ?_
 refine A.skip ?_
 show ah _ _ _ _ _
 obtain ⟨ay, h2, hm⟩ := aa hm
 refine qD [(1, hdc [500005400, 500005401, 500005402] (nP h2) ahI), (3, .al 13014)] [1, 9] [(4, .ptr 13014 0)] [13001] [(500005400, .slice 78 5 (ml az ay.Links) 0 false), (500005401, .slice 81 5 (ml aO ay.aC) 0 false), (500005402, .slice 62 3 (ml aN ay.aA) 0 false), (13014, .cells 91 [.own 500005400, .own 500005401, .own 500005402])] ?_
 refine A.seq ?_
 refine qD [(1, hmk), (3, hmk), (5, hmk), (6, hbsC W0 13021), (7, hlnC W0)] [] [(21, .hnd (.csl 3) 13021), (22, i6 3), (23, i6 0)] [] [(13021, .cells 1 [.hnd (.iB 55) 13014, .hnd (.iB 56) 13014, .hnd (.iB 55) 13014])] ?_
 refine A.block ?_
 refine A.aok 4 ?_
 refine A.rnd ?_
 refine qS [] [(2, .ptr 13002 0), (4, .ptr 13014 0), (21, .hnd (.csl 3) 13021), (22, i6 3), (23, i6 0), (24, .bool true)] [(13002, .cells 27 [.aG, .aG, .aG]), (500005400, .slice 78 5 (ml az ay.Links) 0 false), (500005401, .slice 81 5 (ml aO ay.aC) 0 false), (500005402, .slice 62 3 (ml aN ay.aA) 0 false), (13014, .cells 91 [.own 500005400, .own 500005401, .own 500005402]), (13021, .cells 1 [.hnd (.iB 55) 13014, .hnd (.iB 56) 13014, .hnd (.iB 55) 13014])] ?_
 refine A.seq ?_
 refine A.cT rfl rfl ?_
 refine A.skip ?_
 show ah _ _ _ _ _
 refine A.seq ?_
 refine A.block ?_
 refine qDs [(0, ahF W0)] [24] [(6, .hnd (.iB 55) 13014)] ?_
 obtain ⟨aK, h3, hm⟩ := aa hm
 refine A.R W0 [.fz [500005400], .sc 13014 [13002, 500005401, 500005402, 13014, 13021]] [(1, hdm [520013001, 520013002] (SC.at [(505005500, 500005401), (505005502, 500005402), (900000091, 13014), (505005501, 520013001), (505005503, 520013002)] (mI h3)) apm)] [(2, .ptr 13002 0), (4, .ptr 13014 0), (21, .hnd (.csl 3) 13021), (22, i6 3), (23, i6 0)] [(13002, .cells 27 [.aG, .aG, .aG]), (13014, .cells 91 [lf az aK.f_.Links, .own 520013001, .own 520013002]), (13021, .cells 1 [.hnd (.iB 55) 13014, .hnd (.iB 56) 13014, .hnd (.iB 55) 13014]), (520013001, .slice 81 5 (ml aO aK.f_.aC) 0 false), (520013002, .slice 62 3 (ml aN aK.f_.aA) 0 false)] (by kernel_rfl) ?_
 show ah _ _ _ _ _
 refine qR [] [(2, .ptr 13002 0), (4, .ptr 13014 0), (21, .hnd (.csl 3) 13021), (22, i6 3), (23, i6 1)] [(13002, .cells 27 [.aG, .aG, .aG]), (13014, .cells 91 [lf az aK.f_.Links, .own 520013001, .own 520013002]), (13021, .cells 1 [.hnd (.iB 55) 13014, .hnd (.iB 56) 13014, .hnd (.iB 55) 13014]), (520013001, .slice 81 5 (ml aO aK.f_.aC) 0 false), (520013002, .slice 62 3 (ml aN aK.f_.aA) 0 false)] ?_
 show pY _ _ _ _ _ _
 refine A.rnd ?_
 refine qS [] [(2, .ptr 13002 0), (4, .ptr 13014 0), (21, .hnd (.csl 3) 13021), (22, i6 3), (23, i6 1), (24, .bool true)] [(13002, .cells 27 [.aG, .aG, .aG]), (13014, .cells 91 [lf az aK.f_.Links, .own 520013001, .own 520013002]), (13021, .cells 1 [.hnd (.iB 55) 13014, .hnd (.iB 56) 13014, .hnd (.iB 55) 13014]), (520013001, .slice 81 5 (ml aO aK.f_.aC) 0 false), (520013002, .slice 62 3 (ml aN aK.f_.aA) 0 false)] ?_
 refine A.seq ?_
 refine A.cT rfl rfl ?_
 refine A.skip ?_
 show ah _ _ _ _ _
 refine A.seq ?_
 refine A.block ?_
 refine qDs [(0, ahF W0)] [24] [(6, .hnd (.iB 56) 13014)] ?_
 obtain ⟨bh, h4, hm⟩ := aa hm
 refine qG [(1, hdm [520013003, 520013004] (SC.at [(505005600, 520013001), (505005602, 520013002), (900000091, 13014), (505005601, 520013003), (505005603, 520013004)] (qZ h4)) ck56)] [6] [] [13014, 520013001, 520013002] [(13014, .cells 91 [lf az bh.f_.Links, .own 520013003, .own 520013004]), (520013003, .slice 81 5 (ml aO bh.f_.aC) 0 false), (520013004, .slice 62 3 (ml aN bh.f_.aA) 0 false)] ?_
 show ah _ _ _ _ _
 refine qGs [] [23] [(23, i6 2)] ?_
 show pY _ _ _ _ _ _
 refine A.rnd ?_
 refine qS [] [(2, .ptr 13002 0), (4, .ptr 13014 0), (21, .hnd (.csl 3) 13021), (22, i6 3), (23, i6 2), (24, .bool true)] [(13002, .cells 27 [.aG, .aG, .aG]), (13014, .cells 91 [lf az bh.f_.Links, .own 520013003, .own 520013004]), (13021, .cells 1 [.hnd (.iB 55) 13014, .hnd (.iB 56) 13014, .hnd (.iB 55) 13014]), (520013003, .slice 81 5 (ml aO bh.f_.aC) 0 false), (520013004, .slice 62 3 (ml aN bh.f_.aA) 0 false)] ?_
 refine A.seq ?_
 refine A.cT rfl rfl ?_
 refine A.skip ?_
 show ah _ _ _ _ _
 refine A.seq ?_
 refine A.block ?_
 refine qDs [(0, ahF W0)] [24] [(6, .hnd (.iB 55) 13014)] ?_
 obtain ⟨bI, h5, hm⟩ := aa hm
 refine qG [(1, hdm [520013005, 520013006] (SC.at [(505005500, 520013003), (505005502, 520013004), (900000091, 13014), (505005501, 520013005), (505005503, 520013006)] (mI h5)) apm)] [6] [] [13014, 520013003, 520013004] [(13014, .cells 91 [lf az bI.f_.Links, .own 520013005, .own 520013006]), (520013005, .slice 81 5 (ml aO bI.f_.aC) 0 false), (520013006, .slice 62 3 (ml aN bI.f_.aA) 0 false)] ?_
 show ah _ _ _ _ _
 refine qGs [] [23] [(23, i6 3)] ?_
 show pY _ _ _ _ _ _
 refine A.rnd ?_
 refine qS [] [(2, .ptr 13002 0), (4, .ptr 13014 0), (21, .hnd (.csl 3) 13021), (22, i6 3), (23, i6 3), (24, .bool false)] [(13002, .cells 27 [.aG, .aG, .aG]), (13014, .cells 91 [lf az bI.f_.Links, .own 520013005, .own 520013006]), (13021, .cells 1 [.hnd (.iB 55) 13014, .hnd (.iB 56) 13014, .hnd (.iB 55) 13014]), (520013005, .slice 81 5 (ml aO bI.f_.aC) 0 false), (520013006, .slice 62 3 (ml aN bI.f_.aA) 0 false)] ?_
 refine A.seq ?_
 refine A.cF rfl rfl ?_
 refine A.exit ?_
 show ah _ _ _ _ _
 refine qD [] [4, 21, 22, 23, 24] [(3, i6 0)] [13002, 13014, 13021] [(13002, .cells 27 [lf az bI.f_.Links, .own 520013005, .own 520013006])] ?_
 refine A.ret ?_
 obtain rfl := some_inj hm
 exact A.fin W0 [.fz [520013005, 520013006]] rfl (by kernel_rfl)
end Go.Proofs.YtpmifmdidfgpdaaGreat
