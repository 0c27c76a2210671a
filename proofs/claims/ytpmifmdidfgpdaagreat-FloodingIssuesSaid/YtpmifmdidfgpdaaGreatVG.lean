/- The eR of cw of the program. No condition but bT bF stand in each. -/
import Derived.Test.YtpmifmdidfgpdaaGreatDA
import Derived.Test.YtpmifmdidfgpdaaGreatVM
import Derived.Test.YtpmifmdidfgpdaaGreatIN
namespace Go.Proofs.YtpmifmdidfgpdaaGreat
open Go
set_option maxRecDepth 100000
set_option linter.all false
theorem lC {f : aA} {aC : Int} {r : aT × Int × Int} (hm : dz f aC = some r) : bO Tryz.prog 74 [] [.agg (k11 f), i6 aC] (fun a σ' => a = .tup [.ptr 900000091 0, i6 r.2.1, i6 r.2.2] ∧ σ' = [(507007400, .slice 81 5 (ml aL r.1.f_.aG) 0 false), (507007401, .slice 62 3 (ml aN r.1.f_.aF) 0 false), (900000091, .cells 91 [lf az r.1.f_.Links, .own 507007400, .own 507007401])]) := by
 refine aQ Tryz.func74 rfl rfl ?_
 unfold dz at hm
 refine qS [(0, .al 74002)] [(1, i6 aC), (2, .ptr 74002 0)] [(74002, .cells 27 (k11 f))] ?_
 refine A.seq ?_
 obtain ⟨af, h1, hm⟩ := aa hm
 refine qDs [(1, hro (dF h1) ux)] [] [(11, .bool (!decide (af = (0:Int))))] ?_
 rcases ah hm with ⟨c1,hm⟩|⟨c1,hm⟩
 ·refine qT c1 ?_
  refine qS [] [(4, .iW), (5, i6 0), (6, i6 1)] [] ?_
  refine A.ret ?_
  cases hm
 refine qF c1 ?_
 refine A.skip ?_
 show ai _ _ _ _ _
 obtain ⟨aq, h2, hm⟩ := aa hm
 refine qDs [(2, hro (iC h2) abh)] [1, 11] [(7, i6 aq.1), (8, .bool aq.2)] ?_
 refine A.seq ?_
 refine qDs [] [8] [(19, .bool (!aq.2))] ?_
 rcases ah hm with ⟨c2,hm⟩|⟨c2,hm⟩
 ·refine qT c2 ?_
  refine qS [] [(4, .iW), (5, i6 0), (6, i6 4)] [] ?_
  refine A.ret ?_
  cases hm
 refine qF c2 ?_
 refine A.skip ?_
 show ai _ _ _ _ _
 obtain ⟨aI, h3, hm⟩ := aa hm
 refine qS [(1, hdc [500005400, 500005401, 500005402] (oD h3) aiV), (3, .al 74023)] [(4, .ptr 74023 0), (5, i6 aq.1), (6, i6 0)] [(500005400, .slice 78 5 (ml az aI.Links) 0 false), (500005401, .slice 81 5 (ml aL aI.aG) 0 false), (500005402, .slice 62 3 (ml aN aI.aF) 0 false), (74023, .cells 91 [.own 500005400, .own 500005401, .own 500005402])] ?_
 refine A.ret ?_
 obtain rfl := some_inj hm
 exact A.fin W0 [.fz [500005400], .sw 74023 900000091, .sw 500005401 507007400, .sw 500005402 507007401, .sc 900000091 [507007400, 507007401]] rfl (by kernel_rfl)
theorem mz {f : aA} {aC : Int} {r : Int × Int} (hm : en f aC = some r) : RO Tryz.prog 74 [] [.agg (k11 f), i6 aC] (.tup [.iW, i6 r.1, i6 r.2]) := by
 refine aQ Tryz.func74 rfl rfl ?_
 unfold en at hm
 refine qS [(0, .al 74002)] [(1, i6 aC), (2, .ptr 74002 0)] [(74002, .cells 27 (k11 f))] ?_
 refine A.seq ?_
 obtain ⟨af, h1, hm⟩ := aa hm
 refine qDs [(1, hro (dF h1) ux)] [] [(11, .bool (!decide (af = (0:Int))))] ?_
 rcases ah hm with ⟨c1,hm⟩|⟨c1,hm⟩
 ·refine qT c1 ?_
  refine qS [] [(4, .iW), (5, i6 0), (6, i6 1)] [] ?_
  cases hm
  exact A.ret qE
 refine qF c1 ?_
 refine A.skip ?_
 show ai _ _ _ _ _
 obtain ⟨aq, h2, hm⟩ := aa hm
 refine qDs [(2, hro (iC h2) abh)] [1, 11] [(7, i6 aq.1), (8, .bool aq.2)] ?_
 refine A.seq ?_
 refine qDs [] [8] [(19, .bool (!aq.2))] ?_
 rcases ah hm with ⟨c2,hm⟩|⟨c2,hm⟩
 ·refine qT c2 ?_
  refine qS [] [(4, .iW), (5, i6 0), (6, i6 4)] [] ?_
  cases hm
  exact A.ret qE
 refine qF c2 ?_
 refine A.skip ?_
 show ai _ _ _ _ _
 obtain ⟨aI, h3, hm⟩ := aa hm
 refine qS [(1, hdc [500005400, 500005401, 500005402] (oD h3) aiV), (3, .al 74023)] [(4, .ptr 74023 0), (5, i6 aq.1), (6, i6 0)] [(500005400, .slice 78 5 (ml az aI.Links) 0 false), (500005401, .slice 81 5 (ml aL aI.aG) 0 false), (500005402, .slice 62 3 (ml aN aI.aF) 0 false), (74023, .cells 91 [.own 500005400, .own 500005401, .own 500005402])] ?_
 refine A.ret ?_
 cases hm
theorem vV {oa0 : gi} {c_0 : aB} {r : Bool} (hm : oR oa0 c_0 = some r) : RO Tryz.prog 132 [] [.agg (k10 oa0), .dY (k2 c_0)] (.bool r) := by
 refine aQ Tryz.func132 rfl rfl ?_
 unfold oR at hm
 refine qS [(0, .al 132002)] [(1, .dY (k2 c_0)), (2, .ptr 132002 0)] [(132002, .cells 155 (k10 oa0))] ?_
 obtain ⟨af, h1, hm⟩ := aa hm
 refine qS [(3, hro (gN h1) wL)] [(3, .bool (!af))] [] ?_
 cases hm
 exact A.ret qE
theorem xB {t : aB} {cD : List gi} {r : aA × Int} (hm : qe t cD = some r) : RO Tryz.prog 80 [] [.agg (k2 t), lf ep cD] (.tup [.agg (k11 r.1), i6 r.2]) := by
 refine aQ Tryz.func80 rfl rfl ?_
 unfold qe at hm
 refine qS [(0, .al 80002), (1, .al 80004)] [(1, lf ep cD), (2, .ptr 80002 0), (4, .ptr 80004 0)] [(80002, .cells 44 (k2 t)), (80004, .cells 27 [.aD, .aD, .aD])] ?_
 refine A.seq ?_
 obtain ⟨af, h1, hm⟩ := aa hm
 refine qDs [(1, hro (jf h1) ac3)] [] [(15, .bool (!decide (af = (0:Int))))] ?_
 rcases ah hm with ⟨c1,hm⟩|⟨c1,hm⟩
 ·refine qT c1 ?_
  refine qD [] [1, 2, 15] [(5, i6 1)] [80002] [] ?_
  cases hm
  exact A.ret qE
 refine qF c1 ?_
 refine A.skip ?_
 show ai _ _ _ _ _
 refine A.seq ?_
 obtain ⟨aq, h2, hm⟩ := aa hm
 refine qDs [(2, hle [80002] (lY (f_g := 132) (f_c := [.dY (k2 t)]) (f_k := auu) (f_f := fun _ _ h => vV h) h2) aut)] [15] [(19, .bool aq)] ?_
 rcases ah hm with ⟨c2,hm⟩|⟨c2,hm⟩
 ·refine qT c2 ?_
  refine qD [] [1, 2, 19] [(5, i6 4)] [80002] [] ?_
  cases hm
  exact A.ret qE
 refine qF c2 ?_
 refine A.skip ?_
 show ai _ _ _ _ _
 refine A.seq ?_
 refine qDs [(1, hto (lnE ep cD))] [19] [(22, i6 (cD.length:Int)), (23, i6 0)] ?_
 refine A.block ?_
 refine A.bS 1 rfl fun hb1 => ?_
 obtain ⟨B1, K1, hB1, hK1, hm⟩ := bq hm
 refine A.lpI (l := cD) (j0 := 0) (B := B1) (K := K1) hm (fun j1 => fun sg => match sg with | () => [(1, lf ep cD), (2, .ptr 80002 0), (4, .ptr 80004 0), (22, i6 (cD.length:Int)), (23, i6 (j1 : Int))]) (fun j1 => fun sg => match sg with | () => [(80002, .cells 44 (k2 t)), (80004, .cells 27 [.aD, .aD, .aD])]) ?_ ?_ ?_
 ·exact qW
 ·rintro j1 e1 Z1 ⟨⟩ hj1 hx1 hm
  rw [hB1] at hm
  refine qDs [] [] [(24, .bool (decide ((j1 : Int) < (cD.length:Int))))] ?_
  refine A.seq ?_
  refine qT (ltT hx1) ?_
  refine A.skip ?_
  show ai _ _ _ _ _
  refine A.seq ?_
  refine A.block ?_
  refine qDs [] [24] [(6, i6 (j1 : Int))] ?_
  obtain ⟨J1, hJ1, hm⟩ := bB hm
  refine A.J (J := J1) (r := r) (fun v_1 => [(1, lf ep cD), (2, .ptr 80002 0), (4, .ptr 80004 0), (22, i6 (cD.length:Int)), (23, i6 (j1 : Int)), (58, .bool v_1)]) (fun v_1 => [(80002, .cells 44 (k2 t)), (80004, .cells 27 [.aD, .aD, .aD])]) ?_ ?_
  ·rcases ah hm with ⟨c3,hm⟩|⟨c3,hm⟩
   ·obtain ⟨e_1, h3, hm⟩ := aa hm
    obtain ⟨aI, h4, hm⟩ := aa hm
    obtain ⟨bk, h5, hm⟩ := aa hm
    obtain ⟨bG, h6, hm⟩ := aa hm
    refine qGs [(2, hto (bE c3)), (6, hix (ix ep h3)), (11, hix (ix ep (aV hx1))), (14, hro (gC h4) yP), (18, hix (ix ep h3)), (24, hix (ix ep (aV hx1))), (28, hro (gC h5) yP), (30, hro (va h6) akk)] [6] [(58, .bool (decide ((0:Int) ≤ bG)))] ?_
    exact qX (decide ((0:Int) ≤ bG)) hm
   refine qGs [(2, hto (bE c3))] [6] [(58, .bool false)] ?_
   exact qX false hm
  rintro v_1 hm
  rw [hJ1] at hm
  rcases ah hm with ⟨c4,hm⟩|⟨c4,hm⟩
  ·refine qT c4 ?_
   refine qD [] [1, 2, 22, 23, 58] [(5, i6 25)] [80002] [] ?_
   cases hm
   exact A.ret qE
  refine qF c4 ?_
  refine A.skip ?_
  show ai _ _ _ _ _
  refine qGs [(0, hto (inc hx1 hb1))] [23, 58] [(23, i6 ((j1 + 1 : Nat) : Int))] ?_
  exact qX () hm
 rintro j1 ⟨⟩ hj1 hl1 hm
 rw [hK1] at hm
 refine qDs [] [] [(24, .bool (decide ((j1 : Int) < (cD.length:Int))))] ?_
 refine A.seq ?_
 refine qF (ltF hl1) ?_
 refine A.exit ?_
 show ai _ _ _ _ _
 obtain ⟨b9, h7, hm⟩ := aa hm
 refine qD [(2, hdc [500007100] (gq h7) aiW), (4, .al 80007)] [22, 23, 24] [(7, .ptr 80007 0)] [] [(500007100, .slice 78 5 (ml az b9) 0 false), (80007, .cells 27 [.own 500007100, .aD, .aD])] ?_
 refine A.seq ?_
 refine qD [(2, hto (lnE aS t.aK))] [2] [(66, lf aS t.aK), (67, i6 (t.aK.length:Int)), (68, i6 0)] [80002] [] ?_
 refine A.block ?_
 refine A.bS 66 rfl fun hb2 => ?_
 obtain ⟨B2, K2, hB2, hK2, hm⟩ := bq hm
 refine A.lpI (l := t.aK) (j0 := 0) (B := B2) (K := K2) hm (fun j2 => fun m_1 => [(1, lf ep cD), (4, .ptr 80004 0), (7, .ptr 80007 0), (66, lf aS t.aK), (67, i6 (t.aK.length:Int)), (68, i6 (j2 : Int))]) (fun j2 => fun m_1 => [(80004, .cells 27 [.aD, .aD, .aD]), (500007100, .slice 78 5 (ml az b9) 0 false), (80007, .cells 27 [.own 500007100, .own 708000701, .aD]), (708000701, .slice 81 5 (ml aL m_1) 0 false)]) ?_ ?_ ?_
 ·exact bz.go [.ac 80007 708000701 81 5 1] [] (by kernel_rfl)
 ·rintro j2 e2 Z2 m_1 hj2 hx2 hm
  rw [hB2] at hm
  refine qDs [] [] [(69, .bool (decide ((j2 : Int) < (t.aK.length:Int))))] ?_
  refine A.seq ?_
  refine qT (ltT hx2) ?_
  refine A.skip ?_
  show ai _ _ _ _ _
  refine A.seq ?_
  refine A.block ?_
  refine qD [(0, hix (ix aS (aV hx2))), (2, .al 80009)] [69] [(9, .ptr 80009 0)] [] [(80009, .cells 87 (k0 e2))] ?_
  refine qD [(5, .al 80010)] [] [(10, .ptr 80010 0)] [] [(80010, .cells 81 [i6 e2.ID, i6 0, .bool e2.bh, .aD, .aD])] ?_
  refine A.seq ?_
  refine qDs [(1, hto (lnE ep cD))] [] [(77, lf ep cD), (78, i6 (cD.length:Int)), (79, i6 0)] ?_
  refine A.block ?_
  refine A.bS 1 rfl fun hb3 => ?_
  obtain ⟨B3, K3, hB3, hK3, hm⟩ := bq hm
  refine A.lpI (l := cD) (j0 := 0) (B := B3) (K := K3) hm (fun j3 => fun m_2 => [(1, lf ep cD), (4, .ptr 80004 0), (7, .ptr 80007 0), (9, .ptr 80009 0), (10, .ptr 80010 0), (66, lf aS t.aK), (67, i6 (t.aK.length:Int)), (68, i6 (j2 : Int)), (77, lf ep cD), (78, i6 (cD.length:Int)), (79, i6 (j3 : Int))]) (fun j3 => fun m_2 => [(80004, .cells 27 [.aD, .aD, .aD]), (500007100, .slice 78 5 (ml az b9) 0 false), (80007, .cells 27 [.own 500007100, .own 708000701, .aD]), (708000701, .slice 81 5 (ml aL m_1) 0 false), (80009, .cells 87 (k0 e2)), (80010, .cells 81 [i6 e2.ID, i6 0, .bool e2.bh, .own 708001003, .aD]), (708001003, .slice 85 3 (ml aR m_2) 0 false)]) ?_ ?_ ?_
  ·exact bz.go [.ac 80010 708001003 85 3 3] [] (by kernel_rfl)
  ·rintro j3 e3 Z3 m_2 hj3 hx3 hm
   rw [hB3] at hm
   refine qDs [] [] [(80, .bool (decide ((j3 : Int) < (cD.length:Int))))] ?_
   refine A.seq ?_
   refine qT (ltT hx3) ?_
   refine A.skip ?_
   show ai _ _ _ _ _
   obtain ⟨J2, hJ2, hm⟩ := bB hm
   refine A.J (J := J2) (r := r) (fun m_3 => [(1, lf ep cD), (4, .ptr 80004 0), (7, .ptr 80007 0), (9, .ptr 80009 0), (10, .ptr 80010 0), (66, lf aS t.aK), (67, i6 (t.aK.length:Int)), (68, i6 (j2 : Int)), (77, lf ep cD), (78, i6 (cD.length:Int)), (79, i6 (j3 : Int))]) (fun m_3 => [(80004, .cells 27 [.aD, .aD, .aD]), (500007100, .slice 78 5 (ml az b9) 0 false), (80007, .cells 27 [.own 500007100, .own 708000701, .aD]), (708000701, .slice 81 5 (ml aL m_1) 0 false), (80009, .cells 87 (k0 e2)), (80010, .cells 81 [i6 e2.ID, i6 0, .bool e2.bh, .own 708001003, .aD]), (708001003, .slice 85 3 (ml aR m_3) 0 false)]) ?_ ?_
   ·refine A.block ?_
    refine qD [(0, hix (ix ep (aV hx3))), (2, .al 80012)] [80] [(12, .ptr 80012 0)] [] [(80012, .cells 155 (k10 e3))] ?_
    refine qDs [] [] [(87, .bool (decide (e3.aj = e2.ID)))] ?_
    rcases ah hm with ⟨c5,hm⟩|⟨c5,hm⟩
    ·refine qT c5 ?_
     obtain ⟨l_1, h8, hm⟩ := aa hm
     refine qG [(5, hap 80593 (ap aR (bytes := 24) (by decide) h8))] [12, 87] [] [80010, 708001003, 80012] [(80010, .cells 81 [i6 e2.ID, i6 0, .bool e2.bh, .own 80593, .aD]), (80593, .slice 85 3 (ml aR l_1) 0 false)] ?_
     exact Exists.intro l_1 (And.intro hm (bz.go [.sw 80593 708001003] [] (by kernel_rfl)))
    refine qF c5 ?_
    refine A.skip ?_
    exact qX m_2 hm
   rintro m_3 hm
   rw [hJ2] at hm
   refine qGs [(0, hto (inc hx3 hb3))] [79] [(79, i6 ((j3 + 1 : Nat) : Int))] ?_
   exact qX m_3 hm
  rintro j3 m_2 hj3 hl3 hm
  rw [hK3] at hm
  refine qDs [] [] [(80, .bool (decide ((j3 : Int) < (cD.length:Int))))] ?_
  refine A.seq ?_
  refine qF (ltF hl3) ?_
  refine A.exit ?_
  show ai _ _ _ _ _
  obtain ⟨l_2, h9, hm⟩ := aa hm
  refine A.R W0 [.fz [708001003], .sc 80010 [80004, 500007100, 80007, 708000701, 80009, 80010]] [(4, hap 80600 (ap aL (bytes := 72) (by decide) h9))] [(1, lf ep cD), (4, .ptr 80004 0), (7, .ptr 80007 0), (66, lf aS t.aK), (67, i6 (t.aK.length:Int)), (68, i6 (j2 : Int))] [(80004, .cells 27 [.aD, .aD, .aD]), (500007100, .slice 78 5 (ml az b9) 0 false), (80007, .cells 27 [.own 500007100, .own 80600, .aD]), (80600, .slice 81 5 (ml aL l_2) 0 false)] (by kernel_rfl) ?_
  show ai _ _ _ _ _
  refine qR [(0, hto (inc hx2 hb2))] [(1, lf ep cD), (4, .ptr 80004 0), (7, .ptr 80007 0), (66, lf aS t.aK), (67, i6 (t.aK.length:Int)), (68, i6 ((j2 + 1 : Nat) : Int))] [(80004, .cells 27 [.aD, .aD, .aD]), (500007100, .slice 78 5 (ml az b9) 0 false), (80007, .cells 27 [.own 500007100, .own 80600, .aD]), (80600, .slice 81 5 (ml aL l_2) 0 false)] ?_
  exact Exists.intro l_2 (And.intro hm (bz.go [.sw 80600 708000701] [] (by kernel_rfl)))
 rintro j2 m_1 hj2 hl2 hm
 rw [hK2] at hm
 refine qDs [] [] [(69, .bool (decide ((j2 : Int) < (t.aK.length:Int))))] ?_
 refine A.seq ?_
 refine qF (ltF hl2) ?_
 refine A.exit ?_
 show ai _ _ _ _ _
 refine A.seq ?_
 obtain ⟨ct, h10, hm⟩ := aa hm
 refine qDs [(1, hle [500007100, 708000701] (dF h10) ux)] [1, 66, 67, 68, 69] [(105, .bool (!decide (ct = (0:Int))))] ?_
 rcases ah hm with ⟨c6,hm⟩|⟨c6,hm⟩
 ·refine qT c6 ?_
  refine qD [] [7, 105] [(5, i6 1)] [500007100, 80007, 708000701] [] ?_
  cases hm
  exact A.ret qE
 refine qF c6 ?_
 refine A.skip ?_
 show ai _ _ _ _ _
 refine qD [] [7, 105] [(5, i6 0)] [80004, 80007] [(80004, .cells 27 [.own 500007100, .own 708000701, .aD])] ?_
 refine A.ret ?_
 obtain rfl := some_inj hm
 exact A.fin W0 [.fz [500007100, 708000701]] rfl (by kernel_rfl)
theorem lD {f : aA} {aC : Int} {r : aA × Int} (hm : fC f aC = some r) : bO Tryz.prog 28 [] [.agg (k11 f), i6 aC] (fun a σ' => a = .tup [.agg [lf az r.1.Links, .own 500002800, .own 500002801], i6 r.2] ∧ σ' = [(500002800, .slice 81 5 (ml aL r.1.aG) 0 false), (500002801, .slice 62 3 (ml aN r.1.aF) 0 false)]) := by
 refine aQ Tryz.func28 rfl rfl ?_
 unfold fC at hm
 refine qS [(0, .al 28002), (1, .al 28004)] [(1, i6 aC), (2, .ptr 28002 0), (4, .ptr 28004 0)] [(28002, .cells 27 (k11 f)), (28004, .cells 27 [.aD, .aD, .aD])] ?_
 rcases zK hm with ⟨af, h1, hm⟩ | hm
 ·refine qS [(2, hdc [900000091, 507007400, 507007401] (lC h1) abi)] [(4, .ptr 28004 0), (6, .ptr 900000091 0), (7, i6 af.2.1), (8, i6 af.2.2)] [(28004, .cells 27 [.aD, .aD, .aD]), (507007400, .slice 81 5 (ml aL af.1.f_.aG) 0 false), (507007401, .slice 62 3 (ml aN af.1.f_.aF) 0 false), (900000091, .cells 91 [lf az af.1.f_.Links, .own 507007400, .own 507007401])] ?_
  refine A.seq ?_
  refine qDs [] [] [(17, .bool (!decide (af.2.2 = (0:Int))))] ?_
  rcases ah hm with ⟨c1,hm⟩|⟨c1,hm⟩
  ·refine qT c1 ?_
   refine qD [] [6, 7, 8, 17] [(5, i6 af.2.2)] [507007400, 507007401, 900000091] [] ?_
   refine A.ret ?_
   obtain rfl := some_inj hm
   exact A.fin W0 [.ac 28004 500002800 81 5 1, .ac 28004 500002801 62 3 2] rfl (by kernel_rfl)
  refine qF c1 ?_
  refine A.skip ?_
  show ai _ _ _ _ _
  refine A.seq ?_
  obtain ⟨e_1, h2, hm⟩ := aa hm
  refine qDs [(6, hix (ix aL h2)), (8, hlo 507007400 1 (ix aL h2))] [8, 17] [(29, .bool (decide (e_1.Seq = (1000000:Int))))] ?_
  rcases ah hm with ⟨c2,hm⟩|⟨c2,hm⟩
  ·refine qT c2 ?_
   refine qD [] [6, 7, 29] [(5, i6 7)] [507007400, 507007401, 900000091] [] ?_
   refine A.ret ?_
   obtain rfl := some_inj hm
   exact A.fin W0 [.ac 28004 500002800 81 5 1, .ac 28004 500002801 62 3 2] rfl (by kernel_rfl)
  refine qF c2 ?_
  refine A.skip ?_
  show ai _ _ _ _ _
  obtain ⟨l_1, h3, hm⟩ := aa hm
  refine qD [(6, hix (ix aL h2)), (8, hlo 507007400 1 (ix aL h2)), (10, hix (ix aL h2)), (12, hso 507007400 (st aL (off := 1) (ca := [i6 (w64 (e_1.Seq + (1:Int)))]) h2 h3 rfl) (gZ h2).1.1)] [29] [] [507007400] [(507007400, .slice 81 5 (ml aL l_1) 0 false)] ?_
  obtain ⟨aq, h4, hm⟩ := aa hm
  refine qD [(2, hdc [520028001, 520028002] (SC.at [(505007500, 507007400), (505007502, 507007401), (505007501, 520028001), (505007503, 520028002)] (ja h4)) aiX)] [7] [] [507007400, 507007401, 900000091] [(900000091, .cells 91 [lf az aq.f_.Links, .own 520028001, .own 520028002]), (520028001, .slice 81 5 (ml aL aq.f_.aG) 0 false), (520028002, .slice 62 3 (ml aN aq.f_.aF) 0 false)] ?_
  refine qD [] [6] [(5, i6 0)] [28004, 900000091] [(28004, .cells 27 [lf az aq.f_.Links, .own 520028001, .own 520028002])] ?_
  refine A.ret ?_
  obtain rfl := some_inj hm
  exact A.fin W0 [.sw 520028001 500002800, .sw 520028002 500002801] rfl (by kernel_rfl)
 obtain ⟨aI, h5, hm⟩ := aa hm
 refine qS [(2, hro (mz h5) abi)] [(4, .ptr 28004 0), (6, .iW), (7, i6 aI.1), (8, i6 aI.2)] [(28004, .cells 27 [.aD, .aD, .aD])] ?_
 refine A.seq ?_
 refine qDs [] [] [(17, .bool (!decide (aI.2 = (0:Int))))] ?_
 rcases ah hm with ⟨c3,hm⟩|⟨c3,hm⟩
 ·refine qT c3 ?_
  refine qDs [] [6, 7, 8, 17] [(5, i6 aI.2)] ?_
  refine A.ret ?_
  obtain rfl := some_inj hm
  exact A.fin W0 [.ac 28004 500002800 81 5 1, .ac 28004 500002801 62 3 2] rfl (by kernel_rfl)
 refine qF c3 ?_
 refine A.skip ?_
 show ai _ _ _ _ _
 refine A.seq ?_
 cases hm
theorem vW {f : aA} {aC : Int} {r : aA × Int} (hm : jN f aC = some r) : RO Tryz.prog 30 [] [.agg (k11 f), i6 aC] (.tup [.agg (k11 r.1), i6 r.2]) := by
 refine aQ Tryz.func30 rfl rfl ?_
 unfold jN at hm
 refine qS [(0, .al 30002), (1, .al 30004)] [(1, i6 aC), (2, .ptr 30002 0), (4, .ptr 30004 0)] [(30002, .cells 27 (k11 f)), (30004, .cells 27 [.aD, .aD, .aD])] ?_
 rcases zK hm with ⟨af, h1, hm⟩ | hm
 ·refine qS [(2, hdc [900000091, 507007400, 507007401] (lC h1) abi)] [(4, .ptr 30004 0), (6, .ptr 900000091 0), (7, i6 af.2.1), (8, i6 af.2.2)] [(30004, .cells 27 [.aD, .aD, .aD]), (507007400, .slice 81 5 (ml aL af.1.f_.aG) 0 false), (507007401, .slice 62 3 (ml aN af.1.f_.aF) 0 false), (900000091, .cells 91 [lf az af.1.f_.Links, .own 507007400, .own 507007401])] ?_
  refine A.seq ?_
  refine qDs [] [] [(17, .bool (!decide (af.2.2 = (0:Int))))] ?_
  rcases ah hm with ⟨c1,hm⟩|⟨c1,hm⟩
  ·refine qT c1 ?_
   refine qD [] [6, 7, 8, 17] [(5, i6 af.2.2)] [507007400, 507007401, 900000091] [] ?_
   cases hm
   exact A.ret qE
  refine qF c1 ?_
  refine A.skip ?_
  show ai _ _ _ _ _
  obtain ⟨e_1, h2, hm⟩ := aa hm
  obtain ⟨l_1, h3, hm⟩ := aa hm
  obtain ⟨e_2, h4, hm⟩ := aa hm
  obtain ⟨l_2, h5, hm⟩ := aa hm
  refine qD [(13, hix (ix aL h2)), (15, hso 507007400 (st aL (off := 4) (ca := [.lst false []]) h2 h3 rfl) (gZ h2).1.1), (16, hix (ix aL h4)), (18, hso 507007400 (st aL (off := 1) (ca := [i6 1]) h4 h5 rfl) (gZ h4).1.1)] [8, 17] [] [507007400] [(507007400, .slice 81 5 (ml aL l_2) 0 false)] ?_
  obtain ⟨aq, h6, hm⟩ := aa hm
  refine qD [(2, hdc [520030001, 520030002] (SC.at [(505007500, 507007400), (505007502, 507007401), (505007501, 520030001), (505007503, 520030002)] (ja h6)) aiX)] [7] [] [507007400, 507007401, 900000091] [(900000091, .cells 91 [lf az aq.f_.Links, .own 520030001, .own 520030002]), (520030001, .slice 81 5 (ml aL aq.f_.aG) 0 false), (520030002, .slice 62 3 (ml aN aq.f_.aF) 0 false)] ?_
  refine qD [] [6] [(5, i6 0)] [30004, 900000091] [(30004, .cells 27 [lf az aq.f_.Links, .own 520030001, .own 520030002])] ?_
  refine A.ret ?_
  obtain rfl := some_inj hm
  exact A.fin W0 [.fz [520030001, 520030002]] rfl (by kernel_rfl)
 obtain ⟨aI, h7, hm⟩ := aa hm
 refine qS [(2, hro (mz h7) abi)] [(4, .ptr 30004 0), (6, .iW), (7, i6 aI.1), (8, i6 aI.2)] [(30004, .cells 27 [.aD, .aD, .aD])] ?_
 refine A.seq ?_
 refine qDs [] [] [(17, .bool (!decide (aI.2 = (0:Int))))] ?_
 rcases ah hm with ⟨c2,hm⟩|⟨c2,hm⟩
 ·refine qT c2 ?_
  refine qDs [] [6, 7, 8, 17] [(5, i6 aI.2)] ?_
  cases hm
  exact A.ret qE
 refine qF c2 ?_
 refine A.skip ?_
 show ai _ _ _ _ _
 cases hm
theorem xX {f : aA} {aC : Int} {r : aA × Int} (hm : l7 f aC = some r) : RO Tryz.prog 32 [] [.agg (k11 f), i6 aC] (.tup [.agg (k11 r.1), i6 r.2]) := by
 refine aQ Tryz.func32 rfl rfl ?_
 unfold l7 at hm
 refine qS [(0, .al 32002), (1, .al 32004)] [(1, i6 aC), (2, .ptr 32002 0), (4, .ptr 32004 0)] [(32002, .cells 27 (k11 f)), (32004, .cells 27 [.aD, .aD, .aD])] ?_
 rcases zK hm with ⟨af, h1, hm⟩ | hm
 ·refine qS [(2, hdc [900000091, 507007400, 507007401] (lC h1) abi)] [(4, .ptr 32004 0), (6, .ptr 900000091 0), (7, i6 af.2.1), (8, i6 af.2.2)] [(32004, .cells 27 [.aD, .aD, .aD]), (507007400, .slice 81 5 (ml aL af.1.f_.aG) 0 false), (507007401, .slice 62 3 (ml aN af.1.f_.aF) 0 false), (900000091, .cells 91 [lf az af.1.f_.Links, .own 507007400, .own 507007401])] ?_
  refine A.seq ?_
  refine qDs [] [] [(17, .bool (!decide (af.2.2 = (0:Int))))] ?_
  rcases ah hm with ⟨c1,hm⟩|⟨c1,hm⟩
  ·refine qT c1 ?_
   refine qD [] [6, 7, 8, 17] [(5, i6 af.2.2)] [507007400, 507007401, 900000091] [] ?_
   cases hm
   exact A.ret qE
  refine qF c1 ?_
  refine A.skip ?_
  show ai _ _ _ _ _
  obtain ⟨aq, h2, hm⟩ := aa hm
  refine qD [(2, hdc [520032001, 520032002] (SC.at [(505007800, 507007400), (505007802, 507007401), (505007801, 520032001), (505007803, 520032002)] (n5 h2)) aqn)] [7, 8, 17] [] [507007400, 507007401, 900000091] [(900000091, .cells 91 [lf az aq.f_.Links, .own 520032001, .own 520032002]), (520032001, .slice 81 5 (ml aL aq.f_.aG) 0 false), (520032002, .slice 62 3 (ml aN aq.f_.aF) 0 false)] ?_
  refine A.seq ?_
  refine qDs [(5, hto (lnE aN aq.f_.aF))] [] [(29, .bool (decide ((400:Int) < (aq.f_.aF.length:Int))))] ?_
  rcases ah hm with ⟨c2,hm⟩|⟨c2,hm⟩
  ·refine qT c2 ?_
   refine qD [] [6, 29] [(5, i6 3)] [900000091, 520032001, 520032002] [] ?_
   cases hm
   exact A.ret qE
  refine qF c2 ?_
  refine A.skip ?_
  show ai _ _ _ _ _
  refine qD [] [6, 29] [(5, i6 0)] [32004, 900000091] [(32004, .cells 27 [lf az aq.f_.Links, .own 520032001, .own 520032002])] ?_
  refine A.ret ?_
  obtain rfl := some_inj hm
  exact A.fin W0 [.fz [520032001, 520032002]] rfl (by kernel_rfl)
 obtain ⟨aI, h3, hm⟩ := aa hm
 refine qS [(2, hro (mz h3) abi)] [(4, .ptr 32004 0), (6, .iW), (7, i6 aI.1), (8, i6 aI.2)] [(32004, .cells 27 [.aD, .aD, .aD])] ?_
 refine A.seq ?_
 refine qDs [] [] [(17, .bool (!decide (aI.2 = (0:Int))))] ?_
 rcases ah hm with ⟨c3,hm⟩|⟨c3,hm⟩
 ·refine qT c3 ?_
  refine qDs [] [6, 7, 8, 17] [(5, i6 aI.2)] ?_
  cases hm
  exact A.ret qE
 refine qF c3 ?_
 refine A.skip ?_
 show ai _ _ _ _ _
 cases hm
theorem xC {f : aA} {r : aA × Int} (hm : qf f = some r) : RO Tryz.prog 13 [] [.agg (k11 f)] (.tup [.agg (k11 r.1), i6 r.2]) := by
 refine aQ Tryz.func13 rfl rfl ?_
 unfold qf at hm
 refine qS [(0, .al 13001), (1, .al 13002)] [(1, .ptr 13001 0), (2, .ptr 13002 0)] [(13001, .cells 27 (k11 f)), (13002, .cells 27 [.aD, .aD, .aD])] ?_
 refine A.seq ?_
 obtain ⟨af, h1, hm⟩ := aa hm
 refine qDs [(1, hro (dF h1) ux)] [] [(9, .bool (!decide (af = (0:Int))))] ?_
 rcases ah hm with ⟨c1,hm⟩|⟨c1,hm⟩
 ·refine qT c1 ?_
  refine qD [] [1, 9] [(3, i6 1)] [13001] [] ?_
  cases hm
  exact A.ret qE
 refine qF c1 ?_
 refine A.skip ?_
 show ai _ _ _ _ _
 obtain ⟨aq, h2, hm⟩ := aa hm
 refine qD [(1, hdc [500005400, 500005401, 500005402] (oD h2) aiV), (3, .al 13014)] [1, 9] [(4, .ptr 13014 0)] [13001] [(500005400, .slice 78 5 (ml az aq.Links) 0 false), (500005401, .slice 81 5 (ml aL aq.aG) 0 false), (500005402, .slice 62 3 (ml aN aq.aF) 0 false), (13014, .cells 91 [.own 500005400, .own 500005401, .own 500005402])] ?_
 refine A.seq ?_
 refine qD [(1, hmk), (3, hmk), (5, hmk), (6, hbsC W0 13021), (7, hlnC W0)] [] [(21, .hnd (.csl 3) 13021), (22, i6 3), (23, i6 0)] [] [(13021, .cells 1 [.hnd (.iV 55) 13014, .hnd (.iV 56) 13014, .hnd (.iV 55) 13014])] ?_
 refine A.block ?_
 refine A.apb 4 ?_
 refine A.rnd ?_
 refine qS [] [(2, .ptr 13002 0), (4, .ptr 13014 0), (21, .hnd (.csl 3) 13021), (22, i6 3), (23, i6 0), (24, .bool true)] [(13002, .cells 27 [.aD, .aD, .aD]), (500005400, .slice 78 5 (ml az aq.Links) 0 false), (500005401, .slice 81 5 (ml aL aq.aG) 0 false), (500005402, .slice 62 3 (ml aN aq.aF) 0 false), (13014, .cells 91 [.own 500005400, .own 500005401, .own 500005402]), (13021, .cells 1 [.hnd (.iV 55) 13014, .hnd (.iV 56) 13014, .hnd (.iV 55) 13014])] ?_
 refine A.seq ?_
 refine A.cT rfl rfl ?_
 refine A.skip ?_
 show ai _ _ _ _ _
 refine A.seq ?_
 refine A.block ?_
 refine qDs [(0, aiO W0)] [24] [(6, .hnd (.iV 55) 13014)] ?_
 obtain ⟨aI, h3, hm⟩ := aa hm
 refine A.R W0 [.fz [500005400], .sc 13014 [13002, 500005401, 500005402, 13014, 13021]] [(1, hdm [520013001, 520013002] (SC.at [(505005500, 500005401), (505005502, 500005402), (900000091, 13014), (505005501, 520013001), (505005503, 520013002)] (nx h3)) aqf)] [(2, .ptr 13002 0), (4, .ptr 13014 0), (21, .hnd (.csl 3) 13021), (22, i6 3), (23, i6 0)] [(13002, .cells 27 [.aD, .aD, .aD]), (13014, .cells 91 [lf az aI.f_.Links, .own 520013001, .own 520013002]), (13021, .cells 1 [.hnd (.iV 55) 13014, .hnd (.iV 56) 13014, .hnd (.iV 55) 13014]), (520013001, .slice 81 5 (ml aL aI.f_.aG) 0 false), (520013002, .slice 62 3 (ml aN aI.f_.aF) 0 false)] (by kernel_rfl) ?_
 show ai _ _ _ _ _
 refine qR [] [(2, .ptr 13002 0), (4, .ptr 13014 0), (21, .hnd (.csl 3) 13021), (22, i6 3), (23, i6 1)] [(13002, .cells 27 [.aD, .aD, .aD]), (13014, .cells 91 [lf az aI.f_.Links, .own 520013001, .own 520013002]), (13021, .cells 1 [.hnd (.iV 55) 13014, .hnd (.iV 56) 13014, .hnd (.iV 55) 13014]), (520013001, .slice 81 5 (ml aL aI.f_.aG) 0 false), (520013002, .slice 62 3 (ml aN aI.f_.aF) 0 false)] ?_
 show qq _ _ _ _ _ _
 refine A.rnd ?_
 refine qS [] [(2, .ptr 13002 0), (4, .ptr 13014 0), (21, .hnd (.csl 3) 13021), (22, i6 3), (23, i6 1), (24, .bool true)] [(13002, .cells 27 [.aD, .aD, .aD]), (13014, .cells 91 [lf az aI.f_.Links, .own 520013001, .own 520013002]), (13021, .cells 1 [.hnd (.iV 55) 13014, .hnd (.iV 56) 13014, .hnd (.iV 55) 13014]), (520013001, .slice 81 5 (ml aL aI.f_.aG) 0 false), (520013002, .slice 62 3 (ml aN aI.f_.aF) 0 false)] ?_
 refine A.seq ?_
 refine A.cT rfl rfl ?_
 refine A.skip ?_
 show ai _ _ _ _ _
 refine A.seq ?_
 refine A.block ?_
 refine qDs [(0, aiO W0)] [24] [(6, .hnd (.iV 56) 13014)] ?_
 obtain ⟨bk, h4, hm⟩ := aa hm
 refine qG [(1, hdm [520013003, 520013004] (SC.at [(505005600, 520013001), (505005602, 520013002), (900000091, 13014), (505005601, 520013003), (505005603, 520013004)] (rO h4)) ck56)] [6] [] [13014, 520013001, 520013002] [(13014, .cells 91 [lf az bk.f_.Links, .own 520013003, .own 520013004]), (520013003, .slice 81 5 (ml aL bk.f_.aG) 0 false), (520013004, .slice 62 3 (ml aN bk.f_.aF) 0 false)] ?_
 show ai _ _ _ _ _
 refine qGs [] [23] [(23, i6 2)] ?_
 show qq _ _ _ _ _ _
 refine A.rnd ?_
 refine qS [] [(2, .ptr 13002 0), (4, .ptr 13014 0), (21, .hnd (.csl 3) 13021), (22, i6 3), (23, i6 2), (24, .bool true)] [(13002, .cells 27 [.aD, .aD, .aD]), (13014, .cells 91 [lf az bk.f_.Links, .own 520013003, .own 520013004]), (13021, .cells 1 [.hnd (.iV 55) 13014, .hnd (.iV 56) 13014, .hnd (.iV 55) 13014]), (520013003, .slice 81 5 (ml aL bk.f_.aG) 0 false), (520013004, .slice 62 3 (ml aN bk.f_.aF) 0 false)] ?_
 refine A.seq ?_
 refine A.cT rfl rfl ?_
 refine A.skip ?_
 show ai _ _ _ _ _
 refine A.seq ?_
 refine A.block ?_
 refine qDs [(0, aiO W0)] [24] [(6, .hnd (.iV 55) 13014)] ?_
 obtain ⟨bG, h5, hm⟩ := aa hm
 refine qG [(1, hdm [520013005, 520013006] (SC.at [(505005500, 520013003), (505005502, 520013004), (900000091, 13014), (505005501, 520013005), (505005503, 520013006)] (nx h5)) aqf)] [6] [] [13014, 520013003, 520013004] [(13014, .cells 91 [lf az bG.f_.Links, .own 520013005, .own 520013006]), (520013005, .slice 81 5 (ml aL bG.f_.aG) 0 false), (520013006, .slice 62 3 (ml aN bG.f_.aF) 0 false)] ?_
 show ai _ _ _ _ _
 refine qGs [] [23] [(23, i6 3)] ?_
 show qq _ _ _ _ _ _
 refine A.rnd ?_
 refine qS [] [(2, .ptr 13002 0), (4, .ptr 13014 0), (21, .hnd (.csl 3) 13021), (22, i6 3), (23, i6 3), (24, .bool false)] [(13002, .cells 27 [.aD, .aD, .aD]), (13014, .cells 91 [lf az bG.f_.Links, .own 520013005, .own 520013006]), (13021, .cells 1 [.hnd (.iV 55) 13014, .hnd (.iV 56) 13014, .hnd (.iV 55) 13014]), (520013005, .slice 81 5 (ml aL bG.f_.aG) 0 false), (520013006, .slice 62 3 (ml aN bG.f_.aF) 0 false)] ?_
 refine A.seq ?_
 refine A.cF rfl rfl ?_
 refine A.exit ?_
 show ai _ _ _ _ _
 refine qD [] [4, 21, 22, 23, 24] [(3, i6 0)] [13002, 13014, 13021] [(13002, .cells 27 [lf az bG.f_.Links, .own 520013005, .own 520013006])] ?_
 refine A.ret ?_
 obtain rfl := some_inj hm
 exact A.fin W0 [.fz [520013005, 520013006]] rfl (by kernel_rfl)
end Go.Proofs.YtpmifmdidfgpdaaGreat
