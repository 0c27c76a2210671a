/- The eM of ct of the program. No condition but bU bB stand in each. -/
import Derived.Test.YtpmifmdidfgpdaaGreatDA
import Derived.Test.YtpmifmdidfgpdaaGreatVM
import Derived.Test.YtpmifmdidfgpdaaGreatIN
namespace Go.Proofs.YtpmifmdidfgpdaaGreat
open Go
set_option maxRecDepth 100000
set_option linter.all false
theorem o3 {f : aB} {aL : Int} {r : aO × Int × Int} (hm : gy f aL = some r) : bM Tryz.prog 74 [] [.agg (k11 f), i6 aL] (fun a σ' => a = .tup [.ptr 900000091 0, i6 r.2.1, i6 r.2.2] ∧ σ' = [(507007400, .slice 81 5 (ml aN r.1.f_.aG) 0 false), (507007401, .slice 62 3 (ml aF r.1.f_.aj) 0 false), (900000091, .cells 91 [lf aA r.1.f_.Links, .own 507007400, .own 507007401])]) := by
 refine aR Tryz.func74 rfl rfl ?_
 unfold gy at hm
 refine qS [(0, .al 74002)] [(1, i6 aL), (2, .ptr 74002 0)] [(74002, .cells 27 (k11 f))] ?_
 refine A.seq ?_
 obtain ⟨af, h1, hm⟩ := aa hm
 refine qDs [(1, hro (eF h1) xG)] [] [(11, .bool (!decide (af = (0:Int))))] ?_
 rcases ah hm with ⟨c1,hm⟩|⟨c1,hm⟩
 ·refine qT c1 ?_
  refine qS [] [(4, .fV), (5, i6 0), (6, i6 1)] [] ?_
  refine A.ret ?_
  cases hm
 refine qF c1 ?_
 refine A.skip ?_
 show ai _ _ _ _ _
 obtain ⟨ay, h2, hm⟩ := aa hm
 refine qDs [(2, hro (jA h2) acM)] [1, 11] [(7, i6 ay.1), (8, .bool ay.2)] ?_
 refine A.seq ?_
 refine qDs [] [8] [(19, .bool (!ay.2))] ?_
 rcases ah hm with ⟨c2,hm⟩|⟨c2,hm⟩
 ·refine qT c2 ?_
  refine qS [] [(4, .fV), (5, i6 0), (6, i6 4)] [] ?_
  refine A.ret ?_
  cases hm
 refine qF c2 ?_
 refine A.skip ?_
 show ai _ _ _ _ _
 obtain ⟨aJ, h3, hm⟩ := aa hm
 refine qS [(1, hdc [500005400, 500005401, 500005402] (iR h3) acK), (3, .al 74023)] [(4, .ptr 74023 0), (5, i6 ay.1), (6, i6 0)] [(500005400, .slice 78 5 (ml aA aJ.Links) 0 false), (500005401, .slice 81 5 (ml aN aJ.aG) 0 false), (500005402, .slice 62 3 (ml aF aJ.aj) 0 false), (74023, .cells 91 [.own 500005400, .own 500005401, .own 500005402])] ?_
 refine A.ret ?_
 obtain rfl := some_inj hm
 exact A.fin W0 [.fz [500005400], .sw 74023 900000091, .sw 500005401 507007400, .sw 500005402 507007401, .sc 900000091 [507007400, 507007401]] rfl (by kernel_rfl)
theorem pH {f : aB} {aL : Int} {r : Int × Int} (hm : kT f aL = some r) : RO Tryz.prog 74 [] [.agg (k11 f), i6 aL] (.tup [.fV, i6 r.1, i6 r.2]) := by
 refine aR Tryz.func74 rfl rfl ?_
 unfold kT at hm
 refine qS [(0, .al 74002)] [(1, i6 aL), (2, .ptr 74002 0)] [(74002, .cells 27 (k11 f))] ?_
 refine A.seq ?_
 obtain ⟨af, h1, hm⟩ := aa hm
 refine qDs [(1, hro (eF h1) xG)] [] [(11, .bool (!decide (af = (0:Int))))] ?_
 rcases ah hm with ⟨c1,hm⟩|⟨c1,hm⟩
 ·refine qT c1 ?_
  refine qS [] [(4, .fV), (5, i6 0), (6, i6 1)] [] ?_
  cases hm
  exact A.ret qE
 refine qF c1 ?_
 refine A.skip ?_
 show ai _ _ _ _ _
 obtain ⟨ay, h2, hm⟩ := aa hm
 refine qDs [(2, hro (jA h2) acM)] [1, 11] [(7, i6 ay.1), (8, .bool ay.2)] ?_
 refine A.seq ?_
 refine qDs [] [8] [(19, .bool (!ay.2))] ?_
 rcases ah hm with ⟨c2,hm⟩|⟨c2,hm⟩
 ·refine qT c2 ?_
  refine qS [] [(4, .fV), (5, i6 0), (6, i6 4)] [] ?_
  cases hm
  exact A.ret qE
 refine qF c2 ?_
 refine A.skip ?_
 show ai _ _ _ _ _
 obtain ⟨aJ, h3, hm⟩ := aa hm
 refine qS [(1, hdc [500005400, 500005401, 500005402] (iR h3) acK), (3, .al 74023)] [(4, .ptr 74023 0), (5, i6 ay.1), (6, i6 0)] [(500005400, .slice 78 5 (ml aA aJ.Links) 0 false), (500005401, .slice 81 5 (ml aN aJ.aG) 0 false), (500005402, .slice 62 3 (ml aF aJ.aj) 0 false), (74023, .cells 91 [.own 500005400, .own 500005401, .own 500005402])] ?_
 refine A.ret ?_
 cases hm
theorem ki {f : aB} {k : Int} {r : aO × Int} (hm : dg f k = some r) : bM Tryz.prog 81 [] [.agg (k11 f), i6 k] (fun a σ' => a = .tup [.ptr 900000091 0, i6 r.2] ∧ σ' = [(507008100, .slice 81 5 (ml aN r.1.f_.aG) 0 false), (507008101, .slice 62 3 (ml aF r.1.f_.aj) 0 false), (900000091, .cells 91 [lf aA r.1.f_.Links, .own 507008100, .own 507008101])]) := by
 refine aR Tryz.func81 rfl rfl ?_
 unfold dg at hm
 refine qS [(0, .al 81002)] [(1, i6 k), (2, .ptr 81002 0)] [(81002, .cells 27 (k11 f))] ?_
 refine A.seq ?_
 refine A.block ?_
 obtain ⟨af, h1, hm⟩ := aa hm
 refine qDs [(1, hro (eF h1) xG)] [] [(6, .bool (!decide (af = (0:Int))))] ?_
 rcases ah hm with ⟨c1,hm⟩|⟨c1,hm⟩
 ·refine qT c1 ?_
  refine qS [] [(4, .fV), (5, i6 1)] [] ?_
  refine A.ret ?_
  cases hm
 refine qF c1 ?_
 refine A.mid [(2, .ptr 81002 0), (10, .bool ((decide (k < (0:Int))) || (decide ((f.aj.length:Int) ≤ k))))] [(81002, .cells 27 (k11 f))] (fun hk => ?_) ?_
 ·rcases tf (decide (k < (0:Int))) with c2 | c2
  ·exact qS [(2, hto (bE c2)), (9, hto (orT (q := decide ((f.aj.length:Int) ≤ k)) c2))] _ _ hk
  exact qS [(2, hto (bE c2)), (6, hto (lnE aF f.aj)), (9, hto (orF (q := decide ((f.aj.length:Int) ≤ k)) c2))] _ _ hk
 rcases ah hm with ⟨c3,hm⟩|⟨c3,hm⟩
 ·refine qT c3 ?_
  refine qS [] [(4, .fV), (5, i6 4)] [] ?_
  refine A.ret ?_
  cases hm
 refine qF c3 ?_
 refine A.skip ?_
 show ai _ _ _ _ _
 obtain ⟨ay, h2, hm⟩ := aa hm
 refine qS [(1, hdc [500005400, 500005401, 500005402] (iR h2) acK), (3, .al 81023)] [(4, .ptr 81023 0), (5, i6 0)] [(500005400, .slice 78 5 (ml aA ay.Links) 0 false), (500005401, .slice 81 5 (ml aN ay.aG) 0 false), (500005402, .slice 62 3 (ml aF ay.aj) 0 false), (81023, .cells 91 [.own 500005400, .own 500005401, .own 500005402])] ?_
 refine A.ret ?_
 obtain rfl := some_inj hm
 exact A.fin W0 [.fz [500005400], .sw 81023 900000091, .sw 500005401 507008100, .sw 500005402 507008101, .sc 900000091 [507008100, 507008101]] rfl (by kernel_rfl)
theorem kO {f : aB} {k : Int} {r : Int} (hm : dN f k = some r) : RO Tryz.prog 81 [] [.agg (k11 f), i6 k] (.tup [.fV, i6 r]) := by
 refine aR Tryz.func81 rfl rfl ?_
 unfold dN at hm
 refine qS [(0, .al 81002)] [(1, i6 k), (2, .ptr 81002 0)] [(81002, .cells 27 (k11 f))] ?_
 refine A.seq ?_
 refine A.block ?_
 obtain ⟨af, h1, hm⟩ := aa hm
 refine qDs [(1, hro (eF h1) xG)] [] [(6, .bool (!decide (af = (0:Int))))] ?_
 rcases ah hm with ⟨c1,hm⟩|⟨c1,hm⟩
 ·refine qT c1 ?_
  refine qS [] [(4, .fV), (5, i6 1)] [] ?_
  cases hm
  exact A.ret qE
 refine qF c1 ?_
 refine A.mid [(2, .ptr 81002 0), (10, .bool ((decide (k < (0:Int))) || (decide ((f.aj.length:Int) ≤ k))))] [(81002, .cells 27 (k11 f))] (fun hk => ?_) ?_
 ·rcases tf (decide (k < (0:Int))) with c2 | c2
  ·exact qS [(2, hto (bE c2)), (9, hto (orT (q := decide ((f.aj.length:Int) ≤ k)) c2))] _ _ hk
  exact qS [(2, hto (bE c2)), (6, hto (lnE aF f.aj)), (9, hto (orF (q := decide ((f.aj.length:Int) ≤ k)) c2))] _ _ hk
 rcases ah hm with ⟨c3,hm⟩|⟨c3,hm⟩
 ·refine qT c3 ?_
  refine qS [] [(4, .fV), (5, i6 4)] [] ?_
  cases hm
  exact A.ret qE
 refine qF c3 ?_
 refine A.skip ?_
 show ai _ _ _ _ _
 obtain ⟨ay, h2, hm⟩ := aa hm
 refine qS [(1, hdc [500005400, 500005401, 500005402] (iR h2) acK), (3, .al 81023)] [(4, .ptr 81023 0), (5, i6 0)] [(500005400, .slice 78 5 (ml aA ay.Links) 0 false), (500005401, .slice 81 5 (ml aN ay.aG) 0 false), (500005402, .slice 62 3 (ml aF ay.aj) 0 false), (81023, .cells 91 [.own 500005400, .own 500005401, .own 500005402])] ?_
 refine A.ret ?_
 cases hm
theorem vM {oa0 : gb} {c_0 : aH} {r : Bool} (hm : oJ oa0 c_0 = some r) : RO Tryz.prog 132 [] [.agg (k10 oa0), .dV (k2 c_0)] (.bool r) := by
 refine aR Tryz.func132 rfl rfl ?_
 unfold oJ at hm
 refine qS [(0, .al 132002)] [(1, .dV (k2 c_0)), (2, .ptr 132002 0)] [(132002, .cells 155 (k10 oa0))] ?_
 obtain ⟨af, h1, hm⟩ := aa hm
 refine qS [(3, hro (gE h1) wz)] [(3, .bool (!af))] [] ?_
 cases hm
 exact A.ret qE
theorem xg {t : aH} {cB : List gb} {r : aB × Int} (hm : qf t cB = some r) : RO Tryz.prog 80 [] [.agg (k2 t), lf ec cB] (.tup [.agg (k11 r.1), i6 r.2]) := by
 refine aR Tryz.func80 rfl rfl ?_
 unfold qf at hm
 refine qS [(0, .al 80002), (1, .al 80004)] [(1, lf ec cB), (2, .ptr 80002 0), (4, .ptr 80004 0)] [(80002, .cells 44 (k2 t)), (80004, .cells 27 [.aC, .aC, .aC])] ?_
 refine A.seq ?_
 obtain ⟨af, h1, hm⟩ := aa hm
 refine qDs [(1, hro (iP h1) acL)] [] [(15, .bool (!decide (af = (0:Int))))] ?_
 rcases ah hm with ⟨c1,hm⟩|⟨c1,hm⟩
 ·refine qT c1 ?_
  refine qD [] [1, 2, 15] [(5, i6 1)] [80002] [] ?_
  cases hm
  exact A.ret qE
 refine qF c1 ?_
 refine A.skip ?_
 show ai _ _ _ _ _
 refine A.seq ?_
 obtain ⟨ay, h2, hm⟩ := aa hm
 refine qDs [(2, hle [80002] (lQ (f_g := 132) (f_c := [.dV (k2 t)]) (f_k := atX) (f_f := fun _ _ h => vM h) h2) atW)] [15] [(19, .bool ay)] ?_
 rcases ah hm with ⟨c2,hm⟩|⟨c2,hm⟩
 ·refine qT c2 ?_
  refine qD [] [1, 2, 19] [(5, i6 4)] [80002] [] ?_
  cases hm
  exact A.ret qE
 refine qF c2 ?_
 refine A.skip ?_
 show ai _ _ _ _ _
 refine A.seq ?_
 refine qDs [(1, hto (lnE ec cB))] [19] [(22, i6 (cB.length:Int)), (23, i6 0)] ?_
 refine A.block ?_
 refine A.bS 1 rfl fun hb1 => ?_
 obtain ⟨B1, K1, hB1, hK1, hm⟩ := bt hm
 refine A.lpI (l := cB) (j0 := 0) (B := B1) (K := K1) hm (fun j1 => fun sg => match sg with | () => [(1, lf ec cB), (2, .ptr 80002 0), (4, .ptr 80004 0), (22, i6 (cB.length:Int)), (23, i6 (j1 : Int))]) (fun j1 => fun sg => match sg with | () => [(80002, .cells 44 (k2 t)), (80004, .cells 27 [.aC, .aC, .aC])]) ?_ ?_ ?_
 ·exact qW
 ·rintro j1 e1 Z1 ⟨⟩ hj1 hx1 hm
  rw [hB1] at hm
  refine qDs [] [] [(24, .bool (decide ((j1 : Int) < (cB.length:Int))))] ?_
  refine A.seq ?_
  refine qT (ltT hx1) ?_
  refine A.skip ?_
  show ai _ _ _ _ _
  refine A.seq ?_
  refine A.block ?_
  refine qDs [] [24] [(6, i6 (j1 : Int))] ?_
  obtain ⟨J1, hJ1, hm⟩ := bK hm
  refine A.J (J := J1) (r := r) (fun v_1 => [(1, lf ec cB), (2, .ptr 80002 0), (4, .ptr 80004 0), (22, i6 (cB.length:Int)), (23, i6 (j1 : Int)), (58, .bool v_1)]) (fun v_1 => [(80002, .cells 44 (k2 t)), (80004, .cells 27 [.aC, .aC, .aC])]) ?_ ?_
  ·rcases ah hm with ⟨c3,hm⟩|⟨c3,hm⟩
   ·obtain ⟨e_1, h3, hm⟩ := aa hm
    obtain ⟨aJ, h4, hm⟩ := aa hm
    obtain ⟨bk, h5, hm⟩ := aa hm
    obtain ⟨bF, h6, hm⟩ := aa hm
    refine qGs [(2, hto (bE c3)), (6, hix (ix ec h3)), (11, hix (ix ec (bf hx1))), (14, hro (gw h4) yz), (18, hix (ix ec h3)), (24, hix (ix ec (bf hx1))), (28, hro (gw h5) yz), (30, hro (uS h6) ajD)] [6] [(58, .bool (decide ((0:Int) ≤ bF)))] ?_
    exact qX (decide ((0:Int) ≤ bF)) hm
   refine qGs [(2, hto (bE c3))] [6] [(58, .bool false)] ?_
   exact qX false hm
  rintro v_1 hm
  rw [hJ1] at hm
  rcases ah hm with ⟨c4,hm⟩|⟨c4,hm⟩
  ·refine qT c4 ?_
   refine qD [] [1, 2, 22, 23, 58] [(5, i6 25)] [80002] [] ?_
   cases hm
   exact A.ret qE
  refine qF c4 ?_
  refine A.skip ?_
  show ai _ _ _ _ _
  refine qGs [(0, hto (inc hx1 hb1))] [23, 58] [(23, i6 ((j1 + 1 : Nat) : Int))] ?_
  exact qX () hm
 rintro j1 ⟨⟩ hj1 hl1 hm
 rw [hK1] at hm
 refine qDs [] [] [(24, .bool (decide ((j1 : Int) < (cB.length:Int))))] ?_
 refine A.seq ?_
 refine qF (ltF hl1) ?_
 refine A.exit ?_
 show ai _ _ _ _ _
 obtain ⟨bR, h7, hm⟩ := aa hm
 refine qD [(2, hdc [500007100] (gj h7) aid), (4, .al 80007)] [22, 23, 24] [(7, .ptr 80007 0)] [] [(500007100, .slice 78 5 (ml aA bR) 0 false), (80007, .cells 27 [.own 500007100, .aC, .aC])] ?_
 refine A.seq ?_
 refine qD [(2, hto (lnE aU t.aK))] [2] [(66, lf aU t.aK), (67, i6 (t.aK.length:Int)), (68, i6 0)] [80002] [] ?_
 refine A.block ?_
 refine A.bS 66 rfl fun hb2 => ?_
 obtain ⟨B2, K2, hB2, hK2, hm⟩ := bt hm
 refine A.lpI (l := t.aK) (j0 := 0) (B := B2) (K := K2) hm (fun j2 => fun m_1 => [(1, lf ec cB), (4, .ptr 80004 0), (7, .ptr 80007 0), (66, lf aU t.aK), (67, i6 (t.aK.length:Int)), (68, i6 (j2 : Int))]) (fun j2 => fun m_1 => [(80004, .cells 27 [.aC, .aC, .aC]), (500007100, .slice 78 5 (ml aA bR) 0 false), (80007, .cells 27 [.own 500007100, .own 708000701, .aC]), (708000701, .slice 81 5 (ml aN m_1) 0 false)]) ?_ ?_ ?_
 ·exact bA.go [.ac 80007 708000701 81 5 1] [] (by kernel_rfl)
 ·rintro j2 e2 Z2 m_1 hj2 hx2 hm
  rw [hB2] at hm
  refine qDs [] [] [(69, .bool (decide ((j2 : Int) < (t.aK.length:Int))))] ?_
  refine A.seq ?_
  refine qT (ltT hx2) ?_
  refine A.skip ?_
  show ai _ _ _ _ _
  refine A.seq ?_
  refine A.block ?_
  refine qD [(0, hix (ix aU (bf hx2))), (2, .al 80009)] [69] [(9, .ptr 80009 0)] [] [(80009, .cells 87 (k0 e2))] ?_
  refine qD [(5, .al 80010)] [] [(10, .ptr 80010 0)] [] [(80010, .cells 81 [i6 e2.ID, i6 0, .bool e2.aW, .aC, .aC])] ?_
  refine A.seq ?_
  refine qDs [(1, hto (lnE ec cB))] [] [(77, lf ec cB), (78, i6 (cB.length:Int)), (79, i6 0)] ?_
  refine A.block ?_
  refine A.bS 1 rfl fun hb3 => ?_
  obtain ⟨B3, K3, hB3, hK3, hm⟩ := bt hm
  refine A.lpI (l := cB) (j0 := 0) (B := B3) (K := K3) hm (fun j3 => fun m_2 => [(1, lf ec cB), (4, .ptr 80004 0), (7, .ptr 80007 0), (9, .ptr 80009 0), (10, .ptr 80010 0), (66, lf aU t.aK), (67, i6 (t.aK.length:Int)), (68, i6 (j2 : Int)), (77, lf ec cB), (78, i6 (cB.length:Int)), (79, i6 (j3 : Int))]) (fun j3 => fun m_2 => [(80004, .cells 27 [.aC, .aC, .aC]), (500007100, .slice 78 5 (ml aA bR) 0 false), (80007, .cells 27 [.own 500007100, .own 708000701, .aC]), (708000701, .slice 81 5 (ml aN m_1) 0 false), (80009, .cells 87 (k0 e2)), (80010, .cells 81 [i6 e2.ID, i6 0, .bool e2.aW, .own 708001003, .aC]), (708001003, .slice 85 3 (ml aS m_2) 0 false)]) ?_ ?_ ?_
  ·exact bA.go [.ac 80010 708001003 85 3 3] [] (by kernel_rfl)
  ·rintro j3 e3 Z3 m_2 hj3 hx3 hm
   rw [hB3] at hm
   refine qDs [] [] [(80, .bool (decide ((j3 : Int) < (cB.length:Int))))] ?_
   refine A.seq ?_
   refine qT (ltT hx3) ?_
   refine A.skip ?_
   show ai _ _ _ _ _
   obtain ⟨J2, hJ2, hm⟩ := bK hm
   refine A.J (J := J2) (r := r) (fun m_3 => [(1, lf ec cB), (4, .ptr 80004 0), (7, .ptr 80007 0), (9, .ptr 80009 0), (10, .ptr 80010 0), (66, lf aU t.aK), (67, i6 (t.aK.length:Int)), (68, i6 (j2 : Int)), (77, lf ec cB), (78, i6 (cB.length:Int)), (79, i6 (j3 : Int))]) (fun m_3 => [(80004, .cells 27 [.aC, .aC, .aC]), (500007100, .slice 78 5 (ml aA bR) 0 false), (80007, .cells 27 [.own 500007100, .own 708000701, .aC]), (708000701, .slice 81 5 (ml aN m_1) 0 false), (80009, .cells 87 (k0 e2)), (80010, .cells 81 [i6 e2.ID, i6 0, .bool e2.aW, .own 708001003, .aC]), (708001003, .slice 85 3 (ml aS m_3) 0 false)]) ?_ ?_
   ·refine A.block ?_
    refine qD [(0, hix (ix ec (bf hx3))), (2, .al 80012)] [80] [(12, .ptr 80012 0)] [] [(80012, .cells 155 (k10 e3))] ?_
    refine qDs [] [] [(87, .bool (decide (e3.aq = e2.ID)))] ?_
    rcases ah hm with ⟨c5,hm⟩|⟨c5,hm⟩
    ·refine qT c5 ?_
     obtain ⟨l_1, h8, hm⟩ := aa hm
     refine qG [(5, hap 80593 (ap aS (bytes := 24) (by decide) h8))] [12, 87] [] [80010, 708001003, 80012] [(80010, .cells 81 [i6 e2.ID, i6 0, .bool e2.aW, .own 80593, .aC]), (80593, .slice 85 3 (ml aS l_1) 0 false)] ?_
     exact Exists.intro l_1 (And.intro hm (bA.go [.sw 80593 708001003] [] (by kernel_rfl)))
    refine qF c5 ?_
    refine A.skip ?_
    exact qX m_2 hm
   rintro m_3 hm
   rw [hJ2] at hm
   refine qGs [(0, hto (inc hx3 hb3))] [79] [(79, i6 ((j3 + 1 : Nat) : Int))] ?_
   exact qX m_3 hm
  rintro j3 m_2 hj3 hl3 hm
  rw [hK3] at hm
  refine qDs [] [] [(80, .bool (decide ((j3 : Int) < (cB.length:Int))))] ?_
  refine A.seq ?_
  refine qF (ltF hl3) ?_
  refine A.exit ?_
  show ai _ _ _ _ _
  obtain ⟨l_2, h9, hm⟩ := aa hm
  refine A.R W0 [.fz [708001003], .sc 80010 [80004, 500007100, 80007, 708000701, 80009, 80010]] [(4, hap 80600 (ap aN (bytes := 72) (by decide) h9))] [(1, lf ec cB), (4, .ptr 80004 0), (7, .ptr 80007 0), (66, lf aU t.aK), (67, i6 (t.aK.length:Int)), (68, i6 (j2 : Int))] [(80004, .cells 27 [.aC, .aC, .aC]), (500007100, .slice 78 5 (ml aA bR) 0 false), (80007, .cells 27 [.own 500007100, .own 80600, .aC]), (80600, .slice 81 5 (ml aN l_2) 0 false)] (by kernel_rfl) ?_
  show ai _ _ _ _ _
  refine qR [(0, hto (inc hx2 hb2))] [(1, lf ec cB), (4, .ptr 80004 0), (7, .ptr 80007 0), (66, lf aU t.aK), (67, i6 (t.aK.length:Int)), (68, i6 ((j2 + 1 : Nat) : Int))] [(80004, .cells 27 [.aC, .aC, .aC]), (500007100, .slice 78 5 (ml aA bR) 0 false), (80007, .cells 27 [.own 500007100, .own 80600, .aC]), (80600, .slice 81 5 (ml aN l_2) 0 false)] ?_
  exact Exists.intro l_2 (And.intro hm (bA.go [.sw 80600 708000701] [] (by kernel_rfl)))
 rintro j2 m_1 hj2 hl2 hm
 rw [hK2] at hm
 refine qDs [] [] [(69, .bool (decide ((j2 : Int) < (t.aK.length:Int))))] ?_
 refine A.seq ?_
 refine qF (ltF hl2) ?_
 refine A.exit ?_
 show ai _ _ _ _ _
 refine A.seq ?_
 obtain ⟨cG, h10, hm⟩ := aa hm
 refine qDs [(1, hle [500007100, 708000701] (eF h10) xG)] [1, 66, 67, 68, 69] [(105, .bool (!decide (cG = (0:Int))))] ?_
 rcases ah hm with ⟨c6,hm⟩|⟨c6,hm⟩
 ·refine qT c6 ?_
  refine qD [] [7, 105] [(5, i6 1)] [500007100, 80007, 708000701] [] ?_
  cases hm
  exact A.ret qE
 refine qF c6 ?_
 refine A.skip ?_
 show ai _ _ _ _ _
 refine qD [] [7, 105] [(5, i6 0)] [80004, 80007] [(80004, .cells 27 [.own 500007100, .own 708000701, .aC])] ?_
 refine A.ret ?_
 obtain rfl := some_inj hm
 exact A.fin W0 [.fz [500007100, 708000701]] rfl (by kernel_rfl)
theorem o4 {f : aB} {aL : Int} {r : aB × Int} (hm : kg f aL = some r) : bM Tryz.prog 28 [] [.agg (k11 f), i6 aL] (fun a σ' => a = .tup [.agg [lf aA r.1.Links, .own 500002800, .own 500002801], i6 r.2] ∧ σ' = [(500002800, .slice 81 5 (ml aN r.1.aG) 0 false), (500002801, .slice 62 3 (ml aF r.1.aj) 0 false)]) := by
 refine aR Tryz.func28 rfl rfl ?_
 unfold kg at hm
 refine qS [(0, .al 28002), (1, .al 28004)] [(1, i6 aL), (2, .ptr 28002 0), (4, .ptr 28004 0)] [(28002, .cells 27 (k11 f)), (28004, .cells 27 [.aC, .aC, .aC])] ?_
 rcases uf hm with ⟨af, h1, hm⟩ | hm
 ·refine qS [(2, hdc [900000091, 507007400, 507007401] (o3 h1) aeH)] [(4, .ptr 28004 0), (6, .ptr 900000091 0), (7, i6 af.2.1), (8, i6 af.2.2)] [(28004, .cells 27 [.aC, .aC, .aC]), (507007400, .slice 81 5 (ml aN af.1.f_.aG) 0 false), (507007401, .slice 62 3 (ml aF af.1.f_.aj) 0 false), (900000091, .cells 91 [lf aA af.1.f_.Links, .own 507007400, .own 507007401])] ?_
  refine A.seq ?_
  refine qDs [] [] [(17, .bool (!decide (af.2.2 = (0:Int))))] ?_
  rcases ah hm with ⟨c1,hm⟩|⟨c1,hm⟩
  ·refine qT c1 ?_
   refine qD [] [6, 7, 8, 17] [(5, i6 af.2.2)] [507007400, 507007401, 900000091] [] ?_
   refine A.ret ?_
   obtain rfl := some_inj hm
   exact A.fin W0 [.ac 28004 500002800 81 5 1, .ac 28004 500002801 62 3 2] rfl (by kernel_rfl)
  refine qF c1 ?_
  refine A.skip ?_
  show ai _ _ _ _ _
  refine A.seq ?_
  obtain ⟨e_1, h2, hm⟩ := aa hm
  refine qDs [(6, hix (ix aN h2)), (8, hlo 507007400 1 (ix aN h2))] [8, 17] [(29, .bool (decide (e_1.Seq = (1000000:Int))))] ?_
  rcases ah hm with ⟨c2,hm⟩|⟨c2,hm⟩
  ·refine qT c2 ?_
   refine qD [] [6, 7, 29] [(5, i6 7)] [507007400, 507007401, 900000091] [] ?_
   refine A.ret ?_
   obtain rfl := some_inj hm
   exact A.fin W0 [.ac 28004 500002800 81 5 1, .ac 28004 500002801 62 3 2] rfl (by kernel_rfl)
  refine qF c2 ?_
  refine A.skip ?_
  show ai _ _ _ _ _
  obtain ⟨l_1, h3, hm⟩ := aa hm
  refine qD [(6, hix (ix aN h2)), (8, hlo 507007400 1 (ix aN h2)), (10, hix (ix aN h2)), (12, hso 507007400 (st aN (off := 1) (ca := [i6 (w64 (e_1.Seq + (1:Int)))]) h2 h3 rfl) (iW h2).1.1)] [29] [] [507007400] [(507007400, .slice 81 5 (ml aN l_1) 0 false)] ?_
  obtain ⟨ay, h4, hm⟩ := aa hm
  refine qD [(2, hdc [520028001, 520028002] (SC.at [(505007500, 507007400), (505007502, 507007401), (505007501, 520028001), (505007503, 520028002)] (mc h4)) apK)] [7] [] [507007400, 507007401, 900000091] [(900000091, .cells 91 [lf aA ay.f_.Links, .own 520028001, .own 520028002]), (520028001, .slice 81 5 (ml aN ay.f_.aG) 0 false), (520028002, .slice 62 3 (ml aF ay.f_.aj) 0 false)] ?_
  refine qD [] [6] [(5, i6 0)] [28004, 900000091] [(28004, .cells 27 [lf aA ay.f_.Links, .own 520028001, .own 520028002])] ?_
  refine A.ret ?_
  obtain rfl := some_inj hm
  exact A.fin W0 [.sw 520028001 500002800, .sw 520028002 500002801] rfl (by kernel_rfl)
 obtain ⟨aJ, h5, hm⟩ := aa hm
 refine qS [(2, hro (pH h5) aeH)] [(4, .ptr 28004 0), (6, .fV), (7, i6 aJ.1), (8, i6 aJ.2)] [(28004, .cells 27 [.aC, .aC, .aC])] ?_
 refine A.seq ?_
 refine qDs [] [] [(17, .bool (!decide (aJ.2 = (0:Int))))] ?_
 rcases ah hm with ⟨c3,hm⟩|⟨c3,hm⟩
 ·refine qT c3 ?_
  refine qDs [] [6, 7, 8, 17] [(5, i6 aJ.2)] ?_
  refine A.ret ?_
  obtain rfl := some_inj hm
  exact A.fin W0 [.ac 28004 500002800 81 5 1, .ac 28004 500002801 62 3 2] rfl (by kernel_rfl)
 refine qF c3 ?_
 refine A.skip ?_
 show ai _ _ _ _ _
 refine A.seq ?_
 cases hm
theorem xO {f : aB} {aL : Int} {r : aB × Int} (hm : lT f aL = some r) : RO Tryz.prog 32 [] [.agg (k11 f), i6 aL] (.tup [.agg (k11 r.1), i6 r.2]) := by
 refine aR Tryz.func32 rfl rfl ?_
 unfold lT at hm
 refine qS [(0, .al 32002), (1, .al 32004)] [(1, i6 aL), (2, .ptr 32002 0), (4, .ptr 32004 0)] [(32002, .cells 27 (k11 f)), (32004, .cells 27 [.aC, .aC, .aC])] ?_
 rcases uf hm with ⟨af, h1, hm⟩ | hm
 ·refine qS [(2, hdc [900000091, 507007400, 507007401] (o3 h1) aeH)] [(4, .ptr 32004 0), (6, .ptr 900000091 0), (7, i6 af.2.1), (8, i6 af.2.2)] [(32004, .cells 27 [.aC, .aC, .aC]), (507007400, .slice 81 5 (ml aN af.1.f_.aG) 0 false), (507007401, .slice 62 3 (ml aF af.1.f_.aj) 0 false), (900000091, .cells 91 [lf aA af.1.f_.Links, .own 507007400, .own 507007401])] ?_
  refine A.seq ?_
  refine qDs [] [] [(17, .bool (!decide (af.2.2 = (0:Int))))] ?_
  rcases ah hm with ⟨c1,hm⟩|⟨c1,hm⟩
  ·refine qT c1 ?_
   refine qD [] [6, 7, 8, 17] [(5, i6 af.2.2)] [507007400, 507007401, 900000091] [] ?_
   cases hm
   exact A.ret qE
  refine qF c1 ?_
  refine A.skip ?_
  show ai _ _ _ _ _
  obtain ⟨ay, h2, hm⟩ := aa hm
  refine qD [(2, hdc [520032001, 520032002] (SC.at [(505007800, 507007400), (505007802, 507007401), (505007801, 520032001), (505007803, 520032002)] (nR h2)) apM)] [7, 8, 17] [] [507007400, 507007401, 900000091] [(900000091, .cells 91 [lf aA ay.f_.Links, .own 520032001, .own 520032002]), (520032001, .slice 81 5 (ml aN ay.f_.aG) 0 false), (520032002, .slice 62 3 (ml aF ay.f_.aj) 0 false)] ?_
  refine A.seq ?_
  refine qDs [(5, hto (lnE aF ay.f_.aj))] [] [(29, .bool (decide ((400:Int) < (ay.f_.aj.length:Int))))] ?_
  rcases ah hm with ⟨c2,hm⟩|⟨c2,hm⟩
  ·refine qT c2 ?_
   refine qD [] [6, 29] [(5, i6 3)] [900000091, 520032001, 520032002] [] ?_
   cases hm
   exact A.ret qE
  refine qF c2 ?_
  refine A.skip ?_
  show ai _ _ _ _ _
  refine qD [] [6, 29] [(5, i6 0)] [32004, 900000091] [(32004, .cells 27 [lf aA ay.f_.Links, .own 520032001, .own 520032002])] ?_
  refine A.ret ?_
  obtain rfl := some_inj hm
  exact A.fin W0 [.fz [520032001, 520032002]] rfl (by kernel_rfl)
 obtain ⟨aJ, h3, hm⟩ := aa hm
 refine qS [(2, hro (pH h3) aeH)] [(4, .ptr 32004 0), (6, .fV), (7, i6 aJ.1), (8, i6 aJ.2)] [(32004, .cells 27 [.aC, .aC, .aC])] ?_
 refine A.seq ?_
 refine qDs [] [] [(17, .bool (!decide (aJ.2 = (0:Int))))] ?_
 rcases ah hm with ⟨c3,hm⟩|⟨c3,hm⟩
 ·refine qT c3 ?_
  refine qDs [] [6, 7, 8, 17] [(5, i6 aJ.2)] ?_
  cases hm
  exact A.ret qE
 refine qF c3 ?_
 refine A.skip ?_
 show ai _ _ _ _ _
 cases hm
theorem vN {f : aB} {k : Int} {r : aB × Int} (hm : jB f k = some r) : RO Tryz.prog 41 [] [.agg (k11 f), i6 k] (.tup [.agg (k11 r.1), i6 r.2]) := by
 refine aR Tryz.func41 rfl rfl ?_
 unfold jB at hm
 refine qS [(0, .al 41002), (1, .al 41004)] [(1, i6 k), (2, .ptr 41002 0), (4, .ptr 41004 0)] [(41002, .cells 27 (k11 f)), (41004, .cells 27 [.aC, .aC, .aC])] ?_
 rcases uf hm with ⟨af, h1, hm⟩ | hm
 ·refine qS [(2, hdc [900000091, 507008100, 507008101] (ki h1) aaZ)] [(1, i6 k), (4, .ptr 41004 0), (6, .ptr 900000091 0), (7, i6 af.2)] [(41004, .cells 27 [.aC, .aC, .aC]), (507008100, .slice 81 5 (ml aN af.1.f_.aG) 0 false), (507008101, .slice 62 3 (ml aF af.1.f_.aj) 0 false), (900000091, .cells 91 [lf aA af.1.f_.Links, .own 507008100, .own 507008101])] ?_
  refine A.seq ?_
  refine qDs [] [] [(15, .bool (!decide (af.2 = (0:Int))))] ?_
  rcases ah hm with ⟨c1,hm⟩|⟨c1,hm⟩
  ·refine qT c1 ?_
   refine qD [] [1, 6, 7, 15] [(5, i6 af.2)] [507008100, 507008101, 900000091] [] ?_
   cases hm
   exact A.ret qE
  refine qF c1 ?_
  refine A.skip ?_
  show ai _ _ _ _ _
  obtain ⟨ay, h2, hm⟩ := aa hm
  refine qD [(2, hdc [520041001, 520041002] (SC.at [(505009100, 507008100), (505009102, 507008101), (505009101, 520041001), (505009103, 520041002)] (me h2)) apN)] [1, 7, 15] [] [507008100, 507008101, 900000091] [(900000091, .cells 91 [lf aA ay.f_.Links, .own 520041001, .own 520041002]), (520041001, .slice 81 5 (ml aN ay.f_.aG) 0 false), (520041002, .slice 62 3 (ml aF ay.f_.aj) 0 false)] ?_
  refine qD [] [6] [(5, i6 0)] [41004, 900000091] [(41004, .cells 27 [lf aA ay.f_.Links, .own 520041001, .own 520041002])] ?_
  refine A.ret ?_
  obtain rfl := some_inj hm
  exact A.fin W0 [.fz [520041001, 520041002]] rfl (by kernel_rfl)
 obtain ⟨aJ, h3, hm⟩ := aa hm
 refine qS [(2, hro (kO h3) aaZ)] [(1, i6 k), (4, .ptr 41004 0), (6, .fV), (7, i6 aJ)] [(41004, .cells 27 [.aC, .aC, .aC])] ?_
 refine A.seq ?_
 refine qDs [] [] [(15, .bool (!decide (aJ = (0:Int))))] ?_
 rcases ah hm with ⟨c2,hm⟩|⟨c2,hm⟩
 ·refine qT c2 ?_
  refine qDs [] [1, 6, 7, 15] [(5, i6 aJ)] ?_
  cases hm
  exact A.ret qE
 refine qF c2 ?_
 refine A.skip ?_
 show ai _ _ _ _ _
 cases hm
theorem xP {f : aB} {k : Int} {r : aB × Int} (hm : lU f k = some r) : RO Tryz.prog 43 [] [.agg (k11 f), i6 k] (.tup [.agg (k11 r.1), i6 r.2]) := by
 refine aR Tryz.func43 rfl rfl ?_
 unfold lU at hm
 refine qS [(0, .al 43002), (1, .al 43004)] [(1, i6 k), (2, .ptr 43002 0), (4, .ptr 43004 0)] [(43002, .cells 27 (k11 f)), (43004, .cells 27 [.aC, .aC, .aC])] ?_
 rcases uf hm with ⟨af, h1, hm⟩ | hm
 ·refine qS [(2, hdc [900000091, 507008100, 507008101] (ki h1) aaZ)] [(1, i6 k), (4, .ptr 43004 0), (6, .ptr 900000091 0), (7, i6 af.2)] [(43004, .cells 27 [.aC, .aC, .aC]), (507008100, .slice 81 5 (ml aN af.1.f_.aG) 0 false), (507008101, .slice 62 3 (ml aF af.1.f_.aj) 0 false), (900000091, .cells 91 [lf aA af.1.f_.Links, .own 507008100, .own 507008101])] ?_
  refine A.seq ?_
  refine qDs [] [] [(15, .bool (!decide (af.2 = (0:Int))))] ?_
  rcases ah hm with ⟨c1,hm⟩|⟨c1,hm⟩
  ·refine qT c1 ?_
   refine qD [] [1, 6, 7, 15] [(5, i6 af.2)] [507008100, 507008101, 900000091] [] ?_
   cases hm
   exact A.ret qE
  refine qF c1 ?_
  refine A.skip ?_
  show ai _ _ _ _ _
  obtain ⟨l_1, h2, hm⟩ := aa hm
  refine qD [(9, hdc [520043001] (acR (d := 507008101) (D := 520043001) h2 (by decide)) apP)] [1, 7, 15] [] [507008101, 900000091] [(900000091, .cells 91 [lf aA af.1.f_.Links, .own 507008100, .own 520043001]), (520043001, .slice 62 3 (ml aF l_1) 0 false)] ?_
  refine qD [] [6] [(5, i6 0)] [43004, 900000091] [(43004, .cells 27 [lf aA af.1.f_.Links, .own 507008100, .own 520043001])] ?_
  refine A.ret ?_
  obtain rfl := some_inj hm
  exact A.fin W0 [.fz [507008100, 520043001]] rfl (by kernel_rfl)
 obtain ⟨ay, h3, hm⟩ := aa hm
 refine qS [(2, hro (kO h3) aaZ)] [(1, i6 k), (4, .ptr 43004 0), (6, .fV), (7, i6 ay)] [(43004, .cells 27 [.aC, .aC, .aC])] ?_
 refine A.seq ?_
 refine qDs [] [] [(15, .bool (!decide (ay = (0:Int))))] ?_
 rcases ah hm with ⟨c2,hm⟩|⟨c2,hm⟩
 ·refine qT c2 ?_
  refine qDs [] [1, 6, 7, 15] [(5, i6 ay)] ?_
  cases hm
  exact A.ret qE
 refine qF c2 ?_
 refine A.skip ?_
 show ai _ _ _ _ _
 cases hm
theorem rE {f : aB} {k : Int} {r : aB × Int} (hm : fG f k = some r) : RO Tryz.prog 35 [] [.agg (k11 f), i6 k] (.tup [.agg (k11 r.1), i6 r.2]) := by
 refine aR Tryz.func35 rfl rfl ?_
 unfold fG at hm
 refine qS [(0, .al 35002), (1, .al 35004)] [(1, i6 k), (2, .ptr 35002 0), (4, .ptr 35004 0)] [(35002, .cells 27 (k11 f)), (35004, .cells 27 [.aC, .aC, .aC])] ?_
 rcases uf hm with ⟨af, h1, hm⟩ | hm
 ·refine qS [(2, hdc [900000091, 507008100, 507008101] (ki h1) aaZ)] [(1, i6 k), (2, .ptr 35002 0), (4, .ptr 35004 0), (6, .ptr 900000091 0), (7, i6 af.2)] [(35002, .cells 27 (k11 f)), (35004, .cells 27 [.aC, .aC, .aC]), (507008100, .slice 81 5 (ml aN af.1.f_.aG) 0 false), (507008101, .slice 62 3 (ml aF af.1.f_.aj) 0 false), (900000091, .cells 91 [lf aA af.1.f_.Links, .own 507008100, .own 507008101])] ?_
  refine A.seq ?_
  refine A.block ?_
  refine qDs [] [] [(15, .bool (!decide (af.2 = (0:Int))))] ?_
  rcases ah hm with ⟨c1,hm⟩|⟨c1,hm⟩
  ·refine qT c1 ?_
   refine qD [] [1, 2, 6, 7, 15] [(5, i6 af.2)] [35002, 507008100, 507008101, 900000091] [] ?_
   cases hm
   exact A.ret qE
  refine qF c1 ?_
  refine qDs [(2, hto (lnE aF f.aj))] [7, 15] [(20, .bool (decide ((f.aj.length:Int) = (400:Int))))] ?_
  rcases ah hm with ⟨c2,hm⟩|⟨c2,hm⟩
  ·refine qT c2 ?_
   refine qD [] [1, 2, 6, 20] [(5, i6 3)] [35002, 507008100, 507008101, 900000091] [] ?_
   cases hm
   exact A.ret qE
  refine qF c2 ?_
  refine A.skip ?_
  show ai _ _ _ _ _
  obtain ⟨e_1, h2, hm⟩ := aa hm
  refine qD [(3, hix (ix aF h2)), (5, .al 35008)] [1, 2, 20] [(8, .ptr 35008 0)] [35002] [(35008, .cells 62 (k9 e_1))] ?_
  obtain ⟨ay, h3, hm⟩ := aa hm
  refine qD [(2, hro (fu h3) acN)] [] [] [35008] [(35008, .cells 62 [i6 e_1.gM, i6 e_1.To, lf aI ay.az])] ?_
  obtain ⟨l_1, h4, hm⟩ := aa hm
  refine qD [(8, hap 35543 (ap aF (bytes := 40) (by decide) h4))] [8] [] [507008101, 900000091, 35008] [(900000091, .cells 91 [lf aA af.1.f_.Links, .own 507008100, .own 35543]), (35543, .slice 62 3 (ml aF l_1) 0 false)] ?_
  refine qD [] [6] [(5, i6 0)] [35004, 900000091] [(35004, .cells 27 [lf aA af.1.f_.Links, .own 507008100, .own 35543])] ?_
  refine A.ret ?_
  obtain rfl := some_inj hm
  exact A.fin W0 [.fz [507008100, 35543]] rfl (by kernel_rfl)
 obtain ⟨aJ, h5, hm⟩ := aa hm
 refine qS [(2, hro (kO h5) aaZ)] [(1, i6 k), (2, .ptr 35002 0), (4, .ptr 35004 0), (6, .fV), (7, i6 aJ)] [(35002, .cells 27 (k11 f)), (35004, .cells 27 [.aC, .aC, .aC])] ?_
 refine A.seq ?_
 refine A.block ?_
 refine qDs [] [] [(15, .bool (!decide (aJ = (0:Int))))] ?_
 rcases ah hm with ⟨c3,hm⟩|⟨c3,hm⟩
 ·refine qT c3 ?_
  refine qD [] [1, 2, 6, 7, 15] [(5, i6 aJ)] [35002] [] ?_
  cases hm
  exact A.ret qE
 refine qF c3 ?_
 refine qDs [(2, hto (lnE aF f.aj))] [7, 15] [(20, .bool (decide ((f.aj.length:Int) = (400:Int))))] ?_
 rcases ah hm with ⟨c4,hm⟩|⟨c4,hm⟩
 ·refine qT c4 ?_
  refine qD [] [1, 2, 6, 20] [(5, i6 3)] [35002] [] ?_
  cases hm
  exact A.ret qE
 refine qF c4 ?_
 refine A.skip ?_
 show ai _ _ _ _ _
 obtain ⟨e_2, h6, hm⟩ := aa hm
 refine qD [(3, hix (ix aF h6)), (5, .al 35008)] [1, 2, 20] [(8, .ptr 35008 0)] [35002] [(35008, .cells 62 (k9 e_2))] ?_
 obtain ⟨bk, h7, hm⟩ := aa hm
 refine qD [(2, hro (fu h7) acN)] [] [] [35008] [(35008, .cells 62 [i6 e_2.gM, i6 e_2.To, lf aI bk.az])] ?_
 cases hm
theorem xh {f : aB} {r : aB × Int} (hm : qg f = some r) : RO Tryz.prog 13 [] [.agg (k11 f)] (.tup [.agg (k11 r.1), i6 r.2]) := by
 refine aR Tryz.func13 rfl rfl ?_
 unfold qg at hm
 refine qS [(0, .al 13001), (1, .al 13002)] [(1, .ptr 13001 0), (2, .ptr 13002 0)] [(13001, .cells 27 (k11 f)), (13002, .cells 27 [.aC, .aC, .aC])] ?_
 refine A.seq ?_
 obtain ⟨af, h1, hm⟩ := aa hm
 refine qDs [(1, hro (eF h1) xG)] [] [(9, .bool (!decide (af = (0:Int))))] ?_
 rcases ah hm with ⟨c1,hm⟩|⟨c1,hm⟩
 ·refine qT c1 ?_
  refine qD [] [1, 9] [(3, i6 1)] [13001] [] ?_
  cases hm
  exact A.ret qE
 refine qF c1 ?_
 refine A.skip ?_
 show ai _ _ _ _ _
 obtain ⟨ay, h2, hm⟩ := aa hm
 refine qD [(1, hdc [500005400, 500005401, 500005402] (iR h2) acK), (3, .al 13014)] [1, 9] [(4, .ptr 13014 0)] [13001] [(500005400, .slice 78 5 (ml aA ay.Links) 0 false), (500005401, .slice 81 5 (ml aN ay.aG) 0 false), (500005402, .slice 62 3 (ml aF ay.aj) 0 false), (13014, .cells 91 [.own 500005400, .own 500005401, .own 500005402])] ?_
 refine A.seq ?_
 refine qD [(1, hmk), (3, hmk), (5, hmk), (6, hbsC W0 13021), (7, hlnC W0)] [] [(21, .hnd (.csl 3) 13021), (22, i6 3), (23, i6 0)] [] [(13021, .cells 1 [.hnd (.iJ 55) 13014, .hnd (.iJ 56) 13014, .hnd (.iJ 55) 13014])] ?_
 refine A.block ?_
 refine A.aoB 4 ?_
 refine A.rnd ?_
 refine qS [] [(2, .ptr 13002 0), (4, .ptr 13014 0), (21, .hnd (.csl 3) 13021), (22, i6 3), (23, i6 0), (24, .bool true)] [(13002, .cells 27 [.aC, .aC, .aC]), (500005400, .slice 78 5 (ml aA ay.Links) 0 false), (500005401, .slice 81 5 (ml aN ay.aG) 0 false), (500005402, .slice 62 3 (ml aF ay.aj) 0 false), (13014, .cells 91 [.own 500005400, .own 500005401, .own 500005402]), (13021, .cells 1 [.hnd (.iJ 55) 13014, .hnd (.iJ 56) 13014, .hnd (.iJ 55) 13014])] ?_
 refine A.seq ?_
 refine A.cT rfl rfl ?_
 refine A.skip ?_
 show ai _ _ _ _ _
 refine A.seq ?_
 refine A.block ?_
 refine qDs [(0, ah6 W0)] [24] [(6, .hnd (.iJ 55) 13014)] ?_
 obtain ⟨aJ, h3, hm⟩ := aa hm
 refine A.R W0 [.fz [500005400], .sc 13014 [13002, 500005401, 500005402, 13014, 13021]] [(1, hdm [520013001, 520013002] (SC.at [(505005500, 500005401), (505005502, 500005402), (900000091, 13014), (505005501, 520013001), (505005503, 520013002)] (mW h3)) apF)] [(2, .ptr 13002 0), (4, .ptr 13014 0), (21, .hnd (.csl 3) 13021), (22, i6 3), (23, i6 0)] [(13002, .cells 27 [.aC, .aC, .aC]), (13014, .cells 91 [lf aA aJ.f_.Links, .own 520013001, .own 520013002]), (13021, .cells 1 [.hnd (.iJ 55) 13014, .hnd (.iJ 56) 13014, .hnd (.iJ 55) 13014]), (520013001, .slice 81 5 (ml aN aJ.f_.aG) 0 false), (520013002, .slice 62 3 (ml aF aJ.f_.aj) 0 false)] (by kernel_rfl) ?_
 show ai _ _ _ _ _
 refine qR [] [(2, .ptr 13002 0), (4, .ptr 13014 0), (21, .hnd (.csl 3) 13021), (22, i6 3), (23, i6 1)] [(13002, .cells 27 [.aC, .aC, .aC]), (13014, .cells 91 [lf aA aJ.f_.Links, .own 520013001, .own 520013002]), (13021, .cells 1 [.hnd (.iJ 55) 13014, .hnd (.iJ 56) 13014, .hnd (.iJ 55) 13014]), (520013001, .slice 81 5 (ml aN aJ.f_.aG) 0 false), (520013002, .slice 62 3 (ml aF aJ.f_.aj) 0 false)] ?_
 show qt _ _ _ _ _ _
 refine A.rnd ?_
 refine qS [] [(2, .ptr 13002 0), (4, .ptr 13014 0), (21, .hnd (.csl 3) 13021), (22, i6 3), (23, i6 1), (24, .bool true)] [(13002, .cells 27 [.aC, .aC, .aC]), (13014, .cells 91 [lf aA aJ.f_.Links, .own 520013001, .own 520013002]), (13021, .cells 1 [.hnd (.iJ 55) 13014, .hnd (.iJ 56) 13014, .hnd (.iJ 55) 13014]), (520013001, .slice 81 5 (ml aN aJ.f_.aG) 0 false), (520013002, .slice 62 3 (ml aF aJ.f_.aj) 0 false)] ?_
 refine A.seq ?_
 refine A.cT rfl rfl ?_
 refine A.skip ?_
 show ai _ _ _ _ _
 refine A.seq ?_
 refine A.block ?_
 refine qDs [(0, ah6 W0)] [24] [(6, .hnd (.iJ 56) 13014)] ?_
 obtain ⟨bk, h4, hm⟩ := aa hm
 refine qG [(1, hdm [520013003, 520013004] (SC.at [(505005600, 520013001), (505005602, 520013002), (900000091, 13014), (505005601, 520013003), (505005603, 520013004)] (rK h4)) ck56)] [6] [] [13014, 520013001, 520013002] [(13014, .cells 91 [lf aA bk.f_.Links, .own 520013003, .own 520013004]), (520013003, .slice 81 5 (ml aN bk.f_.aG) 0 false), (520013004, .slice 62 3 (ml aF bk.f_.aj) 0 false)] ?_
 show ai _ _ _ _ _
 refine qGs [] [23] [(23, i6 2)] ?_
 show qt _ _ _ _ _ _
 refine A.rnd ?_
 refine qS [] [(2, .ptr 13002 0), (4, .ptr 13014 0), (21, .hnd (.csl 3) 13021), (22, i6 3), (23, i6 2), (24, .bool true)] [(13002, .cells 27 [.aC, .aC, .aC]), (13014, .cells 91 [lf aA bk.f_.Links, .own 520013003, .own 520013004]), (13021, .cells 1 [.hnd (.iJ 55) 13014, .hnd (.iJ 56) 13014, .hnd (.iJ 55) 13014]), (520013003, .slice 81 5 (ml aN bk.f_.aG) 0 false), (520013004, .slice 62 3 (ml aF bk.f_.aj) 0 false)] ?_
 refine A.seq ?_
 refine A.cT rfl rfl ?_
 refine A.skip ?_
 show ai _ _ _ _ _
 refine A.seq ?_
 refine A.block ?_
 refine qDs [(0, ah6 W0)] [24] [(6, .hnd (.iJ 55) 13014)] ?_
 obtain ⟨bF, h5, hm⟩ := aa hm
 refine qG [(1, hdm [520013005, 520013006] (SC.at [(505005500, 520013003), (505005502, 520013004), (900000091, 13014), (505005501, 520013005), (505005503, 520013006)] (mW h5)) apF)] [6] [] [13014, 520013003, 520013004] [(13014, .cells 91 [lf aA bF.f_.Links, .own 520013005, .own 520013006]), (520013005, .slice 81 5 (ml aN bF.f_.aG) 0 false), (520013006, .slice 62 3 (ml aF bF.f_.aj) 0 false)] ?_
 show ai _ _ _ _ _
 refine qGs [] [23] [(23, i6 3)] ?_
 show qt _ _ _ _ _ _
 refine A.rnd ?_
 refine qS [] [(2, .ptr 13002 0), (4, .ptr 13014 0), (21, .hnd (.csl 3) 13021), (22, i6 3), (23, i6 3), (24, .bool false)] [(13002, .cells 27 [.aC, .aC, .aC]), (13014, .cells 91 [lf aA bF.f_.Links, .own 520013005, .own 520013006]), (13021, .cells 1 [.hnd (.iJ 55) 13014, .hnd (.iJ 56) 13014, .hnd (.iJ 55) 13014]), (520013005, .slice 81 5 (ml aN bF.f_.aG) 0 false), (520013006, .slice 62 3 (ml aF bF.f_.aj) 0 false)] ?_
 refine A.seq ?_
 refine A.cF rfl rfl ?_
 refine A.exit ?_
 show ai _ _ _ _ _
 refine qD [] [4, 21, 22, 23, 24] [(3, i6 0)] [13002, 13014, 13021] [(13002, .cells 27 [lf aA bF.f_.Links, .own 520013005, .own 520013006])] ?_
 refine A.ret ?_
 obtain rfl := some_inj hm
 exact A.fin W0 [.fz [520013005, 520013006]] rfl (by kernel_rfl)
end Go.Proofs.YtpmifmdidfgpdaaGreat
