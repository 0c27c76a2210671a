/- The eR of cw of the program. No condition but bT bF stand in each. -/
import Derived.Test.YtpmifmdidfgpdaaGreatDA
import Derived.Test.YtpmifmdidfgpdaaGreatV0
import Derived.Test.YtpmifmdidfgpdaaGreatV1
namespace Go.Proofs.YtpmifmdidfgpdaaGreat
open Go
set_option maxRecDepth 100000
set_option linter.all false
theorem kN {t : aB} {ra1 : Int} {r : Bool} (hm : mj t ra1 = some r) : RO Tryz.prog 125 [] [.agg (k2 t), i6 ra1] (.bool r) := by
 refine aQ Tryz.func125 rfl rfl ?_
 unfold mj at hm
 refine qS [(0, .al 125002)] [(1, i6 ra1), (2, .ptr 125002 0)] [(125002, .cells 44 (k2 t))] ?_
 obtain ⟨af, h1, hm⟩ := aa hm
 rcases ah hm with ⟨c1,hm⟩|⟨c1,hm⟩
 ·obtain ⟨aq, h2, hm⟩ := aa hm
  refine qS [(1, hro (jk h1) abj), (3, hto (bE c1)), (6, hro (oZ h2) acs)] [(4, .bool aq)] [] ?_
  cases hm
  exact A.ret qE
 refine qS [(1, hro (jk h1) abj), (3, hto (bE c1))] [(4, .bool false)] [] ?_
 cases hm
 exact A.ret qE
theorem xS {t : aB} {ra1 : Int} {r : Bool} (hm : iK t ra1 = some r) : RO Tryz.prog 156 [] [.agg (k2 t), i6 ra1] (.bool r) := by
 refine aQ Tryz.func156 rfl rfl ?_
 unfold iK at hm
 refine qS [(0, .al 156002)] [(1, i6 ra1), (2, .ptr 156002 0)] [(156002, .cells 44 (k2 t))] ?_
 refine A.seq ?_
 obtain ⟨af, h1, hm⟩ := aa hm
 refine qDs [(1, hro (jk h1) abj)] [] [(8, .bool (!decide (af = (0:Int))))] ?_
 rcases ah hm with ⟨c1,hm⟩|⟨c1,hm⟩
 ·refine qT c1 ?_
  refine qS [] [(4, .bool false)] [] ?_
  cases hm
  exact A.ret qE
 refine qF c1 ?_
 refine A.skip ?_
 show ai _ _ _ _ _
 refine A.seq ?_
 refine qDs [] [8] [(5, i6 0)] ?_
 refine A.block ?_
 refine A.bC 2 0 rfl rfl rfl fun hb1 => ?_
 obtain ⟨B1, K1, hB1, hK1, hm⟩ := bq hm
 refine A.lpI (l := t.aK) (j0 := 0) (B := B1) (K := K1) hm (fun j1 => fun sg => match sg with | () => [(1, i6 ra1), (2, .ptr 156002 0), (5, i6 (j1 : Int))]) (fun j1 => fun sg => match sg with | () => [(156002, .cells 44 (k2 t))]) ?_ ?_ ?_
 ·exact qW
 ·rintro j1 e1 Z1 ⟨⟩ hj1 hx1 hm
  rw [hB1] at hm
  refine A.seq ?_
  refine qDs [(3, hto (lnE aS t.aK))] [] [(13, .bool (decide ((j1 : Int) < (t.aK.length:Int))))] ?_
  refine qT (ltT hx1) ?_
  refine A.skip ?_
  show ai _ _ _ _ _
  refine A.seq ?_
  refine A.block ?_
  refine qDs [(3, hix (ix aS (aV hx1)))] [13] [(23, .bool (decide (e1.ID = ra1)))] ?_
  rcases ah hm with ⟨c2,hm⟩|⟨c2,hm⟩
  ·refine qT c2 ?_
   refine qS [(3, hix (ix aS (aV hx1)))] [(4, .bool e1.bh)] [] ?_
   cases hm
   exact A.ret qE
  refine qF c2 ?_
  refine A.skip ?_
  show ai _ _ _ _ _
  refine qGs [(1, hto (inc hx1 hb1))] [5, 23] [(5, i6 ((j1 + 1 : Nat) : Int))] ?_
  exact qX () hm
 rintro j1 ⟨⟩ hj1 hl1 hm
 rw [hK1] at hm
 refine A.seq ?_
 refine qDs [(3, hto (lnE aS t.aK))] [] [(13, .bool (decide ((j1 : Int) < (t.aK.length:Int))))] ?_
 refine qF (ltF hl1) ?_
 refine A.exit ?_
 show ai _ _ _ _ _
 refine qS [] [(4, .bool false)] [] ?_
 cases hm
 exact A.ret qE
theorem rj {t : aB} {ra1 : Int} {r : (List Int)} (hm : kU t ra1 = some r) : RO Tryz.prog 79 [] [.agg (k2 t), i6 ra1] (lf aY r) := by
 refine aQ Tryz.func79 rfl rfl ?_
 unfold kU at hm
 refine qS [(0, .al 79002)] [(1, i6 ra1), (2, .ptr 79002 0)] [(79002, .cells 44 (k2 t))] ?_
 refine qDs [] [] [(5, .aD)] ?_
 refine A.seq ?_
 refine qDs [] [] [(6, i6 0)] ?_
 refine A.block ?_
 refine A.bC 2 0 rfl rfl rfl fun hb1 => ?_
 obtain ⟨B1, K1, hB1, hK1, hm⟩ := bq hm
 refine A.lpI (l := t.aK) (j0 := 0) (B := B1) (K := K1) hm (fun j1 => fun cu => [(1, i6 ra1), (2, .ptr 79002 0), (5, .own 600079005), (6, i6 (j1 : Int))]) (fun j1 => fun cu => [(79002, .cells 44 (k2 t)), (600079005, .slice 3 1 (ml aY cu) 0 false)]) ?_ ?_ ?_
 ·exact bz.go [.ad 5 600079005 3 1] [] (by kernel_rfl)
 ·rintro j1 e1 Z1 cu hj1 hx1 hm
  rw [hB1] at hm
  refine A.seq ?_
  refine qDs [(3, hto (lnE aS t.aK))] [] [(13, .bool (decide ((j1 : Int) < (t.aK.length:Int))))] ?_
  refine qT (ltT hx1) ?_
  refine A.skip ?_
  show ai _ _ _ _ _
  obtain ⟨J1, hJ1, hm⟩ := bB hm
  refine A.J (J := J1) (r := r) (fun gR => [(1, i6 ra1), (2, .ptr 79002 0), (5, .own 600079005), (6, i6 (j1 : Int))]) (fun gR => [(79002, .cells 44 (k2 t)), (600079005, .slice 3 1 (ml aY gR) 0 false)]) ?_ ?_
  ·refine A.block ?_
   obtain ⟨af, h1, hm⟩ := aa hm
   refine qDs [(5, hix (ix aS (aV hx1))), (8, hro (uz h1) aqp)] [13] [(8, .bool af.2)] ?_
   refine qDs [] [8] [(28, .bool af.2)] ?_
   rcases ah hm with ⟨c1,hm⟩|⟨c1,hm⟩
   ·refine qT c1 ?_
    obtain ⟨l_1, h2, hm⟩ := aa hm
    refine qG [(4, hix (ix aS (aV hx1))), (8, hap 79537 (ap aY (bytes := 8) (by decide) h2))] [5, 28] [(5, .own 79537)] [600079005] [(79537, .slice 3 1 (ml aY l_1) 0 false)] ?_
    exact Exists.intro l_1 (And.intro hm (bz.go [.sw 79537 600079005] [] (by kernel_rfl)))
   refine qF c1 ?_
   refine A.skip ?_
   exact qX cu hm
  rintro gR hm
  rw [hJ1] at hm
  refine qGs [(1, hto (inc hx1 hb1))] [6] [(6, i6 ((j1 + 1 : Nat) : Int))] ?_
  exact qX gR hm
 rintro j1 cu hj1 hl1 hm
 rw [hK1] at hm
 refine A.seq ?_
 refine qDs [(3, hto (lnE aS t.aK))] [] [(13, .bool (decide ((j1 : Int) < (t.aK.length:Int))))] ?_
 refine qF (ltF hl1) ?_
 refine A.exit ?_
 show ai _ _ _ _ _
 refine qD [] [1, 2, 5, 6, 13] [(4, .own 600079005)] [79002] [] ?_
 refine A.ret ?_
 obtain rfl := some_inj hm
 exact A.fin W0 [.fz [600079005]] rfl (by kernel_rfl)
theorem y8 {t : aB} {ra1 : Int} {r : (List Int)} (hm : mS t ra1 = some r) : RO Tryz.prog 126 [] [.agg (k2 t), i6 ra1] (lf aY r) := by
 refine aQ Tryz.func126 rfl rfl ?_
 unfold mS at hm
 refine qS [(0, .al 126002)] [(1, i6 ra1), (2, .ptr 126002 0)] [(126002, .cells 44 (k2 t))] ?_
 refine qD [(1, .al 126012)] [1] [(5, .own 126012)] [] [(126012, .slice 3 1 (ml aY ([ra1] : List Int)) 0 false)] ?_
 refine A.seq ?_
 refine qDs [] [] [(6, i6 0)] ?_
 refine A.block ?_
 obtain ⟨F1, n1, hF1, hm⟩ := fu hm
 refine A.lpW (F := F1) hm (fun sg => match sg with | (cu, i_1) => [(2, .ptr 126002 0), (5, .own 600126005), (6, i6 i_1)]) (fun sg => match sg with | (cu, i_1) => [(126002, .cells 44 (k2 t)), (600126005, .slice 3 1 (ml aY cu) 0 false)]) ?_ ?_
 ·exact bz.go [.sw 126012 600126005] [] (by kernel_rfl)
 rintro Z1 ⟨cu, i_1⟩ hm
 rw [hF1] at hm
 refine A.seq ?_
 refine qDs [(2, hto (lnE aY cu))] [] [(16, .bool (decide (i_1 < (cu.length:Int))))] ?_
 rcases ah hm with ⟨c1,hm⟩|⟨c1,hm⟩
 ·refine qT c1 ?_
  refine A.skip ?_
  show ai _ _ _ _ _
  refine A.seq ?_
  refine A.block ?_
  obtain ⟨e_1, h1, hm⟩ := aa hm
  obtain ⟨af, h2, hm⟩ := aa hm
  refine qDs [(3, hix (ix aY h1)), (4, hlo 600126005 0 (ix aY h1)), (5, hro (rj h2) aiY)] [16] [(7, lf aY af)] ?_
  refine qDs [] [] [(8, i6 0)] ?_
  refine A.block ?_
  refine A.bS 7 rfl fun hb2 => ?_
  obtain ⟨B2, K2, hB2, hK2, hm⟩ := bq hm
  refine A.lpI (l := af) (j0 := 0) (B := B2) (K := K2) hm (fun j2 => fun gR => [(2, .ptr 126002 0), (5, .own 600126005), (6, i6 i_1), (7, lf aY af), (8, i6 (j2 : Int))]) (fun j2 => fun gR => [(126002, .cells 44 (k2 t)), (600126005, .slice 3 1 (ml aY gR) 0 false)]) ?_ ?_ ?_
  ·exact qW
  ·rintro j2 e2 Z2 gR hj2 hx2 hm
   rw [hB2] at hm
   refine A.seq ?_
   refine qDs [(2, hto (lnE aY af))] [] [(28, .bool (decide ((j2 : Int) < (af.length:Int))))] ?_
   refine qT (ltT hx2) ?_
   refine A.skip ?_
   show ai _ _ _ _ _
   obtain ⟨J1, hJ1, hm⟩ := bB hm
   refine A.J (J := J1) (r := r) (fun yR => [(2, .ptr 126002 0), (5, .own 600126005), (6, i6 i_1), (7, lf aY af), (8, i6 (j2 : Int))]) (fun yR => [(126002, .cells 44 (k2 t)), (600126005, .slice 3 1 (ml aY yR) 0 false)]) ?_ ?_
   ·refine A.block ?_
    obtain ⟨aq, h3, hm⟩ := aa hm
    refine qDs [(3, hix (ix aY (aV hx2))), (5, hle [600126005] (vI h3) aqo)] [28] [(37, .bool (!aq))] ?_
    rcases ah hm with ⟨c2,hm⟩|⟨c2,hm⟩
    ·refine qT c2 ?_
     obtain ⟨l_1, h4, hm⟩ := aa hm
     refine qG [(3, hix (ix aY (aV hx2))), (6, hap 126544 (ap aY (bytes := 8) (by decide) h4))] [5, 37] [(5, .own 126544)] [600126005] [(126544, .slice 3 1 (ml aY l_1) 0 false)] ?_
     exact Exists.intro l_1 (And.intro hm (bz.go [.sw 126544 600126005] [] (by kernel_rfl)))
    refine qF c2 ?_
    refine A.skip ?_
    exact qX gR hm
   rintro yR hm
   rw [hJ1] at hm
   refine qGs [(1, hto (inc hx2 hb2))] [8] [(8, i6 ((j2 + 1 : Nat) : Int))] ?_
   exact qX yR hm
  rintro j2 gR hj2 hl2 hm
  rw [hK2] at hm
  refine A.seq ?_
  refine qDs [(2, hto (lnE aY af))] [] [(28, .bool (decide ((j2 : Int) < (af.length:Int))))] ?_
  refine qF (ltF hl2) ?_
  refine A.exit ?_
  show ai _ _ _ _ _
  refine qGs [] [6, 7, 8, 28] [(6, i6 (w64 (i_1 + (1:Int))))] ?_
  exact qX (gR, w64 (i_1 + (1:Int))) hm
 refine qF c1 ?_
 refine A.exit ?_
 show ai _ _ _ _ _
 refine qD [] [2, 6, 16] [(9, .aD)] [126002] [] ?_
 refine A.seq ?_
 refine qDs [] [] [(10, i6 0)] ?_
 refine A.block ?_
 refine A.bW 5 rfl rfl fun hb3 => ?_
 obtain ⟨B3, K3, hB3, hK3, hm⟩ := bq hm
 refine A.lpI (l := cu) (j0 := 0) (B := B3) (K := K3) hm (fun j3 => fun l_2 => [(5, .own 600126005), (9, lf aY l_2), (10, i6 (j3 : Int))]) (fun j3 => fun l_2 => [(600126005, .slice 3 1 (ml aY cu) 0 false)]) ?_ ?_ ?_
 ·exact bz.go [] [9] (by kernel_rfl)
 ·rintro j3 e3 Z3 l_2 hj3 hx3 hm
  rw [hB3] at hm
  refine A.seq ?_
  refine qDs [(2, hto (lnE aY cu))] [] [(48, .bool (decide ((j3 : Int) < (cu.length:Int))))] ?_
  refine qT (ltT hx3) ?_
  refine A.skip ?_
  show ai _ _ _ _ _
  refine A.seq ?_
  refine A.block ?_
  obtain ⟨aI, h5, hm⟩ := aa hm
  refine qGs [(3, hix (ix aY (aV hx3))), (4, hlo 600126005 0 (ix aY (aV hx3))), (5, hro (y7 h5) auD)] [9, 48] [(9, lf aY aI)] ?_
  show ai _ _ _ _ _
  refine qGs [(1, hto (inc hx3 hb3))] [10] [(10, i6 ((j3 + 1 : Nat) : Int))] ?_
  exact Exists.intro aI (And.intro hm (bz.go [] [9] (by kernel_rfl)))
 rintro j3 l_2 hj3 hl3 hm
 rw [hK3] at hm
 refine A.seq ?_
 refine qDs [(2, hto (lnE aY cu))] [] [(48, .bool (decide ((j3 : Int) < (cu.length:Int))))] ?_
 refine qF (ltF hl3) ?_
 refine A.exit ?_
 show ai _ _ _ _ _
 refine qS [] [(4, lf aY l_2)] [] ?_
 cases hm
 exact A.ret qE
theorem rq {t : aB} {a : Int} {b : Int} {r : Bool} (hm : gK t a b = some r) : RO Tryz.prog 70 [] [.agg (k2 t), i6 a, i6 b] (.bool r) := by
 refine aQ Tryz.func70 rfl rfl ?_
 unfold gK at hm
 refine qS [(0, .al 70003)] [(1, i6 a), (2, i6 b), (3, .ptr 70003 0)] [(70003, .cells 44 (k2 t))] ?_
 obtain ⟨af, h1, hm⟩ := aa hm
 rcases ah hm with ⟨c1,hm⟩|⟨c1,hm⟩
 ·obtain ⟨aq, h2, hm⟩ := aa hm
  rcases ah hm with ⟨c2,hm⟩|⟨c2,hm⟩
  ·obtain ⟨aI, h3, hm⟩ := aa hm
   obtain ⟨bk, h4, hm⟩ := aa hm
   refine qS [(2, hro (kN h1) yO), (3, hto (bE c1)), (6, hro (kN h2) yO), (8, hto (bE c2)), (11, hro (y8 h3) auo), (13, hro (vI h4) aqo)] [(6, .bool bk)] [] ?_
   cases hm
   exact A.ret qE
  refine qS [(2, hro (kN h1) yO), (3, hto (bE c1)), (6, hro (kN h2) yO), (8, hto (bE c2))] [(6, .bool false)] [] ?_
  cases hm
  exact A.ret qE
 refine qS [(2, hro (kN h1) yO), (3, hto (bE c1))] [(6, .bool false)] [] ?_
 cases hm
 exact A.ret qE
theorem ru {a : aB} {b : aB} {r : Bool} (hm : mT a b = some r) : RO Tryz.prog 21 [] [.agg (k2 a), .agg (k2 b)] (.bool r) := by
 refine aQ Tryz.func21 rfl rfl ?_
 unfold mT at hm
 refine qS [(0, .al 21002), (1, .al 21003)] [(2, .ptr 21002 0), (3, .ptr 21003 0)] [(21002, .cells 44 (k2 a)), (21003, .cells 44 (k2 b))] ?_
 refine A.seq ?_
 refine A.mid [(2, .ptr 21002 0), (3, .ptr 21003 0), (22, .bool ((!decide ((a.aK.length:Int) = (b.aK.length:Int))) || (!decide ((a.Links.length:Int) = (b.Links.length:Int)))))] [(21002, .cells 44 (k2 a)), (21003, .cells 44 (k2 b))] (fun hk => ?_) ?_
 ·rcases tf (!decide ((a.aK.length:Int) = (b.aK.length:Int))) with c1 | c1
  ·exact qS [(2, hto (lnE aS a.aK)), (5, hto (lnE aS b.aK)), (7, hto (bE c1)), (15, hto (orT (q := !decide ((a.Links.length:Int) = (b.Links.length:Int))) c1))] _ _ hk
  exact qS [(2, hto (lnE aS a.aK)), (5, hto (lnE aS b.aK)), (7, hto (bE c1)), (10, hto (lnE az a.Links)), (13, hto (lnE az b.Links)), (15, hto (orF (q := !decide ((a.Links.length:Int) = (b.Links.length:Int))) c1))] _ _ hk
 rcases ah hm with ⟨c2,hm⟩|⟨c2,hm⟩
 ·refine qT c2 ?_
  refine qS [] [(4, .bool false)] [] ?_
  cases hm
  exact A.ret qE
 refine qF c2 ?_
 refine A.skip ?_
 show ai _ _ _ _ _
 refine A.seq ?_
 refine qDs [] [22] [(5, i6 0)] ?_
 refine A.block ?_
 refine A.bC 2 0 rfl rfl rfl fun hb1 => ?_
 obtain ⟨B1, K1, hB1, hK1, hm⟩ := bq hm
 refine A.lpI (l := a.aK) (j0 := 0) (B := B1) (K := K1) hm (fun j1 => fun sg => match sg with | () => [(2, .ptr 21002 0), (3, .ptr 21003 0), (5, i6 (j1 : Int))]) (fun j1 => fun sg => match sg with | () => [(21002, .cells 44 (k2 a)), (21003, .cells 44 (k2 b))]) ?_ ?_ ?_
 ·exact qW
 ·rintro j1 e1 Z1 ⟨⟩ hj1 hx1 hm
  rw [hB1] at hm
  refine A.seq ?_
  refine qDs [(3, hto (lnE aS a.aK))] [] [(27, .bool (decide ((j1 : Int) < (a.aK.length:Int))))] ?_
  refine qT (ltT hx1) ?_
  refine A.skip ?_
  show ai _ _ _ _ _
  refine A.seq ?_
  refine A.block ?_
  obtain ⟨e_1, h1, hm⟩ := aa hm
  refine qDs [(3, hix (ix aS (aV hx1))), (8, hix (ix aS h1)), (10, .sq true 87 (.agg (k0 e1)) (.agg (k0 e_1)) (!(sK e1 e_1)) (fun x y w => agY x y _ _ _ _ w))] [27] [(40, .bool (!(sK e1 e_1)))] ?_
  rcases ah hm with ⟨c3,hm⟩|⟨c3,hm⟩
  ·refine qT c3 ?_
   refine qS [] [(4, .bool false)] [] ?_
   cases hm
   exact A.ret qE
  refine qF c3 ?_
  refine A.skip ?_
  show ai _ _ _ _ _
  refine qGs [(1, hto (inc hx1 hb1))] [5, 40] [(5, i6 ((j1 + 1 : Nat) : Int))] ?_
  exact qX () hm
 rintro j1 ⟨⟩ hj1 hl1 hm
 rw [hK1] at hm
 refine A.seq ?_
 refine qDs [(3, hto (lnE aS a.aK))] [] [(27, .bool (decide ((j1 : Int) < (a.aK.length:Int))))] ?_
 refine qF (ltF hl1) ?_
 refine A.exit ?_
 show ai _ _ _ _ _
 refine A.seq ?_
 refine qDs [] [5, 27] [(6, i6 0)] ?_
 refine A.block ?_
 refine A.bC 2 1 rfl rfl rfl fun hb2 => ?_
 obtain ⟨B2, K2, hB2, hK2, hm⟩ := bq hm
 refine A.lpI (l := a.Links) (j0 := 0) (B := B2) (K := K2) hm (fun j2 => fun sg => match sg with | () => [(2, .ptr 21002 0), (3, .ptr 21003 0), (6, i6 (j2 : Int))]) (fun j2 => fun sg => match sg with | () => [(21002, .cells 44 (k2 a)), (21003, .cells 44 (k2 b))]) ?_ ?_ ?_
 ·exact qW
 ·rintro j2 e2 Z2 ⟨⟩ hj2 hx2 hm
  rw [hB2] at hm
  refine A.seq ?_
  refine qDs [(3, hto (lnE az a.Links))] [] [(45, .bool (decide ((j2 : Int) < (a.Links.length:Int))))] ?_
  refine qT (ltT hx2) ?_
  refine A.skip ?_
  show ai _ _ _ _ _
  refine A.seq ?_
  refine A.block ?_
  obtain ⟨e_2, h2, hm⟩ := aa hm
  refine qDs [(3, hix (ix az (aV hx2))), (8, hix (ix az h2)), (10, .sq true 78 (.agg (k1 e2)) (.agg (k1 e_2)) (!(vH e2 e_2)) (fun x y w => agW x y _ _ _ _ _ _ _ _ _ _ w))] [45] [(58, .bool (!(vH e2 e_2)))] ?_
  rcases ah hm with ⟨c4,hm⟩|⟨c4,hm⟩
  ·refine qT c4 ?_
   refine qS [] [(4, .bool false)] [] ?_
   cases hm
   exact A.ret qE
  refine qF c4 ?_
  refine A.skip ?_
  show ai _ _ _ _ _
  refine qGs [(1, hto (inc hx2 hb2))] [6, 58] [(6, i6 ((j2 + 1 : Nat) : Int))] ?_
  exact qX () hm
 rintro j2 ⟨⟩ hj2 hl2 hm
 rw [hK2] at hm
 refine A.seq ?_
 refine qDs [(3, hto (lnE az a.Links))] [] [(45, .bool (decide ((j2 : Int) < (a.Links.length:Int))))] ?_
 refine qF (ltF hl2) ?_
 refine A.exit ?_
 show ai _ _ _ _ _
 refine qS [] [(4, .bool true)] [] ?_
 cases hm
 exact A.ret qE
end Go.Proofs.YtpmifmdidfgpdaaGreat
