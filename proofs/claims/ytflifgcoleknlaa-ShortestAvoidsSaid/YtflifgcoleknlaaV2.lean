/- The walks of functions of the program. No condition but those that stand in each. -/
import Derived.Test.YtflifgcoleknlaaDA
import Derived.Test.YtflifgcoleknlaaV0
import Derived.Test.YtflifgcoleknlaaV1
namespace Go.Proofs.Ytflifgcoleknlaa
open Go
set_option maxRecDepth 100000
set_option linter.all false
theorem m_ref05_Has_ok {t : GTopology} {ra1 : Int} {r : Bool} (hm : m_ref05_Has t ra1 = some r) : RO Try.prog 50 [] [.agg (k2 t), i6 ra1] (.bool r) := by
 refine enterA Try.func50 rfl rfl ?_
 unfold m_ref05_Has at hm
 refine qS [(0, .al 50002)] [(1, i6 ra1), (2, .ptr 50002 0)] [(50002, .cells 28 (k2 t))] ?_
 obtain ⟨vx_1, h1, hm⟩ := bnd_some hm
 rcases cs_some hm with ⟨c1,hm⟩|⟨c1,hm⟩
 ·obtain ⟨vx_2, h2, hm⟩ := bnd_some hm
  refine qS [(1, hro (m_ref05_Check_ok h1) ck61), (3, hto (bE c1)), (6, hro (m_ref05_has_ok h2) ck67)] [(4, .bool vx_2)] [] ?_
  cases hm
  exact A.ret qE
 refine qS [(1, hro (m_ref05_Check_ok h1) ck61), (3, hto (bE c1))] [(4, .bool false)] [] ?_
 cases hm
 exact A.ret qE
theorem m_ref05_Near_ok {t : GTopology} {ra1 : Int} {r : (List Int)} (hm : m_ref05_Near t ra1 = some r) : RO Try.prog 33 [] [.agg (k2 t), i6 ra1] (lf eInt r) := by
 refine enterA Try.func33 rfl rfl ?_
 unfold m_ref05_Near at hm
 refine qS [(0, .al 33002)] [(1, i6 ra1), (2, .ptr 33002 0)] [(33002, .cells 28 (k2 t))] ?_
 refine qDs [] [] [(5, .nils)] ?_
 refine A.seq ?_
 refine qDs [] [] [(6, i6 0)] ?_
 refine A.block ?_
 refine A.bC 2 0 rfl rfl rfl fun hb1 => ?_
 obtain ⟨B1, K1, hB1, hK1, hm⟩ := forI_some hm
 refine A.lpI (l := t.Routers) (j0 := 0) (B := B1) (K := K1) hm (fun j1 => fun out_1 => [(1, i6 ra1), (2, .ptr 33002 0), (5, .own 600033005), (6, i6 (j1 : Int))]) (fun j1 => fun out_1 => [(33002, .cells 28 (k2 t)), (600033005, .slice 3 1 (ml eInt out_1) 0 false)]) ?_ ?_ ?_
 ·exact Weak.go [.ad 5 600033005 3 1] [] (by kernel_rfl)
 ·rintro j1 e1 Z1 out_1 hj1 hx1 hm
  rw [hB1] at hm
  refine A.seq ?_
  refine qDs [(3, hto (lnE eGRouter t.Routers))] [] [(13, .bool (decide ((j1 : Int) < (t.Routers.length:Int))))] ?_
  refine qT (ltT hx1) ?_
  refine A.skip ?_
  show acode _ _ _ _ _
  obtain ⟨J1, hJ1, hm⟩ := jn_some hm
  refine A.J (J := J1) (r := r) (fun out_2 => [(1, i6 ra1), (2, .ptr 33002 0), (5, .own 600033005), (6, i6 (j1 : Int))]) (fun out_2 => [(33002, .cells 28 (k2 t)), (600033005, .slice 3 1 (ml eInt out_2) 0 false)]) ?_ ?_
  ·refine A.block ?_
   obtain ⟨vx_1, h1, hm⟩ := bnd_some hm
   refine qDs [(5, hix (ix eGRouter (elO_nat hx1))), (8, hro (m_ref05_Price_ok h1) ck31)] [13] [(8, .bool vx_1.2)] ?_
   refine qDs [] [8] [(28, .bool vx_1.2)] ?_
   rcases cs_some hm with ⟨c1,hm⟩|⟨c1,hm⟩
   ·refine qT c1 ?_
    obtain ⟨l_1, h2, hm⟩ := bnd_some hm
    refine qG [(4, hix (ix eGRouter (elO_nat hx1))), (8, hap 33537 (ap eInt (bytes := 8) (by decide) h2))] [5, 28] [(5, .own 33537)] [600033005] [(33537, .slice 3 1 (ml eInt l_1) 0 false)] ?_
    exact Exists.intro l_1 (And.intro hm (Weak.go [.sw 33537 600033005] [] (by kernel_rfl)))
   refine qF c1 ?_
   refine A.skip ?_
   exact qX out_1 hm
  rintro out_2 hm
  rw [hJ1] at hm
  refine qGs [(1, hto (inc hx1 hb1))] [6] [(6, i6 ((j1 + 1 : Nat) : Int))] ?_
  exact qX out_2 hm
 rintro j1 out_1 hj1 hl1 hm
 rw [hK1] at hm
 refine A.seq ?_
 refine qDs [(3, hto (lnE eGRouter t.Routers))] [] [(13, .bool (decide ((j1 : Int) < (t.Routers.length:Int))))] ?_
 refine qF (ltF hl1) ?_
 refine A.exit ?_
 show acode _ _ _ _ _
 refine qD [] [1, 2, 5, 6, 13] [(4, .own 600033005)] [33002] [] ?_
 refine A.ret ?_
 obtain rfl := some_inj hm
 exact A.fin W0 [.fz [600033005]] rfl (by kernel_rfl)
theorem m_ref05_Named_ok {l : List GHop} {a : Int} {b : Int} {r : Bool} (hm : m_ref05_Named l a b = some r) : RO Try.prog 62 [] [lf eGHop l, i6 a, i6 b] (.bool r) := by
 refine enterA Try.func62 rfl rfl ?_
 unfold m_ref05_Named at hm
 refine qS [] [(0, lf eGHop l), (1, i6 a), (2, i6 b)] [] ?_
 refine A.seq ?_
 refine qDs [] [] [(7, i6 0)] ?_
 refine A.block ?_
 refine A.bS 0 rfl fun hb1 => ?_
 obtain ⟨B1, K1, hB1, hK1, hm⟩ := forI_some hm
 refine A.lpI (l := l) (j0 := 0) (B := B1) (K := K1) hm (fun j1 => fun sg => match sg with | () => [(0, lf eGHop l), (1, i6 a), (2, i6 b), (7, i6 (j1 : Int))]) (fun j1 => fun sg => match sg with | () => []) ?_ ?_ ?_
 ·exact qW
 ·rintro j1 e1 Z1 ⟨⟩ hj1 hx1 hm
  rw [hB1] at hm
  refine A.seq ?_
  refine qDs [(2, hto (lnE eGHop l))] [] [(11, .bool (decide ((j1 : Int) < (l.length:Int))))] ?_
  refine qT (ltT hx1) ?_
  refine A.skip ?_
  show acode _ _ _ _ _
  refine A.seq ?_
  refine A.block ?_
  refine A.mid [(0, lf eGHop l), (1, i6 a), (2, i6 b), (7, i6 (j1 : Int)), (47, .bool (bif decide (e1.From = a) then ((decide (e1.To = b)) || ((decide (e1.From = b)) && (decide (e1.To = a)))) else ((decide (e1.From = b)) && (decide (e1.To = a)))))] [] (fun hk => ?_) ?_
  ·rcases tf (decide (e1.From = a)) with c1 | c1
   ·rcases tf (decide (e1.To = b)) with c2 | c2
    ·exact qS [(2, hix (ix eGHop (elO_nat hx1))), (7, hto (bE c1)), (10, hix (ix eGHop (elO_nat hx1))), (16, hto (bE c2)), (33, hto ((orT (q := ((decide (e1.From = b)) && (decide (e1.To = a)))) c2).trans (ifT (x := ((decide (e1.To = b)) || ((decide (e1.From = b)) && (decide (e1.To = a))))) (y := ((decide (e1.From = b)) && (decide (e1.To = a)))) c1)))] _ _ hk
    rcases tf (decide (e1.From = b)) with c3 | c3
    ·exact qS [(2, hix (ix eGHop (elO_nat hx1))), (7, hto (bE c1)), (10, hix (ix eGHop (elO_nat hx1))), (16, hto (bE c2)), (19, hix (ix eGHop (elO_nat hx1))), (24, hto (bE c3)), (27, hix (ix eGHop (elO_nat hx1))), (33, hto (((andT (q := decide (e1.To = a)) c3).trans (orF (q := ((decide (e1.From = b)) && (decide (e1.To = a)))) c2)).trans (ifT (x := ((decide (e1.To = b)) || ((decide (e1.From = b)) && (decide (e1.To = a))))) (y := ((decide (e1.From = b)) && (decide (e1.To = a)))) c1)))] _ _ hk
    exact qS [(2, hix (ix eGHop (elO_nat hx1))), (7, hto (bE c1)), (10, hix (ix eGHop (elO_nat hx1))), (16, hto (bE c2)), (19, hix (ix eGHop (elO_nat hx1))), (24, hto (bE c3)), (33, hto (((andF (q := decide (e1.To = a)) c3).trans (orF (q := ((decide (e1.From = b)) && (decide (e1.To = a)))) c2)).trans (ifT (x := ((decide (e1.To = b)) || ((decide (e1.From = b)) && (decide (e1.To = a))))) (y := ((decide (e1.From = b)) && (decide (e1.To = a)))) c1)))] _ _ hk
   rcases tf (decide (e1.From = b)) with c4 | c4
   ·exact qS [(2, hix (ix eGHop (elO_nat hx1))), (7, hto (bE c1)), (19, hix (ix eGHop (elO_nat hx1))), (24, hto (bE c4)), (27, hix (ix eGHop (elO_nat hx1))), (33, hto ((andT (q := decide (e1.To = a)) c4).trans (ifF (x := ((decide (e1.To = b)) || ((decide (e1.From = b)) && (decide (e1.To = a))))) (y := ((decide (e1.From = b)) && (decide (e1.To = a)))) c1)))] _ _ hk
   exact qS [(2, hix (ix eGHop (elO_nat hx1))), (7, hto (bE c1)), (19, hix (ix eGHop (elO_nat hx1))), (24, hto (bE c4)), (33, hto ((andF (q := decide (e1.To = a)) c4).trans (ifF (x := ((decide (e1.To = b)) || ((decide (e1.From = b)) && (decide (e1.To = a))))) (y := ((decide (e1.From = b)) && (decide (e1.To = a)))) c1)))] _ _ hk
  rcases cs_some hm with ⟨c5,hm⟩|⟨c5,hm⟩
  ·refine qT c5 ?_
   refine qS [] [(6, .bool true)] [] ?_
   cases hm
   exact A.ret qE
  refine qF c5 ?_
  refine A.skip ?_
  show acode _ _ _ _ _
  refine qGs [(1, hto (inc hx1 hb1))] [7, 47] [(7, i6 ((j1 + 1 : Nat) : Int))] ?_
  exact qX () hm
 rintro j1 ⟨⟩ hj1 hl1 hm
 rw [hK1] at hm
 refine A.seq ?_
 refine qDs [(2, hto (lnE eGHop l))] [] [(11, .bool (decide ((j1 : Int) < (l.length:Int))))] ?_
 refine qF (ltF hl1) ?_
 refine A.exit ?_
 show acode _ _ _ _ _
 refine qS [] [(6, .bool false)] [] ?_
 cases hm
 exact A.ret qE
theorem m_ref05_Without_ok {t : GTopology} {f : GFailure} {r : GTopology} (hm : m_ref05_Without t f = some r) : RO Try.prog 35 [] [.agg (k2 t), .agg (k5 f)] (.agg (k2 r)) := by
 refine enterA Try.func35 rfl rfl ?_
 unfold m_ref05_Without at hm
 refine qS [(0, .al 35002), (1, .al 35003), (2, .al 35004)] [(2, .ptr 35002 0), (3, .ptr 35003 0), (4, .ptr 35004 0)] [(35002, .cells 28 (k2 t)), (35003, .cells 57 (k5 f)), (35004, .cells 28 [.nils, .nils])] ?_
 refine A.seq ?_
 obtain ⟨vx_1, h1, hm⟩ := bnd_some hm
 refine qDs [(1, hro (m_ref05_Check_ok h1) ck61)] [] [(11, .bool (!decide (vx_1 = (0:Int))))] ?_
 rcases cs_some hm with ⟨c1,hm⟩|⟨c1,hm⟩
 ·refine qT c1 ?_
  refine qD [] [2, 3, 11] [] [35002, 35003] [] ?_
  cases hm
  exact A.ret qE
 refine qF c1 ?_
 refine A.skip ?_
 show acode _ _ _ _ _
 refine qD [(0, .al 35005)] [11] [(5, .ptr 35005 0)] [] [(35005, .cells 28 [.nils, .nils])] ?_
 refine A.seq ?_
 refine qDs [] [] [(6, i6 0)] ?_
 refine A.block ?_
 refine A.bC 2 0 rfl rfl rfl fun hb1 => ?_
 obtain ⟨B1, K1, hB1, hK1, hm⟩ := forI_some hm
 refine A.lpI (l := t.Routers) (j0 := 0) (B := B1) (K := K1) hm (fun j1 => fun m_1 => [(2, .ptr 35002 0), (3, .ptr 35003 0), (4, .ptr 35004 0), (5, .ptr 35005 0), (6, i6 (j1 : Int))]) (fun j1 => fun m_1 => [(35002, .cells 28 (k2 t)), (35003, .cells 57 (k5 f)), (35004, .cells 28 [.nils, .nils]), (35005, .cells 28 [.own 703500500, .nils]), (703500500, .slice 67 2 (ml eGRouter m_1) 0 false)]) ?_ ?_ ?_
 ·exact Weak.go [.ac 35005 703500500 67 2 0] [] (by kernel_rfl)
 ·rintro j1 e1 Z1 m_1 hj1 hx1 hm
  rw [hB1] at hm
  refine A.seq ?_
  refine qDs [(3, hto (lnE eGRouter t.Routers))] [] [(17, .bool (decide ((j1 : Int) < (t.Routers.length:Int))))] ?_
  refine qT (ltT hx1) ?_
  refine A.skip ?_
  show acode _ _ _ _ _
  obtain ⟨J1, hJ1, hm⟩ := jn_some hm
  refine A.J (J := J1) (r := r) (fun m_2 => [(2, .ptr 35002 0), (3, .ptr 35003 0), (4, .ptr 35004 0), (5, .ptr 35005 0), (6, i6 (j1 : Int))]) (fun m_2 => [(35002, .cells 28 (k2 t)), (35003, .cells 57 (k5 f)), (35004, .cells 28 [.nils, .nils]), (35005, .cells 28 [.own 703500500, .nils]), (703500500, .slice 67 2 (ml eGRouter m_2) 0 false)]) ?_ ?_
  ·refine A.block ?_
   obtain ⟨vx_2, h2, hm⟩ := bnd_some hm
   refine qDs [(5, hix (ix eGRouter (elO_nat hx1))), (8, hro (m_ref04_Has_ok h2) ck34)] [17] [(29, .bool (!vx_2))] ?_
   rcases cs_some hm with ⟨c2,hm⟩|⟨c2,hm⟩
   ·refine qT c2 ?_
    obtain ⟨l_1, h3, hm⟩ := bnd_some hm
    refine qG [(5, hix (ix eGRouter (elO_nat hx1))), (8, hap 35538 (ap eGRouter (bytes := 16) (by decide) h3))] [29] [] [35005, 703500500] [(35005, .cells 28 [.own 35538, .nils]), (35538, .slice 67 2 (ml eGRouter l_1) 0 false)] ?_
    exact Exists.intro l_1 (And.intro hm (Weak.go [.sw 35538 703500500] [] (by kernel_rfl)))
   refine qF c2 ?_
   refine A.skip ?_
   exact qX m_1 hm
  rintro m_2 hm
  rw [hJ1] at hm
  refine qGs [(1, hto (inc hx1 hb1))] [6] [(6, i6 ((j1 + 1 : Nat) : Int))] ?_
  exact qX m_2 hm
 rintro j1 m_1 hj1 hl1 hm
 rw [hK1] at hm
 refine A.seq ?_
 refine qDs [(3, hto (lnE eGRouter t.Routers))] [] [(17, .bool (decide ((j1 : Int) < (t.Routers.length:Int))))] ?_
 refine qF (ltF hl1) ?_
 refine A.exit ?_
 show acode _ _ _ _ _
 refine A.seq ?_
 refine qDs [] [6, 17] [(7, i6 0)] ?_
 refine A.block ?_
 refine A.bC 2 1 rfl rfl rfl fun hb2 => ?_
 obtain ⟨B2, K2, hB2, hK2, hm⟩ := forI_some hm
 refine A.lpI (l := t.Links) (j0 := 0) (B := B2) (K := K2) hm (fun j2 => fun m_3 => [(2, .ptr 35002 0), (3, .ptr 35003 0), (4, .ptr 35004 0), (5, .ptr 35005 0), (7, i6 (j2 : Int))]) (fun j2 => fun m_3 => [(35002, .cells 28 (k2 t)), (35003, .cells 57 (k5 f)), (35004, .cells 28 [.nils, .nils]), (35005, .cells 28 [.own 703500500, .own 703500501]), (703500500, .slice 67 2 (ml eGRouter m_1) 0 false), (703500501, .slice 42 5 (ml eGLink m_3) 0 false)]) ?_ ?_ ?_
 ·exact Weak.go [.ac 35005 703500501 42 5 1] [] (by kernel_rfl)
 ·rintro j2 e2 Z2 m_3 hj2 hx2 hm
  rw [hB2] at hm
  refine A.seq ?_
  refine qDs [(3, hto (lnE eGLink t.Links))] [] [(44, .bool (decide ((j2 : Int) < (t.Links.length:Int))))] ?_
  refine qT (ltT hx2) ?_
  refine A.skip ?_
  show acode _ _ _ _ _
  obtain ⟨J2, hJ2, hm⟩ := jn_some hm
  refine A.J (J := J2) (r := r) (fun m_4 => [(2, .ptr 35002 0), (3, .ptr 35003 0), (4, .ptr 35004 0), (5, .ptr 35005 0), (7, i6 (j2 : Int))]) (fun m_4 => [(35002, .cells 28 (k2 t)), (35003, .cells 57 (k5 f)), (35004, .cells 28 [.nils, .nils]), (35005, .cells 28 [.own 703500500, .own 703500501]), (703500500, .slice 67 2 (ml eGRouter m_1) 0 false), (703500501, .slice 42 5 (ml eGLink m_4) 0 false)]) ?_ ?_
  ·refine A.block ?_
   refine qD [(3, hix (ix eGLink (elO_nat hx2))), (5, .al 35008)] [44] [(8, .ptr 35008 0)] [] [(35008, .cells 42 (k1 e2))] ?_
   obtain ⟨J3, hJ3, hm⟩ := jn_some hm
   refine A.J (J := J3) (r := r) (fun v_1 => [(2, .ptr 35002 0), (3, .ptr 35003 0), (4, .ptr 35004 0), (5, .ptr 35005 0), (7, i6 (j2 : Int)), (8, .ptr 35008 0), (75, .bool v_1)]) (fun v_1 => [(35002, .cells 28 (k2 t)), (35003, .cells 57 (k5 f)), (35004, .cells 28 [.nils, .nils]), (35005, .cells 28 [.own 703500500, .own 703500501]), (703500500, .slice 67 2 (ml eGRouter m_1) 0 false), (703500501, .slice 42 5 (ml eGLink m_3) 0 false), (35008, .cells 42 (k1 e2))]) ?_ ?_
   ·obtain ⟨vx_3, h4, hm⟩ := bnd_some hm
    rcases cs_some hm with ⟨c3,hm⟩|⟨c3,hm⟩
    ·obtain ⟨vx_4, h5, hm⟩ := bnd_some hm
     rcases cs_some hm with ⟨c4,hm⟩|⟨c4,hm⟩
     ·obtain ⟨vx_5, h6, hm⟩ := bnd_some hm
      refine qGs [(4, hro (m_ref04_Has_ok h4) ck34), (6, hto (bE c3)), (11, hro (m_ref04_Has_ok h5) ck34), (14, hto (bE c4)), (21, hro (m_ref05_Named_ok h6) ck62)] [] [(75, .bool (!vx_5))] ?_
      exact qX (!vx_5) hm
     refine qGs [(4, hro (m_ref04_Has_ok h4) ck34), (6, hto (bE c3)), (11, hro (m_ref04_Has_ok h5) ck34), (14, hto (bE c4))] [] [(75, .bool false)] ?_
     exact qX false hm
    refine qGs [(4, hro (m_ref04_Has_ok h4) ck34), (6, hto (bE c3))] [] [(75, .bool false)] ?_
    exact qX false hm
   rintro v_1 hm
   rw [hJ3] at hm
   rcases cs_some hm with ⟨c5,hm⟩|⟨c5,hm⟩
   ·refine qT c5 ?_
    obtain ⟨l_2, h7, hm⟩ := bnd_some hm
    refine qG [(4, hap 35580 (ap eGLink (bytes := 40) (by decide) h7))] [8, 75] [] [35005, 703500501, 35008] [(35005, .cells 28 [.own 703500500, .own 35580]), (35580, .slice 42 5 (ml eGLink l_2) 0 false)] ?_
    exact Exists.intro l_2 (And.intro hm (Weak.go [.sw 35580 703500501] [] (by kernel_rfl)))
   refine qF c5 ?_
   refine A.skip ?_
   exact qX m_3 hm
  rintro m_4 hm
  rw [hJ2] at hm
  refine qGs [(1, hto (inc hx2 hb2))] [7] [(7, i6 ((j2 + 1 : Nat) : Int))] ?_
  exact qX m_4 hm
 rintro j2 m_3 hj2 hl2 hm
 rw [hK2] at hm
 refine A.seq ?_
 refine qDs [(3, hto (lnE eGLink t.Links))] [] [(44, .bool (decide ((j2 : Int) < (t.Links.length:Int))))] ?_
 refine qF (ltF hl2) ?_
 refine A.exit ?_
 show acode _ _ _ _ _
 refine qD [] [2, 3, 5, 7, 44] [] [35002, 35003, 35004, 35005] [(35004, .cells 28 [.own 703500500, .own 703500501])] ?_
 refine A.ret ?_
 obtain rfl := some_inj hm
 exact A.fin W0 [.fz [703500500, 703500501]] rfl (by kernel_rfl)
theorem m_ref05_Around_ok {t : GTopology} {ra1 : Int} {r : (List Int)} (hm : m_ref05_Around t ra1 = some r) : RO Try.prog 60 [] [.agg (k2 t), i6 ra1] (lf eInt r) := by
 refine enterA Try.func60 rfl rfl ?_
 unfold m_ref05_Around at hm
 refine qS [(0, .al 60002)] [(1, i6 ra1), (2, .ptr 60002 0)] [(60002, .cells 28 (k2 t))] ?_
 refine qD [(1, .al 60012)] [1] [(5, .own 60012)] [] [(60012, .slice 3 1 (ml eInt ([ra1] : List Int)) 0 false)] ?_
 refine A.seq ?_
 refine qDs [] [] [(6, i6 0)] ?_
 refine A.block ?_
 obtain ⟨F1, n1, hF1, hm⟩ := whl_some hm
 refine A.lpW (F := F1) hm (fun sg => match sg with | (out_1, i_1) => [(2, .ptr 60002 0), (5, .own 600060005), (6, i6 i_1)]) (fun sg => match sg with | (out_1, i_1) => [(60002, .cells 28 (k2 t)), (600060005, .slice 3 1 (ml eInt out_1) 0 false)]) ?_ ?_
 ·exact Weak.go [.sw 60012 600060005] [] (by kernel_rfl)
 rintro Z1 ⟨out_1, i_1⟩ hm
 rw [hF1] at hm
 refine A.seq ?_
 refine qDs [(2, hto (lnE eInt out_1))] [] [(16, .bool (decide (i_1 < (out_1.length:Int))))] ?_
 rcases cs_some hm with ⟨c1,hm⟩|⟨c1,hm⟩
 ·refine qT c1 ?_
  refine A.skip ?_
  show acode _ _ _ _ _
  refine A.seq ?_
  refine A.block ?_
  obtain ⟨e_1, h1, hm⟩ := bnd_some hm
  obtain ⟨vx_1, h2, hm⟩ := bnd_some hm
  refine qDs [(3, hix (ix eInt h1)), (4, hlo 600060005 0 (ix eInt h1)), (5, hro (m_ref05_Near_ok h2) ck33)] [16] [(7, lf eInt vx_1)] ?_
  refine qDs [] [] [(8, i6 0)] ?_
  refine A.block ?_
  refine A.bS 7 rfl fun hb2 => ?_
  obtain ⟨B2, K2, hB2, hK2, hm⟩ := forI_some hm
  refine A.lpI (l := vx_1) (j0 := 0) (B := B2) (K := K2) hm (fun j2 => fun out_2 => [(2, .ptr 60002 0), (5, .own 600060005), (6, i6 i_1), (7, lf eInt vx_1), (8, i6 (j2 : Int))]) (fun j2 => fun out_2 => [(60002, .cells 28 (k2 t)), (600060005, .slice 3 1 (ml eInt out_2) 0 false)]) ?_ ?_ ?_
  ·exact qW
  ·rintro j2 e2 Z2 out_2 hj2 hx2 hm
   rw [hB2] at hm
   refine A.seq ?_
   refine qDs [(2, hto (lnE eInt vx_1))] [] [(28, .bool (decide ((j2 : Int) < (vx_1.length:Int))))] ?_
   refine qT (ltT hx2) ?_
   refine A.skip ?_
   show acode _ _ _ _ _
   obtain ⟨J1, hJ1, hm⟩ := jn_some hm
   refine A.J (J := J1) (r := r) (fun out_3 => [(2, .ptr 60002 0), (5, .own 600060005), (6, i6 i_1), (7, lf eInt vx_1), (8, i6 (j2 : Int))]) (fun out_3 => [(60002, .cells 28 (k2 t)), (600060005, .slice 3 1 (ml eInt out_3) 0 false)]) ?_ ?_
   ·refine A.block ?_
    obtain ⟨vx_2, h3, hm⟩ := bnd_some hm
    refine qDs [(3, hix (ix eInt (elO_nat hx2))), (5, hle [600060005] (m_ref04_Has_ok h3) ck34)] [28] [(37, .bool (!vx_2))] ?_
    rcases cs_some hm with ⟨c2,hm⟩|⟨c2,hm⟩
    ·refine qT c2 ?_
     obtain ⟨l_1, h4, hm⟩ := bnd_some hm
     refine qG [(3, hix (ix eInt (elO_nat hx2))), (6, hap 60544 (ap eInt (bytes := 8) (by decide) h4))] [5, 37] [(5, .own 60544)] [600060005] [(60544, .slice 3 1 (ml eInt l_1) 0 false)] ?_
     exact Exists.intro l_1 (And.intro hm (Weak.go [.sw 60544 600060005] [] (by kernel_rfl)))
    refine qF c2 ?_
    refine A.skip ?_
    exact qX out_2 hm
   rintro out_3 hm
   rw [hJ1] at hm
   refine qGs [(1, hto (inc hx2 hb2))] [8] [(8, i6 ((j2 + 1 : Nat) : Int))] ?_
   exact qX out_3 hm
  rintro j2 out_2 hj2 hl2 hm
  rw [hK2] at hm
  refine A.seq ?_
  refine qDs [(2, hto (lnE eInt vx_1))] [] [(28, .bool (decide ((j2 : Int) < (vx_1.length:Int))))] ?_
  refine qF (ltF hl2) ?_
  refine A.exit ?_
  show acode _ _ _ _ _
  refine qGs [] [6, 7, 8, 28] [(6, i6 (w64 (i_1 + (1:Int))))] ?_
  exact qX (out_2, w64 (i_1 + (1:Int))) hm
 refine qF c1 ?_
 refine A.exit ?_
 show acode _ _ _ _ _
 refine qD [] [2, 6, 16] [(9, .nils)] [60002] [] ?_
 refine A.seq ?_
 refine qDs [] [] [(10, i6 0)] ?_
 refine A.block ?_
 refine A.bW 5 rfl rfl fun hb3 => ?_
 obtain ⟨B3, K3, hB3, hK3, hm⟩ := forI_some hm
 refine A.lpI (l := out_1) (j0 := 0) (B := B3) (K := K3) hm (fun j3 => fun l_2 => [(5, .own 600060005), (9, lf eInt l_2), (10, i6 (j3 : Int))]) (fun j3 => fun l_2 => [(600060005, .slice 3 1 (ml eInt out_1) 0 false)]) ?_ ?_ ?_
 ·exact Weak.go [] [9] (by kernel_rfl)
 ·rintro j3 e3 Z3 l_2 hj3 hx3 hm
  rw [hB3] at hm
  refine A.seq ?_
  refine qDs [(2, hto (lnE eInt out_1))] [] [(48, .bool (decide ((j3 : Int) < (out_1.length:Int))))] ?_
  refine qT (ltT hx3) ?_
  refine A.skip ?_
  show acode _ _ _ _ _
  refine A.seq ?_
  refine A.block ?_
  obtain ⟨vx_3, h5, hm⟩ := bnd_some hm
  refine qGs [(3, hix (ix eInt (elO_nat hx3))), (4, hlo 600060005 0 (ix eInt (elO_nat hx3))), (5, hro (m_ref04_Insert_ok h5) ck73)] [9, 48] [(9, lf eInt vx_3)] ?_
  show acode _ _ _ _ _
  refine qGs [(1, hto (inc hx3 hb3))] [10] [(10, i6 ((j3 + 1 : Nat) : Int))] ?_
  exact Exists.intro vx_3 (And.intro hm (Weak.go [] [9] (by kernel_rfl)))
 rintro j3 l_2 hj3 hl3 hm
 rw [hK3] at hm
 refine A.seq ?_
 refine qDs [(2, hto (lnE eInt out_1))] [] [(48, .bool (decide ((j3 : Int) < (out_1.length:Int))))] ?_
 refine qF (ltF hl3) ?_
 refine A.exit ?_
 show acode _ _ _ _ _
 refine qS [] [(4, lf eInt l_2)] [] ?_
 cases hm
 exact A.ret qE
theorem m_ref05_Connected_ok {t : GTopology} {a : Int} {b : Int} {r : Bool} (hm : m_ref05_Connected t a b = some r) : RO Try.prog 30 [] [.agg (k2 t), i6 a, i6 b] (.bool r) := by
 refine enterA Try.func30 rfl rfl ?_
 unfold m_ref05_Connected at hm
 refine qS [(0, .al 30003)] [(1, i6 a), (2, i6 b), (3, .ptr 30003 0)] [(30003, .cells 28 (k2 t))] ?_
 obtain ⟨vx_1, h1, hm⟩ := bnd_some hm
 rcases cs_some hm with ⟨c1,hm⟩|⟨c1,hm⟩
 ·obtain ⟨vx_2, h2, hm⟩ := bnd_some hm
  rcases cs_some hm with ⟨c2,hm⟩|⟨c2,hm⟩
  ·obtain ⟨vx_3, h3, hm⟩ := bnd_some hm
   obtain ⟨vx_4, h4, hm⟩ := bnd_some hm
   refine qS [(2, hro (m_ref05_Has_ok h1) ck50), (3, hto (bE c1)), (6, hro (m_ref05_Has_ok h2) ck50), (8, hto (bE c2)), (11, hro (m_ref05_Around_ok h3) ck60), (13, hro (m_ref04_Has_ok h4) ck34)] [(6, .bool vx_4)] [] ?_
   cases hm
   exact A.ret qE
  refine qS [(2, hro (m_ref05_Has_ok h1) ck50), (3, hto (bE c1)), (6, hro (m_ref05_Has_ok h2) ck50), (8, hto (bE c2))] [(6, .bool false)] [] ?_
  cases hm
  exact A.ret qE
 refine qS [(2, hro (m_ref05_Has_ok h1) ck50), (3, hto (bE c1))] [(6, .bool false)] [] ?_
 cases hm
 exact A.ret qE
end Go.Proofs.Ytflifgcoleknlaa
