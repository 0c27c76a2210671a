/- The walks of functions of the program. No condition but those that stand in each. -/
import Derived.Test.YtggbjbcgfelgiaaDL5
import Derived.Test.YtggbjbcgfelgiaaV2
import Derived.Test.YtggbjbcgfelgiaaV3
import Derived.Test.YtggbjbcgfelgiaaVL
namespace Go.Proofs.Ytggbjbcgfelgiaa
open Go
set_option maxRecDepth 100000
set_option linter.all false
theorem m_law05_TopologyWeak_ok {t : List Int} {r : Bool} (hm : m_law05_TopologyWeak t = some r) : RO Try.prog 5 [] [.lst false (ml eInt t)] (.bool r) := by
  refine enterA Try.func5 rfl rfl ?_
  unfold m_law05_TopologyWeak at hm
  refine A.RS W0 [] [] [(0, .lst false (ml eInt t))] [] (by kernel_rfl) ?_
  obtain ⟨vx_1, h1, hm⟩ := bnd_some hm
  refine A.RS W0 [] [(1, hdc [900000079] (m_mk_New_ok h1) ck11)] [(3, .ptr 900000079 0)] [(900000079, .cells 79 [.lst false (ml eInt vx_1.L), .int .i64 vx_1.At])] (by kernel_rfl) ?_
  obtain ⟨vx_2, h2, hm⟩ := bnd_some hm
  refine A.RS W0 [] [(1, hdc [500001200, 500001201] (m_mk_Tape_Topology_ok h2) ck12), (2, .al 5004)] [(4, .ptr 5004 0)] [(500001200, .slice 55 2 (ml eGRouter vx_2.1.Routers) 0 false), (500001201, .slice 50 5 (ml eGLink vx_2.1.Links) 0 false), (5004, .cells 26 [.own 500001200, .own 500001201])] (by kernel_rfl) ?_
  obtain ⟨vx_3, h3, hm⟩ := bnd_some hm
  obtain ⟨vx_4, h4, hm⟩ := bnd_some hm
  refine A.RS W0 [.fz [500001200, 500001201]] [(1, hro (m_topology_Bridges_ok h3) ck22), (3, hro (m_topology_Cuts_ok h4) ck23)] [(4, .ptr 5004 0), (5, .lst false (ml eGHop vx_3)), (6, .lst false (ml eInt vx_4))] [(500001200, .slice 55 2 (ml eGRouter vx_2.1.Routers) (ml eGRouter vx_2.1.Routers).length true), (500001201, .slice 50 5 (ml eGLink vx_2.1.Links) (ml eGLink vx_2.1.Links).length true), (5004, .cells 26 [.own 500001200, .own 500001201])] (by kernel_rfl) ?_
  refine A.seq ?_
  obtain ⟨J1, hJ1, hm⟩ := jn_some hm
  refine A.J (J := J1) (r := r) (fun v_1 => [(4, .ptr 5004 0), (5, .lst false (ml eGHop vx_3)), (6, .lst false (ml eInt vx_4)), (32, .bool v_1)]) (fun v_1 => [(500001200, .slice 55 2 (ml eGRouter vx_2.1.Routers) (ml eGRouter vx_2.1.Routers).length true), (500001201, .slice 50 5 (ml eGLink vx_2.1.Links) (ml eGLink vx_2.1.Links).length true), (5004, .cells 26 [.own 500001200, .own 500001201])]) ?_ ?_
  · skip
    obtain ⟨vx_5, h5, hm⟩ := bnd_some hm
    obtain ⟨vx_6, h6, hm⟩ := bnd_some hm
    rcases cs_some hm with ⟨c1, hm⟩ | ⟨c1, hm⟩
    · skip
      refine A.R W0 [] [(2, hro (m_ref05_Bridges_ok h5) ck25), (3, hro (m_mk_Same_ok h6) ck24), (5, hto (bE c1))] [(4, .ptr 5004 0), (5, .lst false (ml eGHop vx_3)), (6, .lst false (ml eInt vx_4)), (32, .bool true)] [(500001200, .slice 55 2 (ml eGRouter vx_2.1.Routers) (ml eGRouter vx_2.1.Routers).length true), (500001201, .slice 50 5 (ml eGLink vx_2.1.Links) (ml eGLink vx_2.1.Links).length true), (5004, .cells 26 [.own 500001200, .own 500001201])] (by kernel_rfl) ?_
      exact Exists.intro true (And.intro hm (Weak.go [] [] (by kernel_rfl)))
    obtain ⟨vx_7, h7, hm⟩ := bnd_some hm
    obtain ⟨vx_8, h8, hm⟩ := bnd_some hm
    refine A.R W0 [] [(2, hro (m_ref05_Bridges_ok h5) ck25), (3, hro (m_mk_Same_ok h6) ck24), (5, hto (bE c1)), (8, hro (m_ref05_Cuts_ok h7) ck27), (9, hro (m_ref04_Ints_ok h8) ck26)] [(4, .ptr 5004 0), (5, .lst false (ml eGHop vx_3)), (6, .lst false (ml eInt vx_4)), (32, .bool (!vx_8))] [(500001200, .slice 55 2 (ml eGRouter vx_2.1.Routers) (ml eGRouter vx_2.1.Routers).length true), (500001201, .slice 50 5 (ml eGLink vx_2.1.Links) (ml eGLink vx_2.1.Links).length true), (5004, .cells 26 [.own 500001200, .own 500001201])] (by kernel_rfl) ?_
    exact Exists.intro (!vx_8) (And.intro hm (Weak.go [] [] (by kernel_rfl)))
  rintro v_1 hm
  rw [hJ1] at hm
  rcases cs_some hm with ⟨c2, hm⟩ | ⟨c2, hm⟩
  · skip
    refine A.cT rfl c2 ?_
    refine A.RS W0 [] [] [(2, .bool false)] [] (by kernel_rfl) ?_
    refine A.ret ?_
    obtain rfl := some_inj hm
    exact A.fin W0 [] rfl (by kernel_rfl)
  refine A.cF rfl c2 ?_
  refine A.skip ?_
  show acode _ _ _ _ _
  refine A.seq ?_
  obtain ⟨vx_9, h9, hm⟩ := bnd_some hm
  refine A.RS W0 [] [(1, hro (m_ref05_Check_ok h9) ck14)] [(4, .ptr 5004 0), (5, .lst false (ml eGHop vx_3)), (6, .lst false (ml eInt vx_4)), (35, .bool (!decide (vx_9 = (0:Int))))] [(500001200, .slice 55 2 (ml eGRouter vx_2.1.Routers) (ml eGRouter vx_2.1.Routers).length true), (500001201, .slice 50 5 (ml eGLink vx_2.1.Links) (ml eGLink vx_2.1.Links).length true), (5004, .cells 26 [.own 500001200, .own 500001201])] (by kernel_rfl) ?_
  rcases cs_some hm with ⟨c3, hm⟩ | ⟨c3, hm⟩
  · skip
    refine A.cT rfl c3 ?_
    obtain ⟨vx_10, h10, hm⟩ := bnd_some hm
    refine A.RS W0 [] [(0, hro (m_law05_awake_ok h10) ck16)] [(2, .bool vx_10)] [] (by kernel_rfl) ?_
    refine A.ret ?_
    obtain rfl := some_inj hm
    exact A.fin W0 [] rfl (by kernel_rfl)
  refine A.cF rfl c3 ?_
  refine A.skip ?_
  show acode _ _ _ _ _
  obtain ⟨vx_11, h11, hm⟩ := bnd_some hm
  refine A.RS W0 [] [(1, hro (m_topology_Components_ok h11) ck28), (2, hto (lnE (eL eInt) vx_11))] [(4, .ptr 5004 0), (5, .lst false (ml eGHop vx_3)), (6, .lst false (ml eInt vx_4)), (7, .int .i64 (vx_11.length:Int))] [(500001200, .slice 55 2 (ml eGRouter vx_2.1.Routers) (ml eGRouter vx_2.1.Routers).length true), (500001201, .slice 50 5 (ml eGLink vx_2.1.Links) (ml eGLink vx_2.1.Links).length true), (5004, .cells 26 [.own 500001200, .own 500001201])] (by kernel_rfl) ?_
  refine A.seq ?_
  refine A.RS W0 [] [] [(4, .ptr 5004 0), (5, .lst false (ml eGHop vx_3)), (6, .lst false (ml eInt vx_4)), (7, .int .i64 (vx_11.length:Int)), (8, .int .i64 (0:Int))] [(500001200, .slice 55 2 (ml eGRouter vx_2.1.Routers) (ml eGRouter vx_2.1.Routers).length true), (500001201, .slice 50 5 (ml eGLink vx_2.1.Links) (ml eGLink vx_2.1.Links).length true), (5004, .cells 26 [.own 500001200, .own 500001201])] (by kernel_rfl) ?_
  refine A.block ?_
  refine A.bD 4 1 rfl rfl rfl rfl fun hb1 => ?_
  obtain ⟨B1, K1, hB1, hK1, hm⟩ := forI_some hm
  refine A.lpI (l := vx_2.1.Links) (j0 := 0) (B := B1) (K := K1) hm (fun j1 => fun sg => match sg with | () => [(4, .ptr 5004 0), (5, .lst false (ml eGHop vx_3)), (6, .lst false (ml eInt vx_4)), (7, .int .i64 (vx_11.length:Int)), (8, .int .i64 (j1 : Int))]) (fun j1 => fun sg => match sg with | () => [(500001200, .slice 55 2 (ml eGRouter vx_2.1.Routers) (ml eGRouter vx_2.1.Routers).length true), (500001201, .slice 50 5 (ml eGLink vx_2.1.Links) (ml eGLink vx_2.1.Links).length true), (5004, .cells 26 [.own 500001200, .own 500001201])]) ?_ ?_ ?_
  · exact Weak.go [] [] (by kernel_rfl)
  · skip
    rintro j1 e1 Z1 ⟨⟩ hj1 hx1 hm
    rw [hB1] at hm
    refine A.seq ?_
    refine A.RS W0 [] [(3, hto (lnE eGLink vx_2.1.Links))] [(4, .ptr 5004 0), (5, .lst false (ml eGHop vx_3)), (6, .lst false (ml eInt vx_4)), (7, .int .i64 (vx_11.length:Int)), (8, .int .i64 (j1 : Int)), (44, .bool (decide ((j1 : Int) < (vx_2.1.Links.length:Int))))] [(500001200, .slice 55 2 (ml eGRouter vx_2.1.Routers) (ml eGRouter vx_2.1.Routers).length true), (500001201, .slice 50 5 (ml eGLink vx_2.1.Links) (ml eGLink vx_2.1.Links).length true), (5004, .cells 26 [.own 500001200, .own 500001201])] (by kernel_rfl) ?_
    refine A.cT rfl (ltT hx1) ?_
    refine A.skip ?_
    show acode _ _ _ _ _
    refine A.seq ?_
    refine A.block ?_
    refine A.RS W0 [] [(3, hix (ix eGLink (elO_nat hx1))), (5, hlo 500001201 0 (ix eGLink (elO_nat hx1))), (9, hix (ix eGLink (elO_nat hx1))), (11, hlo 500001201 1 (ix eGLink (elO_nat hx1))), (13, .al 5009)] [(4, .ptr 5004 0), (5, .lst false (ml eGHop vx_3)), (6, .lst false (ml eInt vx_4)), (7, .int .i64 (vx_11.length:Int)), (8, .int .i64 (j1 : Int)), (9, .ptr 5009 0)] [(500001200, .slice 55 2 (ml eGRouter vx_2.1.Routers) (ml eGRouter vx_2.1.Routers).length true), (500001201, .slice 50 5 (ml eGLink vx_2.1.Links) (ml eGLink vx_2.1.Links).length true), (5004, .cells 26 [.own 500001200, .own 500001201]), (5009, .cells 52 [.int .i64 e1.A, .int .i64 e1.B])] (by kernel_rfl) ?_
    obtain ⟨vx_12, h12, hm⟩ := bnd_some hm
    obtain ⟨vx_13, h13, hm⟩ := bnd_some hm
    refine A.RS W0 [] [(4, hro (m_topology_Without_ok h12) ck19), (5, hro (m_topology_Components_ok h13) ck28), (6, hto (lnE (eL eInt) vx_13))] [(4, .ptr 5004 0), (5, .lst false (ml eGHop vx_3)), (6, .lst false (ml eInt vx_4)), (7, .int .i64 (vx_11.length:Int)), (8, .int .i64 (j1 : Int)), (9, .ptr 5009 0), (10, .bool (decide ((vx_11.length:Int) < (vx_13.length:Int))))] [(500001200, .slice 55 2 (ml eGRouter vx_2.1.Routers) (ml eGRouter vx_2.1.Routers).length true), (500001201, .slice 50 5 (ml eGLink vx_2.1.Links) (ml eGLink vx_2.1.Links).length true), (5004, .cells 26 [.own 500001200, .own 500001201]), (5009, .cells 52 [.int .i64 e1.A, .int .i64 e1.B])] (by kernel_rfl) ?_
    obtain ⟨vx_14, h14, hm⟩ := bnd_some hm
    refine A.RS W0 [] [(6, hro (m_ref05_Named_ok h14) ck29)] [(4, .ptr 5004 0), (5, .lst false (ml eGHop vx_3)), (6, .lst false (ml eInt vx_4)), (7, .int .i64 (vx_11.length:Int)), (8, .int .i64 (j1 : Int)), (76, .bool (!((decide ((vx_11.length:Int) < (vx_13.length:Int))) == vx_14)))] [(500001200, .slice 55 2 (ml eGRouter vx_2.1.Routers) (ml eGRouter vx_2.1.Routers).length true), (500001201, .slice 50 5 (ml eGLink vx_2.1.Links) (ml eGLink vx_2.1.Links).length true), (5004, .cells 26 [.own 500001200, .own 500001201])] (by kernel_rfl) ?_
    rcases cs_some hm with ⟨c4, hm⟩ | ⟨c4, hm⟩
    · skip
      refine A.cT rfl c4 ?_
      refine A.RS W0 [] [] [(2, .bool false)] [] (by kernel_rfl) ?_
      refine A.ret ?_
      obtain rfl := some_inj hm
      exact A.fin W0 [] rfl (by kernel_rfl)
    refine A.cF rfl c4 ?_
    refine A.skip ?_
    show acode _ _ _ _ _
    refine A.R W0 [] [(1, hto (inc hx1 hb1))] [(4, .ptr 5004 0), (5, .lst false (ml eGHop vx_3)), (6, .lst false (ml eInt vx_4)), (7, .int .i64 (vx_11.length:Int)), (8, .int .i64 ((j1 + 1 : Nat) : Int))] [(500001200, .slice 55 2 (ml eGRouter vx_2.1.Routers) (ml eGRouter vx_2.1.Routers).length true), (500001201, .slice 50 5 (ml eGLink vx_2.1.Links) (ml eGLink vx_2.1.Links).length true), (5004, .cells 26 [.own 500001200, .own 500001201])] (by kernel_rfl) ?_
    exact Exists.intro () (And.intro hm (Weak.go [] [] (by kernel_rfl)))
  rintro j1 ⟨⟩ hj1 hl1 hm
  rw [hK1] at hm
  refine A.seq ?_
  refine A.RS W0 [] [(3, hto (lnE eGLink vx_2.1.Links))] [(4, .ptr 5004 0), (5, .lst false (ml eGHop vx_3)), (6, .lst false (ml eInt vx_4)), (7, .int .i64 (vx_11.length:Int)), (8, .int .i64 (j1 : Int)), (44, .bool (decide ((j1 : Int) < (vx_2.1.Links.length:Int))))] [(500001200, .slice 55 2 (ml eGRouter vx_2.1.Routers) (ml eGRouter vx_2.1.Routers).length true), (500001201, .slice 50 5 (ml eGLink vx_2.1.Links) (ml eGLink vx_2.1.Links).length true), (5004, .cells 26 [.own 500001200, .own 500001201])] (by kernel_rfl) ?_
  refine A.cF rfl (ltF hl1) ?_
  refine A.exit ?_
  show acode _ _ _ _ _
  refine A.seq ?_
  refine A.RS W0 [] [] [(4, .ptr 5004 0), (6, .lst false (ml eInt vx_4)), (7, .int .i64 (vx_11.length:Int)), (11, .int .i64 (0:Int))] [(500001200, .slice 55 2 (ml eGRouter vx_2.1.Routers) (ml eGRouter vx_2.1.Routers).length true), (500001201, .slice 50 5 (ml eGLink vx_2.1.Links) (ml eGLink vx_2.1.Links).length true), (5004, .cells 26 [.own 500001200, .own 500001201])] (by kernel_rfl) ?_
  refine A.block ?_
  refine A.bD 4 0 rfl rfl rfl rfl fun hb2 => ?_
  obtain ⟨B2, K2, hB2, hK2, hm⟩ := forI_some hm
  refine A.lpI (l := vx_2.1.Routers) (j0 := 0) (B := B2) (K := K2) hm (fun j2 => fun sg => match sg with | () => [(4, .ptr 5004 0), (6, .lst false (ml eInt vx_4)), (7, .int .i64 (vx_11.length:Int)), (11, .int .i64 (j2 : Int))]) (fun j2 => fun sg => match sg with | () => [(500001200, .slice 55 2 (ml eGRouter vx_2.1.Routers) (ml eGRouter vx_2.1.Routers).length true), (500001201, .slice 50 5 (ml eGLink vx_2.1.Links) (ml eGLink vx_2.1.Links).length true), (5004, .cells 26 [.own 500001200, .own 500001201])]) ?_ ?_ ?_
  · exact Weak.go [] [] (by kernel_rfl)
  · skip
    rintro j2 e2 Z2 ⟨⟩ hj2 hx2 hm
    rw [hB2] at hm
    refine A.seq ?_
    refine A.RS W0 [] [(3, hto (lnE eGRouter vx_2.1.Routers))] [(4, .ptr 5004 0), (6, .lst false (ml eInt vx_4)), (7, .int .i64 (vx_11.length:Int)), (11, .int .i64 (j2 : Int)), (81, .bool (decide ((j2 : Int) < (vx_2.1.Routers.length:Int))))] [(500001200, .slice 55 2 (ml eGRouter vx_2.1.Routers) (ml eGRouter vx_2.1.Routers).length true), (500001201, .slice 50 5 (ml eGLink vx_2.1.Links) (ml eGLink vx_2.1.Links).length true), (5004, .cells 26 [.own 500001200, .own 500001201])] (by kernel_rfl) ?_
    refine A.cT rfl (ltT hx2) ?_
    refine A.skip ?_
    show acode _ _ _ _ _
    refine A.seq ?_
    refine A.block ?_
    obtain ⟨vx_15, h15, hm⟩ := bnd_some hm
    obtain ⟨vx_16, h16, hm⟩ := bnd_some hm
    refine A.RS W0 [] [(4, hix (ix eGRouter (elO_nat hx2))), (6, hlo 500001200 0 (ix eGRouter (elO_nat hx2))), (9, hro (m_topology_Without_ok h15) ck19), (10, hro (m_topology_Components_ok h16) ck28), (11, hto (lnE (eL eInt) vx_16))] [(4, .ptr 5004 0), (6, .lst false (ml eInt vx_4)), (7, .int .i64 (vx_11.length:Int)), (11, .int .i64 (j2 : Int)), (12, .bool (decide ((vx_11.length:Int) < (vx_16.length:Int))))] [(500001200, .slice 55 2 (ml eGRouter vx_2.1.Routers) (ml eGRouter vx_2.1.Routers).length true), (500001201, .slice 50 5 (ml eGLink vx_2.1.Links) (ml eGLink vx_2.1.Links).length true), (5004, .cells 26 [.own 500001200, .own 500001201])] (by kernel_rfl) ?_
    obtain ⟨vx_17, h17, hm⟩ := bnd_some hm
    refine A.RS W0 [] [(5, hix (ix eGRouter (elO_nat hx2))), (7, hlo 500001200 0 (ix eGRouter (elO_nat hx2))), (8, hro (m_ref04_Has_ok h17) ck30)] [(4, .ptr 5004 0), (6, .lst false (ml eInt vx_4)), (7, .int .i64 (vx_11.length:Int)), (11, .int .i64 (j2 : Int)), (107, .bool (!((decide ((vx_11.length:Int) < (vx_16.length:Int))) == vx_17)))] [(500001200, .slice 55 2 (ml eGRouter vx_2.1.Routers) (ml eGRouter vx_2.1.Routers).length true), (500001201, .slice 50 5 (ml eGLink vx_2.1.Links) (ml eGLink vx_2.1.Links).length true), (5004, .cells 26 [.own 500001200, .own 500001201])] (by kernel_rfl) ?_
    rcases cs_some hm with ⟨c5, hm⟩ | ⟨c5, hm⟩
    · skip
      refine A.cT rfl c5 ?_
      refine A.RS W0 [] [] [(2, .bool false)] [] (by kernel_rfl) ?_
      refine A.ret ?_
      obtain rfl := some_inj hm
      exact A.fin W0 [] rfl (by kernel_rfl)
    refine A.cF rfl c5 ?_
    refine A.skip ?_
    show acode _ _ _ _ _
    refine A.R W0 [] [(1, hto (inc hx2 hb2))] [(4, .ptr 5004 0), (6, .lst false (ml eInt vx_4)), (7, .int .i64 (vx_11.length:Int)), (11, .int .i64 ((j2 + 1 : Nat) : Int))] [(500001200, .slice 55 2 (ml eGRouter vx_2.1.Routers) (ml eGRouter vx_2.1.Routers).length true), (500001201, .slice 50 5 (ml eGLink vx_2.1.Links) (ml eGLink vx_2.1.Links).length true), (5004, .cells 26 [.own 500001200, .own 500001201])] (by kernel_rfl) ?_
    exact Exists.intro () (And.intro hm (Weak.go [] [] (by kernel_rfl)))
  rintro j2 ⟨⟩ hj2 hl2 hm
  rw [hK2] at hm
  refine A.seq ?_
  refine A.RS W0 [] [(3, hto (lnE eGRouter vx_2.1.Routers))] [(4, .ptr 5004 0), (6, .lst false (ml eInt vx_4)), (7, .int .i64 (vx_11.length:Int)), (11, .int .i64 (j2 : Int)), (81, .bool (decide ((j2 : Int) < (vx_2.1.Routers.length:Int))))] [(500001200, .slice 55 2 (ml eGRouter vx_2.1.Routers) (ml eGRouter vx_2.1.Routers).length true), (500001201, .slice 50 5 (ml eGLink vx_2.1.Links) (ml eGLink vx_2.1.Links).length true), (5004, .cells 26 [.own 500001200, .own 500001201])] (by kernel_rfl) ?_
  refine A.cF rfl (ltF hl2) ?_
  refine A.exit ?_
  show acode _ _ _ _ _
  obtain ⟨vx_18, h18, hm⟩ := bnd_some hm
  refine A.RS W0 [] [(0, hro (m_law05_awake_ok h18) ck16)] [(2, .bool vx_18)] [] (by kernel_rfl) ?_
  refine A.ret ?_
  obtain rfl := some_inj hm
  exact A.fin W0 [] rfl (by kernel_rfl)
end Go.Proofs.Ytggbjbcgfelgiaa
