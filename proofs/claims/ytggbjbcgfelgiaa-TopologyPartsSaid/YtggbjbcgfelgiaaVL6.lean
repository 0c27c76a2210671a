/- The walks of functions of the program. No condition but those that stand in each. -/
import Derived.Test.YtggbjbcgfelgiaaDL6
import Derived.Test.YtggbjbcgfelgiaaV2
import Derived.Test.YtggbjbcgfelgiaaV3
import Derived.Test.YtggbjbcgfelgiaaVL
namespace Go.Proofs.Ytggbjbcgfelgiaa
open Go
set_option maxRecDepth 100000
set_option linter.all false
theorem m_law05_TopologyParts_ok {t : List Int} {xa1 : Int} {y : Int} {r : Bool} (hm : m_law05_TopologyParts t xa1 y = some r) : RO Try.prog 6 [] [.lst false (ml eInt t), .int .i64 xa1, .int .i64 y] (.bool r) := by
  refine enterA Try.func6 rfl rfl ?_
  unfold m_law05_TopologyParts at hm
  refine A.RS W0 [] [] [(0, .lst false (ml eInt t)), (1, .int .i64 xa1), (2, .int .i64 y)] [] (by kernel_rfl) ?_
  obtain ⟨vx_1, h1, hm⟩ := bnd_some hm
  refine A.RS W0 [] [(1, hdc [900000079] (m_mk_New_ok h1) ck11)] [(1, .int .i64 xa1), (2, .int .i64 y), (7, .ptr 900000079 0)] [(900000079, .cells 79 [.lst false (ml eInt vx_1.L), .int .i64 vx_1.At])] (by kernel_rfl) ?_
  obtain ⟨vx_2, h2, hm⟩ := bnd_some hm
  refine A.RS W0 [] [(1, hdc [500001200, 500001201] (m_mk_Tape_Topology_ok h2) ck12), (2, .al 6008)] [(1, .int .i64 xa1), (2, .int .i64 y), (7, .ptr 900000079 0), (8, .ptr 6008 0)] [(900000079, .cells 79 [.lst false (ml eInt vx_2.2.L), .int .i64 vx_2.2.At]), (500001200, .slice 55 2 (ml eGRouter vx_2.1.Routers) 0 false), (500001201, .slice 50 5 (ml eGLink vx_2.1.Links) 0 false), (6008, .cells 26 [.own 500001200, .own 500001201])] (by kernel_rfl) ?_
  obtain ⟨vx_3, h3, hm⟩ := bnd_some hm
  obtain ⟨vx_4, h4, hm⟩ := bnd_some hm
  refine A.RS W0 [.fz [500001200, 500001201]] [(3, hdc [] (m_mk_Tape_Failures_ok h3) ck18), (4, hro (m_ref05_Without_ok h4) ck21)] [(1, .int .i64 xa1), (2, .int .i64 y), (7, .ptr 900000079 0), (8, .ptr 6008 0)] [(900000079, .cells 79 [.lst false (ml eInt vx_3.2.L), .int .i64 vx_3.2.At]), (6008, .cells 26 [.lst false (ml eGRouter vx_4.Routers), .lst false (ml eGLink vx_4.Links)])] (by kernel_rfl) ?_
  obtain ⟨vx_5, h5, hm⟩ := bnd_some hm
  obtain ⟨vx_6, h6, hm⟩ := bnd_some hm
  refine A.RS W0 [] [(1, hro (m_topology_Components_ok h5) ck28), (3, hro (m_ref05_Components_ok h6) ck31)] [(1, .int .i64 xa1), (2, .int .i64 y), (7, .ptr 900000079 0), (8, .ptr 6008 0), (9, .lst false (ml (eL eInt) vx_5)), (10, .lst false (ml (eL eInt) vx_6))] [(900000079, .cells 79 [.lst false (ml eInt vx_3.2.L), .int .i64 vx_3.2.At]), (6008, .cells 26 [.lst false (ml eGRouter vx_4.Routers), .lst false (ml eGLink vx_4.Links)])] (by kernel_rfl) ?_
  refine A.seq ?_
  refine A.RS W0 [] [(1, hto (lnE (eL eInt) vx_5)), (3, hto (lnE (eL eInt) vx_6))] [(1, .int .i64 xa1), (2, .int .i64 y), (7, .ptr 900000079 0), (8, .ptr 6008 0), (9, .lst false (ml (eL eInt) vx_5)), (10, .lst false (ml (eL eInt) vx_6)), (31, .bool (!decide ((vx_5.length:Int) = (vx_6.length:Int))))] [(900000079, .cells 79 [.lst false (ml eInt vx_3.2.L), .int .i64 vx_3.2.At]), (6008, .cells 26 [.lst false (ml eGRouter vx_4.Routers), .lst false (ml eGLink vx_4.Links)])] (by kernel_rfl) ?_
  rcases cs_some hm with ⟨c1, hm⟩ | ⟨c1, hm⟩
  · skip
    refine A.cT rfl c1 ?_
    refine A.RS W0 [] [] [(6, .bool false)] [] (by kernel_rfl) ?_
    refine A.ret ?_
    obtain rfl := some_inj hm
    exact A.fin W0 [] rfl (by kernel_rfl)
  refine A.cF rfl c1 ?_
  refine A.skip ?_
  show acode _ _ _ _ _
  refine A.seq ?_
  refine A.RS W0 [] [] [(1, .int .i64 xa1), (2, .int .i64 y), (7, .ptr 900000079 0), (8, .ptr 6008 0), (9, .lst false (ml (eL eInt) vx_5)), (10, .lst false (ml (eL eInt) vx_6)), (11, .int .i64 (0:Int))] [(900000079, .cells 79 [.lst false (ml eInt vx_3.2.L), .int .i64 vx_3.2.At]), (6008, .cells 26 [.lst false (ml eGRouter vx_4.Routers), .lst false (ml eGLink vx_4.Links)])] (by kernel_rfl) ?_
  refine A.block ?_
  refine A.bS 9 rfl fun hb1 => ?_
  obtain ⟨B1, K1, hB1, hK1, hm⟩ := forI_some hm
  refine A.lpI (l := vx_5) (j0 := 0) (B := B1) (K := K1) hm (fun j1 => fun sg => match sg with | () => [(1, .int .i64 xa1), (2, .int .i64 y), (7, .ptr 900000079 0), (8, .ptr 6008 0), (9, .lst false (ml (eL eInt) vx_5)), (10, .lst false (ml (eL eInt) vx_6)), (11, .int .i64 (j1 : Int))]) (fun j1 => fun sg => match sg with | () => [(900000079, .cells 79 [.lst false (ml eInt vx_3.2.L), .int .i64 vx_3.2.At]), (6008, .cells 26 [.lst false (ml eGRouter vx_4.Routers), .lst false (ml eGLink vx_4.Links)])]) ?_ ?_ ?_
  · exact Weak.go [] [] (by kernel_rfl)
  · skip
    rintro j1 e1 Z1 ⟨⟩ hj1 hx1 hm
    rw [hB1] at hm
    refine A.seq ?_
    refine A.RS W0 [] [(2, hto (lnE (eL eInt) vx_5))] [(1, .int .i64 xa1), (2, .int .i64 y), (7, .ptr 900000079 0), (8, .ptr 6008 0), (9, .lst false (ml (eL eInt) vx_5)), (10, .lst false (ml (eL eInt) vx_6)), (11, .int .i64 (j1 : Int)), (35, .bool (decide ((j1 : Int) < (vx_5.length:Int))))] [(900000079, .cells 79 [.lst false (ml eInt vx_3.2.L), .int .i64 vx_3.2.At]), (6008, .cells 26 [.lst false (ml eGRouter vx_4.Routers), .lst false (ml eGLink vx_4.Links)])] (by kernel_rfl) ?_
    refine A.cT rfl (ltT hx1) ?_
    refine A.skip ?_
    show acode _ _ _ _ _
    refine A.seq ?_
    refine A.block ?_
    obtain ⟨e_1, h7, hm⟩ := bnd_some hm
    obtain ⟨vx_7, h8, hm⟩ := bnd_some hm
    refine A.RS W0 [] [(2, hix (ix (eL eInt) (elO_nat hx1))), (6, hix (ix (eL eInt) h7)), (8, hro (m_ref04_Ints_ok h8) ck26)] [(1, .int .i64 xa1), (2, .int .i64 y), (7, .ptr 900000079 0), (8, .ptr 6008 0), (9, .lst false (ml (eL eInt) vx_5)), (10, .lst false (ml (eL eInt) vx_6)), (11, .int .i64 (j1 : Int)), (47, .bool (!vx_7))] [(900000079, .cells 79 [.lst false (ml eInt vx_3.2.L), .int .i64 vx_3.2.At]), (6008, .cells 26 [.lst false (ml eGRouter vx_4.Routers), .lst false (ml eGLink vx_4.Links)])] (by kernel_rfl) ?_
    rcases cs_some hm with ⟨c2, hm⟩ | ⟨c2, hm⟩
    · skip
      refine A.cT rfl c2 ?_
      refine A.RS W0 [] [] [(6, .bool false)] [] (by kernel_rfl) ?_
      refine A.ret ?_
      obtain rfl := some_inj hm
      exact A.fin W0 [] rfl (by kernel_rfl)
    refine A.cF rfl c2 ?_
    refine A.skip ?_
    show acode _ _ _ _ _
    refine A.R W0 [] [(1, hto (inc hx1 hb1))] [(1, .int .i64 xa1), (2, .int .i64 y), (7, .ptr 900000079 0), (8, .ptr 6008 0), (9, .lst false (ml (eL eInt) vx_5)), (10, .lst false (ml (eL eInt) vx_6)), (11, .int .i64 ((j1 + 1 : Nat) : Int))] [(900000079, .cells 79 [.lst false (ml eInt vx_3.2.L), .int .i64 vx_3.2.At]), (6008, .cells 26 [.lst false (ml eGRouter vx_4.Routers), .lst false (ml eGLink vx_4.Links)])] (by kernel_rfl) ?_
    exact Exists.intro () (And.intro hm (Weak.go [] [] (by kernel_rfl)))
  rintro j1 ⟨⟩ hj1 hl1 hm
  rw [hK1] at hm
  refine A.seq ?_
  refine A.RS W0 [] [(2, hto (lnE (eL eInt) vx_5))] [(1, .int .i64 xa1), (2, .int .i64 y), (7, .ptr 900000079 0), (8, .ptr 6008 0), (9, .lst false (ml (eL eInt) vx_5)), (10, .lst false (ml (eL eInt) vx_6)), (11, .int .i64 (j1 : Int)), (35, .bool (decide ((j1 : Int) < (vx_5.length:Int))))] [(900000079, .cells 79 [.lst false (ml eInt vx_3.2.L), .int .i64 vx_3.2.At]), (6008, .cells 26 [.lst false (ml eGRouter vx_4.Routers), .lst false (ml eGLink vx_4.Links)])] (by kernel_rfl) ?_
  refine A.cF rfl (ltF hl1) ?_
  refine A.exit ?_
  show acode _ _ _ _ _
  obtain ⟨vx_8, h9, hm⟩ := bnd_some hm
  obtain ⟨vx_9, h10, hm⟩ := bnd_some hm
  refine A.RS W0 [] [(2, hdc [] (m_mk_Tape_Router_ok h9) ck32), (5, hdc [] (m_mk_Tape_Router_ok h10) ck32)] [(1, .int .i64 xa1), (2, .int .i64 y), (8, .ptr 6008 0), (12, .int .i64 vx_8.1), (13, .int .i64 vx_9.1)] [(6008, .cells 26 [.lst false (ml eGRouter vx_4.Routers), .lst false (ml eGLink vx_4.Links)])] (by kernel_rfl) ?_
  obtain ⟨vx_10, h11, hm⟩ := bnd_some hm
  obtain ⟨vx_11, h12, hm⟩ := bnd_some hm
  rcases cs_some hm with ⟨c3, hm⟩ | ⟨c3, hm⟩
  · skip
    obtain ⟨vx_12, h13, hm⟩ := bnd_some hm
    obtain ⟨vx_13, h14, hm⟩ := bnd_some hm
    rcases cs_some hm with ⟨c4, hm⟩ | ⟨c4, hm⟩
    · skip
      obtain ⟨vx_14, h15, hm⟩ := bnd_some hm
      refine A.RS W0 [] [(3, hro (m_topology_Connected_ok h11) ck33), (7, hro (m_ref05_Connected_ok h12) ck34), (9, hto (bE c3)), (13, hro (m_topology_Connected_ok h13) ck33), (17, hro (m_ref05_Connected_ok h14) ck34), (20, hto (bE c4)), (21, hro (m_law05_awake_ok h15) ck16)] [(6, .bool vx_14)] [] (by kernel_rfl) ?_
      refine A.ret ?_
      obtain rfl := some_inj hm
      exact A.fin W0 [] rfl (by kernel_rfl)
    refine A.RS W0 [] [(3, hro (m_topology_Connected_ok h11) ck33), (7, hro (m_ref05_Connected_ok h12) ck34), (9, hto (bE c3)), (13, hro (m_topology_Connected_ok h13) ck33), (17, hro (m_ref05_Connected_ok h14) ck34), (20, hto (bE c4))] [(6, .bool false)] [] (by kernel_rfl) ?_
    refine A.ret ?_
    obtain rfl := some_inj hm
    exact A.fin W0 [] rfl (by kernel_rfl)
  refine A.RS W0 [] [(3, hro (m_topology_Connected_ok h11) ck33), (7, hro (m_ref05_Connected_ok h12) ck34), (9, hto (bE c3))] [(6, .bool false)] [] (by kernel_rfl) ?_
  refine A.ret ?_
  obtain rfl := some_inj hm
  exact A.fin W0 [] rfl (by kernel_rfl)
end Go.Proofs.Ytggbjbcgfelgiaa
