/- The walks of functions of the program. No condition but those that stand in each. -/
import Derived.Test.YtggbjbcgfelgiaaDL3
import Derived.Test.YtggbjbcgfelgiaaV1
import Derived.Test.YtggbjbcgfelgiaaV3
import Derived.Test.YtggbjbcgfelgiaaVL
namespace Go.Proofs.Ytggbjbcgfelgiaa
open Go
set_option maxRecDepth 100000
set_option linter.all false
theorem m_law05_TopologyChecks_ok {t : List Int} {raw : GTopology} {r : Bool} (hm : m_law05_TopologyChecks t raw = some r) : RO Try.prog 3 [] [.lst false (ml eInt t), .agg [.lst false (ml eGRouter raw.Routers), .lst false (ml eGLink raw.Links)]] (.bool r) := by
  refine enterA Try.func3 rfl rfl ?_
  unfold m_law05_TopologyChecks at hm
  refine A.RS W0 [] [(0, .al 3003)] [(0, .lst false (ml eInt t)), (3, .ptr 3003 0)] [(3003, .cells 26 [.lst false (ml eGRouter raw.Routers), .lst false (ml eGLink raw.Links)])] (by kernel_rfl) ?_
  obtain ⟨vx_1, h1, hm⟩ := bnd_some hm
  refine A.RS W0 [] [(1, hdc [900000079] (m_mk_New_ok h1) ck11)] [(3, .ptr 3003 0), (5, .ptr 900000079 0)] [(3003, .cells 26 [.lst false (ml eGRouter raw.Routers), .lst false (ml eGLink raw.Links)]), (900000079, .cells 79 [.lst false (ml eInt vx_1.L), .int .i64 vx_1.At])] (by kernel_rfl) ?_
  obtain ⟨vx_2, h2, hm⟩ := bnd_some hm
  obtain ⟨vx_3, h3, hm⟩ := bnd_some hm
  refine A.RS W0 [] [(1, hdc [500001200, 500001201] (m_mk_Tape_Topology_ok h2) ck12), (3, hdc [510003001, 510003002] (SC.at [(500001200, 510003001), (500001201, 510003002)] (m_mk_Tape_Topology_ok h3)) ck12), (4, .al 3006), (5, .al 3007)] [(3, .ptr 3003 0), (6, .ptr 3006 0), (7, .ptr 3007 0)] [(3003, .cells 26 [.lst false (ml eGRouter raw.Routers), .lst false (ml eGLink raw.Links)]), (500001200, .slice 55 2 (ml eGRouter vx_2.1.Routers) 0 false), (500001201, .slice 50 5 (ml eGLink vx_2.1.Links) 0 false), (510003001, .slice 55 2 (ml eGRouter vx_3.1.Routers) 0 false), (510003002, .slice 50 5 (ml eGLink vx_3.1.Links) 0 false), (3006, .cells 26 [.own 500001200, .own 500001201]), (3007, .cells 26 [.own 510003001, .own 510003002])] (by kernel_rfl) ?_
  obtain ⟨vx_4, h4, hm⟩ := bnd_some hm
  obtain ⟨vx_5, h5, hm⟩ := bnd_some hm
  rcases cs_some hm with ⟨c1, hm⟩ | ⟨c1, hm⟩
  · skip
    obtain ⟨vx_6, h6, hm⟩ := bnd_some hm
    obtain ⟨vx_7, h7, hm⟩ := bnd_some hm
    rcases cs_some hm with ⟨c2, hm⟩ | ⟨c2, hm⟩
    · skip
      obtain ⟨vx_8, h8, hm⟩ := bnd_some hm
      rcases cs_some hm with ⟨c3, hm⟩ | ⟨c3, hm⟩
      · skip
        obtain ⟨vx_9, h9, hm⟩ := bnd_some hm
        refine A.RS W0 [] [(1, hle [500001200, 500001201] (m_topology_Check_ok h4) ck13), (3, hle [500001200, 500001201] (m_ref05_Check_ok h5) ck14), (5, hto (bE c1)), (7, hle [510003001, 510003002] (m_topology_Check_ok h6) ck13), (9, hle [510003001, 510003002] (m_ref05_Check_ok h7) ck14), (12, hto (bE c2)), (14, hro (m_law05_big_ok h8) ck15), (15, hto (bE c3)), (24, hro (m_law05_awake_ok h9) ck16)] [(4, .bool vx_9)] [] (by kernel_rfl) ?_
        refine A.ret ?_
        obtain rfl := some_inj hm
        exact A.fin W0 [] rfl (by kernel_rfl)
      obtain ⟨vx_10, h10, hm⟩ := bnd_some hm
      obtain ⟨vx_11, h11, hm⟩ := bnd_some hm
      rcases cs_some hm with ⟨c4, hm⟩ | ⟨c4, hm⟩
      · skip
        obtain ⟨vx_12, h12, hm⟩ := bnd_some hm
        refine A.RS W0 [] [(1, hle [500001200, 500001201] (m_topology_Check_ok h4) ck13), (3, hle [500001200, 500001201] (m_ref05_Check_ok h5) ck14), (5, hto (bE c1)), (7, hle [510003001, 510003002] (m_topology_Check_ok h6) ck13), (9, hle [510003001, 510003002] (m_ref05_Check_ok h7) ck14), (12, hto (bE c2)), (14, hro (m_law05_big_ok h8) ck15), (15, hto (bE c3)), (17, hro (m_topology_Check_ok h10) ck13), (19, hro (m_ref05_Check_ok h11) ck14), (23, hto (bE c4)), (24, hro (m_law05_awake_ok h12) ck16)] [(4, .bool vx_12)] [] (by kernel_rfl) ?_
        refine A.ret ?_
        obtain rfl := some_inj hm
        exact A.fin W0 [] rfl (by kernel_rfl)
      refine A.RS W0 [] [(1, hle [500001200, 500001201] (m_topology_Check_ok h4) ck13), (3, hle [500001200, 500001201] (m_ref05_Check_ok h5) ck14), (5, hto (bE c1)), (7, hle [510003001, 510003002] (m_topology_Check_ok h6) ck13), (9, hle [510003001, 510003002] (m_ref05_Check_ok h7) ck14), (12, hto (bE c2)), (14, hro (m_law05_big_ok h8) ck15), (15, hto (bE c3)), (17, hro (m_topology_Check_ok h10) ck13), (19, hro (m_ref05_Check_ok h11) ck14), (23, hto (bE c4))] [(4, .bool false)] [] (by kernel_rfl) ?_
      refine A.ret ?_
      obtain rfl := some_inj hm
      exact A.fin W0 [] rfl (by kernel_rfl)
    refine A.RS W0 [] [(1, hle [500001200, 500001201] (m_topology_Check_ok h4) ck13), (3, hle [500001200, 500001201] (m_ref05_Check_ok h5) ck14), (5, hto (bE c1)), (7, hle [510003001, 510003002] (m_topology_Check_ok h6) ck13), (9, hle [510003001, 510003002] (m_ref05_Check_ok h7) ck14), (12, hto (bE c2))] [(4, .bool false)] [] (by kernel_rfl) ?_
    refine A.ret ?_
    obtain rfl := some_inj hm
    exact A.fin W0 [] rfl (by kernel_rfl)
  refine A.RS W0 [] [(1, hle [500001200, 500001201] (m_topology_Check_ok h4) ck13), (3, hle [500001200, 500001201] (m_ref05_Check_ok h5) ck14), (5, hto (bE c1))] [(4, .bool false)] [] (by kernel_rfl) ?_
  refine A.ret ?_
  obtain rfl := some_inj hm
  exact A.fin W0 [] rfl (by kernel_rfl)
end Go.Proofs.Ytggbjbcgfelgiaa
