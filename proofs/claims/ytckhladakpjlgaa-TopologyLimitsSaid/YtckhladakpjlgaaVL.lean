/- The walks of functions of the program. No condition but those that stand in each. -/
import Derived.Test.YtckhladakpjlgaaDL
import Derived.Test.YtckhladakpjlgaaV0
import Derived.Test.YtckhladakpjlgaaV5
namespace Go.Proofs.Ytckhladakpjlgaa
open Go
set_option maxRecDepth 100000
set_option linter.all false
theorem m_law05_example_ok  {r : GTopology} (hm : m_law05_example = some r) : RO Try.prog 43 [] [] (.agg [.lst false (ml eGRouter r.Routers), .lst false (ml eGLink r.Links)]) := by
  refine enterA Try.func43 rfl rfl ?_
  unfold m_law05_example at hm
  refine A.RS W0 [] [(0, .al 43000)] [(0, .ptr 43000 0)] [(43000, .cells 30 [.nils, .nils])] (by kernel_rfl) ?_
  refine A.RS W0 [] [] [(0, .ptr 43000 0)] [(43000, .cells 30 [.lst true (ml eGRouter ([(GRouter.mk (1:Int) false), (GRouter.mk (2:Int) false), (GRouter.mk (3:Int) false), (GRouter.mk (4:Int) false)] : List GRouter)), .lst true (ml eGLink ([(GLink.mk (1:Int) (2:Int) (1:Int) (1:Int) (0:Int)), (GLink.mk (2:Int) (3:Int) (1:Int) (1:Int) (0:Int)), (GLink.mk (2:Int) (4:Int) (1:Int) (1:Int) (0:Int)), (GLink.mk (3:Int) (4:Int) (1:Int) (1:Int) (0:Int))] : List GLink))])] (by kernel_rfl) ?_
  refine A.ret ?_
  obtain rfl := some_inj hm
  exact A.fin W0 [] rfl (by kernel_rfl)
theorem m_law05_awake_ok  {r : Bool} (hm : m_law05_awake = some r) : RO Try.prog 12 [] [] (.bool r) := by
  refine enterA Try.func12 rfl rfl ?_
  unfold m_law05_awake at hm
  refine A.RS W0 [] [] [] [] (by kernel_rfl) ?_
  obtain ⟨vx_1, h1, hm⟩ := bnd_some hm
  obtain ⟨vx_2, h2, hm⟩ := bnd_some hm
  refine A.RS W0 [] [(0, hro (m_law05_example_ok h1) ck43), (1, hro (m_topology_Bridges_ok h2) ck42)] [(1, .lst false (ml eGHop vx_2))] [] (by kernel_rfl) ?_
  obtain ⟨vx_3, h3, hm⟩ := bnd_some hm
  obtain ⟨vx_4, h4, hm⟩ := bnd_some hm
  rcases cs_some hm with ⟨c1, hm⟩ | ⟨c1, hm⟩
  · skip
    rcases cs_some hm with ⟨c2, hm⟩ | ⟨c2, hm⟩
    · skip
      obtain ⟨e_1, h5, hm⟩ := bnd_some hm
      rcases cs_some hm with ⟨c3, hm⟩ | ⟨c3, hm⟩
      · skip
        obtain ⟨vx_5, h6, hm⟩ := bnd_some hm
        obtain ⟨vx_6, h7, hm⟩ := bnd_some hm
        obtain ⟨vx_7, h8, hm⟩ := bnd_some hm
        refine A.RS W0 [] [(0, hro (m_law05_example_ok h3) ck43), (1, hro (m_topology_Check_ok h4) ck11), (3, hto (bE c1)), (5, hto (lnE eGHop vx_2)), (8, hto (bE c2)), (10, hix (ix eGHop h5)), (13, .sq false 66 (.agg [.int .i64 e_1.From, .int .i64 e_1.To]) (.agg [.int .i64 (1:Int), .int .i64 (2:Int)]) (eqGHop e_1 (GHop.mk (1:Int) (2:Int))) (fun x y w => eq66_eql x y _ _ _ _ w)), (15, hto (bE c3)), (16, hro (m_law05_example_ok h6) ck43), (17, hro (m_topology_Cuts_ok h7) ck45), (19, hro (m_ref04_Ints_ok h8) ck44)] [(0, .bool vx_7)] [] (by kernel_rfl) ?_
        refine A.ret ?_
        obtain rfl := some_inj hm
        exact A.fin W0 [] rfl (by kernel_rfl)
      refine A.RS W0 [] [(0, hro (m_law05_example_ok h3) ck43), (1, hro (m_topology_Check_ok h4) ck11), (3, hto (bE c1)), (5, hto (lnE eGHop vx_2)), (8, hto (bE c2)), (10, hix (ix eGHop h5)), (13, .sq false 66 (.agg [.int .i64 e_1.From, .int .i64 e_1.To]) (.agg [.int .i64 (1:Int), .int .i64 (2:Int)]) (eqGHop e_1 (GHop.mk (1:Int) (2:Int))) (fun x y w => eq66_eql x y _ _ _ _ w)), (15, hto (bE c3))] [(0, .bool false)] [] (by kernel_rfl) ?_
      refine A.ret ?_
      obtain rfl := some_inj hm
      exact A.fin W0 [] rfl (by kernel_rfl)
    refine A.RS W0 [] [(0, hro (m_law05_example_ok h3) ck43), (1, hro (m_topology_Check_ok h4) ck11), (3, hto (bE c1)), (5, hto (lnE eGHop vx_2)), (8, hto (bE c2))] [(0, .bool false)] [] (by kernel_rfl) ?_
    refine A.ret ?_
    obtain rfl := some_inj hm
    exact A.fin W0 [] rfl (by kernel_rfl)
  refine A.RS W0 [] [(0, hro (m_law05_example_ok h3) ck43), (1, hro (m_topology_Check_ok h4) ck11), (3, hto (bE c1))] [(0, .bool false)] [] (by kernel_rfl) ?_
  refine A.ret ?_
  obtain rfl := some_inj hm
  exact A.fin W0 [] rfl (by kernel_rfl)
end Go.Proofs.Ytckhladakpjlgaa
