/- The walks of functions of the program. No condition but those that stand in each. -/
import Derived.Test.YtggbjbcgfelgiaaDL
import Derived.Test.YtggbjbcgfelgiaaV0
import Derived.Test.YtggbjbcgfelgiaaV5
namespace Go.Proofs.Ytggbjbcgfelgiaa
open Go
set_option maxRecDepth 100000
set_option linter.all false
theorem m_law05_example_ok  {r : GTopology} (hm : m_law05_example = some r) : RO Try.prog 66 [] [] (.agg [.lst false (ml eGRouter r.Routers), .lst false (ml eGLink r.Links)]) := by
  refine enterA Try.func66 rfl rfl ?_
  unfold m_law05_example at hm
  refine A.RS W0 [] [(0, .al 66000)] [(0, .ptr 66000 0)] [(66000, .cells 26 [.nils, .nils])] (by kernel_rfl) ?_
  refine A.RS W0 [] [] [(0, .ptr 66000 0)] [(66000, .cells 26 [.lst true (ml eGRouter ([(GRouter.mk (1:Int) false), (GRouter.mk (2:Int) false), (GRouter.mk (3:Int) false), (GRouter.mk (4:Int) false)] : List GRouter)), .lst true (ml eGLink ([(GLink.mk (1:Int) (2:Int) (1:Int) (1:Int) (0:Int)), (GLink.mk (2:Int) (3:Int) (1:Int) (1:Int) (0:Int)), (GLink.mk (2:Int) (4:Int) (1:Int) (1:Int) (0:Int)), (GLink.mk (3:Int) (4:Int) (1:Int) (1:Int) (0:Int))] : List GLink))])] (by kernel_rfl) ?_
  refine A.ret ?_
  obtain rfl := some_inj hm
  exact A.fin W0 [] rfl (by kernel_rfl)
theorem m_law05_awake_ok  {r : Bool} (hm : m_law05_awake = some r) : RO Try.prog 16 [] [] (.bool r) := by
  refine enterA Try.func16 rfl rfl ?_
  unfold m_law05_awake at hm
  refine A.RS W0 [] [] [] [] (by kernel_rfl) ?_
  obtain ⟨vx_1, h1, hm⟩ := bnd_some hm
  obtain ⟨vx_2, h2, hm⟩ := bnd_some hm
  refine A.RS W0 [] [(0, hro (m_law05_example_ok h1) ck66), (1, hro (m_topology_Bridges_ok h2) ck22)] [(1, .lst false (ml eGHop vx_2))] [] (by kernel_rfl) ?_
  obtain ⟨vx_3, h3, hm⟩ := bnd_some hm
  obtain ⟨vx_4, h4, hm⟩ := bnd_some hm
  rcases cs_some hm with ⟨c1, hm⟩ | ⟨c1, hm⟩
  · skip
    rcases cs_some hm with ⟨c2, hm⟩ | ⟨c2, hm⟩
    · skip
      obtain ⟨e_1, h5, hm⟩ := bnd_some hm
      rcases cs_some hm with ⟨c3, hm⟩ | ⟨c3, hm⟩
      · skip
        obtain ⟨vx_5, h6, hm⟩ := bnd_some hm
        obtain ⟨vx_6, h7, hm⟩ := bnd_some hm
        obtain ⟨vx_7, h8, hm⟩ := bnd_some hm
        refine A.RS W0 [] [(0, hro (m_law05_example_ok h3) ck66), (1, hro (m_topology_Check_ok h4) ck13), (3, hto (bE c1)), (5, hto (lnE eGHop vx_2)), (8, hto (bE c2)), (10, hix (ix eGHop h5)), (13, .sq false 52 (.agg [.int .i64 e_1.From, .int .i64 e_1.To]) (.agg [.int .i64 (1:Int), .int .i64 (2:Int)]) (eqGHop e_1 (GHop.mk (1:Int) (2:Int))) (fun x y w => eq52_eql x y _ _ _ _ w)), (15, hto (bE c3)), (16, hro (m_law05_example_ok h6) ck66), (17, hro (m_topology_Cuts_ok h7) ck23), (19, hro (m_ref04_Ints_ok h8) ck26)] [(0, .bool vx_7)] [] (by kernel_rfl) ?_
        refine A.ret ?_
        obtain rfl := some_inj hm
        exact A.fin W0 [] rfl (by kernel_rfl)
      refine A.RS W0 [] [(0, hro (m_law05_example_ok h3) ck66), (1, hro (m_topology_Check_ok h4) ck13), (3, hto (bE c1)), (5, hto (lnE eGHop vx_2)), (8, hto (bE c2)), (10, hix (ix eGHop h5)), (13, .sq false 52 (.agg [.int .i64 e_1.From, .int .i64 e_1.To]) (.agg [.int .i64 (1:Int), .int .i64 (2:Int)]) (eqGHop e_1 (GHop.mk (1:Int) (2:Int))) (fun x y w => eq52_eql x y _ _ _ _ w)), (15, hto (bE c3))] [(0, .bool false)] [] (by kernel_rfl) ?_
      refine A.ret ?_
      obtain rfl := some_inj hm
      exact A.fin W0 [] rfl (by kernel_rfl)
    refine A.RS W0 [] [(0, hro (m_law05_example_ok h3) ck66), (1, hro (m_topology_Check_ok h4) ck13), (3, hto (bE c1)), (5, hto (lnE eGHop vx_2)), (8, hto (bE c2))] [(0, .bool false)] [] (by kernel_rfl) ?_
    refine A.ret ?_
    obtain rfl := some_inj hm
    exact A.fin W0 [] rfl (by kernel_rfl)
  refine A.RS W0 [] [(0, hro (m_law05_example_ok h3) ck66), (1, hro (m_topology_Check_ok h4) ck13), (3, hto (bE c1))] [(0, .bool false)] [] (by kernel_rfl) ?_
  refine A.ret ?_
  obtain rfl := some_inj hm
  exact A.fin W0 [] rfl (by kernel_rfl)
theorem m_law05_big_ok {t : GTopology} {r : Bool} (hm : m_law05_big t = some r) : RO Try.prog 15 [] [.agg [.lst false (ml eGRouter t.Routers), .lst false (ml eGLink t.Links)]] (.bool r) := by
  refine enterA Try.func15 rfl rfl ?_
  unfold m_law05_big at hm
  refine A.RS W0 [] [(0, .al 15001)] [(1, .ptr 15001 0)] [(15001, .cells 26 [.lst false (ml eGRouter t.Routers), .lst false (ml eGLink t.Links)])] (by kernel_rfl) ?_
  refine A.mid [(2, .bool ((decide ((100:Int) < (t.Routers.length:Int))) || (decide ((200:Int) < (t.Links.length:Int)))))] [] (fun hk => ?_) ?_
  · skip
    rcases tf (decide ((100:Int) < (t.Routers.length:Int))) with c1 | c1
    · skip
      exact A.RS W0 [] [(2, hto (lnE eGRouter t.Routers)), (4, hto (bE c1)), (10, hto (orT (q := decide ((200:Int) < (t.Links.length:Int))) c1))] _ _ (by kernel_rfl) hk
    exact A.RS W0 [] [(2, hto (lnE eGRouter t.Routers)), (4, hto (bE c1)), (7, hto (lnE eGLink t.Links)), (10, hto (orF (q := decide ((200:Int) < (t.Links.length:Int))) c1))] _ _ (by kernel_rfl) hk
  refine A.ret ?_
  obtain rfl := some_inj hm
  exact A.fin W0 [] rfl (by kernel_rfl)
end Go.Proofs.Ytggbjbcgfelgiaa
