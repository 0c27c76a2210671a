/- The walks of functions of the program. No condition but those that stand in each. -/
import Derived.Test.YtmcjffllahcclaaGreatDL
import Derived.Test.YtmcjffllahcclaaGreatV9
namespace Go.Proofs.YtmcjffllahcclaaGreat
open Go
set_option maxRecDepth 100000
set_option linter.all false
theorem m_law08_awake_ok  {r : Bool} (hm : m_law08_awake = some r) : RO Tryz.prog 17 [] [] (.bool r) := by
  refine enterA Tryz.func17 rfl rfl ?_
  unfold m_law08_awake at hm
  refine A.RS W0 [] [] [] [] (by kernel_rfl) ?_
  refine A.RS W0 [] [(10, .al 17001)] [(1, .ptr 17001 0)] [(17001, .cells 25 [.lst true (ml eGAdvert ([(GAdvert.mk (1:Int) (1:Int) false ([(GReach.mk (2:Int) (1:Int) (0:Int)), (GReach.mk (3:Int) (1:Int) (0:Int))] : List GReach) []), (GAdvert.mk (2:Int) (1:Int) false ([(GReach.mk (1:Int) (4:Int) (0:Int))] : List GReach) []), (GAdvert.mk (3:Int) (1:Int) false [] [])] : List GAdvert))])] (by kernel_rfl) ?_
  obtain ⟨vx_1, h1, hm⟩ := bnd_some hm
  refine A.RS W0 [] [(1, hro (m_database_View_ok h1) ck24), (2, .al 17002)] [(1, .ptr 17001 0), (2, .ptr 17002 0)] [(17001, .cells 25 [.lst true (ml eGAdvert ([(GAdvert.mk (1:Int) (1:Int) false ([(GReach.mk (2:Int) (1:Int) (0:Int)), (GReach.mk (3:Int) (1:Int) (0:Int))] : List GReach) []), (GAdvert.mk (2:Int) (1:Int) false ([(GReach.mk (1:Int) (4:Int) (0:Int))] : List GReach) []), (GAdvert.mk (3:Int) (1:Int) false [] [])] : List GAdvert))]), (17002, .cells 46 [.lst false (ml eGRouter vx_1.Routers), .lst false (ml eGLink vx_1.Links)])] (by kernel_rfl) ?_
  obtain ⟨vx_2, h2, hm⟩ := bnd_some hm
  rcases cs_some hm with ⟨c1, hm⟩ | ⟨c1, hm⟩
  · skip
    rcases cs_some hm with ⟨c2, hm⟩ | ⟨c2, hm⟩
    · skip
      rcases cs_some hm with ⟨c3, hm⟩ | ⟨c3, hm⟩
      · skip
        obtain ⟨e_1, h3, hm⟩ := bnd_some hm
        refine A.RS W0 [] [(1, hro (m_database_Check_ok h2) ck30), (3, hto (bE c1)), (6, hto (lnE eGRouter vx_1.Routers)), (9, hto (bE c2)), (12, hto (lnE eGLink vx_1.Links)), (15, hto (bE c3)), (18, hix (ix eGLink h3)), (21, .sq false 84 (.agg [.int .i64 e_1.A, .int .i64 e_1.B, .int .i64 e_1.CostA, .int .i64 e_1.CostB, .int .i64 e_1.Capacity]) (.agg [.int .i64 (1:Int), .int .i64 (2:Int), .int .i64 (1:Int), .int .i64 (4:Int), .int .i64 (0:Int)]) (eqGLink e_1 (GLink.mk (1:Int) (2:Int) (1:Int) (4:Int) (0:Int))) (fun x y w => eq84_eql x y _ _ _ _ _ _ _ _ _ _ w))] [(0, .bool (eqGLink e_1 (GLink.mk (1:Int) (2:Int) (1:Int) (4:Int) (0:Int))))] [] (by kernel_rfl) ?_
        refine A.ret ?_
        obtain rfl := some_inj hm
        exact A.fin W0 [] rfl (by kernel_rfl)
      refine A.RS W0 [] [(1, hro (m_database_Check_ok h2) ck30), (3, hto (bE c1)), (6, hto (lnE eGRouter vx_1.Routers)), (9, hto (bE c2)), (12, hto (lnE eGLink vx_1.Links)), (15, hto (bE c3))] [(0, .bool false)] [] (by kernel_rfl) ?_
      refine A.ret ?_
      obtain rfl := some_inj hm
      exact A.fin W0 [] rfl (by kernel_rfl)
    refine A.RS W0 [] [(1, hro (m_database_Check_ok h2) ck30), (3, hto (bE c1)), (6, hto (lnE eGRouter vx_1.Routers)), (9, hto (bE c2))] [(0, .bool false)] [] (by kernel_rfl) ?_
    refine A.ret ?_
    obtain rfl := some_inj hm
    exact A.fin W0 [] rfl (by kernel_rfl)
  refine A.RS W0 [] [(1, hro (m_database_Check_ok h2) ck30), (3, hto (bE c1))] [(0, .bool false)] [] (by kernel_rfl) ?_
  refine A.ret ?_
  obtain rfl := some_inj hm
  exact A.fin W0 [] rfl (by kernel_rfl)
end Go.Proofs.YtmcjffllahcclaaGreat
