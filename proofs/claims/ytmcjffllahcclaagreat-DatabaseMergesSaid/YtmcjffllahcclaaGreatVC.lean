/- The walks of functions of the program. No condition but those that stand in each. -/
import Derived.Test.YtmcjffllahcclaaGreatDA
import Derived.Test.YtmcjffllahcclaaGreatV4
namespace Go.Proofs.YtmcjffllahcclaaGreat
open Go
set_option maxRecDepth 100000
set_option linter.all false
theorem m_database_View_1_ok {a : GRouter} {b : GRouter} {r : Int} (hm : m_database_View_1 a b = some r) : RO Tryz.prog 53 [] [.agg [.int .i64 a.ID, .bool a.Capable], .agg [.int .i64 b.ID, .bool b.Capable]] (.int .i64 r) := by
  refine enterA Tryz.func53 rfl rfl ?_
  unfold m_database_View_1 at hm
  refine A.RS W0 [] [(0, .al 53002), (1, .al 53003)] [(2, .ptr 53002 0), (3, .ptr 53003 0)] [(53002, .cells 52 [.int .i64 a.ID, .bool a.Capable]), (53003, .cells 52 [.int .i64 b.ID, .bool b.Capable])] (by kernel_rfl) ?_
  obtain ⟨vx_1, h1, hm⟩ := bnd_some hm
  refine A.RS W0 [] [(4, hro (m_cmp_Compare_int_ok h1) ck54)] [(4, .int .i64 vx_1)] [] (by kernel_rfl) ?_
  refine A.ret ?_
  obtain rfl := some_inj hm
  exact A.fin W0 [] rfl (by kernel_rfl)
theorem m_database_View_2_ok {a : GLink} {b : GLink} {r : Int} (hm : m_database_View_2 a b = some r) : RO Tryz.prog 56 [] [.agg [.int .i64 a.A, .int .i64 a.B, .int .i64 a.CostA, .int .i64 a.CostB, .int .i64 a.Capacity], .agg [.int .i64 b.A, .int .i64 b.B, .int .i64 b.CostA, .int .i64 b.CostB, .int .i64 b.Capacity]] (.int .i64 r) := by
  refine enterA Tryz.func56 rfl rfl ?_
  unfold m_database_View_2 at hm
  refine A.RS W0 [] [(0, .al 56002), (1, .al 56003)] [(2, .ptr 56002 0), (3, .ptr 56003 0)] [(56002, .cells 84 [.int .i64 a.A, .int .i64 a.B, .int .i64 a.CostA, .int .i64 a.CostB, .int .i64 a.Capacity]), (56003, .cells 84 [.int .i64 b.A, .int .i64 b.B, .int .i64 b.CostA, .int .i64 b.CostB, .int .i64 b.Capacity])] (by kernel_rfl) ?_
  obtain ⟨vx_1, h1, hm⟩ := bnd_some hm
  obtain ⟨vx_2, h2, hm⟩ := bnd_some hm
  obtain ⟨vx_3, h3, hm⟩ := bnd_some hm
  refine A.RS W0 [] [(4, hro (m_cmp_Compare_int_ok h1) ck54), (9, hro (m_cmp_Compare_int_ok h2) ck54), (11, hro (m_cmp_Or_int_ok h3) ck57)] [(4, .int .i64 vx_3)] [] (by kernel_rfl) ?_
  refine A.ret ?_
  obtain rfl := some_inj hm
  exact A.fin W0 [] rfl (by kernel_rfl)
end Go.Proofs.YtmcjffllahcclaaGreat
