/- The walks of functions of the program. No condition but those that stand in each. -/
import Derived.Test.YtflifgcoleknlaaDA
import Derived.Test.YtflifgcoleknlaaV4
namespace Go.Proofs.Ytflifgcoleknlaa
open Go
set_option maxRecDepth 100000
set_option linter.all false
theorem m_shortest_read_1_ok {a : GShortest_step} {b : GShortest_step} {r : Int} (hm : m_shortest_read_1 a b = some r) : RO Try.prog 65 [] [.agg (k6 a), .agg (k6 b)] (i6 r) := by
 refine enterA Try.func65 rfl rfl ?_
 unfold m_shortest_read_1 at hm
 refine qS [(0, .al 65002), (1, .al 65003)] [(2, .ptr 65002 0), (3, .ptr 65003 0)] [(65002, .cells 88 (k6 a)), (65003, .cells 88 (k6 b))] ?_
 obtain ⟨vx_1, h1, hm⟩ := bnd_some hm
 refine qS [(4, hro (m_cmp_Compare_int_ok h1) ck66)] [(4, i6 vx_1)] [] ?_
 cases hm
 exact A.ret qE
end Go.Proofs.Ytflifgcoleknlaa
