/- Plain: chapter 08's example comes out as it should. No condition. -/
import Derived.Test.YtmcjffllahcclaaGreatDL
namespace Go.Proofs.YtmcjffllahcclaaGreat
set_option linter.all false
open Go
set_option maxRecDepth 100000
theorem awake8 : m_law08_awake = some true := by kernel_rfl
end Go.Proofs.YtmcjffllahcclaaGreat
