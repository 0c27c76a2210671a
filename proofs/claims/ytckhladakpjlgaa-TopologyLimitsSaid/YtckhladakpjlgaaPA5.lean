/- Plain: chapter 05's example comes out as it should. No condition. -/
import Derived.Test.YtckhladakpjlgaaDL
namespace Go.Proofs.Ytckhladakpjlgaa
set_option linter.all false
open Go
set_option maxRecDepth 100000
theorem awake5 : m_law05_awake = some true := by kernel_rfl
end Go.Proofs.Ytckhladakpjlgaa
