/- Plain: chapter 09's example comes out as it should. No condition. -/
import Derived.Test.YtpmifmdidfgpdaaGreatDL
namespace Go.Proofs.YtpmifmdidfgpdaaGreat
set_option linter.all false
open Go
set_option maxRecDepth 100000
theorem ap5 : pF = some true := by kernel_rfl
end Go.Proofs.YtpmifmdidfgpdaaGreat
