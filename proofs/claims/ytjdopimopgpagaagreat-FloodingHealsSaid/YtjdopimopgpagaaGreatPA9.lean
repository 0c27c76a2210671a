/- Plain: chapter 09's example comes out as it should. No condition. -/
import Derived.Test.YtjdopimopgpagaaGreatDL
namespace Go.Proofs.YtjdopimopgpagaaGreat
set_option linter.all false
open Go
set_option maxRecDepth 100000
theorem aqi:o6=some true:=by kernel_rfl
end Go.Proofs.YtjdopimopgpagaaGreat
