/- The walks of functions of the program. No condition but those that stand in each. -/
import Derived.Test.YtmcjffllahcclaaDA
import Derived.Test.YtmcjffllahcclaaV2
import Derived.Test.YtmcjffllahcclaaV7
namespace Go.Proofs.Ytmcjffllahcclaa
open Go
set_option maxRecDepth 100000
set_option linter.all false

end Go.Proofs.Ytmcjffllahcclaa
