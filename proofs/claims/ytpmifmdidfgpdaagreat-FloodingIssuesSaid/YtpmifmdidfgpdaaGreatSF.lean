/- The sorts of vE of structs bF the call acW. No condition but bT bF stand in each. -/
import Derived.Test.YtpmifmdidfgpdaaGreatA17
import Derived.Test.YtpmifmdidfgpdaaGreatF
import Derived.Test.YtpmifmdidfgpdaaGreatVC
namespace Go.Proofs.YtpmifmdidfgpdaaGreat
set_option linter.all false
open Go Go.Sort Go.Lib Go.Shelf Go.RowKit
set_option maxRecDepth 100000
end Go.Proofs.YtpmifmdidfgpdaaGreat
