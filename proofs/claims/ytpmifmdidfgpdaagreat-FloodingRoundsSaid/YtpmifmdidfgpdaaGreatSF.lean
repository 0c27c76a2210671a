/- The sorts of uX of structs bB the call ab6. No condition but bT bB stand in each. -/
import Derived.Test.YtpmifmdidfgpdaaGreatA17
import Derived.Test.YtpmifmdidfgpdaaGreatF
import Derived.Test.YtpmifmdidfgpdaaGreatVC
namespace Go.Proofs.YtpmifmdidfgpdaaGreat
set_option linter.all false
open Go Go.Sort Go.Lib Go.Shelf Go.RowKit
set_option maxRecDepth 100000
end Go.Proofs.YtpmifmdidfgpdaaGreat
