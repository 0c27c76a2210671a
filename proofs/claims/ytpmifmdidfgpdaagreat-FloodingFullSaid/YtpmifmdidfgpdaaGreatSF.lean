/- The sorts of vq of structs bB the call acE. No condition but bU bB stand in each. -/
import Derived.Test.YtpmifmdidfgpdaaGreatA17
import Derived.Test.YtpmifmdidfgpdaaGreatF
import Derived.Test.YtpmifmdidfgpdaaGreatVC
namespace Go.Proofs.YtpmifmdidfgpdaaGreat
set_option linter.all false
open Go Go.Sort Go.Lib Go.Shelf Go.RowKit
set_option maxRecDepth 100000
end Go.Proofs.YtpmifmdidfgpdaaGreat
