/- The uN sort by a function, at structs of the anj own. No condition but bU bB stand in each. -/
import Derived.Test.YtpmifmdidfgpdaaGreatAB
import Derived.Test.YtpmifmdidfgpdaaGreatBA
import Derived.Shelf.SlSortCmp.NoneTotal
namespace Go.Proofs.YtpmifmdidfgpdaaGreat
set_option linter.all false
open Go Go.Sort Go.Lib Go.Shelf Go.RowKit
/-! ## from a closure's contract to what the sort asks -/
end Go.Proofs.YtpmifmdidfgpdaaGreat
