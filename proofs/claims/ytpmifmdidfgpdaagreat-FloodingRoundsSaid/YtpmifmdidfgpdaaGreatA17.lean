/- The uy sort by a function, at structs of the am1 own. No condition but bT bB stand in each. -/
import Derived.Test.YtpmifmdidfgpdaaGreatAB
import Derived.Test.YtpmifmdidfgpdaaGreatBA
import Derived.Shelf.SlSortCmp.NoneTotal
namespace Go.Proofs.YtpmifmdidfgpdaaGreat
set_option linter.all false
open Go Go.Sort Go.Lib Go.Shelf Go.RowKit
/-! ## from a closure's contract to what the sort asks -/
end Go.Proofs.YtpmifmdidfgpdaaGreat
