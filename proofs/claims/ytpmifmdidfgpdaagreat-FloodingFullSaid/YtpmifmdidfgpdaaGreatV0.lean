/- The eM of ct of the program. No condition but bU bB stand in each. -/
import Derived.Test.YtpmifmdidfgpdaaGreatDA
namespace Go.Proofs.YtpmifmdidfgpdaaGreat
open Go
set_option maxRecDepth 100000
set_option linter.all false
end Go.Proofs.YtpmifmdidfgpdaaGreat
