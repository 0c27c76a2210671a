/- The iY of ee of the program. No condition but bL aY stand in each. -/
import Derived.Test.YtdjeacigeegklaaDA
import Derived.Test.YtdjeacigeegklaaV4
namespace Go.Proofs.Ytdjeacigeegklaa
open Go
set_option maxRecDepth 100000
set_option linter.all false
end Go.Proofs.Ytdjeacigeegklaa
