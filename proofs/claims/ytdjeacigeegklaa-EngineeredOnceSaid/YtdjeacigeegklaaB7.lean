/- Bound methods, and slices of what is no plain data, as the cells of an object; loops of a known number of rounds. No condition but bL aY stand in each. -/
import Derived.Test.YtdjeacigeegklaaBA
import Derived.LoopN
namespace Go.Proofs.Ytdjeacigeegklaa
set_option linter.all false
open Go
variable {P : Program} {tb : Tb}
/-! loops of a known number of rounds -/
end Go.Proofs.Ytdjeacigeegklaa
