/- Plain: trees: the two texts of CheckTree, aC, Bits. No condition but bL aY stand in each. -/
import Derived.Test.YtdjeacigeegklaaPYC
namespace Go.Proofs.Ytdjeacigeegklaa
set_option linter.all false
open Go
/-! ## what it is to be a tree -/
/-! ## aC -/
end Go.Proofs.Ytdjeacigeegklaa
