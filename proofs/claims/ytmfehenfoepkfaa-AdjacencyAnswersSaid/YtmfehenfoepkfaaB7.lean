/- Bound methods, and p8 of what is no plain data, as the cells of an object; loops of a known number of rounds. No condition but bR bw stand in each. -/
import Derived.Test.YtmfehenfoepkfaaBA
import Derived.LoopN
namespace Go.Proofs.Ytmfehenfoepkfaa
set_option linter.all false
open Go
variable {P : Program} {tb : Tb}
/-! loops of a known number of rounds -/
end Go.Proofs.Ytmfehenfoepkfaa
