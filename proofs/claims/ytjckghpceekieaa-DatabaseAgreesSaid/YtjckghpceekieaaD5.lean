/- Functions of the program, written anew. No condition but those that stand in each. -/
import Derived.Test.YtjckghpceekieaaT
import Derived.Test.YtjckghpceekieaaD4
namespace Go.Proofs.Ytjckghpceekieaa
open Go
set_option maxRecDepth 100000
set_option linter.all false

end Go.Proofs.Ytjckghpceekieaa
