/- The iY of ee of the program. No condition but bL aY stand in each. -/
import Derived.Test.YtdjeacigeegklaaDA
import Derived.Test.YtdjeacigeegklaaV4
namespace Go.Proofs.Ytdjeacigeegklaa
open Go
set_option maxRecDepth 100000
set_option linter.all false
theorem tK {a : az} {b : az} {r : Int} (hm : kg a b = some r) : RO Try.prog 73 [] [.agg (k6 a), .agg (k6 b)] (i6 r) := by
 refine bO Try.func73 rfl rfl ?_
 unfold kg at hm
 refine qS [(0, .al 73002), (1, .al 73003)] [(2, .ptr 73002 0), (3, .ptr 73003 0)] [(73002, .cells 135 (k6 a)), (73003, .cells 135 (k6 b))] ?_
 obtain ⟨ay, h1, hm⟩ := af hm
 refine qS [(4, hro (ja h1) ab6)] [(4, i6 ay)] [] ?_
 cases hm
 exact A.ret qE
end Go.Proofs.Ytdjeacigeegklaa
