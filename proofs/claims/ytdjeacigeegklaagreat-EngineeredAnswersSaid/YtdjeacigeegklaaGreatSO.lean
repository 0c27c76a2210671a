/- The sort of a slice bx the call ach. No condition. -/
import Derived.Test.YtdjeacigeegklaaGreatS
import Derived.Test.YtdjeacigeegklaaGreatVS
namespace Go.Proofs.YtdjeacigeegklaaGreat
set_option linter.all false
open Go Go.Proofs.Tryz
theorem alJ{d T:Nat}(zs:List Int)(h:zs.length<4611686018427387904):dZ prog 146 [(d,.slice T 1 (ml aB zs) 0 false)] [.own d] (λa σ'=>a=.tup []∧σ'=[(d,.slice T 1 (ml aB (jZ zs)) 0 false)]):=
 aeS alI (sI (r:=()) (by kernel_rfl)) zs h
end Go.Proofs.YtdjeacigeegklaaGreat
