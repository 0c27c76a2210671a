/- The sort of a slice aX the call aaD. No condition. -/
import Derived.Test.YtdjeacigeegklaaGreatS
import Derived.Test.YtdjeacigeegklaaGreatVS
namespace Go.Proofs.YtdjeacigeegklaaGreat
set_option linter.all false
open Go Go.Proofs.Tryz
theorem acF{d T:Nat}(zs:List Int)(h:zs.length<4611686018427387904):cQ prog 146 [(d,.slice T 1 (ml aF zs) 0 false)] [.own d] (λa σ'=>a=.tup []∧σ'=[(d,.slice T 1 (ml aF (iB zs)) 0 false)]):=
 adi ajQ (p9 (r:=()) (by kernel_rfl)) zs h
end Go.Proofs.YtdjeacigeegklaaGreat
