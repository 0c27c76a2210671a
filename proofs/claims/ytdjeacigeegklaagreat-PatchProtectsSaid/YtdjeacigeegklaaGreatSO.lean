/- The sort of a slice aY the call adJ. No condition. -/
import Derived.Test.YtdjeacigeegklaaGreatS
import Derived.Test.YtdjeacigeegklaaGreatVS
namespace Go.Proofs.YtdjeacigeegklaaGreat
set_option linter.all false
open Go Go.Proofs.Tryz
theorem aga{d T:Nat}(zs:List Int)(h:zs.length<4611686018427387904):dA prog 146 [(d,.slice T 1 (ml aA zs) 0 false)] [.own d] (λa σ'=>a=.tup []∧σ'=[(d,.slice T 1 (ml aA (jy zs)) 0 false)]):=
 ag3 alP (tq (r:=()) (by kernel_rfl)) zs h
end Go.Proofs.YtdjeacigeegklaaGreat
