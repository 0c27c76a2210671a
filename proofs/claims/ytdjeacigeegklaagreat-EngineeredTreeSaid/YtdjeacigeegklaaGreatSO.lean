/- The sort of a slice aM the call zo. No condition. -/
import Derived.Test.YtdjeacigeegklaaGreatS
import Derived.Test.YtdjeacigeegklaaGreatVS
namespace Go.Proofs.YtdjeacigeegklaaGreat
set_option linter.all false
open Go Go.Proofs.Tryz
theorem agt{d T:Nat}(zs:List Int)(h:zs.length<4611686018427387904):dJ prog 146 [(d,.slice T 1 (ml aG zs) 0 false)] [.own d] (λa σ'=>a=.tup []∧σ'=[(d,.slice T 1 (ml aG (iL zs)) 0 false)]):=
 acq agr (pL (r:=()) (by kernel_rfl)) zs h
end Go.Proofs.YtdjeacigeegklaaGreat
