/- The sort of a slice bn the call adD. No condition. -/
import Derived.Test.YtdjeacigeegklaaGreatS
import Derived.Test.YtdjeacigeegklaaGreatVS
namespace Go.Proofs.YtdjeacigeegklaaGreat
set_option linter.all false
open Go Go.Proofs.Tryz
theorem afX{d T:Nat}(zs:List Int)(h:zs.length<4611686018427387904):dN prog 146 [(d,.slice T 1 (ml aA zs) 0 false)] [.own d] (λa σ'=>a=.tup []∧σ'=[(d,.slice T 1 (ml aA (jC zs)) 0 false)]):=
 agM alH (tG (r:=()) (by kernel_rfl)) zs h
end Go.Proofs.YtdjeacigeegklaaGreat
