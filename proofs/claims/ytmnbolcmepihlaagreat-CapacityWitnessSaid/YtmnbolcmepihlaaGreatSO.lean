/- The sort of a slice aH the call owns. No condition. -/
import Derived.Test.YtmnbolcmepihlaaGreatS
import Derived.Test.YtmnbolcmepihlaaGreatVS
namespace Go.Proofs.YtmnbolcmepihlaaGreat
set_option linter.all false
open Go Go.Proofs.Tryz
theorem zZ{d T:Nat}(zs:List Int)(h:zs.length<4611686018427387904):bM prog 145 [(d,.slice T 1 (ml aB zs) 0 false)] [.own d] (λa σ'=>a=.tup []∧σ'=[(d,.slice T 1 (ml aB (fW zs)) 0 false)]):=
 aaC ae1 (nu (r:=()) (by kernel_rfl)) zs h
end Go.Proofs.YtmnbolcmepihlaaGreat
