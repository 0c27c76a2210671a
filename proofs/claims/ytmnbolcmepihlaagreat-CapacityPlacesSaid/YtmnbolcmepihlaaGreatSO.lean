/- The sort of a slice aM the call owns. No condition. -/
import Derived.Test.YtmnbolcmepihlaaGreatS
import Derived.Test.YtmnbolcmepihlaaGreatVS
namespace Go.Proofs.YtmnbolcmepihlaaGreat
set_option linter.all false
open Go Go.Proofs.Tryz
theorem acU{d T:Nat}(zs:List Int)(h:zs.length<4611686018427387904):b9 prog 145 [(d,.slice T 1 (ml ak zs) 0 false)] [.own d] (λa σ'=>a=.tup []∧σ'=[(d,.slice T 1 (ml ak (gP zs)) 0 false)]):=
 adH ail (qb (r:=()) (by kernel_rfl)) zs h
end Go.Proofs.YtmnbolcmepihlaaGreat
