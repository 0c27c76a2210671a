/- The sort of a slice aL the call owns. No condition. -/
import Derived.Test.YtmnbolcmepihlaaGreatS
import Derived.Test.YtmnbolcmepihlaaGreatVS
namespace Go.Proofs.YtmnbolcmepihlaaGreat
set_option linter.all false
open Go Go.Proofs.Tryz
theorem acR{d T:Nat}(zs:List Int)(h:zs.length<4611686018427387904):bZ prog 145 [(d,.slice T 1 (ml aj zs) 0 false)] [.own d] (λa σ'=>a=.tup []∧σ'=[(d,.slice T 1 (ml aj (gL zs)) 0 false)]):=
 adx ah5 (pV (r:=()) (by kernel_rfl)) zs h
end Go.Proofs.YtmnbolcmepihlaaGreat
