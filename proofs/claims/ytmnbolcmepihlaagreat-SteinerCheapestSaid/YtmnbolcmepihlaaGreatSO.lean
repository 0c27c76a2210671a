/- The sort of a slice aJ the call xV. No condition. -/
import Derived.Test.YtmnbolcmepihlaaGreatS
import Derived.Test.YtmnbolcmepihlaaGreatVS
namespace Go.Proofs.YtmnbolcmepihlaaGreat
set_option linter.all false
open Go Go.Proofs.Tryz
theorem ae7{d T:Nat}(zs:List Int)(h:zs.length<4611686018427387904):b8 prog 145 [(d,.slice T 1 (ml ai zs) 0 false)] [.own d] (λa σ'=>a=.tup []∧σ'=[(d,.slice T 1 (ml ai (gK zs)) 0 false)]):=
 aa1 ae6 (n9 (r:=()) (by kernel_rfl)) zs h
end Go.Proofs.YtmnbolcmepihlaaGreat
