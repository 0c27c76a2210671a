/- gw sort of a slice bz aR call owns. bM bN. -/
import Derived.Test.YtmnbolcmepihlaaGreatS
import Derived.Test.YtmnbolcmepihlaaGreatVS
namespace Go.Proofs.YtmnbolcmepihlaaGreat
set_option linter.all false
open Go Go.Proofs.Tryz
theorem Np{d T:Nat}(zs:List Int)(h:zs.length<4611686018427387904):gi prog 145 [(d,.slice T 1 (aD bq zs) 0 false)] [.own d] (λa az=>a=.cD []∧az=[(d,.slice T 1 (aD bq (kZ zs)) 0 false)]):=
 Vw Xa (aiA (r:=()) (by kernel_rfl)) zs h
end Go.Proofs.YtmnbolcmepihlaaGreat
