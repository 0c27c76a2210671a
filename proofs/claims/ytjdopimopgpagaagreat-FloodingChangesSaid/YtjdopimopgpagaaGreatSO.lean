/- The sort of a slice bw the call adZ. No condition. -/
import Derived.Test.YtjdopimopgpagaaGreatS
import Derived.Test.YtjdopimopgpagaaGreatVS
namespace Go.Proofs.YtjdopimopgpagaaGreat
set_option linter.all false
open Go Go.Proofs.Tryz
theorem ad7{d T:Nat}(zs:List Int)(h:zs.length<4611686018427387904):bP prog 162 [(d,.slice T 1 (ml bO zs) 0 false)] [.own d] (λa σ'=>a=.tup []∧σ'=[(d,.slice T 1 (ml bO (kZ zs)) 0 false)]):=
 aeS aiL (sP (r:=()) (by kernel_rfl)) zs h
end Go.Proofs.YtjdopimopgpagaaGreat
