/- The sort of a slice bu the call adX. No condition. -/
import Derived.Test.YtjdopimopgpagaaGreatS
import Derived.Test.YtjdopimopgpagaaGreatVS
namespace Go.Proofs.YtjdopimopgpagaaGreat
set_option linter.all false
open Go Go.Proofs.Tryz
theorem ad5{d T:Nat}(zs:List Int)(h:zs.length<4611686018427387904):bO prog 162 [(d,.slice T 1 (ml bg zs) 0 false)] [.own d] (λa σ'=>a=.tup []∧σ'=[(d,.slice T 1 (ml bg (jk zs)) 0 false)]):=
 aeW aiT (s7 (r:=()) (by kernel_rfl)) zs h
end Go.Proofs.YtjdopimopgpagaaGreat
