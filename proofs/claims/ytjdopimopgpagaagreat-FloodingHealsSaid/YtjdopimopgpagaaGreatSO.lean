/- The sort of a slice bq the call aeh. No condition. -/
import Derived.Test.YtjdopimopgpagaaGreatS
import Derived.Test.YtjdopimopgpagaaGreatVS
namespace Go.Proofs.YtjdopimopgpagaaGreat
set_option linter.all false
open Go Go.Proofs.Tryz
theorem aes{d T:Nat}(zs:List Int)(h:zs.length<4611686018427387904):bM prog 162 [(d,.slice T 1 (ml bK zs) 0 false)] [.own d] (λa σ'=>a=.tup []∧σ'=[(d,.slice T 1 (ml bK (jG zs)) 0 false)]):=
 afd ajd (tg (r:=()) (by kernel_rfl)) zs h
end Go.Proofs.YtjdopimopgpagaaGreat
