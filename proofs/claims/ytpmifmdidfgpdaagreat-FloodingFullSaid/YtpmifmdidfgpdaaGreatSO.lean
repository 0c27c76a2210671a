/- The sort of a slice bB the call acE. No condition. -/
import Derived.Test.YtpmifmdidfgpdaaGreatS
import Derived.Test.YtpmifmdidfgpdaaGreatVS
namespace Go.Proofs.YtpmifmdidfgpdaaGreat
set_option linter.all false
open Go
theorem acO {d T : Nat} (zs : List Int) (h : zs.length < 4611686018427387904) : bM Tryz.prog 154 [(d, .slice T 1 (ml bJ zs) 0 false)] [.own d] (fun a σ' => a = .tup [] ∧ σ' = [(d, .slice T 1 (ml bJ (iM zs)) 0 false)]) :=
 ado aii (rJ (r := ()) (by kernel_rfl)) zs h
end Go.Proofs.YtpmifmdidfgpdaaGreat
