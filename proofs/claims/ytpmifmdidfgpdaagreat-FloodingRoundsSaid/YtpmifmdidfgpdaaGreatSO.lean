/- The sort of a slice bB the call ab6. No condition. -/
import Derived.Test.YtpmifmdidfgpdaaGreatS
import Derived.Test.YtpmifmdidfgpdaaGreatVS
namespace Go.Proofs.YtpmifmdidfgpdaaGreat
set_option linter.all false
open Go
theorem acg {d T : Nat} (zs : List Int) (h : zs.length < 4611686018427387904) : bM Tryz.prog 154 [(d, .slice T 1 (ml bL zs) 0 false)] [.own d] (fun a σ' => a = .tup [] ∧ σ' = [(d, .slice T 1 (ml bL (iE zs)) 0 false)]) :=
 acU ahQ (qV (r := ()) (by kernel_rfl)) zs h
end Go.Proofs.YtpmifmdidfgpdaaGreat
