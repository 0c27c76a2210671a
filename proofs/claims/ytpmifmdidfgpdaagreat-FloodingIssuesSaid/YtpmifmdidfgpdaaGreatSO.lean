/- The sort of a slice bF the call acW. No condition. -/
import Derived.Test.YtpmifmdidfgpdaaGreatS
import Derived.Test.YtpmifmdidfgpdaaGreatVS
namespace Go.Proofs.YtpmifmdidfgpdaaGreat
set_option linter.all false
open Go
theorem ac4 {d T : Nat} (zs : List Int) (h : zs.length < 4611686018427387904) : bO Tryz.prog 154 [(d, .slice T 1 (ml aY zs) 0 false)] [.own d] (fun a σ' => a = .tup [] ∧ σ' = [(d, .slice T 1 (ml aY (jb zs)) 0 false)]) :=
 adG ai2 (rM (r := ()) (by kernel_rfl)) zs h
end Go.Proofs.YtpmifmdidfgpdaaGreat
