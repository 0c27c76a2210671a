/- The sort of a slice bw the call aad. No condition. -/
import Derived.Test.YtmfehenfoepkfaaS
import Derived.Test.YtmfehenfoepkfaaVS
namespace Go.Proofs.Ytmfehenfoepkfaa
set_option linter.all false
open Go
theorem aam {d T : Nat} (zs : List Int) (h : zs.length < 4611686018427387904) : cv Try.prog 50 [(d, .slice T 1 (ml aA zs) 0 false)] [.own d] (fun a σ' => a = .tup [] ∧ σ' = [(d, .slice T 1 (ml aA (gA zs)) 0 false)]) :=
 aaQ ae6 (pF (r := ()) (by kernel_rfl)) zs h
end Go.Proofs.Ytmfehenfoepkfaa
