/- The sort of a slice that the call owns. No condition. -/
import Derived.Test.YtckhladakpjlgaaS
import Derived.Test.YtckhladakpjlgaaVS
namespace Go.Proofs.Ytckhladakpjlgaa
set_option linter.all false
open Go
theorem sort_own {d T : Nat} (zs : List Int) (h : zs.length < 4611686018427387904) : SCalls Try.prog 65 [(d, .slice T 1 (ml eInt zs) 0 false)] [.own d] (fun a σ' => a = .tup [] ∧ σ' = [(d, .slice T 1 (ml eInt (sortI zs)) 0 false)]) :=
  sort_bridge sortSaid (m_slices_Sort_Lint_int_nil_ok (r := ()) (by kernel_rfl)) zs h
end Go.Proofs.Ytckhladakpjlgaa
