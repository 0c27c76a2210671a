/- The law TopologyLimits returns true for every input, and leaves the input as it was. No condition. -/
import Derived.Test.YtckhladakpjlgaaB6
import Derived.Test.YtckhladakpjlgaaVL2
import Derived.Test.YtckhladakpjlgaaPM5
namespace Go.Proofs.Ytckhladakpjlgaa
set_option linter.all false
open Go Go.ChangeShapes Go.WideShapes Go.ChangeAt Go.RowKit
set_option maxRecDepth 100000
theorem opn5 : Opn Try.prog 5 (eK .u8).enc (eK .u8).sz := opn_int Try.underlying5 (by kernel_rfl)
def law_args (b : Int × Unit) : List AV := [.int .u8 b.1]
def law_ok (b : Int × Unit) : Prop := (Lit.int .u8 b.1).wf = true ∧ True
theorem law_reads : Args Try.prog Try.f4.params.toList law_args law_ok := by
  rw [Try.params4]
  exact args_cons (arg_int Try.underlying5) (args_nil)
theorem law_true (b : Int × Unit) (hb : law_ok b) : RO Try.prog 4 [] (law_args b) (.bool true) := m_law05_TopologyLimits_ok (plain_TopologyLimits b.1 hb.1)
theorem law_own : ownKnob Try.prog.godebug = none := by kernel_rfl
theorem law_laid : laidOutB Try.prog = true := by kernel_rfl
theorem law_spec {H : Type} : ∀ ds : List (DataW H), ds.length = Try.f4.params.size → (Rows.topologyLimitsSpec.fn H ds).results = [.lit (.bool true)] ∧ (Rows.topologyLimitsSpec.fn H ds).args = ds ∧ (Rows.topologyLimitsSpec.fn H ds).vars = [] := by
  intro ds hd
  have hd : ds.length = 1 := hd
  match ds, hd with
  | [_], _ => exact ⟨rfl, rfl, rfl⟩
theorem law_lifted (os : Os) (started : os.Started) (H : Type) (enc : TypeId × Value → H) :
    ReturnsInHanded {} Try.checked os 4 .any (Rows.topologyLimitsSpec.pre6 enc Try.prog Try.f4 Rows.topologyLimitsRow.domain false) (Rows.topologyLimitsSpec.post enc Try.prog Try.f4 false true false false) := by
  refine returnsInHanded_of_change (C := Try.checked) law_own started (by kernel_rfl) Try.func4
    (ChangeSpec.witness6 (enc := enc) (C := Try.checked) false ⟨#[], #[.int .u8 0], []⟩ 8 (by kernel_rfl) (by kernel_rfl) (by kernel_rfl) (by kernel_rfl)) ?_
  intro W base args ds gs before hval0 hW hcnd _
  exact law_call law_laid (TB := 4) (by kernel_rfl) Try.underlying4 rfl (by rw [Try.params4]; intro t ht; simp only [List.mem_cons, List.not_mem_nil, or_false] at ht; subst ht; exact ⟨by kernel_rfl, by decide +kernel⟩) law_reads law_true law_spec W base args ds gs before hval0 hW
theorem law_holds : Rows.TopologyLimitsSaid :=
  OpenClaim.holds_of_wide 4 Try.f4 rfl rfl rfl rfl rfl rfl rfl ⟨rfl, rfl, rfl, rfl, rfl⟩ rfl rfl rfl rfl rfl (by kernel_rfl) Try.func4 (by kernel_rfl)
    (of_decide_eq_true (by kernel_rfl)) (by unfold Func.isWrapper; first | (rw [if_pos (by decide +kernel)]; kernel_rfl) | (rw [if_neg (by decide +kernel)]; exact ⟨rfl, rfl⟩))
    (fun os started H enc _ => law_lifted os started H enc)
end Go.Proofs.Ytckhladakpjlgaa
