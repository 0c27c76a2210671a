/- The law ShortestAvoids returns true for every input, and leaves the input as it was. No condition. -/
import Derived.Test.YtflifgcoleknlaaB6
import Derived.Test.YtflifgcoleknlaaVL8
import Derived.Test.YtflifgcoleknlaaPT8
namespace Go.Proofs.Ytflifgcoleknlaa
set_option linter.all false
open Go Go.ChangeShapes Go.WideShapes Go.ChangeAt Go.RowKit
set_option maxRecDepth 100000
theorem opn3 : Opn Try.prog 3 eInt.enc eInt.sz := opn_int Try.underlying3 (by kernel_rfl)
theorem opn22 : Opn Try.prog 22 (eL eInt).enc (eL eInt).sz := opn_slice (e := eInt) Try.underlying22 (by kernel_rfl) opn3 (by decide)
def law_args (b : (List Int) × Unit) : List AV := [.lst false (ml eInt b.1)]
def law_ok (b : (List Int) × Unit) : Prop := True ∧ True
theorem law_reads : Args Try.prog Try.f9.params.toList law_args law_ok := by
 rw [Try.params9]
 exact args_cons (arg_one (av := fun x => .lst false (ml eInt x)) opn22 (one_slice Try.underlying22)) (args_nil)
theorem law_true (b : (List Int) × Unit) (hb : law_ok b) : RO Try.prog 9 [] (law_args b) (.bool true) := m_law06_ShortestAvoids_ok (plain_ShortestAvoids b.1)
theorem law_own : ownKnob Try.prog.godebug = none := by kernel_rfl
theorem law_laid : laidOutB Try.prog = true := by kernel_rfl
theorem law_spec {H : Type} : ∀ ds : List (DataW H), ds.length = Try.f9.params.size → (Rows.shortestAvoidsSpec.fn H ds).results = [.lit (.bool true)] ∧ (Rows.shortestAvoidsSpec.fn H ds).args = ds ∧ (Rows.shortestAvoidsSpec.fn H ds).vars = [] := by
 intro ds hd
 have hd : ds.length = 1 := hd
 match ds, hd with
 | [_], _ => exact ⟨rfl, rfl, rfl⟩
theorem law_lifted (os : Os) (started : os.Started) (H : Type) (enc : TypeId × Value → H) :
  ReturnsInHanded {} Try.checked os 9 .any (Rows.shortestAvoidsSpec.pre6 enc Try.prog Try.f9 Rows.shortestAvoidsRow.domain false) (Rows.shortestAvoidsSpec.post enc Try.prog Try.f9 false true false false) := by
 refine returnsInHanded_of_change (C := Try.checked) law_own started (by kernel_rfl) Try.func9
  (ChangeSpec.witness6 (enc := enc) (C := Try.checked) false ⟨#[], #[.slice none 0 0], []⟩ 8 (by kernel_rfl) (by kernel_rfl) (by kernel_rfl) (by kernel_rfl)) ?_
 intro W base args ds gs before hval0 hW hcnd _
 exact law_call law_laid (TB := 4) (by kernel_rfl) Try.underlying4 rfl (by rw [Try.params9]; intro t ht; simp only [List.mem_cons, List.not_mem_nil, or_false] at ht; subst ht; exact ⟨by kernel_rfl, by decide +kernel⟩) law_reads law_true law_spec W base args ds gs before hval0 hW
theorem law_holds : Rows.ShortestAvoidsSaid :=
 OpenClaim.holds_of_wide 9 Try.f9 rfl rfl rfl rfl rfl rfl rfl ⟨rfl, rfl, rfl, rfl, rfl⟩ rfl rfl rfl rfl rfl (by kernel_rfl) Try.func9 (by kernel_rfl)
  (of_decide_eq_true (by kernel_rfl)) (by unfold Func.isWrapper; first | (rw [if_pos (by decide +kernel)]; kernel_rfl) | (rw [if_neg (by decide +kernel)]; exact ⟨rfl, rfl⟩))
  (fun os started H enc _ => law_lifted os started H enc)
end Go.Proofs.Ytflifgcoleknlaa
