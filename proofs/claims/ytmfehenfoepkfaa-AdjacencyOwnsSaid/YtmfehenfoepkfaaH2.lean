/- The law zz returns true for every input, and leaves the input as it was. No condition. -/
import Derived.Test.YtmfehenfoepkfaaB6
import Derived.Test.YtmfehenfoepkfaaVL2
import Derived.Test.YtmfehenfoepkfaaPU2
namespace Go.Proofs.Ytmfehenfoepkfaa
set_option linter.all false
open Go Go.ChangeShapes Go.WideShapes Go.ChangeAt Go.RowKit
set_option maxRecDepth 100000
theorem iY : Opn Try.prog 3 aA.enc aA.sz := vT Try.underlying3 (by kernel_rfl)
theorem sG : Opn Try.prog 22 (eL aA).enc (eL aA).sz := lp (e := aA) Try.underlying22 (by kernel_rfl) iY (by decide)
def jr (b : (List Int) × Unit) : List AV := [.lst false (ml aA b.1)]
def nc (b : (List Int) × Unit) : Prop := True ∧ True
theorem ng : va Try.prog Try.f5.params.toList jr nc := by
 rw [Try.params5]
 exact ij (oy (av := fun x => .lst false (ml aA x)) sG (qa Try.underlying22)) (tT)
theorem og (b : (List Int) × Unit) (hb : nc b) : RO Try.prog 5 [] (jr b) (.bool true) := rS (uG b.1)
theorem pY : ownKnob Try.prog.godebug = none := by kernel_rfl
theorem oh : laidOutB Try.prog = true := by kernel_rfl
theorem oo {H : Type} : ∀ ds : List (DataW H), ds.length = Try.f5.params.size → (Rows.adjacencyOwnsSpec.fn H ds).results = [.lit (.bool true)] ∧ (Rows.adjacencyOwnsSpec.fn H ds).args = ds ∧ (Rows.adjacencyOwnsSpec.fn H ds).vars = [] := by
 intro ds hd
 have hd : ds.length = 1 := hd
 match ds, hd with
 | [_], _ => exact ⟨rfl, rfl, rfl⟩
theorem lT (os : Os) (started : os.Started) (H : Type) (enc : TypeId × Value → H) :
  ReturnsInHanded {} Try.checked os 5 .any (Rows.adjacencyOwnsSpec.pre6 enc Try.prog Try.f5 Rows.adjacencyOwnsRow.domain false) (Rows.adjacencyOwnsSpec.post enc Try.prog Try.f5 false true false false) := by
 refine returnsInHanded_of_change (C := Try.checked) pY started (by kernel_rfl) Try.func5
  (ChangeSpec.witness6 (enc := enc) (C := Try.checked) false ⟨#[], #[.slice none 0 0], []⟩ 8 (by kernel_rfl) (by kernel_rfl) (by kernel_rfl) (by kernel_rfl)) ?_
 intro W base args ds gs before uv hW afu _
 exact tU oh (TB := 4) (by kernel_rfl) Try.underlying4 rfl (by rw [Try.params5]; intro t ht; simp only [List.mem_cons, List.not_mem_nil, or_false] at ht; subst ht; exact ⟨by kernel_rfl, by decide +kernel⟩) ng og oo W base args ds gs before uv hW
theorem law_holds : Rows.AdjacencyOwnsSaid :=
 OpenClaim.holds_of_wide 5 Try.f5 rfl rfl rfl rfl rfl rfl rfl ⟨rfl, rfl, rfl, rfl, rfl⟩ rfl rfl rfl rfl rfl (by kernel_rfl) Try.func5 (by kernel_rfl)
  (of_decide_eq_true (by kernel_rfl)) (by unfold Func.isWrapper; first | (rw [if_pos (by decide +kernel)]; kernel_rfl) | (rw [if_neg (by decide +kernel)]; exact ⟨rfl, rfl⟩))
  (fun os started H enc _ => lT os started H enc)
end Go.Proofs.Ytmfehenfoepkfaa
