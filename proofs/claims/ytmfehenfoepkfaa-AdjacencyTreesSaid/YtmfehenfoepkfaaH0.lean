/- The law yY returns true for every input, and leaves the input as it was. No condition. -/
import Derived.Test.YtmfehenfoepkfaaB6
import Derived.Test.YtmfehenfoepkfaaVL0
import Derived.Test.YtmfehenfoepkfaaPU0
namespace Go.Proofs.Ytmfehenfoepkfaa
set_option linter.all false
open Go Go.ChangeShapes Go.WideShapes Go.ChangeAt Go.RowKit
set_option maxRecDepth 100000
theorem iY : Opn Try.prog 3 aA.enc aA.sz := vT Try.underlying3 (by kernel_rfl)
theorem sG : Opn Try.prog 22 (eL aA).enc (eL aA).sz := lp (e := aA) Try.underlying22 (by kernel_rfl) iY (by decide)
theorem anO : Opn Try.prog 79 aJ.enc aJ.sz := (lH Try.underlying79 (by kernel_rfl) (by kernel_rfl) (dL iY (dL iY nX))).iso (fun p => bq.mk p.1 p.2.1) (fun _ => rfl)
theorem anP : Opn Try.prog 23 (eL aJ).enc (eL aJ).sz := lp (e := aJ) Try.underlying23 (by kernel_rfl) anO (by decide)
theorem anQ : Opn Try.prog 25 lV.enc lV.sz := (lH Try.underlying25 (by kernel_rfl) (by kernel_rfl) (dL iY (dL anP nX))).iso (fun p => bB.mk p.1 p.2.1) (fun _ => rfl)
def jr (b : (List Int) × bB × (List Int) × Unit) : List AV := [.lst false (ml aA b.1), .agg (lV.enc b.2.1), .lst false (ml aA b.2.2.1)]
def nc (b : (List Int) × bB × (List Int) × Unit) : Prop := True ∧ True ∧ True ∧ True
theorem ng : va Try.prog Try.f3.params.toList jr nc := by
 rw [Try.params3]
 exact ij (oy (av := fun x => .lst false (ml aA x)) sG (qa Try.underlying22)) (ij (yF (enc := lV.enc) Try.underlying25 anQ) (ij (oy (av := fun x => .lst false (ml aA x)) sG (qa Try.underlying22)) (tT)))
theorem og (b : (List Int) × bB × (List Int) × Unit) (hb : nc b) : RO Try.prog 3 [] (jr b) (.bool true) := qK (uu b.1 b.2.1 b.2.2.1)
theorem pY : ownKnob Try.prog.godebug = none := by kernel_rfl
theorem oh : laidOutB Try.prog = true := by kernel_rfl
theorem oo {H : Type} : ∀ ds : List (DataW H), ds.length = Try.f3.params.size → (Rows.adjacencyTreesSpec.fn H ds).results = [.lit (.bool true)] ∧ (Rows.adjacencyTreesSpec.fn H ds).args = ds ∧ (Rows.adjacencyTreesSpec.fn H ds).vars = [] := by
 intro ds hd
 have hd : ds.length = 3 := hd
 match ds, hd with
 | [_, _, _], _ => exact ⟨rfl, rfl, rfl⟩
theorem lT (os : Os) (started : os.Started) (H : Type) (enc : TypeId × Value → H) :
  ReturnsInHanded {} Try.checked os 3 .any (Rows.adjacencyTreesSpec.pre6 enc Try.prog Try.f3 Rows.adjacencyTreesRow.domain false) (Rows.adjacencyTreesSpec.post enc Try.prog Try.f3 false true false false) := by
 refine returnsInHanded_of_change (C := Try.checked) pY started (by kernel_rfl) Try.func3
  (ChangeSpec.witness6 (enc := enc) (C := Try.checked) false ⟨#[], #[.slice none 0 0, .agg #[.int .i64 0, .slice none 0 0], .slice none 0 0], []⟩ 8 (by kernel_rfl) (by kernel_rfl) (by kernel_rfl) (by kernel_rfl)) ?_
 intro W base args ds gs before uv hW afu _
 exact tU oh (TB := 4) (by kernel_rfl) Try.underlying4 rfl (by rw [Try.params3]; intro t ht; simp only [List.mem_cons, List.not_mem_nil, or_false] at ht; rcases ht with rfl | rfl | rfl <;> exact ⟨by kernel_rfl, by decide +kernel⟩) ng og oo W base args ds gs before uv hW
theorem law_holds : Rows.AdjacencyTreesSaid :=
 OpenClaim.holds_of_wide 3 Try.f3 rfl rfl rfl rfl rfl rfl rfl ⟨rfl, rfl, rfl, rfl, rfl⟩ rfl rfl rfl rfl rfl (by kernel_rfl) Try.func3 (by kernel_rfl)
  (of_decide_eq_true (by kernel_rfl)) (by unfold Func.isWrapper; first | (rw [if_pos (by decide +kernel)]; kernel_rfl) | (rw [if_neg (by decide +kernel)]; exact ⟨rfl, rfl⟩))
  (fun os started H enc _ => lT os started H enc)
end Go.Proofs.Ytmfehenfoepkfaa
