/- The law yR returns true for every input, and leaves the input as it was. No condition. -/
import Derived.Test.YtdjeacigeegklaaB6
import Derived.Test.YtdjeacigeegklaaVL2
import Derived.Test.YtdjeacigeegklaaPX2
namespace Go.Proofs.Ytdjeacigeegklaa
set_option linter.all false
open Go Go.ChangeShapes Go.WideShapes Go.ChangeAt Go.RowKit
set_option maxRecDepth 100000
theorem aaQ : Opn Try.prog 3 bx.enc bx.sz := yz Try.underlying3 (by kernel_rfl)
theorem ye : Opn Try.prog 22 (eL bx).enc (eL bx).sz := uK (e := bx) Try.underlying22 (by kernel_rfl) aaQ (by decide)
def mB (b : (List Int) × Unit) : List AV := [.lst false (ml bx b.1)]
def pO (b : (List Int) × Unit) : Prop := True ∧ True
theorem pP : wS Try.prog Try.f5.params.toList mB pO := by
 rw [Try.params5]
 exact uM (yA (av := fun x => .lst false (ml bx x)) ye (uL Try.underlying22)) (wT)
theorem rJ (b : (List Int) × Unit) (hb : pO b) : RO Try.prog 5 [] (mB b) (.bool true) := qn (tZ b.1)
theorem s8 : ownKnob Try.prog.godebug = none := by kernel_rfl
theorem rK : laidOutB Try.prog = true := by kernel_rfl
theorem rL {H : Type} : ∀ ds : List (DataW H), ds.length = Try.f5.params.size → (Rows.engineeredOnceSpec.fn H ds).results = [.lit (.bool true)] ∧ (Rows.engineeredOnceSpec.fn H ds).args = ds ∧ (Rows.engineeredOnceSpec.fn H ds).vars = [] := by
 intro ds hd
 have hd : ds.length = 1 := hd
 match ds, hd with
 | [_], _ => exact ⟨rfl, rfl, rfl⟩
theorem oJ (os : Os) (started : os.Started) (H : Type) (enc : TypeId × Value → H) :
  ReturnsInHanded {} Try.checked os 5 .any (Rows.engineeredOnceSpec.pre6 enc Try.prog Try.f5 Rows.engineeredOnceRow.domain false) (Rows.engineeredOnceSpec.post enc Try.prog Try.f5 false true false false) := by
 refine returnsInHanded_of_change (C := Try.checked) s8 started (by kernel_rfl) Try.func5
  (ChangeSpec.witness6 (enc := enc) (C := Try.checked) false ⟨#[], #[.slice none 0 0], []⟩ 8 (by kernel_rfl) (by kernel_rfl) (by kernel_rfl) (by kernel_rfl)) ?_
 intro W base args ds gs before yf hW aoB _
 exact wU rK (TB := 4) (by kernel_rfl) Try.underlying4 rfl (by rw [Try.params5]; intro t ht; simp only [List.mem_cons, List.not_mem_nil, or_false] at ht; subst ht; exact ⟨by kernel_rfl, by decide +kernel⟩) pP rJ rL W base args ds gs before yf hW
theorem law_holds : Rows.EngineeredOnceSaid :=
 OpenClaim.holds_of_wide 5 Try.f5 rfl rfl rfl rfl rfl rfl rfl ⟨rfl, rfl, rfl, rfl, rfl⟩ rfl rfl rfl rfl rfl (by kernel_rfl) Try.func5 (by kernel_rfl)
  (of_decide_eq_true (by kernel_rfl)) (by unfold Func.isWrapper; first | (rw [if_pos (by decide +kernel)]; kernel_rfl) | (rw [if_neg (by decide +kernel)]; exact ⟨rfl, rfl⟩))
  (fun os started H enc _ => oJ os started H enc)
end Go.Proofs.Ytdjeacigeegklaa
