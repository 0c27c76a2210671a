/- The law xI returns true for every input, and leaves the input as it was. No condition. -/
import Derived.Test.YtmfehenfoepkfaaB6
import Derived.Test.YtmfehenfoepkfaaVL3
import Derived.Test.YtmfehenfoepkfaaPU3
namespace Go.Proofs.Ytmfehenfoepkfaa
set_option linter.all false
open Go Go.ChangeShapes Go.WideShapes Go.ChangeAt Go.RowKit
set_option maxRecDepth 100000
theorem iY : Opn Try.prog 3 aA.enc aA.sz := vT Try.underlying3 (by kernel_rfl)
theorem sG : Opn Try.prog 22 (eL aA).enc (eL aA).sz := lp (e := aA) Try.underlying22 (by kernel_rfl) iY (by decide)
theorem anR : Opn Try.prog 64 af.enc af.sz := (lH Try.underlying64 (by kernel_rfl) (by kernel_rfl) (dL iY (dL iY (dL iY (dL iY nX))))).iso (fun p => ai.mk p.1 p.2.1 p.2.2.1 p.2.2.2.1) (fun _ => rfl)
theorem anS : Opn Try.prog 34 (eL af).enc (eL af).sz := lp (e := af) Try.underlying34 (by kernel_rfl) anR (by decide)
theorem anT : Opn Try.prog 36 fD.enc fD.sz := (lH Try.underlying36 (by kernel_rfl) (by kernel_rfl) (dL iY (dL anS nX))).iso (fun p => aB.mk p.1 p.2.1) (fun _ => rfl)
theorem anU : Opn Try.prog 85 bu.enc bu.sz := (lH Try.underlying85 (by kernel_rfl) (by kernel_rfl) (dL iY (dL iY (dL iY (dL iY (dL iY nX)))))).iso (fun p => aV.mk p.1 p.2.1 p.2.2.1 p.2.2.2.1 p.2.2.2.2.1) (fun _ => rfl)
theorem anV : Opn Try.prog 30 (eL bu).enc (eL bu).sz := lp (e := bu) Try.underlying30 (by kernel_rfl) anU (by decide)
theorem opn4 : Opn Try.prog 4 cO.enc cO.sz := aeI Try.underlying4 (by kernel_rfl)
theorem anW : Opn Try.prog 57 aH.enc aH.sz := (lH Try.underlying57 (by kernel_rfl) (by kernel_rfl) (dL iY (dL opn4 nX))).iso (fun p => aN.mk p.1 p.2.1) (fun _ => rfl)
theorem anX : Opn Try.prog 29 (eL aH).enc (eL aH).sz := lp (e := aH) Try.underlying29 (by kernel_rfl) anW (by decide)
theorem anY : Opn Try.prog 32 eU.enc eU.sz := (lH Try.underlying32 (by kernel_rfl) (by kernel_rfl) (dL anX (dL anV nX))).iso (fun p => aj.mk p.1 p.2.1) (fun _ => rfl)
def jr (b : (List Int) × aB × aj × Int × Int × Int × Unit) : List AV := [.lst false (ml aA b.1), .agg (fD.enc b.2.1), .agg (eU.enc b.2.2.1), .int .i64 b.2.2.2.1, .int .i64 b.2.2.2.2.1, .int .i64 b.2.2.2.2.2.1]
def nc (b : (List Int) × aB × aj × Int × Int × Int × Unit) : Prop := True ∧ True ∧ True ∧ True ∧ True ∧ True ∧ True
theorem ng : va Try.prog Try.f6.params.toList jr nc := by
 rw [Try.params6]
 exact ij (oy (av := fun x => .lst false (ml aA x)) sG (qa Try.underlying22)) (ij (yF (enc := fD.enc) Try.underlying36 anT) (ij (yF (enc := eU.enc) Try.underlying32 anY) (ij (oy (av := fun x => .int .i64 x) iY (yG Try.underlying3)) (ij (oy (av := fun x => .int .i64 x) iY (yG Try.underlying3)) (ij (oy (av := fun x => .int .i64 x) iY (yG Try.underlying3)) (tT))))))
theorem og (b : (List Int) × aB × aj × Int × Int × Int × Unit) (hb : nc b) : RO Try.prog 6 [] (jr b) (.bool true) := qd (sW b.1 b.2.1 b.2.2.1 b.2.2.2.1 b.2.2.2.2.1 b.2.2.2.2.2.1)
theorem pY : ownKnob Try.prog.godebug = none := by kernel_rfl
theorem oh : laidOutB Try.prog = true := by kernel_rfl
theorem oo {H : Type} : ∀ ds : List (DataW H), ds.length = Try.f6.params.size → (Rows.adjacencyAnswersSpec.fn H ds).results = [.lit (.bool true)] ∧ (Rows.adjacencyAnswersSpec.fn H ds).args = ds ∧ (Rows.adjacencyAnswersSpec.fn H ds).vars = [] := by
 intro ds hd
 have hd : ds.length = 6 := hd
 match ds, hd with
 | [_, _, _, _, _, _], _ => exact ⟨rfl, rfl, rfl⟩
theorem lT (os : Os) (started : os.Started) (H : Type) (enc : TypeId × Value → H) :
  ReturnsInHanded {} Try.checked os 6 .any (Rows.adjacencyAnswersSpec.pre6 enc Try.prog Try.f6 Rows.adjacencyAnswersRow.domain false) (Rows.adjacencyAnswersSpec.post enc Try.prog Try.f6 false true false false) := by
 refine returnsInHanded_of_change (C := Try.checked) pY started (by kernel_rfl) Try.func6
  (ChangeSpec.witness6 (enc := enc) (C := Try.checked) false ⟨#[], #[.slice none 0 0, .agg #[.int .i64 0, .slice none 0 0], .agg #[.slice none 0 0, .slice none 0 0], .int .i64 0, .int .i64 0, .int .i64 0], []⟩ 8 (by kernel_rfl) (by kernel_rfl) (by kernel_rfl) (by kernel_rfl)) ?_
 intro W base args ds gs before uv hW afu _
 exact tU oh (TB := 4) (by kernel_rfl) Try.underlying4 rfl (by rw [Try.params6]; intro t ht; simp only [List.mem_cons, List.not_mem_nil, or_false] at ht; rcases ht with rfl | rfl | rfl | rfl | rfl | rfl <;> exact ⟨by kernel_rfl, by decide +kernel⟩) ng og oo W base args ds gs before uv hW
theorem law_holds : Rows.AdjacencyAnswersSaid :=
 OpenClaim.holds_of_wide 6 Try.f6 rfl rfl rfl rfl rfl rfl rfl ⟨rfl, rfl, rfl, rfl, rfl⟩ rfl rfl rfl rfl rfl (by kernel_rfl) Try.func6 (by kernel_rfl)
  (of_decide_eq_true (by kernel_rfl)) (by unfold Func.isWrapper; first | (rw [if_pos (by decide +kernel)]; kernel_rfl) | (rw [if_neg (by decide +kernel)]; exact ⟨rfl, rfl⟩))
  (fun os started H enc _ => lT os started H enc)
end Go.Proofs.Ytmfehenfoepkfaa
