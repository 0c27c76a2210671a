/- The law TopologyLooks returns true for every input, and leaves the input as it was. No condition. -/
import Derived.Test.YtggbjbcgfelgiaaB6
import Derived.Test.YtggbjbcgfelgiaaVL8
import Derived.Test.YtggbjbcgfelgiaaPK5
namespace Go.Proofs.Ytggbjbcgfelgiaa
set_option linter.all false
open Go Go.ChangeShapes Go.WideShapes Go.ChangeAt Go.RowKit
set_option maxRecDepth 100000
theorem opn3 : Opn Try.prog 3 eInt.enc eInt.sz := opn_int Try.underlying3 (by kernel_rfl)
theorem opn22 : Opn Try.prog 22 (eL eInt).enc (eL eInt).sz := opn_slice (e := eInt) Try.underlying22 (by kernel_rfl) opn3 (by decide)
theorem opn50 : Opn Try.prog 50 eGLink.enc eGLink.sz := (opn_struct Try.underlying50 (by kernel_rfl) (by kernel_rfl) (opnF_cons opn3 (opnF_cons opn3 (opnF_cons opn3 (opnF_cons opn3 (opnF_cons opn3 opnF_nil)))))).iso (fun p => GLink.mk p.1 p.2.1 p.2.2.1 p.2.2.2.1 p.2.2.2.2.1) (fun _ => rfl)
theorem opn24 : Opn Try.prog 24 (eL eGLink).enc (eL eGLink).sz := opn_slice (e := eGLink) Try.underlying24 (by kernel_rfl) opn50 (by decide)
theorem opn4 : Opn Try.prog 4 eBool.enc eBool.sz := opn_bool Try.underlying4 (by kernel_rfl)
theorem opn55 : Opn Try.prog 55 eGRouter.enc eGRouter.sz := (opn_struct Try.underlying55 (by kernel_rfl) (by kernel_rfl) (opnF_cons opn3 (opnF_cons opn4 opnF_nil))).iso (fun p => GRouter.mk p.1 p.2.1) (fun _ => rfl)
theorem opn23 : Opn Try.prog 23 (eL eGRouter).enc (eL eGRouter).sz := opn_slice (e := eGRouter) Try.underlying23 (by kernel_rfl) opn55 (by decide)
theorem opn26 : Opn Try.prog 26 eGTopology.enc eGTopology.sz := (opn_struct Try.underlying26 (by kernel_rfl) (by kernel_rfl) (opnF_cons opn23 (opnF_cons opn24 opnF_nil))).iso (fun p => GTopology.mk p.1 p.2.1) (fun _ => rfl)
def law_args (b : (List Int) × GTopology × Int × Int × Unit) : List AV := [.lst false (ml eInt b.1), .agg (eGTopology.enc b.2.1), .int .i64 b.2.2.1, .int .i64 b.2.2.2.1]
theorem law_reads : Args Try.prog Try.f8.params.toList law_args := by
  rw [Try.params8]
  exact args_cons (arg_one (av := fun x => .lst false (ml eInt x)) opn22 (one_slice Try.underlying22)) (args_cons (arg_agg (enc := eGTopology.enc) Try.underlying26 opn26) (args_cons (arg_one (av := fun x => .int .i64 x) opn3 (one_int Try.underlying3)) (args_cons (arg_one (av := fun x => .int .i64 x) opn3 (one_int Try.underlying3)) (args_nil))))
theorem law_true (b : (List Int) × GTopology × Int × Int × Unit) : RO Try.prog 8 [] (law_args b) (.bool true) := m_law05_TopologyLooks_ok (plain_TopologyLooks b.1 b.2.1 b.2.2.1 b.2.2.2.1)
theorem law_own : ownKnob Try.prog.godebug = none := by kernel_rfl
theorem law_laid : laidOutB Try.prog = true := by kernel_rfl
theorem law_spec {H : Type} : ∀ ds : List (DataW H), ds.length = Try.f8.params.size → (Rows.topologyLooksSpec.fn H ds).results = [.lit (.bool true)] ∧ (Rows.topologyLooksSpec.fn H ds).args = ds ∧ (Rows.topologyLooksSpec.fn H ds).vars = [] := by
  intro ds hd
  have hd : ds.length = 4 := hd
  match ds, hd with
  | [_, _, _, _], _ => exact ⟨rfl, rfl, rfl⟩
theorem law_lifted (os : Os) (started : os.Started) (H : Type) (enc : TypeId × Value → H) :
    ReturnsInHanded {} Try.checked os 8 .any (Rows.topologyLooksSpec.pre6 enc Try.prog Try.f8 Rows.topologyLooksRow.domain false) (Rows.topologyLooksSpec.post enc Try.prog Try.f8 false true false false) := by
  refine returnsInHanded_of_change (C := Try.checked) law_own started (by kernel_rfl) Try.func8
    (ChangeSpec.witness6 (enc := enc) (C := Try.checked) false ⟨#[], #[.slice none 0 0, .agg #[.slice none 0 0, .slice none 0 0], .int .i64 0, .int .i64 0], []⟩ 8 (by kernel_rfl) (by kernel_rfl) (by kernel_rfl) (by kernel_rfl)) ?_
  intro W base args ds gs before hval0 hW hcnd _
  exact law_call law_laid (TB := 4) (by kernel_rfl) Try.underlying4 rfl (by rw [Try.params8]; intro t ht; simp only [List.mem_cons, List.not_mem_nil, or_false] at ht; rcases ht with rfl | rfl | rfl | rfl <;> exact ⟨by kernel_rfl, by decide +kernel⟩) law_reads law_true law_spec W base args ds gs before hval0 hW
theorem law_holds : Rows.TopologyLooksSaid :=
  OpenClaim.holds_of_wide 8 Try.f8 rfl rfl rfl rfl rfl rfl rfl ⟨rfl, rfl, rfl, rfl, rfl⟩ rfl rfl rfl rfl rfl (by kernel_rfl) Try.func8 (by kernel_rfl)
    (of_decide_eq_true (by kernel_rfl)) (by unfold Func.isWrapper; first | (rw [if_pos (by decide +kernel)]; kernel_rfl) | (rw [if_neg (by decide +kernel)]; exact ⟨rfl, rfl⟩))
    (fun os started H enc _ => law_lifted os started H enc)
end Go.Proofs.Ytggbjbcgfelgiaa
