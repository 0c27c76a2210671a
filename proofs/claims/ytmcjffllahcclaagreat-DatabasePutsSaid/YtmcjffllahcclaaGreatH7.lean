/- The law DatabasePuts returns true for every input, and leaves the input as it was. No condition. -/
import Derived.Test.YtmcjffllahcclaaGreatB6
import Derived.Test.YtmcjffllahcclaaGreatVL7
import Derived.Test.YtmcjffllahcclaaGreatPU8
namespace Go.Proofs.YtmcjffllahcclaaGreat
set_option linter.all false
open Go Go.ChangeShapes Go.WideShapes Go.ChangeAt Go.RowKit
set_option maxRecDepth 100000
theorem opn3 : Opn Tryz.prog 3 eInt.enc eInt.sz := opn_int Tryz.underlying3 (by kernel_rfl)
theorem opn22 : Opn Tryz.prog 22 (eL eInt).enc (eL eInt).sz := opn_slice (e := eInt) Tryz.underlying22 (by kernel_rfl) opn3 (by decide)
theorem opn77 : Opn Tryz.prog 77 eGClaim.enc eGClaim.sz := (opn_struct Tryz.underlying77 (by kernel_rfl) (by kernel_rfl) (opnF_cons opn3 (opnF_cons opn3 (opnF_cons opn3 opnF_nil)))).iso (fun p => GClaim.mk p.1 p.2.1 p.2.2.1) (fun _ => rfl)
theorem opn27 : Opn Tryz.prog 27 (eL eGClaim).enc (eL eGClaim).sz := opn_slice (e := eGClaim) Tryz.underlying27 (by kernel_rfl) opn77 (by decide)
theorem opn74 : Opn Tryz.prog 74 eGReach.enc eGReach.sz := (opn_struct Tryz.underlying74 (by kernel_rfl) (by kernel_rfl) (opnF_cons opn3 (opnF_cons opn3 (opnF_cons opn3 opnF_nil)))).iso (fun p => GReach.mk p.1 p.2.1 p.2.2.1) (fun _ => rfl)
theorem opn26 : Opn Tryz.prog 26 (eL eGReach).enc (eL eGReach).sz := opn_slice (e := eGReach) Tryz.underlying26 (by kernel_rfl) opn74 (by decide)
theorem opn4 : Opn Tryz.prog 4 eBool.enc eBool.sz := opn_bool Tryz.underlying4 (by kernel_rfl)
theorem opn29 : Opn Tryz.prog 29 eGAdvert.enc eGAdvert.sz := (opn_struct Tryz.underlying29 (by kernel_rfl) (by kernel_rfl) (opnF_cons opn3 (opnF_cons opn3 (opnF_cons opn4 (opnF_cons opn26 (opnF_cons opn27 opnF_nil)))))).iso (fun p => GAdvert.mk p.1 p.2.1 p.2.2.1 p.2.2.2.1 p.2.2.2.2.1) (fun _ => rfl)
theorem opn23 : Opn Tryz.prog 23 (eL eGAdvert).enc (eL eGAdvert).sz := opn_slice (e := eGAdvert) Tryz.underlying23 (by kernel_rfl) opn29 (by decide)
theorem opn25 : Opn Tryz.prog 25 eGDatabase.enc eGDatabase.sz := (opn_struct Tryz.underlying25 (by kernel_rfl) (by kernel_rfl) (opnF_cons opn23 opnF_nil)).iso (fun p => GDatabase.mk p.1) (fun _ => rfl)
def law_args (b : (List Int) × GDatabase × GAdvert × Unit) : List AV := [.lst false (ml eInt b.1), .agg (eGDatabase.enc b.2.1), .agg (eGAdvert.enc b.2.2.1)]
def law_ok (b : (List Int) × GDatabase × GAdvert × Unit) : Prop := True ∧ True ∧ True ∧ True
theorem law_reads : Args Tryz.prog Tryz.f3.params.toList law_args law_ok := by
  rw [Tryz.params3]
  exact args_cons (arg_one (av := fun x => .lst false (ml eInt x)) opn22 (one_slice Tryz.underlying22)) (args_cons (arg_agg (enc := eGDatabase.enc) Tryz.underlying25 opn25) (args_cons (arg_agg (enc := eGAdvert.enc) Tryz.underlying29 opn29) (args_nil)))
theorem law_true (b : (List Int) × GDatabase × GAdvert × Unit) (hb : law_ok b) : RO Tryz.prog 3 [] (law_args b) (.bool true) := m_law08_DatabasePuts_ok (plain_DatabasePuts b.1 b.2.1 b.2.2.1)
theorem law_own : ownKnob Tryz.prog.godebug = none := by kernel_rfl
theorem law_laid : laidOutB Tryz.prog = true := by kernel_rfl
theorem law_spec {H : Type} : ∀ ds : List (DataW H), ds.length = Tryz.f3.params.size → (Rows.databasePutsSpec.fn H ds).results = [.lit (.bool true)] ∧ (Rows.databasePutsSpec.fn H ds).args = ds ∧ (Rows.databasePutsSpec.fn H ds).vars = [] := by
  intro ds hd
  have hd : ds.length = 3 := hd
  match ds, hd with
  | [_, _, _], _ => exact ⟨rfl, rfl, rfl⟩
theorem law_lifted (os : Os) (started : os.Started) (H : Type) (enc : TypeId × Value → H) :
    ReturnsInHanded {} Tryz.checked os 3 .any (Rows.databasePutsSpec.pre6 enc Tryz.prog Tryz.f3 Rows.databasePutsRow.domain false) (Rows.databasePutsSpec.post enc Tryz.prog Tryz.f3 false true false false) := by
  refine returnsInHanded_of_change (C := Tryz.checked) law_own started (by kernel_rfl) Tryz.func3
    (ChangeSpec.witness6 (enc := enc) (C := Tryz.checked) false ⟨#[], #[.slice none 0 0, .agg #[.slice none 0 0], .agg #[.int .i64 0, .int .i64 0, .bool false, .slice none 0 0, .slice none 0 0]], []⟩ 8 (by kernel_rfl) (by kernel_rfl) (by kernel_rfl) (by kernel_rfl)) ?_
  intro W base args ds gs before hval0 hW hcnd _
  exact law_call law_laid (TB := 4) (by kernel_rfl) Tryz.underlying4 rfl (by rw [Tryz.params3]; intro t ht; simp only [List.mem_cons, List.not_mem_nil, or_false] at ht; rcases ht with rfl | rfl | rfl <;> exact ⟨by kernel_rfl, by decide +kernel⟩) law_reads law_true law_spec W base args ds gs before hval0 hW
theorem law_holds : Rows.DatabasePutsSaid :=
  OpenClaim.holds_of_wide 3 Tryz.f3 rfl rfl rfl rfl rfl rfl rfl ⟨rfl, rfl, rfl, rfl, rfl⟩ rfl rfl rfl rfl rfl (by kernel_rfl) Tryz.func3 (by kernel_rfl)
    (of_decide_eq_true (by kernel_rfl)) (by unfold Func.isWrapper; first | (rw [if_pos (by decide +kernel)]; kernel_rfl) | (rw [if_neg (by decide +kernel)]; exact ⟨rfl, rfl⟩))
    (fun os started H enc _ => law_lifted os started H enc)
end Go.Proofs.YtmcjffllahcclaaGreat
