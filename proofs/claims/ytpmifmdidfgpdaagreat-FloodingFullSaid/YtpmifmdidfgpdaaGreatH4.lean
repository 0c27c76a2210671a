/- The law adl returns true for every input, and leaves the input as it was. No condition. -/
import Derived.Test.YtpmifmdidfgpdaaGreatB6
import Derived.Test.YtpmifmdidfgpdaaGreatVL4
import Derived.Test.YtpmifmdidfgpdaaGreatPF9
namespace Go.Proofs.YtpmifmdidfgpdaaGreat
set_option linter.all false
open Go Go.ChangeShapes Go.WideShapes Go.ChangeAt Go.RowKit
set_option maxRecDepth 100000
theorem opn5 : Opn Tryz.prog 5 (eK .u8).enc (eK .u8).sz := adO Tryz.underlying5 (by kernel_rfl)
def uG (b : Int × Unit) : List AV := [.int .u8 b.1]
def x7 (b : Int × Unit) : Prop := (Lit.int .u8 b.1).wf = true ∧ True
theorem x8 : aaV Tryz.prog Tryz.f6.params.toList uG x7 := by
 rw [Tryz.params6]
 exact uP (amJ Tryz.underlying5) (acG)
theorem z7 (b : Int × Unit) (hb : x7 b) : RO Tryz.prog 6 [] (uG b) (.bool true) := uI (x6 b.1 hb.1)
theorem abu : ownKnob Tryz.prog.godebug = none := by kernel_rfl
theorem z8 : laidOutB Tryz.prog = true := by kernel_rfl
theorem aaa {H : Type} : ∀ ds : List (DataW H), ds.length = Tryz.f6.params.size → (Rows.floodingFullSpec.fn H ds).results = [.lit (.bool true)] ∧ (Rows.floodingFullSpec.fn H ds).args = ds ∧ (Rows.floodingFullSpec.fn H ds).vars = [] := by
 intro ds hd
 have hd : ds.length = 1 := hd
 match ds, hd with
 | [_], _ => exact ⟨rfl, rfl, rfl⟩
theorem wW (os : Os) (started : os.Started) (H : Type) (enc : TypeId × Value → H) :
  ReturnsInHanded {} Tryz.checked os 6 .any (Rows.floodingFullSpec.pre6 enc Tryz.prog Tryz.f6 Rows.floodingFullRow.domain false) (Rows.floodingFullSpec.post enc Tryz.prog Tryz.f6 false true false false) := by
 refine returnsInHanded_of_change (C := Tryz.checked) abu started (by kernel_rfl) Tryz.func6
  (ChangeSpec.witness6 (enc := enc) (C := Tryz.checked) false ⟨#[], #[.int .u8 0], []⟩ 8 (by kernel_rfl) (by kernel_rfl) (by kernel_rfl) (by kernel_rfl)) ?_
 intro W base args ds gs before ae0 hW hcnd _
 exact acH z8 (TB := 4) (by kernel_rfl) Tryz.underlying4 rfl (by rw [Tryz.params6]; intro t ht; simp only [List.mem_cons, List.not_mem_nil, or_false] at ht; subst ht; exact ⟨by kernel_rfl, by decide +kernel⟩) x8 z7 aaa W base args ds gs before ae0 hW
theorem law_holds : Rows.FloodingFullSaid :=
 OpenClaim.holds_of_wide 6 Tryz.f6 rfl rfl rfl rfl rfl rfl rfl ⟨rfl, rfl, rfl, rfl, rfl⟩ rfl rfl rfl rfl rfl (by kernel_rfl) Tryz.func6 (by kernel_rfl)
  (of_decide_eq_true (by kernel_rfl)) (by unfold Func.isWrapper; first | (rw [if_pos (by decide +kernel)]; kernel_rfl) | (rw [if_neg (by decide +kernel)]; exact ⟨rfl, rfl⟩))
  (fun os started H enc _ => wW os started H enc)
end Go.Proofs.YtpmifmdidfgpdaaGreat
