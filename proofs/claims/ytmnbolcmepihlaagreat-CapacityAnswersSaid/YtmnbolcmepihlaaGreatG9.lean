/- bh bg BG to bg RU. cf ch cT bg one bK DP KS. -/
import Derived.Test.YtmnbolcmepihlaaGreatZ1
import Derived.Test.YtmnbolcmepihlaaGreatRows
namespace Go.Proofs.YtmnbolcmepihlaaGreat
set_option linter.all false
open Go Go.Proofs.Tryz Go.ChangeShapes Go.WideShapes Go.ChangeAt Go.RowKit
set_option maxRecDepth 100000
theorem aeg(h:∀(os:Os) (Dv:os.Started) (H:Type) (enc:TypeId×Value→H),ReturnsInHanded {} Tryz.checked os 8 .any (Rows.capacityAnswersSpec.pre6 enc prog Tryz.f8 Rows.capacityAnswersRow.domain false) (Rows.capacityAnswersSpec.post enc prog Tryz.f8 false true false false)):Rows.CapacityAnswersSaid:=
 OpenClaim.holds_of_wide 8 Tryz.f8 rfl rfl rfl rfl rfl rfl rfl ⟨rfl,rfl,rfl,rfl,rfl⟩ rfl rfl rfl rfl rfl (by kernel_rfl) func8 (by kernel_rfl)
  (of_decide_eq_true (by kernel_rfl)) (by unfold Func.isWrapper;first|(rw[if_pos (by decide +kernel)];kernel_rfl)|(rw[if_neg (by decide +kernel)];exact⟨rfl,rfl⟩))
  (λos Dv H enc _=>h os Dv H enc)
end Go.Proofs.YtmnbolcmepihlaaGreat
