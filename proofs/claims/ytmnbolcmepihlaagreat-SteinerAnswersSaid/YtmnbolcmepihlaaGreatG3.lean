/- A part of the proof; the last text says of what. No condition but those that stand in each. -/
import Derived.JoinedOf
import Derived.ChangeAt
import Derived.WideShapes
import Derived.KernelRfl
import Derived.Test.YtmnbolcmepihlaaGreatRows
namespace Go.Proofs.YtmnbolcmepihlaaGreat
set_option linter.all false
open Go Go.Proofs.Tryz Go.ChangeShapes Go.WideShapes Go.ChangeAt
set_option maxRecDepth 100000
theorem KV(h:∀(os:Os) (ae1:os.Started) (H:Type) (enc:TypeId×Value→H),ReturnsInHanded {} Tryz.checked os 10 .any (Rows.steinerAnswersSpec.pre6 enc prog Tryz.f10 Rows.steinerAnswersRow.domain false) (Rows.steinerAnswersSpec.post enc prog Tryz.f10 false true false false)):Rows.SteinerAnswersSaid:=
 OpenClaim.holds_of_wide 10 Tryz.f10 rfl rfl rfl rfl rfl rfl rfl ⟨rfl,rfl,rfl,rfl,rfl⟩ rfl rfl rfl rfl rfl (by kernel_rfl) func10 (by kernel_rfl)
  (of_decide_eq_true (by kernel_rfl)) (by unfold Func.isWrapper;first|(rw[if_pos (by decide +kernel)];kernel_rfl)|(rw[if_neg (by decide +kernel)];exact⟨rfl,rfl⟩))
  (λos ae1 H enc _=>h os ae1 H enc)
end Go.Proofs.YtmnbolcmepihlaaGreat
