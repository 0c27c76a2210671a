/- br aQ tC to aQ Gd. bD bE bU aQ one bt AZ A3. -/
import Derived.Test.YtmnbolcmepihlaaGreatZ2
import Derived.Test.YtmnbolcmepihlaaGreatRows
namespace Go.Proofs.YtmnbolcmepihlaaGreat
set_option linter.all false
open Go Go.Proofs.Tryz Go.ChangeShapes Go.WideShapes Go.ChangeAt Go.RowKit
set_option maxRecDepth 100000
theorem acf(h:∀(os:Os) (Dq:os.Started) (H:Type) (enc:TypeId×Value→H),ReturnsInHanded {} Tryz.checked os 11 .any (Rows.steinerBoundsSpec.pre6 enc prog Tryz.f11 Rows.steinerBoundsRow.domain false) (Rows.steinerBoundsSpec.post enc prog Tryz.f11 false true false false)):Rows.SteinerBoundsSaid:=
 OpenClaim.holds_of_wide 11 Tryz.f11 rfl rfl rfl rfl rfl rfl rfl ⟨rfl,rfl,rfl,rfl,rfl⟩ rfl rfl rfl rfl rfl (by kernel_rfl) func11 (by kernel_rfl)
  (of_decide_eq_true (by kernel_rfl)) (by unfold Func.isWrapper;first|(rw[if_pos (by decide +kernel)];kernel_rfl)|(rw[if_neg (by decide +kernel)];exact⟨rfl,rfl⟩))
  (λos Dq H enc _=>h os Dq H enc)
end Go.Proofs.YtmnbolcmepihlaaGreat
