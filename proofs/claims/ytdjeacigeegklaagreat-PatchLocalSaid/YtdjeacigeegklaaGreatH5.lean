/- The law aff returns true for every input, and leaves the input as it was. No condition. -/
import Derived.Test.YtdjeacigeegklaaGreatB6
import Derived.Test.YtdjeacigeegklaaGreatVL5
import Derived.Test.YtdjeacigeegklaaGreatPX5
namespace Go.Proofs.YtdjeacigeegklaaGreat
set_option linter.all false
open Go Go.Proofs.Tryz Go.ChangeShapes Go.WideShapes Go.ChangeAt Go.RowKit
set_option maxRecDepth 100000
theorem opn3:Opn prog 3 aF.enc aF.sz:=apx underlying3 (by kernel_rfl)
theorem azq:Opn prog 22 (eL aF).enc (eL aF).sz:=afL (e:=aF) underlying22 (by kernel_rfl) opn3 (by decide)
def adf(b:(List Int)×Unit):List AV:=[.lst false (ml aF b.1)]
def agt(b:(List Int)×Unit):Prop:=True∧True
theorem agu:acp prog Tryz.f3.params.toList adf agt:=by
 rw[Tryz.params3]
 exact afN (apy (av:=λx=>.lst false (ml aF x)) azq (afM underlying22)) (ajF)
theorem akp(b:(List Int)×Unit)(hb:agt b):RO prog 3 [] (adf b) (.bool true):=uZ (zv b.1)
theorem ap7:ownKnob prog.godebug=none:=by kernel_rfl
theorem akq:laidOutB prog=true:=by kernel_rfl
theorem akr{H:Type}:∀ds:List (DataW H),ds.length=Tryz.f3.params.size→(Rows.patchLocalSpec.fn H ds).results=[.lit (.bool true)]∧(Rows.patchLocalSpec.fn H ds).args=ds∧(Rows.patchLocalSpec.fn H ds).vars=[]:=by
 intro ds hd
 have hd:ds.length=1:=hd
 match ds,hd with
 |[_],_=>exact⟨rfl,rfl,rfl⟩
theorem afg(os:Os)(started:os.Started)(H:Type)(enc:TypeId×Value→H):
  ReturnsInHanded {} Tryz.checked os 3 .any (Rows.patchLocalSpec.pre6 enc prog Tryz.f3 Rows.patchLocalRow.domain false) (Rows.patchLocalSpec.post enc prog Tryz.f3 false true false false):=by
 refine returnsInHanded_of_change (C:=Tryz.checked) ap7 started (by kernel_rfl) func3
  (ChangeSpec.witness6 (enc:=enc) (C:=Tryz.checked) false ⟨#[],#[.slice none 0 0],[]⟩ 8 (by kernel_rfl) (by kernel_rfl) (by kernel_rfl) (by kernel_rfl)) ?_
 intro W base args ds gs before azr hW hcnd _
 exact ajG akq (TB:=4) (by kernel_rfl) underlying4 rfl (by rw[Tryz.params3];intro t ht;simp only[List.mem_cons,List.not_mem_nil,or_false]at ht;subst ht;exact⟨by kernel_rfl,by decide +kernel⟩) agu akp akr W base args ds gs before azr hW
theorem law_holds:Rows.PatchLocalSaid:=
 OpenClaim.holds_of_wide 3 Tryz.f3 rfl rfl rfl rfl rfl rfl rfl ⟨rfl,rfl,rfl,rfl,rfl⟩ rfl rfl rfl rfl rfl (by kernel_rfl) func3 (by kernel_rfl)
  (of_decide_eq_true (by kernel_rfl)) (by unfold Func.isWrapper;first|(rw[if_pos (by decide +kernel)];kernel_rfl)|(rw[if_neg (by decide +kernel)];exact⟨rfl,rfl⟩))
  (λos started H enc _=>afg os started H enc)
end Go.Proofs.YtdjeacigeegklaaGreat
