/- The law afl returns true for every input, and leaves the input as it was. No condition. -/
import Derived.Test.YtdjeacigeegklaaGreatB6
import Derived.Test.YtdjeacigeegklaaGreatVL7
import Derived.Test.YtdjeacigeegklaaGreatPX7
namespace Go.Proofs.YtdjeacigeegklaaGreat
set_option linter.all false
open Go Go.Proofs.Tryz Go.ChangeShapes Go.WideShapes Go.ChangeAt Go.RowKit
set_option maxRecDepth 100000
theorem opn3:Opn prog 3 aA.enc aA.sz:=aqu underlying3 (by kernel_rfl)
theorem ayb:Opn prog 22 (eL aA).enc (eL aA).sz:=ajv (e:=aA) underlying22 (by kernel_rfl) opn3 (by decide)
def agZ(b:(List Int)×Unit):List AV:=[.lst false (ml aA b.1)]
def ake(b:(List Int)×Unit):Prop:=True∧True
theorem akf:afX prog Tryz.f7.params.toList agZ ake:=by
 rw[Tryz.params7]
 exact ajx (aqv (av:=λx=>.lst false (ml aA x)) ayb (ajw underlying22)) (alC)
theorem amA(b:(List Int)×Unit)(hb:ake b):RO prog 7 [] (agZ b) (.bool true):=we (zz b.1)
theorem aq6:ownKnob prog.godebug=none:=by kernel_rfl
theorem amB:laidOutB prog=true:=by kernel_rfl
theorem amC{H:Type}:∀ds:List (DataW H),ds.length=Tryz.f7.params.size→(Rows.patchProtectsSpec.fn H ds).results=[.lit (.bool true)]∧(Rows.patchProtectsSpec.fn H ds).args=ds∧(Rows.patchProtectsSpec.fn H ds).vars=[]:=by
 intro ds hd
 have hd:ds.length=1:=hd
 match ds,hd with
 |[_],_=>exact⟨rfl,rfl,rfl⟩
theorem ai4(os:Os)(started:os.Started)(H:Type)(enc:TypeId×Value→H):
  ReturnsInHanded {} Tryz.checked os 7 .any (Rows.patchProtectsSpec.pre6 enc prog Tryz.f7 Rows.patchProtectsRow.domain false) (Rows.patchProtectsSpec.post enc prog Tryz.f7 false true false false):=by
 refine returnsInHanded_of_change (C:=Tryz.checked) aq6 started (by kernel_rfl) func7
  (ChangeSpec.witness6 (enc:=enc) (C:=Tryz.checked) false ⟨#[],#[.slice none 0 0],[]⟩ 8 (by kernel_rfl) (by kernel_rfl) (by kernel_rfl) (by kernel_rfl)) ?_
 intro W base args ds gs before ayc hW hcnd _
 exact alD amB (TB:=4) (by kernel_rfl) underlying4 rfl (by rw[Tryz.params7];intro t ht;simp only[List.mem_cons,List.not_mem_nil,or_false]at ht;subst ht;exact⟨by kernel_rfl,by decide +kernel⟩) akf amA amC W base args ds gs before ayc hW
theorem law_holds:Rows.PatchProtectsSaid:=
 OpenClaim.holds_of_wide 7 Tryz.f7 rfl rfl rfl rfl rfl rfl rfl ⟨rfl,rfl,rfl,rfl,rfl⟩ rfl rfl rfl rfl rfl (by kernel_rfl) func7 (by kernel_rfl)
  (of_decide_eq_true (by kernel_rfl)) (by unfold Func.isWrapper;first|(rw[if_pos (by decide +kernel)];kernel_rfl)|(rw[if_neg (by decide +kernel)];exact⟨rfl,rfl⟩))
  (λos started H enc _=>ai4 os started H enc)
end Go.Proofs.YtdjeacigeegklaaGreat
