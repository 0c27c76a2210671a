/- The law aiK returns true for every input, and leaves the input as it was. No condition. -/
import Derived.Test.YtdjeacigeegklaaGreatB6
import Derived.Test.YtdjeacigeegklaaGreatVL8
import Derived.Test.YtdjeacigeegklaaGreatPX8
namespace Go.Proofs.YtdjeacigeegklaaGreat
set_option linter.all false
open Go Go.Proofs.Tryz Go.ChangeShapes Go.WideShapes Go.ChangeAt Go.RowKit
set_option maxRecDepth 100000
theorem opn3:Opn prog 3 aA.enc aA.sz:=aqm underlying3 (by kernel_rfl)
theorem aya:Opn prog 22 (eL aA).enc (eL aA).sz:=ajd (e:=aA) underlying22 (by kernel_rfl) opn3 (by decide)
def agJ(b:(List Int)×Unit):List AV:=[.lst false (ml aA b.1)]
def ajY(b:(List Int)×Unit):Prop:=True∧True
theorem ajZ:afK prog Tryz.f8.params.toList agJ ajY:=by
 rw[Tryz.params8]
 exact ajf (aqn (av:=λx=>.lst false (ml aA x)) aya (aje underlying22)) (alp)
theorem amq(b:(List Int)×Unit)(hb:ajY b):RO prog 8 [] (agJ b) (.bool true):=yf (acz b.1)
theorem aq0:ownKnob prog.godebug=none:=by kernel_rfl
theorem amr:laidOutB prog=true:=by kernel_rfl
theorem ams{H:Type}:∀ds:List (DataW H),ds.length=Tryz.f8.params.size→(Rows.patchQuietSpec.fn H ds).results=[.lit (.bool true)]∧(Rows.patchQuietSpec.fn H ds).args=ds∧(Rows.patchQuietSpec.fn H ds).vars=[]:=by
 intro ds hd
 have hd:ds.length=1:=hd
 match ds,hd with
 |[_],_=>exact⟨rfl,rfl,rfl⟩
theorem aiL(os:Os)(started:os.Started)(H:Type)(enc:TypeId×Value→H):
  ReturnsInHanded {} Tryz.checked os 8 .any (Rows.patchQuietSpec.pre6 enc prog Tryz.f8 Rows.patchQuietRow.domain false) (Rows.patchQuietSpec.post enc prog Tryz.f8 false true false false):=by
 refine returnsInHanded_of_change (C:=Tryz.checked) aq0 started (by kernel_rfl) func8
  (ChangeSpec.witness6 (enc:=enc) (C:=Tryz.checked) false ⟨#[],#[.slice none 0 0],[]⟩ 8 (by kernel_rfl) (by kernel_rfl) (by kernel_rfl) (by kernel_rfl)) ?_
 intro W base args ds gs before ayb hW hcnd _
 exact alq amr (TB:=4) (by kernel_rfl) underlying4 rfl (by rw[Tryz.params8];intro t ht;simp only[List.mem_cons,List.not_mem_nil,or_false]at ht;subst ht;exact⟨by kernel_rfl,by decide +kernel⟩) ajZ amq ams W base args ds gs before ayb hW
theorem law_holds:Rows.PatchQuietSaid:=
 OpenClaim.holds_of_wide 8 Tryz.f8 rfl rfl rfl rfl rfl rfl rfl ⟨rfl,rfl,rfl,rfl,rfl⟩ rfl rfl rfl rfl rfl (by kernel_rfl) func8 (by kernel_rfl)
  (of_decide_eq_true (by kernel_rfl)) (by unfold Func.isWrapper;first|(rw[if_pos (by decide +kernel)];kernel_rfl)|(rw[if_neg (by decide +kernel)];exact⟨rfl,rfl⟩))
  (λos started H enc _=>aiL os started H enc)
end Go.Proofs.YtdjeacigeegklaaGreat
