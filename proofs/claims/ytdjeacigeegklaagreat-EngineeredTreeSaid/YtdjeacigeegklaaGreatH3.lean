/- The law aae returns true for every input, and leaves the input as it was. No condition. -/
import Derived.Test.YtdjeacigeegklaaGreatB6
import Derived.Test.YtdjeacigeegklaaGreatVL3
import Derived.Test.YtdjeacigeegklaaGreatPX3
namespace Go.Proofs.YtdjeacigeegklaaGreat
set_option linter.all false
open Go Go.Proofs.Tryz Go.ChangeShapes Go.WideShapes Go.ChangeAt Go.RowKit
set_option maxRecDepth 100000
theorem opn3:Opn prog 3 aG.enc aG.sz:=akJ underlying3 (by kernel_rfl)
theorem ar4:Opn prog 22 (eL aG).enc (eL aG).sz:=aeB (e:=aG) underlying22 (by kernel_rfl) opn3 (by decide)
def acn(b:(List Int)×Unit):List AV:=[.lst false (ml aG b.1)]
def afh(b:(List Int)×Unit):Prop:=True∧True
theorem afi:abt prog Tryz.f4.params.toList acn afh:=by
 rw[Tryz.params4]
 exact aeD (akK (av:=λx=>.lst false (ml aG x)) ar4 (aeC underlying22)) (age)
theorem ag8(b:(List Int)×Unit)(hb:afh b):RO prog 4 [] (acn b) (.bool true):=qY (uU b.1)
theorem alm:ownKnob prog.godebug=none:=by kernel_rfl
theorem ag9:laidOutB prog=true:=by kernel_rfl
theorem aha{H:Type}:∀ds:List (DataW H),ds.length=Tryz.f4.params.size→(Rows.engineeredTreeSpec.fn H ds).results=[.lit (.bool true)]∧(Rows.engineeredTreeSpec.fn H ds).args=ds∧(Rows.engineeredTreeSpec.fn H ds).vars=[]:=by
 intro ds hd
 have hd:ds.length=1:=hd
 match ds,hd with
 |[_],_=>exact⟨rfl,rfl,rfl⟩
theorem ad8(os:Os)(started:os.Started)(H:Type)(enc:TypeId×Value→H):
  ReturnsInHanded {} Tryz.checked os 4 .any (Rows.engineeredTreeSpec.pre6 enc prog Tryz.f4 Rows.engineeredTreeRow.domain false) (Rows.engineeredTreeSpec.post enc prog Tryz.f4 false true false false):=by
 refine returnsInHanded_of_change (C:=Tryz.checked) alm started (by kernel_rfl) func4
  (ChangeSpec.witness6 (enc:=enc) (C:=Tryz.checked) false ⟨#[],#[.slice none 0 0],[]⟩ 8 (by kernel_rfl) (by kernel_rfl) (by kernel_rfl) (by kernel_rfl)) ?_
 intro W base args ds gs before ar5 hW hcnd _
 exact agf ag9 (TB:=4) (by kernel_rfl) underlying4 rfl (by rw[Tryz.params4];intro t ht;simp only[List.mem_cons,List.not_mem_nil,or_false]at ht;subst ht;exact⟨by kernel_rfl,by decide +kernel⟩) afi ag8 aha W base args ds gs before ar5 hW
theorem law_holds:Rows.EngineeredTreeSaid:=
 OpenClaim.holds_of_wide 4 Tryz.f4 rfl rfl rfl rfl rfl rfl rfl ⟨rfl,rfl,rfl,rfl,rfl⟩ rfl rfl rfl rfl rfl (by kernel_rfl) func4 (by kernel_rfl)
  (of_decide_eq_true (by kernel_rfl)) (by unfold Func.isWrapper;first|(rw[if_pos (by decide +kernel)];kernel_rfl)|(rw[if_neg (by decide +kernel)];exact⟨rfl,rfl⟩))
  (λos started H enc _=>ad8 os started H enc)
end Go.Proofs.YtdjeacigeegklaaGreat
