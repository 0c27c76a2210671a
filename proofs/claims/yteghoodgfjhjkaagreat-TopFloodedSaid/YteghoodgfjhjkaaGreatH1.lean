/- The law TopFlooded returns true for every input, and leaves the input as it was. No condition. -/
import Derived.Test.YteghoodgfjhjkaaGreatZ1
import Derived.Test.YteghoodgfjhjkaaGreatZ3
import Derived.Test.YteghoodgfjhjkaaGreatZ5
namespace Go.Proofs.YteghoodgfjhjkaaGreat
set_option linter.all false
open Go Go.Proofs.Tryz Go.ChangeShapes Go.WideShapes Go.ChangeAt Go.RowKit
set_option maxRecDepth 100000
theorem Sk:qg prog 3 aW.enc aW.sz:=Mh underlying3 (by kernel_rfl)
theorem Qw:qg prog 22 (Hj aW).enc (Hj aW).sz:=KU (e:=aW) underlying22 (by kernel_rfl) Sk (by decide)
def EH(b:(List Int)×Unit):List H:=[.bn false (af aW b.1)]
def F4(b:(List Int)×Unit):Prop:=True∧True
theorem Ll:s0 prog Tryz.f3.params.toList EH F4:=by
 rw[Tryz.params3];exact KW (Mi (bI:=λx=>.bn false (af aW x)) Qw (KV underlying22)) (K7)
theorem Mu(b:(List Int)×Unit)(Tk:F4 b):bB prog 3 [] (EH b) (.bool true):=IQ (Jh b.1)
theorem MD:ownKnob prog.godebug=none:=by kernel_rfl
theorem Mv:laidOutB prog=true:=by kernel_rfl
theorem Mw{eo:Type}:∀b9:List (DataW eo),b9.length=Tryz.f3.params.size→(Rows.topFloodedSpec.fn eo b9).results=[.lit (.bool true)]∧(Rows.topFloodedSpec.fn eo b9).args=b9∧(Rows.topFloodedSpec.fn eo b9).vars=[]:=by
 intro b9 hd;have hd:b9.length=1:=hd
 match b9,hd with
 |[_],_=>exact⟨rfl,rfl,rfl⟩
theorem JY(os:Os)(agb:os.Started)(eo:Type)(enc:TypeId×Value→eo):
  ReturnsInHanded {} Tryz.checked os 3 .any (Rows.topFloodedSpec.pre6 enc prog Tryz.f3 Rows.topFloodedRow.domain false) (Rows.topFloodedSpec.post enc prog Tryz.f3 false true false false):=by
 refine returnsInHanded_of_change (C:=Tryz.checked) MD agb (by kernel_rfl) func3
  (ChangeSpec.witness6 (enc:=enc) (C:=Tryz.checked) false ⟨#[],#[.slice none 0 0],[]⟩ 8 (by kernel_rfl) (by kernel_rfl) (by kernel_rfl) (by kernel_rfl)) ?_
 intro W fx args b9 gs abO alX Wj ara _;exact K8 Mv (qh:=4) (by kernel_rfl) underlying4 rfl (by rw[Tryz.params3];intro t T4;simp only[List.mem_cons,List.not_mem_nil,or_false]at T4;subst T4;exact⟨by kernel_rfl,by decide +kernel⟩) Ll Mu Mw W fx args b9 gs abO alX Wj
theorem law_holds:Rows.TopFloodedSaid:=
 OpenClaim.holds_of_wide 3 Tryz.f3 rfl rfl rfl rfl rfl rfl rfl ⟨rfl,rfl,rfl,rfl,rfl⟩ rfl rfl rfl rfl rfl (by kernel_rfl) func3 (by kernel_rfl)
  (of_decide_eq_true (by kernel_rfl)) (by unfold Func.isWrapper;first|(rw[if_pos (by decide +kernel)];kernel_rfl)|(rw[if_neg (by decide +kernel)];exact⟨rfl,rfl⟩))
  (λos agb eo enc _=>JY os agb eo enc)
end Go.Proofs.YteghoodgfjhjkaaGreat
