/- The law aa5 returns true for every input, and leaves the input as it was. No condition. -/
import Derived.Test.YtmnbolcmepihlaaGreatVL6
import Derived.Test.YtmnbolcmepihlaaGreatPR6
namespace Go.Proofs.YtmnbolcmepihlaaGreat
set_option linter.all false
open Go Go.Proofs.Tryz Go.ChangeShapes Go.WideShapes Go.ChangeAt Go.RowKit
set_option maxRecDepth 100000
theorem opn3:Opn prog 3 aj.enc aj.sz:=alp underlying3 (by kernel_rfl)
theorem asT:Opn prog 22 (eL aj).enc (eL aj).sz:=afV (e:=aj) underlying22 (by kernel_rfl) opn3 (by decide)
def adu(b:(List Int)×Unit):List AV:=[.lst false (ml aj b.1)]
def agX(b:(List Int)×Unit):Prop:=True∧True
theorem agY:acy prog Tryz.f5.params.toList adu agX:=by
 rw[Tryz.params5];exact afX (alq (av:=λx=>.lst false (ml aj x)) asT (afW underlying22)) (ahD)
theorem aiX(b:(List Int)×Unit)(hb:agX b):RO prog 5 [] (adu b) (.bool true):=rL (vN b.1)
theorem ama:ownKnob prog.godebug=none:=by kernel_rfl
theorem aiY:laidOutB prog=true:=by kernel_rfl
theorem aiZ{H:Type}:∀ds:List (DataW H),ds.length=Tryz.f5.params.size→(Rows.capacitySingleSpec.fn H ds).results=[.lit (.bool true)]∧(Rows.capacitySingleSpec.fn H ds).args=ds∧(Rows.capacitySingleSpec.fn H ds).vars=[]:=by
 intro ds hd;have hd:ds.length=1:=hd
 match ds,hd with
 |[_],_=>exact⟨rfl,rfl,rfl⟩
theorem afr(os:Os)(started:os.Started)(H:Type)(enc:TypeId×Value→H):
  ReturnsInHanded {} Tryz.checked os 5 .any (Rows.capacitySingleSpec.pre6 enc prog Tryz.f5 Rows.capacitySingleRow.domain false) (Rows.capacitySingleSpec.post enc prog Tryz.f5 false true false false):=by
 refine returnsInHanded_of_change (C:=Tryz.checked) ama started (by kernel_rfl) func5
  (ChangeSpec.witness6 (enc:=enc) (C:=Tryz.checked) false ⟨#[],#[.slice none 0 0],[]⟩ 8 (by kernel_rfl) (by kernel_rfl) (by kernel_rfl) (by kernel_rfl)) ?_
 intro W base args ds gs before asU hW hcnd _;exact ahE aiY (TB:=4) (by kernel_rfl) underlying4 rfl (by rw[Tryz.params5];intro t ht;simp only[List.mem_cons,List.not_mem_nil,or_false]at ht;subst ht;exact⟨by kernel_rfl,by decide +kernel⟩) agY aiX aiZ W base args ds gs before asU hW
theorem law_holds:Rows.CapacitySingleSaid:=
 OpenClaim.holds_of_wide 5 Tryz.f5 rfl rfl rfl rfl rfl rfl rfl ⟨rfl,rfl,rfl,rfl,rfl⟩ rfl rfl rfl rfl rfl (by kernel_rfl) func5 (by kernel_rfl)
  (of_decide_eq_true (by kernel_rfl)) (by unfold Func.isWrapper;first|(rw[if_pos (by decide +kernel)];kernel_rfl)|(rw[if_neg (by decide +kernel)];exact⟨rfl,rfl⟩))
  (λos started H enc _=>afr os started H enc)
end Go.Proofs.YtmnbolcmepihlaaGreat
