/- The law xe returns true for every input, and leaves the input as it was. No condition. -/
import Derived.Test.YtmnbolcmepihlaaGreatVL5
import Derived.Test.YtmnbolcmepihlaaGreatPR5
namespace Go.Proofs.YtmnbolcmepihlaaGreat
set_option linter.all false
open Go Go.Proofs.Tryz Go.ChangeShapes Go.WideShapes Go.ChangeAt Go.RowKit
set_option maxRecDepth 100000
theorem opn3:Opn prog 3 aB.enc aB.sz:=ahW underlying3 (by kernel_rfl)
theorem aoP:Opn prog 22 (eL aB).enc (eL aB).sz:=ac5 (e:=aB) underlying22 (by kernel_rfl) opn3 (by decide)
def aaz(b:(List Int)×Unit):List AV:=[.lst false (ml aB b.1)]
def adW(b:(List Int)×Unit):Prop:=True∧True
theorem adX:zF prog Tryz.f4.params.toList aaz adW:=by
 rw[Tryz.params4]
 exact ac7 (ahX (av:=λx=>.lst false (ml aB x)) aoP (ac6 underlying22)) (aeB)
theorem afD(b:(List Int)×Unit)(hb:adW b):RO prog 4 [] (aaz b) (.bool true):=oD (rD b.1)
theorem aiG:ownKnob prog.godebug=none:=by kernel_rfl
theorem afE:laidOutB prog=true:=by kernel_rfl
theorem afF{H:Type}:∀ds:List (DataW H),ds.length=Tryz.f4.params.size→(Rows.capacityWitnessSpec.fn H ds).results=[.lit (.bool true)]∧(Rows.capacityWitnessSpec.fn H ds).args=ds∧(Rows.capacityWitnessSpec.fn H ds).vars=[]:=by
 intro ds hd
 have hd:ds.length=1:=hd
 match ds,hd with
 |[_],_=>exact⟨rfl,rfl,rfl⟩
theorem acC(os:Os)(started:os.Started)(H:Type)(enc:TypeId×Value→H):
  ReturnsInHanded {} Tryz.checked os 4 .any (Rows.capacityWitnessSpec.pre6 enc prog Tryz.f4 Rows.capacityWitnessRow.domain false) (Rows.capacityWitnessSpec.post enc prog Tryz.f4 false true false false):=by
 refine returnsInHanded_of_change (C:=Tryz.checked) aiG started (by kernel_rfl) func4
  (ChangeSpec.witness6 (enc:=enc) (C:=Tryz.checked) false ⟨#[],#[.slice none 0 0],[]⟩ 8 (by kernel_rfl) (by kernel_rfl) (by kernel_rfl) (by kernel_rfl)) ?_
 intro W base args ds gs before aoQ hW hcnd _
 exact aeC afE (TB:=4) (by kernel_rfl) underlying4 rfl (by rw[Tryz.params4];intro t ht;simp only[List.mem_cons,List.not_mem_nil,or_false]at ht;subst ht;exact⟨by kernel_rfl,by decide +kernel⟩) adX afD afF W base args ds gs before aoQ hW
theorem law_holds:Rows.CapacityWitnessSaid:=
 OpenClaim.holds_of_wide 4 Tryz.f4 rfl rfl rfl rfl rfl rfl rfl ⟨rfl,rfl,rfl,rfl,rfl⟩ rfl rfl rfl rfl rfl (by kernel_rfl) func4 (by kernel_rfl)
  (of_decide_eq_true (by kernel_rfl)) (by unfold Func.isWrapper;first|(rw[if_pos (by decide +kernel)];kernel_rfl)|(rw[if_neg (by decide +kernel)];exact⟨rfl,rfl⟩))
  (λos started H enc _=>acC os started H enc)
end Go.Proofs.YtmnbolcmepihlaaGreat
