/- The law abd returns true for every input, and leaves the input as it was. No condition. -/
import Derived.Test.YtmnbolcmepihlaaGreatVL8
import Derived.Test.YtmnbolcmepihlaaGreatPR8
namespace Go.Proofs.YtmnbolcmepihlaaGreat
set_option linter.all false
open Go Go.Proofs.Tryz Go.ChangeShapes Go.WideShapes Go.ChangeAt Go.RowKit
set_option maxRecDepth 100000
theorem opn3:Opn prog 3 ak.enc ak.sz:=als underlying3 (by kernel_rfl)
theorem asO:Opn prog 22 (eL ak).enc (eL ak).sz:=agb (e:=ak) underlying22 (by kernel_rfl) opn3 (by decide)
def adE(b:(List Int)×Unit):List AV:=[.lst false (ml ak b.1)]
def aha(b:(List Int)×Unit):Prop:=True∧True
theorem ahb:acB prog Tryz.f7.params.toList adE aha:=by
 rw[Tryz.params7];exact agd (alu (av:=λx=>.lst false (ml ak x)) asO (agc underlying22)) (ahO)
theorem aja(b:(List Int)×Unit)(hb:aha b):RO prog 7 [] (adE b) (.bool true):=rW (vV b.1)
theorem amd:ownKnob prog.godebug=none:=by kernel_rfl
theorem ajb:laidOutB prog=true:=by kernel_rfl
theorem ajc{H:Type}:∀ds:List (DataW H),ds.length=Tryz.f7.params.size→(Rows.capacityPlacesSpec.fn H ds).results=[.lit (.bool true)]∧(Rows.capacityPlacesSpec.fn H ds).args=ds∧(Rows.capacityPlacesSpec.fn H ds).vars=[]:=by
 intro ds hd;have hd:ds.length=1:=hd
 match ds,hd with
 |[_],_=>exact⟨rfl,rfl,rfl⟩
theorem afI(os:Os)(started:os.Started)(H:Type)(enc:TypeId×Value→H):
  ReturnsInHanded {} Tryz.checked os 7 .any (Rows.capacityPlacesSpec.pre6 enc prog Tryz.f7 Rows.capacityPlacesRow.domain false) (Rows.capacityPlacesSpec.post enc prog Tryz.f7 false true false false):=by
 refine returnsInHanded_of_change (C:=Tryz.checked) amd started (by kernel_rfl) func7
  (ChangeSpec.witness6 (enc:=enc) (C:=Tryz.checked) false ⟨#[],#[.slice none 0 0],[]⟩ 8 (by kernel_rfl) (by kernel_rfl) (by kernel_rfl) (by kernel_rfl)) ?_
 intro W base args ds gs before asP hW hcnd _;exact ahP ajb (TB:=4) (by kernel_rfl) underlying4 rfl (by rw[Tryz.params7];intro t ht;simp only[List.mem_cons,List.not_mem_nil,or_false]at ht;subst ht;exact⟨by kernel_rfl,by decide +kernel⟩) ahb aja ajc W base args ds gs before asP hW
theorem law_holds:Rows.CapacityPlacesSaid:=
 OpenClaim.holds_of_wide 7 Tryz.f7 rfl rfl rfl rfl rfl rfl rfl ⟨rfl,rfl,rfl,rfl,rfl⟩ rfl rfl rfl rfl rfl (by kernel_rfl) func7 (by kernel_rfl)
  (of_decide_eq_true (by kernel_rfl)) (by unfold Func.isWrapper;first|(rw[if_pos (by decide +kernel)];kernel_rfl)|(rw[if_neg (by decide +kernel)];exact⟨rfl,rfl⟩))
  (λos started H enc _=>afI os started H enc)
end Go.Proofs.YtmnbolcmepihlaaGreat
