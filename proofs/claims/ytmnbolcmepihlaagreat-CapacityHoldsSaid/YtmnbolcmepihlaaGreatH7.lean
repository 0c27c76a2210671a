/- gw ux alu ai9 true for afH ah8, and SU aR ah8 as gI u6. bM bN. -/
import Derived.Test.YtmnbolcmepihlaaGreatVL7
import Derived.Test.YtmnbolcmepihlaaGreatPZ7
namespace Go.Proofs.YtmnbolcmepihlaaGreat
set_option linter.all false
open Go Go.Proofs.Tryz Go.ChangeShapes Go.WideShapes Go.ChangeAt Go.RowKit
set_option maxRecDepth 100000
theorem aiH:yS prog 3 bq.enc bq.sz:=Y5 underlying3 (by kernel_rfl)
theorem aeu:yS prog 22 (RE bq).enc (RE bq).sz:=V7 (e:=bq) underlying22 (by kernel_rfl) aiH (by decide)
def Oh(b:(List Int)×Unit):List U:=[.aX false (aD bq b.1)]
def ON(b:(List Int)×Unit):Prop:=True∧True
theorem WJ:Bp prog Tryz.f6.params.toList Oh ON:=by
 rw[Tryz.params6];exact V9 (Y6 (bE:=λx=>.aX false (aD bq x)) aeu (V8 underlying22)) (Xx)
theorem XZ(b:(List Int)×Unit)(V:ON b):ef prog 6 [] (Oh b) (.bool true):=aiR (akW b.1)
theorem ZN:ownKnob prog.godebug=none:=by kernel_rfl
theorem X0:laidOutB prog=true:=by kernel_rfl
theorem XF{H:Type}:∀ds:List (DataW H),ds.length=Tryz.f6.params.size→(Rows.capacityHoldsSpec.fn H ds).results=[.lit (.bool true)]∧(Rows.capacityHoldsSpec.fn H ds).args=ds∧(Rows.capacityHoldsSpec.fn H ds).vars=[]:=by
 intro ds Z;have Z:ds.length=1:=Z
 match ds,Z with
 |[_],_=>exact⟨rfl,rfl,rfl⟩
theorem Wl(os:Os)(Lp:os.Started)(H:Type)(enc:TypeId×Value→H):
  ReturnsInHanded {} Tryz.checked os 6 .any (Rows.capacityHoldsSpec.pre6 enc prog Tryz.f6 Rows.capacityHoldsRow.domain false) (Rows.capacityHoldsSpec.post enc prog Tryz.f6 false true false false):=by
 refine returnsInHanded_of_change (C:=Tryz.checked) ZN Lp (by kernel_rfl) func6
  (ChangeSpec.witness6 (enc:=enc) (C:=Tryz.checked) false ⟨#[],#[.slice none 0 0],[]⟩ 8 (by kernel_rfl) (by kernel_rfl) (by kernel_rfl) (by kernel_rfl)) ?_
 intro a1 jU args ds gs yW aev i4 anH _;exact Xy X0 (HB:=4) (by kernel_rfl) underlying4 rfl (by rw[Tryz.params6];intro t bB;simp only[List.mem_cons,List.not_mem_nil,or_false]at bB;subst bB;exact⟨by kernel_rfl,by decide +kernel⟩) WJ XZ XF a1 jU args ds gs yW aev i4
theorem law_holds:Rows.CapacityHoldsSaid:=
 OpenClaim.holds_of_wide 6 Tryz.f6 rfl rfl rfl rfl rfl rfl rfl ⟨rfl,rfl,rfl,rfl,rfl⟩ rfl rfl rfl rfl rfl (by kernel_rfl) func6 (by kernel_rfl)
  (of_decide_eq_true (by kernel_rfl)) (by unfold Func.isWrapper;first|(rw[if_pos (by decide +kernel)];kernel_rfl)|(rw[if_neg (by decide +kernel)];exact⟨rfl,rfl⟩))
  (λos Lp H enc _=>Wl os Lp H enc)
end Go.Proofs.YtmnbolcmepihlaaGreat
