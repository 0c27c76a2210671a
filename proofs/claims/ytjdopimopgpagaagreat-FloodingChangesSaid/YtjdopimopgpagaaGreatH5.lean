/- The law abW returns true for every input, and leaves the input as it was. No condition. -/
import Derived.Test.YtjdopimopgpagaaGreatB6
import Derived.Test.YtjdopimopgpagaaGreatVL5
import Derived.Test.YtjdopimopgpagaaGreatPG9
namespace Go.Proofs.YtjdopimopgpagaaGreat
set_option linter.all false
open Go Go.Proofs.Tryz Go.ChangeShapes Go.WideShapes Go.ChangeAt Go.RowKit
set_option maxRecDepth 100000
theorem acJ:Opn prog 3 bO.enc bO.sz:=amj underlying3 (by kernel_rfl)
theorem atq:Opn prog 22 (eL bO).enc (eL bO).sz:=acW (e:=bO) underlying22 (by kernel_rfl) acJ (by decide)
theorem atr:Opn prog 86 az.enc az.sz:=(af3 underlying86 (by kernel_rfl) (by kernel_rfl) (tN acJ (tN acJ (tN acJ (tN acJ (tN acJ aiB)))))).iso (λp=>aK.mk p.1 p.2.1 p.2.2.1 p.2.2.2.1 p.2.2.2.2.1) (λ_=>rfl)
theorem att:Opn prog 23 (eL az).enc (eL az).sz:=acW (e:=az) underlying23 (by kernel_rfl) atr (by decide)
def aeP(b:(List Int)×(List aK)×Unit):List AV:=[.lst false (ml bO b.1),.lst false (ml az b.2.1)]
def ahJ(b:(List Int)×(List aK)×Unit):Prop:=True∧True∧True
theorem ahK:ad1 prog Tryz.f8.params.toList aeP ahJ:=by
 rw[Tryz.params8]
 exact acY (afg (av:=λx=>.lst false (ml bO x)) atq (acX underlying22)) (acY (afg (av:=λx=>.lst false (ml az x)) att (acX underlying23)) (aiC))
theorem ajj(b:(List Int)×(List aK)×Unit)(hb:ahJ b):RO prog 8 [] (aeP b) (.bool true):=uy (xe b.1 b.2.1)
theorem amK:ownKnob prog.godebug=none:=by kernel_rfl
theorem ajk:laidOutB prog=true:=by kernel_rfl
theorem ajl{H:Type}:∀ds:List (DataW H),ds.length=Tryz.f8.params.size→(Rows.floodingChangesSpec.fn H ds).results=[.lit (.bool true)]∧(Rows.floodingChangesSpec.fn H ds).args=ds∧(Rows.floodingChangesSpec.fn H ds).vars=[]:=by
 intro ds hd
 have hd:ds.length=2:=hd
 match ds,hd with
 |[_,_],_=>exact⟨rfl,rfl,rfl⟩
theorem agI(os:Os)(started:os.Started)(H:Type)(enc:TypeId×Value→H):
  ReturnsInHanded {} Tryz.checked os 8 .any (Rows.floodingChangesSpec.pre6 enc prog Tryz.f8 Rows.floodingChangesRow.domain false) (Rows.floodingChangesSpec.post enc prog Tryz.f8 false true false false):=by
 refine returnsInHanded_of_change (C:=Tryz.checked) amK started (by kernel_rfl) func8
  (ChangeSpec.witness6 (enc:=enc) (C:=Tryz.checked) false ⟨#[],#[.slice none 0 0,.slice none 0 0],[]⟩ 8 (by kernel_rfl) (by kernel_rfl) (by kernel_rfl) (by kernel_rfl)) ?_
 intro W base args ds gs before atu hW hcnd _
 exact aiD ajk (TB:=4) (by kernel_rfl) underlying4 rfl (by rw[Tryz.params8];intro t ht;simp only[List.mem_cons,List.not_mem_nil,or_false]at ht;rcases ht with rfl|rfl<;>exact⟨by kernel_rfl,by decide +kernel⟩) ahK ajj ajl W base args ds gs before atu hW
theorem law_holds:Rows.FloodingChangesSaid:=
 OpenClaim.holds_of_wide 8 Tryz.f8 rfl rfl rfl rfl rfl rfl rfl ⟨rfl,rfl,rfl,rfl,rfl⟩ rfl rfl rfl rfl rfl (by kernel_rfl) func8 (by kernel_rfl)
  (of_decide_eq_true (by kernel_rfl)) (by unfold Func.isWrapper;first|(rw[if_pos (by decide +kernel)];kernel_rfl)|(rw[if_neg (by decide +kernel)];exact⟨rfl,rfl⟩))
  (λos started H enc _=>agI os started H enc)
end Go.Proofs.YtjdopimopgpagaaGreat
