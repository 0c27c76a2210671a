/- The law adH returns true for every input, and leaves the input as it was. No condition. -/
import Derived.Test.YtjdopimopgpagaaGreatB6
import Derived.Test.YtjdopimopgpagaaGreatVL8
import Derived.Test.YtjdopimopgpagaaGreatPH9
namespace Go.Proofs.YtjdopimopgpagaaGreat
set_option linter.all false
open Go Go.Proofs.Tryz Go.ChangeShapes Go.WideShapes Go.ChangeAt Go.RowKit
set_option maxRecDepth 100000
theorem opn3:Opn prog 3 bK.enc bK.sz:=amN underlying3 (by kernel_rfl)
theorem atF:Opn prog 22 (eL bK).enc (eL bK).sz:=ahA (e:=bK) underlying22 (by kernel_rfl) opn3 (by decide)
def afa(b:(List Int)×Unit):List AV:=[.lst false (ml bK b.1)]
def aij(b:(List Int)×Unit):Prop:=True∧True
theorem aik:aek prog Tryz.f10.params.toList afa aij:=by
 rw[Tryz.params10]
 exact ahC (amO (av:=λx=>.lst false (ml bK x)) atF (ahB underlying22)) (ai6)
theorem ajP(b:(List Int)×Unit)(hb:aij b):RO prog 10 [] (afa b) (.bool true):=vP (yU b.1)
theorem ang:ownKnob prog.godebug=none:=by kernel_rfl
theorem ajQ:laidOutB prog=true:=by kernel_rfl
theorem ajR{H:Type}:∀ds:List (DataW H),ds.length=Tryz.f10.params.size→(Rows.floodingHealsSpec.fn H ds).results=[.lit (.bool true)]∧(Rows.floodingHealsSpec.fn H ds).args=ds∧(Rows.floodingHealsSpec.fn H ds).vars=[]:=by
 intro ds hd
 have hd:ds.length=1:=hd
 match ds,hd with
 |[_],_=>exact⟨rfl,rfl,rfl⟩
theorem ag8(os:Os)(started:os.Started)(H:Type)(enc:TypeId×Value→H):
  ReturnsInHanded {} Tryz.checked os 10 .any (Rows.floodingHealsSpec.pre6 enc prog Tryz.f10 Rows.floodingHealsRow.domain false) (Rows.floodingHealsSpec.post enc prog Tryz.f10 false true false false):=by
 refine returnsInHanded_of_change (C:=Tryz.checked) ang started (by kernel_rfl) func10
  (ChangeSpec.witness6 (enc:=enc) (C:=Tryz.checked) false ⟨#[],#[.slice none 0 0],[]⟩ 8 (by kernel_rfl) (by kernel_rfl) (by kernel_rfl) (by kernel_rfl)) ?_
 intro W base args ds gs before atG hW hcnd _
 exact ai7 ajQ (TB:=4) (by kernel_rfl) underlying4 rfl (by rw[Tryz.params10];intro t ht;simp only[List.mem_cons,List.not_mem_nil,or_false]at ht;subst ht;exact⟨by kernel_rfl,by decide +kernel⟩) aik ajP ajR W base args ds gs before atG hW
theorem law_holds:Rows.FloodingHealsSaid:=
 OpenClaim.holds_of_wide 10 Tryz.f10 rfl rfl rfl rfl rfl rfl rfl ⟨rfl,rfl,rfl,rfl,rfl⟩ rfl rfl rfl rfl rfl (by kernel_rfl) func10 (by kernel_rfl)
  (of_decide_eq_true (by kernel_rfl)) (by unfold Func.isWrapper;first|(rw[if_pos (by decide +kernel)];kernel_rfl)|(rw[if_neg (by decide +kernel)];exact⟨rfl,rfl⟩))
  (λos started H enc _=>ag8 os started H enc)
end Go.Proofs.YtjdopimopgpagaaGreat
