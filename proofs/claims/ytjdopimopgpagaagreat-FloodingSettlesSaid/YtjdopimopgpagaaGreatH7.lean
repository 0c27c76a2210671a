/- The law abS returns true for every input, and leaves the input as it was. No condition. -/
import Derived.Test.YtjdopimopgpagaaGreatB6
import Derived.Test.YtjdopimopgpagaaGreatVL7
import Derived.Test.YtjdopimopgpagaaGreatPS9
namespace Go.Proofs.YtjdopimopgpagaaGreat
set_option linter.all false
open Go Go.Proofs.Tryz Go.ChangeShapes Go.WideShapes Go.ChangeAt Go.RowKit
set_option maxRecDepth 100000
theorem opn3:Opn prog 3 bg.enc bg.sz:=amq underlying3 (by kernel_rfl)
theorem ati:Opn prog 22 (eL bg).enc (eL bg).sz:=ag8 (e:=bg) underlying22 (by kernel_rfl) opn3 (by decide)
def aeT(b:(List Int)×Unit):List AV:=[.lst false (ml bg b.1)]
def ahP(b:(List Int)×Unit):Prop:=True∧True
theorem ahQ:ad0 prog Tryz.f4.params.toList aeT ahP:=by
 rw[Tryz.params4]
 exact aha (amr (av:=λx=>.lst false (ml bg x)) ati (ag9 underlying22)) (aiH)
theorem ajt(b:(List Int)×Unit)(hb:ahP b):RO prog 4 [] (aeT b) (.bool true):=uF (xw b.1)
theorem amQ:ownKnob prog.godebug=none:=by kernel_rfl
theorem aju:laidOutB prog=true:=by kernel_rfl
theorem ajv{H:Type}:∀ds:List (DataW H),ds.length=Tryz.f4.params.size→(Rows.floodingSettlesSpec.fn H ds).results=[.lit (.bool true)]∧(Rows.floodingSettlesSpec.fn H ds).args=ds∧(Rows.floodingSettlesSpec.fn H ds).vars=[]:=by
 intro ds hd
 have hd:ds.length=1:=hd
 match ds,hd with
 |[_],_=>exact⟨rfl,rfl,rfl⟩
theorem agE(os:Os)(started:os.Started)(H:Type)(enc:TypeId×Value→H):
  ReturnsInHanded {} Tryz.checked os 4 .any (Rows.floodingSettlesSpec.pre6 enc prog Tryz.f4 Rows.floodingSettlesRow.domain false) (Rows.floodingSettlesSpec.post enc prog Tryz.f4 false true false false):=by
 refine returnsInHanded_of_change (C:=Tryz.checked) amQ started (by kernel_rfl) func4
  (ChangeSpec.witness6 (enc:=enc) (C:=Tryz.checked) false ⟨#[],#[.slice none 0 0],[]⟩ 8 (by kernel_rfl) (by kernel_rfl) (by kernel_rfl) (by kernel_rfl)) ?_
 intro W base args ds gs before atj hW hcnd _
 exact aiI aju (TB:=4) (by kernel_rfl) underlying4 rfl (by rw[Tryz.params4];intro t ht;simp only[List.mem_cons,List.not_mem_nil,or_false]at ht;subst ht;exact⟨by kernel_rfl,by decide +kernel⟩) ahQ ajt ajv W base args ds gs before atj hW
theorem law_holds:Rows.FloodingSettlesSaid:=
 OpenClaim.holds_of_wide 4 Tryz.f4 rfl rfl rfl rfl rfl rfl rfl ⟨rfl,rfl,rfl,rfl,rfl⟩ rfl rfl rfl rfl rfl (by kernel_rfl) func4 (by kernel_rfl)
  (of_decide_eq_true (by kernel_rfl)) (by unfold Func.isWrapper;first|(rw[if_pos (by decide +kernel)];kernel_rfl)|(rw[if_neg (by decide +kernel)];exact⟨rfl,rfl⟩))
  (λos started H enc _=>agE os started H enc)
end Go.Proofs.YtjdopimopgpagaaGreat
