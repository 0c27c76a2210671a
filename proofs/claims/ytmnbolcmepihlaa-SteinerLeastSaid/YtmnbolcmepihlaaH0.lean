/- The law wB returns true for every input, and leaves the input as it was. No condition. -/
import Derived.Test.YtmnbolcmepihlaaVL0
import Derived.Test.YtmnbolcmepihlaaPR0
namespace Go.Proofs.Ytmnbolcmepihlaa
set_option linter.all false
open Go Go.Proofs.Try Go.ChangeShapes Go.WideShapes Go.ChangeAt Go.RowKit
set_option maxRecDepth 100000
theorem opn3:Opn prog 3 aB.enc aB.sz:=acy underlying3 (by kernel_rfl)
theorem ahJ:Opn prog 22 (eL aB).enc (eL aB).sz:=yE (e:=aB) underlying22 (by kernel_rfl) opn3 (by decide)
def wD(b:(List Int)×Unit):List AV:=[.lst false (ml aB b.1)]
def zi(b:(List Int)×Unit):Prop:=True∧True
theorem zj:vA prog Try.f3.params.toList wD zi:=by
 rw[Try.params3]
 exact yG (acz (av:=λx=>.lst false (ml aB x)) ahJ (yF underlying22)) (zN)
theorem aav(b:(List Int)×Unit)(hb:zi b):RO prog 3 [] (wD b) (.bool true):=mW (qd b.1)
theorem ac6:ownKnob prog.godebug=none:=by kernel_rfl
theorem aaw:laidOutB prog=true:=by kernel_rfl
theorem aax{H:Type}:∀ds:List (DataW H),ds.length=Try.f3.params.size→(Rows.steinerLeastSpec.fn H ds).results=[.lit (.bool true)]∧(Rows.steinerLeastSpec.fn H ds).args=ds∧(Rows.steinerLeastSpec.fn H ds).vars=[]:=by
 intro ds hd
 have hd:ds.length=1:=hd
 match ds,hd with
 |[_],_=>exact⟨rfl,rfl,rfl⟩
theorem yb(os:Os)(started:os.Started)(H:Type)(enc:TypeId×Value→H):
  ReturnsInHanded {} Try.checked os 3 .any (Rows.steinerLeastSpec.pre6 enc prog Try.f3 Rows.steinerLeastRow.domain false) (Rows.steinerLeastSpec.post enc prog Try.f3 false true false false):=by
 refine returnsInHanded_of_change (C:=Try.checked) ac6 started (by kernel_rfl) func3
  (ChangeSpec.witness6 (enc:=enc) (C:=Try.checked) false ⟨#[],#[.slice none 0 0],[]⟩ 8 (by kernel_rfl) (by kernel_rfl) (by kernel_rfl) (by kernel_rfl)) ?_
 intro W base args ds gs before ahK hW hcnd _
 exact zO aaw (TB:=4) (by kernel_rfl) underlying4 rfl (by rw[Try.params3];intro t ht;simp only[List.mem_cons,List.not_mem_nil,or_false]at ht;subst ht;exact⟨by kernel_rfl,by decide +kernel⟩) zj aav aax W base args ds gs before ahK hW
theorem law_holds:Rows.SteinerLeastSaid:=
 OpenClaim.holds_of_wide 3 Try.f3 rfl rfl rfl rfl rfl rfl rfl ⟨rfl,rfl,rfl,rfl,rfl⟩ rfl rfl rfl rfl rfl (by kernel_rfl) func3 (by kernel_rfl)
  (of_decide_eq_true (by kernel_rfl)) (by unfold Func.isWrapper;first|(rw[if_pos (by decide +kernel)];kernel_rfl)|(rw[if_neg (by decide +kernel)];exact⟨rfl,rfl⟩))
  (λos started H enc _=>yb os started H enc)
end Go.Proofs.Ytmnbolcmepihlaa
