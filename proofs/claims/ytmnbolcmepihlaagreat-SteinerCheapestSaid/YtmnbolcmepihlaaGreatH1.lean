/- The law xK returns true for every input, and leaves the input as it was. No condition. -/
import Derived.Test.YtmnbolcmepihlaaGreatVL1
import Derived.Test.YtmnbolcmepihlaaGreatPR1
namespace Go.Proofs.YtmnbolcmepihlaaGreat
set_option linter.all false
open Go Go.Proofs.Tryz Go.ChangeShapes Go.WideShapes Go.ChangeAt Go.RowKit
set_option maxRecDepth 100000
theorem opn3:Opn prog 3 ai.enc ai.sz:=ah3 underlying3 (by kernel_rfl)
theorem aoO:Opn prog 22 (eL ai).enc (eL ai).sz:=adh (e:=ai) underlying22 (by kernel_rfl) opn3 (by decide)
def aaY(b:(List Int)×Unit):List AV:=[.lst false (ml ai b.1)]
def ad1(b:(List Int)×Unit):Prop:=True∧True
theorem ad2:aaa prog Tryz.f3.params.toList aaY ad1:=by
 rw[Tryz.params3]
 exact adj (ah4 (av:=λx=>.lst false (ml ai x)) aoO (adi underlying22)) (aeM)
theorem afR(b:(List Int)×Unit)(hb:ad1 b):RO prog 3 [] (aaY b) (.bool true):=o7 (rW b.1)
theorem aiD:ownKnob prog.godebug=none:=by kernel_rfl
theorem afS:laidOutB prog=true:=by kernel_rfl
theorem afT{H:Type}:∀ds:List (DataW H),ds.length=Tryz.f3.params.size→(Rows.steinerCheapestSpec.fn H ds).results=[.lit (.bool true)]∧(Rows.steinerCheapestSpec.fn H ds).args=ds∧(Rows.steinerCheapestSpec.fn H ds).vars=[]:=by
 intro ds hd
 have hd:ds.length=1:=hd
 match ds,hd with
 |[_],_=>exact⟨rfl,rfl,rfl⟩
theorem acK(os:Os)(started:os.Started)(H:Type)(enc:TypeId×Value→H):
  ReturnsInHanded {} Tryz.checked os 3 .any (Rows.steinerCheapestSpec.pre6 enc prog Tryz.f3 Rows.steinerCheapestRow.domain false) (Rows.steinerCheapestSpec.post enc prog Tryz.f3 false true false false):=by
 refine returnsInHanded_of_change (C:=Tryz.checked) aiD started (by kernel_rfl) func3
  (ChangeSpec.witness6 (enc:=enc) (C:=Tryz.checked) false ⟨#[],#[.slice none 0 0],[]⟩ 8 (by kernel_rfl) (by kernel_rfl) (by kernel_rfl) (by kernel_rfl)) ?_
 intro W base args ds gs before aoP hW hcnd _
 exact aeN afS (TB:=4) (by kernel_rfl) underlying4 rfl (by rw[Tryz.params3];intro t ht;simp only[List.mem_cons,List.not_mem_nil,or_false]at ht;subst ht;exact⟨by kernel_rfl,by decide +kernel⟩) ad2 afR afT W base args ds gs before aoP hW
theorem law_holds:Rows.SteinerCheapestSaid:=
 OpenClaim.holds_of_wide 3 Tryz.f3 rfl rfl rfl rfl rfl rfl rfl ⟨rfl,rfl,rfl,rfl,rfl⟩ rfl rfl rfl rfl rfl (by kernel_rfl) func3 (by kernel_rfl)
  (of_decide_eq_true (by kernel_rfl)) (by unfold Func.isWrapper;first|(rw[if_pos (by decide +kernel)];kernel_rfl)|(rw[if_neg (by decide +kernel)];exact⟨rfl,rfl⟩))
  (λos started H enc _=>acK os started H enc)
end Go.Proofs.YtmnbolcmepihlaaGreat
