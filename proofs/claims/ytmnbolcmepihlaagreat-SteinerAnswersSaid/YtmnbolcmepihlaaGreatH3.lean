/- The law SteinerAnswers returns true for every input, and leaves the input as it was. No condition. -/
import Derived.Test.YtmnbolcmepihlaaGreatZ2
import Derived.Test.YtmnbolcmepihlaaGreatZ8
import Derived.Test.YtmnbolcmepihlaaGreatZ9
import Derived.Test.YtmnbolcmepihlaaGreatG3
namespace Go.Proofs.YtmnbolcmepihlaaGreat
set_option linter.all false
open Go Go.Proofs.Tryz Go.ChangeShapes Go.WideShapes Go.ChangeAt Go.RowKit
set_option maxRecDepth 100000
theorem k8:gV prog 3 af.enc af.sz:=LK underlying3 (by kernel_rfl)
abbrev AG(_:Int):Prop:=True
theorem Gb:j6 prog 3 af.enc af.sz AG:=(k8).wide
abbrev vu(x:List Int):Prop:=x.length≤reachBytes∧∀a∈x,AG a
theorem zJ:j6 prog 22 (eF af).enc (eF af).sz vu:=CK (e:=af) underlying22 (by kernel_rfl) Gb (by decide) (by decide +kernel)
theorem P7:gV prog 62 cC.enc cC.sz:=(s5 underlying62 (by kernel_rfl) (by kernel_rfl) (jS k8 (jS k8 (jS k8 (jS k8 (jS k8 tK)))))).oA (λp=>bU.mk p.1 p.2.1 p.2.2.1 p.2.2.2.1 p.2.2.2.2.1) (λ_=>rfl)
theorem P8:gV prog 26 (eF cC).enc (eF cC).sz:=B6 (e:=cC) underlying26 (by kernel_rfl) P7 (by decide)
theorem Q8:gV prog 4 eO.enc eO.sz:=KB underlying4 (by kernel_rfl)
theorem PG:gV prog 31 cp.enc cp.sz:=(s5 underlying31 (by kernel_rfl) (by kernel_rfl) (jS k8 (jS Q8 tK))).oA (λp=>ck.mk p.1 p.2.1) (λ_=>rfl)
theorem PI:gV prog 25 (eF cp).enc (eF cp).sz:=B6 (e:=cp) underlying25 (by kernel_rfl) PG (by decide)
theorem PJ:gV prog 28 iA.enc iA.sz:=(s5 underlying28 (by kernel_rfl) (by kernel_rfl) (jS PI (jS P8 tK))).oA (λp=>aK.mk p.1 p.2.1) (λ_=>rfl)
theorem PK:gV prog 84 bl.enc bl.sz:=(s5 underlying84 (by kernel_rfl) (by kernel_rfl) (jS k8 (jS k8 tK))).oA (λp=>aQ.mk p.1 p.2.1) (λ_=>rfl)
theorem PL:gV prog 34 (eF bl).enc (eF bl).sz:=B6 (e:=bl) underlying34 (by kernel_rfl) PK (by decide)
theorem PM:gV prog 36 mu.enc mu.sz:=(s5 underlying36 (by kernel_rfl) (by kernel_rfl) (jS k8 (jS PL tK))).oA (λp=>b0.mk p.1 p.2.1) (λ_=>rfl)
abbrev Gc(x:bI):Prop:=vu x.aP∧AG x.Value∧True
theorem Me:j6 prog 120 bF.enc bF.sz Gc:=(Iq underlying120 (by kernel_rfl) (by kernel_rfl) (CL zJ (CL Gb Jj))).oA (λp=>bI.mk p.1 p.2.1) (λ_=>rfl) (λ_ h=>h)
abbrev GJ(x:List bI):Prop:=x.length≤reachBytes∧∀a∈x,Gc a
theorem Oi:j6 prog 85 (eF bF).enc (eF bF).sz GJ:=CK (e:=bF) underlying85 (by kernel_rfl) Me (by decide) (by decide +kernel)
def Eb(b:(List Int)×aK×b0×(List Int)×(List bI)×Int×Unit):List U:=[.aL false (ag af b.1),.agg (iA.enc b.2.1),.agg (mu.enc b.2.2.1),.aL false (ag af b.2.2.2.1),.aL false (ag bF b.2.2.2.2.1),.int .i64 b.2.2.2.2.2.1]
def Fw(b:(List Int)×aK×b0×(List Int)×(List bI)×Int×Unit):Prop:=vu b.1∧True∧True∧vu b.2.2.2.1∧GJ b.2.2.2.2.1∧True∧True
theorem JX:ru prog Tryz.f10.params.toList Eb Fw:=by
 rw[Tryz.params10];exact qu (yV (bt:=λx=>.aL false (ag af x)) zJ (B7 underlying22)) (qu ((E5 (enc:=iA.enc) underlying28 PJ).wide) (qu ((E5 (enc:=mu.enc) underlying36 PM).wide) (qu (yV (bt:=λx=>.aL false (ag af x)) zJ (B7 underlying22)) (qu (yV (bt:=λx=>.aL false (ag bF x)) Oi (B7 underlying85)) (qu ((LL (bt:=λx=>.int .i64 x) k8 (LM underlying3)).wide) (Jk))))))
theorem KW(b:(List Int)×aK×b0×(List Int)×(List bI)×Int×Unit)(Sk:Fw b):bY prog 10 [] (Eb b) (.bool true):=Rw (RN b.1 b.2.1 b.2.2.1 b.2.2.2.1 b.2.2.2.2.1 b.2.2.2.2.2.1 (Sk.2.2.2.2.1.1) (λc aa=>(Sk.2.2.2.2.1.2 c aa).1.1))
theorem Mf:ownKnob prog.godebug=none:=by kernel_rfl
theorem KX:laidOutB prog=true:=by kernel_rfl
theorem KY{H:Type}:∀b2:List (DataW H),b2.length=Tryz.f10.params.size→(Rows.steinerAnswersSpec.fn H b2).results=[.lit (.bool true)]∧(Rows.steinerAnswersSpec.fn H b2).args=b2∧(Rows.steinerAnswersSpec.fn H b2).vars=[]:=by
 intro b2 Z;have Z:b2.length=6:=Z
 match b2,Z with
 |[_,_,_,_,_,_],_=>exact⟨rfl,rfl,rfl⟩
theorem JD(os:Os)(ae1:os.Started)(H:Type)(enc:TypeId×Value→H):
  ReturnsInHanded {} Tryz.checked os 10 .any (Rows.steinerAnswersSpec.pre6 enc prog Tryz.f10 Rows.steinerAnswersRow.domain false) (Rows.steinerAnswersSpec.post enc prog Tryz.f10 false true false false):=by
 refine LN (C:=Tryz.checked) Mf ae1 (by kernel_rfl) func10
  (ChangeSpec.witness6 (enc:=enc) (C:=Tryz.checked) false ⟨#[],#[.slice none 0 0,.agg #[.slice none 0 0,.slice none 0 0],.agg #[.int .i64 0,.slice none 0 0],.slice none 0 0,.slice none 0 0,.int .i64 0],[]⟩ 8 (by kernel_rfl) (by kernel_rfl) (by kernel_rfl) (by kernel_rfl)) ?_
 intro aH cv args b2 gs Zt amQ Ut hk;exact Jl KX (pq:=4) (by kernel_rfl) underlying4 rfl (by rw[Tryz.params10];intro t S9;simp only[List.mem_cons,List.not_mem_nil,or_false]at S9;rcases S9 with rfl|rfl|rfl|rfl|rfl|rfl<;>exact⟨by kernel_rfl,by decide +kernel⟩) JX KW KY aH cv args b2 gs Zt _ amQ Ut hk
theorem law_holds:Rows.SteinerAnswersSaid:=KV JD
end Go.Proofs.YtmnbolcmepihlaaGreat
