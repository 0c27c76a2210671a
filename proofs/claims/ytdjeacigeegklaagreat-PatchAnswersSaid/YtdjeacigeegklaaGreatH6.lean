/- The law afW returns true for every input, and leaves the input as it was. No condition. -/
import Derived.Test.YtdjeacigeegklaaGreatB6
import Derived.Test.YtdjeacigeegklaaGreatVL6
import Derived.Test.YtdjeacigeegklaaGreatPX6
namespace Go.Proofs.YtdjeacigeegklaaGreat
set_option linter.all false
open Go Go.Proofs.Tryz Go.ChangeShapes Go.WideShapes Go.ChangeAt Go.RowKit
set_option maxRecDepth 100000
theorem mU:Opn prog 3 aA.enc aA.sz:=ago underlying3 (by kernel_rfl)
theorem ah2:Opn prog 22 (eL aA).enc (eL aA).sz:=uw (e:=aA) underlying22 (by kernel_rfl) mU (by decide)
theorem axp:Opn prog 38 ak.enc ak.sz:=(nA underlying38 (by kernel_rfl) (by kernel_rfl) (dY mU (dY mU (dY mU (dY mU qb))))).iso (λp=>az.mk p.1 p.2.1 p.2.2.1 p.2.2.2.1) (λ_=>rfl)
theorem axq:Opn prog 30 (eL ak).enc (eL ak).sz:=uw (e:=ak) underlying30 (by kernel_rfl) axp (by decide)
theorem axr:Opn prog 32 iS.enc iS.sz:=(nA underlying32 (by kernel_rfl) (by kernel_rfl) (dY mU (dY axq qb))).iso (λp=>aF.mk p.1 p.2.1) (λ_=>rfl)
theorem axt:Opn prog 89 aS.enc aS.sz:=(nA underlying89 (by kernel_rfl) (by kernel_rfl) (dY mU (dY mU (dY mU (dY mU (dY mU qb)))))).iso (λp=>bn.mk p.1 p.2.1 p.2.2.1 p.2.2.2.1 p.2.2.2.2.1) (λ_=>rfl)
theorem axu:Opn prog 26 (eL aS).enc (eL aS).sz:=uw (e:=aS) underlying26 (by kernel_rfl) axt (by decide)
theorem opn4:Opn prog 4 eV.enc eV.sz:=akx underlying4 (by kernel_rfl)
theorem axv:Opn prog 42 aC.enc aC.sz:=(nA underlying42 (by kernel_rfl) (by kernel_rfl) (dY mU (dY opn4 qb))).iso (λp=>aQ.mk p.1 p.2.1) (λ_=>rfl)
theorem axw:Opn prog 25 (eL aC).enc (eL aC).sz:=uw (e:=aC) underlying25 (by kernel_rfl) axv (by decide)
theorem axx:Opn prog 28 gL.enc gL.sz:=(nA underlying28 (by kernel_rfl) (by kernel_rfl) (dY axw (dY axu qb))).iso (λp=>aa.mk p.1 p.2.1) (λ_=>rfl)
theorem axy:Opn prog 67 bM.enc bM.sz:=(nA underlying67 (by kernel_rfl) (by kernel_rfl) (dY mU (dY mU qb))).iso (λp=>bU.mk p.1 p.2.1) (λ_=>rfl)
theorem axz:Opn prog 61 (eL bM).enc (eL bM).sz:=uw (e:=bM) underlying61 (by kernel_rfl) axy (by decide)
theorem atM:Opn prog 100 nB.enc nB.sz:=(nA underlying100 (by kernel_rfl) (by kernel_rfl) (dY axz (dY ah2 qb))).iso (λp=>aO.mk p.1 p.2.1) (λ_=>rfl)
theorem opn9:Opn prog 9 ari.enc ari.sz:=apo underlying9 (by kernel_rfl)
theorem axA:Opn prog 34 (eK .u64).enc (eK .u64).sz:=ago underlying34 (by kernel_rfl)
theorem axB:Opn prog 36 ku.enc ku.sz:=(nA underlying36 (by kernel_rfl) (by kernel_rfl) (dY mU (dY mU (dY mU (dY mU (dY mU (dY mU (dY mU (dY mU (dY axA (dY opn9 qb))))))))))).iso (λp=>aH.mk p.1 p.2.1 p.2.2.1 p.2.2.2.1 p.2.2.2.2.1 p.2.2.2.2.2.1 p.2.2.2.2.2.2.1 p.2.2.2.2.2.2.2.1 p.2.2.2.2.2.2.2.2.1 p.2.2.2.2.2.2.2.2.2.1) (λ_=>rfl)
def afX(b:(List Int)×aF×aa×aO×aH×(List Int)×Int×Unit):List AV:=[.lst false (ml aA b.1),.agg (iS.enc b.2.1),.agg (gL.enc b.2.2.1),.agg (nB.enc b.2.2.2.1),.agg (ku.enc b.2.2.2.2.1),.lst false (ml aA b.2.2.2.2.2.1),.int .i64 b.2.2.2.2.2.2.1]
def aja(b:(List Int)×aF×aa×aO×aH×(List Int)×Int×Unit):Prop:=True∧True∧True∧True∧True∧True∧True∧True
theorem ajb:ae5 prog Tryz.f6.params.toList afX aja:=by
 rw[Tryz.params6]
 exact qc (ade (av:=λx=>.lst false (ml aA x)) ah2 (adQ underlying22)) (qc (aaJ (enc:=iS.enc) underlying32 axr) (qc (aaJ (enc:=gL.enc) underlying28 axx) (qc (aaJ (enc:=nB.enc) underlying100 atM) (qc (aaJ (enc:=ku.enc) underlying36 axB) (qc (ade (av:=λx=>.lst false (ml aA x)) ah2 (adQ underlying22)) (qc (ade (av:=λx=>.int .i64 x) mU (apq underlying3)) (akz)))))))
theorem alp(b:(List Int)×aF×aa×aO×aH×(List Int)×Int×Unit)(hb:aja b):RO prog 6 [] (afX b) (.bool true):=wY (aas b.1 b.2.1 b.2.2.1 b.2.2.2.1 b.2.2.2.2.1 b.2.2.2.2.2.1 b.2.2.2.2.2.2.1)
theorem apY:ownKnob prog.godebug=none:=by kernel_rfl
theorem alq:laidOutB prog=true:=by kernel_rfl
theorem alr{H:Type}:∀ds:List (DataW H),ds.length=Tryz.f6.params.size→(Rows.patchAnswersSpec.fn H ds).results=[.lit (.bool true)]∧(Rows.patchAnswersSpec.fn H ds).args=ds∧(Rows.patchAnswersSpec.fn H ds).vars=[]:=by
 intro ds hd
 have hd:ds.length=7:=hd
 match ds,hd with
 |[_,_,_,_,_,_,_],_=>exact⟨rfl,rfl,rfl⟩
theorem ah3(os:Os)(started:os.Started)(H:Type)(enc:TypeId×Value→H):
  ReturnsInHanded {} Tryz.checked os 6 .any (Rows.patchAnswersSpec.pre6 enc prog Tryz.f6 Rows.patchAnswersRow.domain false) (Rows.patchAnswersSpec.post enc prog Tryz.f6 false true false false):=by
 refine returnsInHanded_of_change (C:=Tryz.checked) apY started (by kernel_rfl) func6
  (ChangeSpec.witness6 (enc:=enc) (C:=Tryz.checked) false ⟨#[],#[.slice none 0 0,.agg #[.int .i64 0,.slice none 0 0],.agg #[.slice none 0 0,.slice none 0 0],.agg #[.slice none 0 0,.slice none 0 0],.agg #[.int .i64 0,.int .i64 0,.int .i64 0,.int .i64 0,.int .i64 0,.int .i64 0,.int .i64 0,.int .i64 0,.int .u64 0,.string ⟨#[]⟩],.slice none 0 0,.int .i64 0],[]⟩ 8 (by kernel_rfl) (by kernel_rfl) (by kernel_rfl) (by kernel_rfl)) ?_
 intro W base args ds gs before axC hW hcnd _
 exact akA alq (TB:=4) (by kernel_rfl) underlying4 rfl (by rw[Tryz.params6];intro t ht;simp only[List.mem_cons,List.not_mem_nil,or_false]at ht;rcases ht with rfl|rfl|rfl|rfl|rfl|rfl|rfl<;>exact⟨by kernel_rfl,by decide +kernel⟩) ajb alp alr W base args ds gs before axC hW
theorem law_holds:Rows.PatchAnswersSaid:=
 OpenClaim.holds_of_wide 6 Tryz.f6 rfl rfl rfl rfl rfl rfl rfl ⟨rfl,rfl,rfl,rfl,rfl⟩ rfl rfl rfl rfl rfl (by kernel_rfl) func6 (by kernel_rfl)
  (of_decide_eq_true (by kernel_rfl)) (by unfold Func.isWrapper;first|(rw[if_pos (by decide +kernel)];kernel_rfl)|(rw[if_neg (by decide +kernel)];exact⟨rfl,rfl⟩))
  (λos started H enc _=>ah3 os started H enc)
end Go.Proofs.YtdjeacigeegklaaGreat
