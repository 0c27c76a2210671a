/- The law aag returns true for every input, and leaves the input as it was. No condition. -/
import Derived.Test.YtdjeacigeegklaaGreatB6
import Derived.Test.YtdjeacigeegklaaGreatVL4
import Derived.Test.YtdjeacigeegklaaGreatPX4
namespace Go.Proofs.YtdjeacigeegklaaGreat
set_option linter.all false
open Go Go.Proofs.Tryz Go.ChangeShapes Go.WideShapes Go.ChangeAt Go.RowKit
set_option maxRecDepth 100000
theorem lG:Opn prog 3 aB.enc aB.sz:=afg underlying3 (by kernel_rfl)
theorem aBn:Opn prog 22 (eL aB).enc (eL aB).sz:=tu (e:=aB) underlying22 (by kernel_rfl) lG (by decide)
theorem aBo:Opn prog 38 ay.enc ay.sz:=(mw underlying38 (by kernel_rfl) (by kernel_rfl) (dM lG (dM lG (dM lG (dM lG o4))))).iso (λp=>ak.mk p.1 p.2.1 p.2.2.1 p.2.2.2.1) (λ_=>rfl)
theorem aBp:Opn prog 30 (eL ay).enc (eL ay).sz:=tu (e:=ay) underlying30 (by kernel_rfl) aBo (by decide)
theorem aBq:Opn prog 32 ij.enc ij.sz:=(mw underlying32 (by kernel_rfl) (by kernel_rfl) (dM lG (dM aBp o4))).iso (λp=>aG.mk p.1 p.2.1) (λ_=>rfl)
theorem aBr:Opn prog 89 bJ.enc bJ.sz:=(mw underlying89 (by kernel_rfl) (by kernel_rfl) (dM lG (dM lG (dM lG (dM lG (dM lG o4)))))).iso (λp=>bt.mk p.1 p.2.1 p.2.2.1 p.2.2.2.1 p.2.2.2.2.1) (λ_=>rfl)
theorem aBs:Opn prog 26 (eL bJ).enc (eL bJ).sz:=tu (e:=bJ) underlying26 (by kernel_rfl) aBr (by decide)
theorem opn4:Opn prog 4 eG.enc eG.sz:=alu underlying4 (by kernel_rfl)
theorem aBt:Opn prog 42 aJ.enc aJ.sz:=(mw underlying42 (by kernel_rfl) (by kernel_rfl) (dM lG (dM opn4 o4))).iso (λp=>aY.mk p.1 p.2.1) (λ_=>rfl)
theorem aBu:Opn prog 25 (eL aJ).enc (eL aJ).sz:=tu (e:=aJ) underlying25 (by kernel_rfl) aBt (by decide)
theorem aBv:Opn prog 28 lD.enc lD.sz:=(mw underlying28 (by kernel_rfl) (by kernel_rfl) (dM aBu (dM aBs o4))).iso (λp=>af.mk p.1 p.2.1) (λ_=>rfl)
theorem opn9:Opn prog 9 atF.enc atF.sz:=arv underlying9 (by kernel_rfl)
theorem aBw:Opn prog 34 (eK .u64).enc (eK .u64).sz:=afg underlying34 (by kernel_rfl)
theorem aBx:Opn prog 36 iL.enc iL.sz:=(mw underlying36 (by kernel_rfl) (by kernel_rfl) (dM lG (dM lG (dM lG (dM lG (dM lG (dM lG (dM lG (dM lG (dM aBw (dM opn9 o4))))))))))).iso (λp=>aD.mk p.1 p.2.1 p.2.2.1 p.2.2.2.1 p.2.2.2.2.1 p.2.2.2.2.2.1 p.2.2.2.2.2.2.1 p.2.2.2.2.2.2.2.1 p.2.2.2.2.2.2.2.2.1 p.2.2.2.2.2.2.2.2.2.1) (λ_=>rfl)
theorem aBy:Opn prog 67 bR.enc bR.sz:=(mw underlying67 (by kernel_rfl) (by kernel_rfl) (dM lG (dM lG o4))).iso (λp=>cB.mk p.1 p.2.1) (λ_=>rfl)
theorem aBz:Opn prog 61 (eL bR).enc (eL bR).sz:=tu (e:=bR) underlying61 (by kernel_rfl) aBy (by decide)
theorem aBA:Opn prog 63 qg.enc qg.sz:=(mw underlying63 (by kernel_rfl) (by kernel_rfl) (dM lG (dM aBz o4))).iso (λp=>cM.mk p.1 p.2.1) (λ_=>rfl)
def aeP(b:(List Int)×aG×af×aD×cM×Int×Unit):List AV:=[.lst false (ml aB b.1),.agg (ij.enc b.2.1),.agg (lD.enc b.2.2.1),.agg (iL.enc b.2.2.2.1),.agg (qg.enc b.2.2.2.2.1),.int .i64 b.2.2.2.2.2.1]
def aih(b:(List Int)×aG×af×aD×cM×Int×Unit):Prop:=True∧True∧True∧True∧True∧True∧True
theorem aii:ad4 prog Tryz.f5.params.toList aeP aih:=by
 rw[Tryz.params5]
 exact ry (afh (av:=λx=>.lst false (ml aB x)) aBn (ahz underlying22)) (ry (zK (enc:=ij.enc) underlying32 aBq) (ry (zK (enc:=lD.enc) underlying28 aBv) (ry (zK (enc:=iL.enc) underlying36 aBx) (ry (zK (enc:=qg.enc) underlying63 aBA) (ry (afh (av:=λx=>.int .i64 x) lG (arw underlying3)) (alw))))))
theorem amm(b:(List Int)×aG×af×aD×cM×Int×Unit)(hb:aih b):RO prog 5 [] (aeP b) (.bool true):=s7 (vt b.1 b.2.1 b.2.2.1 b.2.2.2.1 b.2.2.2.2.1 b.2.2.2.2.2.1)
theorem ar4:ownKnob prog.godebug=none:=by kernel_rfl
theorem amn:laidOutB prog=true:=by kernel_rfl
theorem amo{H:Type}:∀ds:List (DataW H),ds.length=Tryz.f5.params.size→(Rows.engineeredAnswersSpec.fn H ds).results=[.lit (.bool true)]∧(Rows.engineeredAnswersSpec.fn H ds).args=ds∧(Rows.engineeredAnswersSpec.fn H ds).vars=[]:=by
 intro ds hd
 have hd:ds.length=6:=hd
 match ds,hd with
 |[_,_,_,_,_,_],_=>exact⟨rfl,rfl,rfl⟩
theorem agZ(os:Os)(started:os.Started)(H:Type)(enc:TypeId×Value→H):
  ReturnsInHanded {} Tryz.checked os 5 .any (Rows.engineeredAnswersSpec.pre6 enc prog Tryz.f5 Rows.engineeredAnswersRow.domain false) (Rows.engineeredAnswersSpec.post enc prog Tryz.f5 false true false false):=by
 refine returnsInHanded_of_change (C:=Tryz.checked) ar4 started (by kernel_rfl) func5
  (ChangeSpec.witness6 (enc:=enc) (C:=Tryz.checked) false ⟨#[],#[.slice none 0 0,.agg #[.int .i64 0,.slice none 0 0],.agg #[.slice none 0 0,.slice none 0 0],.agg #[.int .i64 0,.int .i64 0,.int .i64 0,.int .i64 0,.int .i64 0,.int .i64 0,.int .i64 0,.int .i64 0,.int .u64 0,.string ⟨#[]⟩],.agg #[.int .i64 0,.slice none 0 0],.int .i64 0],[]⟩ 8 (by kernel_rfl) (by kernel_rfl) (by kernel_rfl) (by kernel_rfl)) ?_
 intro W base args ds gs before aBB hW hcnd _
 exact alx amn (TB:=4) (by kernel_rfl) underlying4 rfl (by rw[Tryz.params5];intro t ht;simp only[List.mem_cons,List.not_mem_nil,or_false]at ht;rcases ht with rfl|rfl|rfl|rfl|rfl|rfl<;>exact⟨by kernel_rfl,by decide +kernel⟩) aii amm amo W base args ds gs before aBB hW
theorem law_holds:Rows.EngineeredAnswersSaid:=
 OpenClaim.holds_of_wide 5 Tryz.f5 rfl rfl rfl rfl rfl rfl rfl ⟨rfl,rfl,rfl,rfl,rfl⟩ rfl rfl rfl rfl rfl (by kernel_rfl) func5 (by kernel_rfl)
  (of_decide_eq_true (by kernel_rfl)) (by unfold Func.isWrapper;first|(rw[if_pos (by decide +kernel)];kernel_rfl)|(rw[if_neg (by decide +kernel)];exact⟨rfl,rfl⟩))
  (λos started H enc _=>agZ os started H enc)
end Go.Proofs.YtdjeacigeegklaaGreat
