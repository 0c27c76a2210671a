/- A part of the proof; the last text says of what. No condition but those that stand in each. -/
import Derived.JoinedOf
import Derived.ChangeAt
import Derived.WideShapes
import Derived.KernelRfl
import Derived.Test.YtemmkpdjmgafoaaGreatDoorRows
import Derived.SevenTiedAt
import Derived.Test.YtemmkpdjmgafoaaGreatDoorCards
namespace Go.Proofs.YtemmkpdjmgafoaaGreatDoor
set_option linter.all false
set_option maxRecDepth 100000
section
open Go Go.Proofs.Tryz Go.ChangeShapes Go.WideShapes Go.ChangeAt
def Tx:(laidOutB prog)=true:=by kernel_rfl
def Ty:(mapsRowed prog)=true:=by kernel_rfl
def Tz:((Rows.topSentRow.inPlace==prog.inPlace 3))=true:=by kernel_rfl
def QO:((Rows.topSentRow.unfollowed==prog.unfollowed 3))=true:=by kernel_rfl
def QS:((Rows.topSentRow.recurses==prog.recurses 3))=true:=by kernel_rfl
def QT:((Rows.topSentRow.named==prog.varsNamed 3))=true:=by kernel_rfl
def QU:((Rows.topSentRow.plainKeys==prog.plainKeys))=true:=by kernel_rfl
def QV:(prog.stopsHeard)=true:=by kernel_rfl
def QW:(prog.mayEnter)=true:=by kernel_rfl
def TA:(Rows.topSentRow.wf (OpenSpec.ofChange Rows.topSentSpec))=true:=by kernel_rfl
def TB:(Tryz.f3.params.all (prog.readableRec ·))=true:=by kernel_rfl
def TC:(namedTie prog Rows.topSentRow.named Rows.topSentSpec.vars)=true:=by kernel_rfl
def TD:((Rows.topSentRow.stops==[]))=true:=by kernel_rfl
def TE:((prog.stops==[]))=true:=by kernel_rfl
def TF:((Rows.topSentRow.knobs==[]))=true:=by kernel_rfl
def TG:((prog.stopKnobs==[]))=true:=by kernel_rfl
def QX:((Rows.topSentRow.maps==(Tryz.f3.params.toList++Rows.topSentSpec.plain.varTypes prog).any (prog.mapsRec ·)))=true:=by kernel_rfl
def R1:((Rows.topSentRow.ifaces==(Tryz.f3.params.toList++Rows.topSentSpec.plain.varTypes prog).any (prog.ifacesRec ·)))=true:=by kernel_rfl
def R2:((Rows.topSentRow.mapsOut==prog.mapsAmong Tryz.f3.resultTypes.toList))=true:=by kernel_rfl
def R3:((Rows.topSentRow.loops==(Tryz.f3.params.toList++Rows.topSentSpec.plain.varTypes prog).any (prog.loopsFrom ·)))=true:=by kernel_rfl
def R4:((Rows.topSentRow.wideKeys==(Tryz.f3.params.toList++Rows.topSentSpec.plain.varTypes prog++Tryz.f3.resultTypes.toList).any (prog.wideKeysFrom ·)))=true:=by kernel_rfl
def R5:(Rows.topSentSpec.vars.all (prog.varReadable ·))=true:=by kernel_rfl
def R6:(Tryz.f3.resultTypes.all (λt=>prog.readableRec t&&decide (t<prog.types.size)))=true:=by kernel_rfl
def R7:((Rows.topSentRow.ifacesOut==Tryz.f3.resultTypes.toList.any (prog.ifacesRec ·)))=true:=by kernel_rfl
def R8:((Rows.topSentRow.loopsOut==Tryz.f3.resultTypes.toList.any (prog.loopsFrom ·)))=true:=by kernel_rfl
def R9:(Rows.topSentRow.shortTexts.isNone)=true:=by kernel_rfl
def Sa:((Rows.topSentRow.lifted==prog.liftsFinal))=true:=by kernel_rfl
def Sb:((prog.make==some Rows.topSentRow.make))=true:=by kernel_rfl
def Sc:((Rows.topSentRow.kinds==(if Rows.topSentRow.domain.isEmpty then[]else Tryz.f3.params.toList.map λt=>match prog.underlying t with|some (.int k)=>some k|_=>none)))=true:=by kernel_rfl
def Sd:((Rows.topSentRow.pinned==Rows.topSentRow.pinnedBy))=true:=by kernel_rfl
def Se:((Rows.topSentRow.veiled==(Tryz.f3.params.toList++Rows.topSentSpec.plain.varTypes prog++Tryz.f3.resultTypes.toList).any (prog.veiledRec ·)))=true:=by kernel_rfl
def Sf:(Rows.topSentRow.veiledFits prog Tryz.f3.params.toList (Tryz.f3.params.toList++Rows.topSentSpec.plain.varTypes prog++Tryz.f3.resultTypes.toList))=true:=by kernel_rfl
def hf{a b:Bool}(h:a=true)(k:b=true):(a&&b)=true:=by rw[h,k];rfl
def Yj:joinedFacts prog 3 Tryz.f3 Rows.topSentSpec Rows.topSentRow=true:=hf (hf (hf (hf (hf (hf (hf (hf (hf (hf (hf (hf (hf (hf (hf (hf (hf (hf (hf (hf (hf (hf (hf (hf (hf (hf (hf (hf (hf (hf (hf (TA) Tx) Ty) TB) TC) TD) TE) TF) TG) Tz) QO) QS) QT) QX) R1) R2) R3) R4) R5) R6) R7) R8) QU) R9) QV) QW) Sa) Sb) Sc) Sd) Se) Sf
def LO:prog.funcNamed "bitcast/bitcasttop.TopSent"=some 3:=by kernel_rfl
def Y4:Tryz.f3.isInstance prog Rows.topSentRow.origin Rows.topSentRow.targs:=of_decide_eq_true (by kernel_rfl)
def Y5:Tryz.f3.isWrapper prog Rows.topSentRow.wrapper Rows.topSentRow.mainSum:=by unfold Func.isWrapper;first|(rw[if_pos (by decide +kernel)];kernel_rfl)|(rw[if_neg (by decide +kernel)];exact⟨rfl,rfl⟩)
def Y6(h:∀(os:Os) (b:os.Started) (a:Type) (enc:TypeId×Value->a),ReturnsInHanded {} Tryz.checked os 3 .any (λw args=>(Rows.topSentSpec.pre enc prog Tryz.f3 [] false w args/\laidMetH prog [("math/bits.deBruijn64tab",Rows.laid_math_bits_deBruijn64tab)] w)/\sizedMet enc prog Tryz.f3 (OpenSpec.ofChange Rows.topSentSpec) false w args) (Rows.topSentSpec.post enc prog Tryz.f3 false true false false)):Rows.TopSentSaid:=
 OpenClaim.holds_of_wide 3 Tryz.f3 rfl rfl rfl rfl rfl rfl rfl ⟨rfl,rfl,rfl,rfl,rfl⟩ rfl rfl rfl rfl rfl LO func3 Yj Y4 Y5
  (λos b a enc _=>h os b a enc)
end
section
open Go Go.Proofs.Tryz
def Y7:prog.mainIs=some (true,"1cec89473cb6b996ef1b33a6c79064273c8c2af9e717569c2ace4b89794d9f03".toList):=by kernel_rfl
def Yk:false=prog.looks []:=by kernel_rfl
def Y8:false=Rows.topSentRow.goesBy prog:=by kernel_rfl
end
end Go.Proofs.YtemmkpdjmgafoaaGreatDoor
