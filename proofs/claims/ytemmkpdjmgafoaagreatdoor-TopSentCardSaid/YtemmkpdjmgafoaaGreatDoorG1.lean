/- A part of the proof; the last text says of what. No condition but those that stand in each. -/
import Derived.Test.YtemmkpdjmgafoaaGreatDoorZ2
import Derived.Test.YtemmkpdjmgafoaaGreatDoorZ7
import Derived.Test.YtemmkpdjmgafoaaGreatDoorZ9
import Derived.ProofKit
import Derived.LaidMore
import Derived.OpenShut
import Derived.Stop.Joined
import Derived.Lib.LaidTab
namespace Go.Proofs.YtemmkpdjmgafoaaGreatDoor
set_option linter.all false
set_option maxRecDepth 100000
open Go Go.Proofs.Tryz Go.ChangeShapes Go.WideShapes Go.ChangeAt Go.RowKit
variable {au:Bool}
theorem acY:vg prog 3 aJ.enc aJ.sz:=ZQ underlying3 (by kernel_rfl)
theorem Tw:vg prog 22 (Pv aJ).enc (Pv aJ).sz:=XE (e:=aJ) underlying22 (by kernel_rfl) acY (by decide)
def NL(b:(List Int)×Unit):List U:=[.bn false (bc aJ b.1)]
def Ot(b:(List Int)×Unit):Prop:=True∧True
theorem Yi:zN prog Tryz.f3.params.toList NL Ot:=by
 rw[Tryz.params3];exact XG (ZR (bN:=λx=>.bn false (bc aJ x)) Tw (XF underlying22)) (X4)
theorem Zs(b:(List Int)×Unit)(Z:Ot b):bb true prog 3 [] (NL b) (.bool true):=VP (V9 b.1)
theorem Z5:ownKnob prog.godebug=none:=by kernel_rfl
theorem Zt:laidOutB prog=true:=by kernel_rfl
theorem Zu{fc:Type}:∀cq:List (DataW fc),cq.length=Tryz.f3.params.size→(Rows.topSentSpec.fn fc cq).results=[.lit (.bool true)]∧(Rows.topSentSpec.fn fc cq).args=cq∧(Rows.topSentSpec.fn fc cq).vars=[]:=by
 intro cq hd;have hd:cq.length=1:=hd
 match cq,hd with
 |[_],_=>exact⟨rfl,rfl,rfl⟩
abbrev yS:List (String×DataW Unit):=[("math/bits.deBruijn64tab",Rows.laid_math_bits_deBruijn64tab)]
theorem NM:prog.globalNamed "math/bits.deBruijn64tab"=some 0:=by kernel_rfl
theorem abf{W:World}(h:laidMetH prog yS W):ug (fu W):=by
 rw[MakeChecks.laidMetH_plain _ _ _ (by kernel_rfl)]at h;have aU:=Lib.tabIs_of_head (k:=.u8) (zs:=r9) (rest:=[]) NM (show(prog.globals[0]?).map (·.type)=some 330 by kernel_rfl) underlying330 underlying5 (by kernel_rfl) (by kernel_rfl) h;intro o n ay;have h1:=aU.cell NM o (List.getElem?_eq_some_iff.1 ay).1;rw[List.getD_eq_getElem?_getD,ay]at h1;exact h1
theorem Y3(os:Os)(args:Array Value):laidMetH prog yS ((World.doorLaid prog 400 os).forCall (λ_ _=>0) ⟨#[],args,[]⟩).memory:=
 laidMetH_of_parts3 (fuel:=8) (laidMet_of_run' 8 (by kernel_rfl) (by kernel_rfl)) (by kernel_rfl) (by kernel_rfl)
theorem W5(os:Os)(ap1:os.Started)(fc:Type)(enc:TypeId×Value→fc):
  ReturnsInHanded {} Tryz.checked os 3 .any (λw args=>(Rows.topSentSpec.pre enc prog Tryz.f3 [] false w args∧laidMetH prog yS w)∧sizedMet enc prog Tryz.f3 (OpenSpec.ofChange Rows.topSentSpec) false w args) (Rows.topSentSpec.post enc prog Tryz.f3 false true false false):=by
 refine returnsInHanded_of_change_and (C:=Tryz.checked) (X:=λw _=>laidMetH prog yS w) (λ_ _ _ ae1 h=>h.of_heap ae1) Z5 ap1 (by kernel_rfl) func3
  (ChangeSpec.witness_shaped (enc:=enc) (C:=Tryz.checked) (os:=os) (X:=λw _=>laidMetH prog yS w) false (World.doorLaid prog 400 os) #[.slice none 0 0] 8 rfl (World.shaped_of_RefB (by kernel_rfl) (by kernel_rfl)) (by kernel_rfl) (by kernel_rfl) (by kernel_rfl) (Y3 os _)) ?_
 intro W g2 args cq gs al2 awL agQ _ _ aer _;exact X5 (au:=true) Zt (vh:=4) (by kernel_rfl) underlying4 rfl (by rw[Tryz.params3];intro t aeB;simp only[List.mem_cons,List.not_mem_nil,or_false]at aeB;subst aeB;exact⟨by kernel_rfl,by decide +kernel⟩) Yi Zs Zu W (λ_=>abf aer) g2 args cq gs al2 awL agQ
end Go.Proofs.YtemmkpdjmgafoaaGreatDoor
