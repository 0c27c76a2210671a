/- g3 xh abE aqy true for am5 apJ, and Zv bg apJ as hV zx. cf ch. -/
import Derived.Test.YtmnbolcmepihlaaGreatZ1
import Derived.Test.YtmnbolcmepihlaaGreatZ4
import Derived.Test.YtmnbolcmepihlaaGreatZ5
import Derived.Test.YtmnbolcmepihlaaGreatG9
namespace Go.Proofs.YtmnbolcmepihlaaGreat
set_option linter.all false
open Go Go.Proofs.Tryz Go.ChangeShapes Go.WideShapes Go.ChangeAt Go.RowKit
set_option maxRecDepth 100000
theorem qk:k1 prog 3 az.enc az.sz:=afe underlying3 (by kernel_rfl)
theorem al4:k1 prog 22 (fo az).enc (fo az).sz:=A5 (e:=az) underlying22 (by kernel_rfl) qk (by decide)
abbrev vt(_:Int):Prop:=True
theorem xN:oJ prog 3 az.enc az.sz vt:=(qk).wide
abbrev I1(x:List Int):Prop:=x.length≤reachBytes∧∀a∈x,vt a
theorem Nb:oJ prog 22 (fo az).enc (fo az).sz I1:=GS (e:=az) underlying22 (by kernel_rfl) xN (by decide) (by decide +kernel)
theorem al5:k1 prog 62 ff.enc ff.sz:=(A1 underlying62 (by kernel_rfl) (by kernel_rfl) (ow qk (ow qk (ow qk (ow qk (ow qk Be)))))).tJ (λp=>dJ.mk p.1 p.2.1 p.2.2.1 p.2.2.2.1 p.2.2.2.2.1) (λ_=>rfl)
theorem al6:k1 prog 26 (fo ff).enc (fo ff).sz:=A5 (e:=ff) underlying26 (by kernel_rfl) al5 (by decide)
theorem aqj:k1 prog 4 iK.enc iK.sz:=ad4 underlying4 (by kernel_rfl)
theorem al8:k1 prog 31 fN.enc fN.sz:=(A1 underlying31 (by kernel_rfl) (by kernel_rfl) (ow qk (ow aqj Be))).tJ (λp=>fe.mk p.1 p.2.1) (λ_=>rfl)
theorem al9:k1 prog 25 (fo fN).enc (fo fN).sz:=A5 (e:=fN) underlying25 (by kernel_rfl) al8 (by decide)
theorem ama:k1 prog 28 mX.enc mX.sz:=(A1 underlying28 (by kernel_rfl) (by kernel_rfl) (ow al9 (ow al6 Be))).tJ (λp=>bu.mk p.1 p.2.1) (λ_=>rfl)
theorem amb:k1 prog 52 cm.enc cm.sz:=(A1 underlying52 (by kernel_rfl) (by kernel_rfl) (ow qk (ow al4 (ow qk Be)))).tJ (λp=>bY.mk p.1 p.2.1 p.2.2.1) (λ_=>rfl)
theorem awp:k1 prog 46 (fo cm).enc (fo cm).sz:=A5 (e:=cm) underlying46 (by kernel_rfl) amb (by decide)
abbrev XV(x:bY):Prop:=vt x.cc∧I1 x.dM∧vt x.de∧True
theorem ai4:oJ prog 52 cm.enc cm.sz XV:=(KI underlying52 (by kernel_rfl) (by kernel_rfl) (vW xN (vW Nb (vW xN K5)))).tJ (λp=>bY.mk p.1 p.2.1 p.2.2.1) (λ_=>rfl) (λ_ h=>h)
abbrev XI(x:List bY):Prop:=x.length≤reachBytes∧∀a∈x,XV a
theorem aiJ:oJ prog 46 (fo cm).enc (fo cm).sz XI:=GS (e:=cm) underlying46 (by kernel_rfl) ai4 (by decide) (by decide +kernel)
theorem amc:k1 prog 84 bH.enc bH.sz:=(A1 underlying84 (by kernel_rfl) (by kernel_rfl) (ow qk (ow qk Be))).tJ (λp=>aQ.mk p.1 p.2.1) (λ_=>rfl)
theorem amd:k1 prog 34 (fo bH).enc (fo bH).sz:=A5 (e:=bH) underlying34 (by kernel_rfl) amc (by decide)
theorem ame:k1 prog 36 cC.enc cC.sz:=(A1 underlying36 (by kernel_rfl) (by kernel_rfl) (ow qk (ow amd Be))).tJ (λp=>bR.mk p.1 p.2.1) (λ_=>rfl)
theorem awq:k1 prog 48 (fo cC).enc (fo cC).sz:=A5 (e:=cC) underlying48 (by kernel_rfl) ame (by decide)
abbrev XJ(x:aQ):Prop:=vt x.bh∧vt x.aS∧True
theorem aiK:oJ prog 84 bH.enc bH.sz XJ:=(KI underlying84 (by kernel_rfl) (by kernel_rfl) (vW xN (vW xN K5))).tJ (λp=>aQ.mk p.1 p.2.1) (λ_=>rfl) (λ_ h=>h)
abbrev XK(x:List aQ):Prop:=x.length≤reachBytes∧∀a∈x,XJ a
theorem aiL:oJ prog 34 (fo bH).enc (fo bH).sz XK:=GS (e:=bH) underlying34 (by kernel_rfl) aiK (by decide) (by decide +kernel)
abbrev XL(x:bR):Prop:=vt x.cc∧XK x.Links∧True
theorem aiM:oJ prog 36 cC.enc cC.sz XL:=(KI underlying36 (by kernel_rfl) (by kernel_rfl) (vW xN (vW aiL K5))).tJ (λp=>bR.mk p.1 p.2.1) (λ_=>rfl) (λ_ h=>h)
abbrev XM(x:List bR):Prop:=x.length≤reachBytes∧∀a∈x,XL a
theorem aiN:oJ prog 48 (fo cC).enc (fo cC).sz XM:=GS (e:=cC) underlying48 (by kernel_rfl) aiM (by decide) (by decide +kernel)
theorem amf:k1 prog 60 cp.enc cp.sz:=(A1 underlying60 (by kernel_rfl) (by kernel_rfl) (ow qk (ow qk (ow qk Be)))).tJ (λp=>bB.mk p.1 p.2.1 p.2.2.1) (λ_=>rfl)
theorem awr:k1 prog 53 (fo cp).enc (fo cp).sz:=A5 (e:=cp) underlying53 (by kernel_rfl) amf (by decide)
abbrev Yg(x:bB):Prop:=vt x.bh∧vt x.aS∧vt x.Count∧True
theorem ajG:oJ prog 60 cp.enc cp.sz Yg:=(KI underlying60 (by kernel_rfl) (by kernel_rfl) (vW xN (vW xN (vW xN K5)))).tJ (λp=>bB.mk p.1 p.2.1 p.2.2.1) (λ_=>rfl) (λ_ h=>h)
abbrev Yh(x:List bB):Prop:=x.length≤reachBytes∧∀a∈x,Yg a
theorem ajH:oJ prog 53 (fo cp).enc (fo cp).sz Yh:=GS (e:=cp) underlying53 (by kernel_rfl) ajG (by decide) (by decide +kernel)
def TG(b:(List Int)×bu×(List bY)×(List bR)×(List bB)×(List Int)×Unit):List W:=[.bf false (aM az b.1),.agg (mX.enc b.2.1),.bf false (aM cm b.2.2.1),.bf false (aM cC b.2.2.2.1),.bf false (aM cp b.2.2.2.2.1),.bf false (aM az b.2.2.2.2.2.1)]
def U9(b:(List Int)×bu×(List bY)×(List bR)×(List bB)×(List Int)×Unit):Prop:=I1 b.1∧True∧XI b.2.2.1∧XM b.2.2.2.1∧Yh b.2.2.2.2.1∧I1 b.2.2.2.2.2.1∧True
theorem adl:El prog Tryz.f8.params.toList TG U9:=by
 rw[Tryz.params8];exact Dd (Hg (bZ:=λx=>.bf false (aM az x)) Nb (GW underlying22)) (Dd ((aff (enc:=mX.enc) underlying28 ama).wide) (Dd (Hg (bZ:=λx=>.bf false (aM cm x)) aiJ (GW underlying46)) (Dd (Hg (bZ:=λx=>.bf false (aM cC x)) aiN (GW underlying48)) (Dd (Hg (bZ:=λx=>.bf false (aM cp x)) ajH (GW underlying53)) (Dd (Hg (bZ:=λx=>.bf false (aM az x)) Nb (GW underlying22)) (acH))))))
theorem aeh(b:(List Int)×bu×(List bY)×(List bR)×(List bB)×(List Int)×Unit)(Y:U9 b):dn prog 8 [] (TG b) (.bool true):=aqF (asO b.1 b.2.1 b.2.2.1 b.2.2.2.1 b.2.2.2.2.1 b.2.2.2.2.2.1 (Y.2.2.1.1) (λd aa=>(Y.2.2.1.2 d aa).2.1.1) (Y.2.2.2.1.1) (λx u=>(Y.2.2.2.1.2 x u).2.1.1))
theorem agA:ownKnob prog.godebug=none:=by kernel_rfl
theorem aei:laidOutB prog=true:=by kernel_rfl
theorem aej{H:Type}:∀ds:List (DataW H),ds.length=Tryz.f8.params.size→(Rows.capacityAnswersSpec.fn H ds).results=[.lit (.bool true)]∧(Rows.capacityAnswersSpec.fn H ds).args=ds∧(Rows.capacityAnswersSpec.fn H ds).vars=[]:=by
 intro ds aa;have aa:ds.length=6:=aa
 match ds,aa with
 |[_,_,_,_,_,_],_=>exact⟨rfl,rfl,rfl⟩
theorem acU(os:Os)(Dv:os.Started)(H:Type)(enc:TypeId×Value→H):
  ReturnsInHanded {} Tryz.checked os 8 .any (Rows.capacityAnswersSpec.pre6 enc prog Tryz.f8 Rows.capacityAnswersRow.domain false) (Rows.capacityAnswersSpec.post enc prog Tryz.f8 false true false false):=by
 refine agB (C:=Tryz.checked) agA Dv (by kernel_rfl) func8
  (ChangeSpec.witness6 (enc:=enc) (C:=Tryz.checked) false ⟨#[],#[.slice none 0 0,.agg #[.slice none 0 0,.slice none 0 0],.slice none 0 0,.slice none 0 0,.slice none 0 0,.slice none 0 0],[]⟩ 8 (by kernel_rfl) (by kernel_rfl) (by kernel_rfl) (by kernel_rfl)) ?_
 intro bn gd args ds gs sj amg fD hk;exact acI aei (BT:=4) (by kernel_rfl) underlying4 rfl (by rw[Tryz.params8];intro t bU;simp only[List.mem_cons,List.not_mem_nil,or_false]at bU;rcases bU with rfl|rfl|rfl|rfl|rfl|rfl<;>exact⟨by kernel_rfl,by decide +kernel⟩) adl aeh aej bn gd args ds gs sj _ amg fD hk
theorem law_holds:Rows.CapacityAnswersSaid:=aeg acU
end Go.Proofs.YtmnbolcmepihlaaGreat
