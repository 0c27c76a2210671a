/- The law SteinerBounds returns true for every input, and leaves the input as it was. No condition. -/
import Derived.Test.YtmnbolcmepihlaaGreatZ2
import Derived.Test.YtmnbolcmepihlaaGreatZ7
import Derived.Test.YtmnbolcmepihlaaGreatZ8
import Derived.Test.YtmnbolcmepihlaaGreatG4
namespace Go.Proofs.YtmnbolcmepihlaaGreat
set_option linter.all false
open Go Go.Proofs.Tryz Go.ChangeShapes Go.WideShapes Go.ChangeAt Go.RowKit
set_option maxRecDepth 100000
theorem aoo:Hl prog 3 aB.enc aB.sz:=adZ underlying3 (by kernel_rfl)
abbrev MT(_:Int):Prop:=True
theorem Vl:td prog 3 aB.enc aB.sz MT:=(aoo).wide
abbrev MJ(x:List Int):Prop:=x.length≤reachBytes∧∀a∈x,MT a
theorem TN:td prog 22 (wN aB).enc (wN aB).sz MJ:=Zj (e:=aB) underlying22 (by kernel_rfl) Vl (by decide) (by decide +kernel)
abbrev Vm(x:cu):Prop:=MJ x.bx∧MT x.Value∧True
theorem afw:td prog 120 cQ.enc cQ.sz Vm:=(Z2 underlying120 (by kernel_rfl) (by kernel_rfl) (Zk TN (Zk Vl aaK))).anT (λp=>cu.mk p.1 p.2.1) (λ_=>rfl) (λ_ h=>h)
abbrev Wc(x:List cu):Prop:=x.length≤reachBytes∧∀a∈x,Vm a
theorem ag3:td prog 85 (wN cQ).enc (wN cQ).sz Wc:=Zj (e:=cQ) underlying85 (by kernel_rfl) afw (by decide) (by decide +kernel)
def Ta(b:(List Int)×(List cu)×Unit):List W:=[.bf false (ar aB b.1),.bf false (ar cQ b.2.1)]
def TO(b:(List Int)×(List cu)×Unit):Prop:=MJ b.1∧Wc b.2.1∧True
theorem aaZ:Hg prog Tryz.f11.params.toList Ta TO:=by
 rw[Tryz.params11];exact Zl (Rr (b9:=λx=>.bf false (ar aB x)) TN (QN underlying22)) (Zl (Rr (b9:=λx=>.bf false (ar cQ x)) ag3 (QN underlying85)) (aaL))
theorem acg(b:(List Int)×(List cu)×Unit)(U:TO b):dR prog 11 [] (Ta b) (.bool true):=aoP (aqT b.1 b.2.1 (U.2.1.1) (λc ah=>(U.2.1.2 c ah).1.1))
theorem afx:ownKnob prog.godebug=none:=by kernel_rfl
theorem ach:laidOutB prog=true:=by kernel_rfl
theorem aci{H:Type}:∀dB:List (DataW H),dB.length=Tryz.f11.params.size→(Rows.steinerBoundsSpec.fn H dB).results=[.lit (.bool true)]∧(Rows.steinerBoundsSpec.fn H dB).args=dB∧(Rows.steinerBoundsSpec.fn H dB).vars=[]:=by
 intro dB af;have af:dB.length=2:=af
 match dB,af with
 |[_,_],_=>exact⟨rfl,rfl,rfl⟩
theorem aaX(os:Os)(Dq:os.Started)(H:Type)(enc:TypeId×Value→H):
  ReturnsInHanded {} Tryz.checked os 11 .any (Rows.steinerBoundsSpec.pre6 enc prog Tryz.f11 Rows.steinerBoundsRow.domain false) (Rows.steinerBoundsSpec.post enc prog Tryz.f11 false true false false):=by
 refine ad0 (C:=Tryz.checked) afx Dq (by kernel_rfl) func11
  (ChangeSpec.witness6 (enc:=enc) (C:=Tryz.checked) false ⟨#[],#[.slice none 0 0,.slice none 0 0],[]⟩ 8 (by kernel_rfl) (by kernel_rfl) (by kernel_rfl) (by kernel_rfl)) ?_
 intro aU fE args dB gs rG akw lP hk;exact aau ach (Bv:=4) (by kernel_rfl) underlying4 rfl (by rw[Tryz.params11];intro t b5;simp only[List.mem_cons,List.not_mem_nil,or_false]at b5;rcases b5 with rfl|rfl<;>exact⟨by kernel_rfl,by decide +kernel⟩) aaZ acg aci aU fE args dB gs rG _ akw lP hk
theorem law_holds:Rows.SteinerBoundsSaid:=acf aaX
end Go.Proofs.YtmnbolcmepihlaaGreat
