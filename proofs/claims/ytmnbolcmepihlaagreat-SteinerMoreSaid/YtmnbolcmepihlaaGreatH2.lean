/- fu u9 XQ alX true for aiR ak1, and MB aL ak1 as it Ac. bD bF. -/
import Derived.Test.YtmnbolcmepihlaaGreatZ6
import Derived.Test.YtmnbolcmepihlaaGreatZ8
namespace Go.Proofs.YtmnbolcmepihlaaGreat
set_option linter.all false
open Go Go.Proofs.Tryz Go.ChangeShapes Go.WideShapes Go.ChangeAt Go.RowKit
set_option maxRecDepth 100000
theorem alD:w5 prog 3 aI.enc aI.sz:=abz underlying3 (by kernel_rfl)
theorem aih:w5 prog 22 (UF aI).enc (UF aI).sz:=YT (e:=aI) underlying22 (by kernel_rfl) alD (by decide)
def QE(b:(List Int)×Unit):List Q:=[.bf false (ax aI b.1)]
def R7(b:(List Int)×Unit):Prop:=True∧True
theorem ZI:Dm prog Tryz.f9.params.toList QE R7:=by
 rw[Tryz.params9];exact YV (abA (bN:=λx=>.bf false (ax aI x)) aih (YU underlying22)) (aam)
theorem aaF(b:(List Int)×Unit)(U:R7 b):dT prog 9 [] (QE b) (.bool true):=al6 (an1 b.1)
theorem adh:ownKnob prog.godebug=none:=by kernel_rfl
theorem aaG:laidOutB prog=true:=by kernel_rfl
theorem aaH{H:Type}:∀cS:List (DataW H),cS.length=Tryz.f9.params.size→(Rows.steinerMoreSpec.fn H cS).results=[.lit (.bool true)]∧(Rows.steinerMoreSpec.fn H cS).args=cS∧(Rows.steinerMoreSpec.fn H cS).vars=[]:=by
 intro cS Z;have Z:cS.length=1:=Z
 match cS,Z with
 |[_],_=>exact⟨rfl,rfl,rfl⟩
theorem Ym(os:Os)(Nk:os.Started)(H:Type)(enc:TypeId×Value→H):
  ReturnsInHanded {} Tryz.checked os 9 .any (Rows.steinerMoreSpec.pre6 enc prog Tryz.f9 Rows.steinerMoreRow.domain false) (Rows.steinerMoreSpec.post enc prog Tryz.f9 false true false false):=by
 refine returnsInHanded_of_change (C:=Tryz.checked) adh Nk (by kernel_rfl) func9
  (ChangeSpec.witness6 (enc:=enc) (C:=Tryz.checked) false ⟨#[],#[.slice none 0 0],[]⟩ 8 (by kernel_rfl) (by kernel_rfl) (by kernel_rfl) (by kernel_rfl)) ?_
 intro bb g0 args cS gs vD aii kg aqx _;exact aan aaG (Ay:=4) (by kernel_rfl) underlying4 rfl (by rw[Tryz.params9];intro t bE;simp only[List.mem_cons,List.not_mem_nil,or_false]at bE;subst bE;exact⟨by kernel_rfl,by decide +kernel⟩) ZI aaF aaH bb g0 args cS gs vD aii kg
theorem law_holds:Rows.SteinerMoreSaid:=
 OpenClaim.holds_of_wide 9 Tryz.f9 rfl rfl rfl rfl rfl rfl rfl ⟨rfl,rfl,rfl,rfl,rfl⟩ rfl rfl rfl rfl rfl (by kernel_rfl) func9 (by kernel_rfl)
  (of_decide_eq_true (by kernel_rfl)) (by unfold Func.isWrapper;first|(rw[if_pos (by decide +kernel)];kernel_rfl)|(rw[if_neg (by decide +kernel)];exact⟨rfl,rfl⟩))
  (λos Nk H enc _=>Ym os Nk H enc)
end Go.Proofs.YtmnbolcmepihlaaGreat
