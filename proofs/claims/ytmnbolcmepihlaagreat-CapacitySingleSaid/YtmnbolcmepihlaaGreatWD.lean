/- aew oz trees are: the words. No condition. -/
import Derived.Test.YtmnbolcmepihlaaGreatT
import Derived.Test.YtmnbolcmepihlaaGreatWB
namespace Go.Proofs.YtmnbolcmepihlaaGreat
set_option linter.all false
open Go
noncomputable instance arcDec:DecidableEq ai:=λ_ _=>Classical.propDecidable _
def bk:Net ai:=⟨λa=>a.Hop.aD,λa=>a.Hop.To,λa=>a.cU⟩
structure iZ(aq:List ai):Prop where
 cost:∀a∈aq,1≤a.cU∧a.cU≤1000
 to:∀a∈aq,a.Hop.To≠0
 hop:∀a∈aq,∀b∈aq,a.Hop=b.Hop→a=b
 len:aq.length≤1000
structure pM(aq:List ai)(root:Int)(ts:List Int)(hs:List aC)(c:Int):Prop where
 ex:∃Hs:List ai,Opt bk aq (λt=>t∈ts) root Hs∧dw bk Hs=c∧hs.Perm (Hs.map (·.Hop))
 asc:hs.Pairwise λa b=>cR [λx:aC=>x.aD,λx:aC=>x.To] a b<0
def ChS(aq:List ai)(root:Int)(ts:List Int)(r:List aC×Int×Bool):Prop:=(r.2.2=true∧pM aq root ts r.1 r.2.1)∨(r=([],0,false)∧¬∀t,t∈ts→Con bk aq root t)
noncomputable def jI{β:Type}(aq:List ai)(root:Int)(ts:List Int)(K:(List aC×Int×Bool)→Option β):Option β:=@ite _ (iZ aq∧ts.length≤6) (Classical.propDecidable _) (acK (ChS aq root ts) K) none
end Go.Proofs.YtmnbolcmepihlaaGreat
