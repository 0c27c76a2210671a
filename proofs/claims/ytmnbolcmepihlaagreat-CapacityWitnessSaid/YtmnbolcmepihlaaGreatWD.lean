/- abE mo trees are: the words. No condition. -/
import Derived.Test.YtmnbolcmepihlaaGreatT
import Derived.Test.YtmnbolcmepihlaaGreatWB
namespace Go.Proofs.YtmnbolcmepihlaaGreat
set_option linter.all false
open Go
noncomputable instance arcDec:DecidableEq af:=λ_ _=>Classical.propDecidable _
def bI:Net af:=⟨λa=>a.Hop.aJ,λa=>a.Hop.To,λa=>a.cV⟩
structure ig(ai:List af):Prop where
 cost:∀a∈ai,1≤a.cV∧a.cV≤1000
 to:∀a∈ai,a.Hop.To≠0
 hop:∀a∈ai,∀b∈ai,a.Hop=b.Hop→a=b
 len:ai.length≤1000
structure nM(ai:List af)(root:Int)(ts:List Int)(hs:List aF)(c:Int):Prop where
 ex:∃Hs:List af,Opt bI ai (λt=>t∈ts) root Hs∧dI bI Hs=c∧hs.Perm (Hs.map (·.Hop))
 asc:hs.Pairwise λa b=>cD [λx:aF=>x.aJ,λx:aF=>x.To] a b<0
def ChS(ai:List af)(root:Int)(ts:List Int)(r:List aF×Int×Bool):Prop:=(r.2.2=true∧nM ai root ts r.1 r.2.1)∨(r=([],0,false)∧¬∀t,t∈ts→Con bI ai root t)
noncomputable def iH{β:Type}(ai:List af)(root:Int)(ts:List Int)(K:(List aF×Int×Bool)→Option β):Option β:=@ite _ (ig ai∧ts.length≤6) (Classical.propDecidable _) (zT (ChS ai root ts) K) none
end Go.Proofs.YtmnbolcmepihlaaGreat
