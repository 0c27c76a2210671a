/- zF mN trees are: the words. No condition. -/
import Derived.Test.YtmnbolcmepihlaaT
import Derived.Test.YtmnbolcmepihlaaWB
namespace Go.Proofs.Ytmnbolcmepihlaa
set_option linter.all false
open Go
noncomputable instance arcDec:DecidableEq af:=λ_ _=>Classical.propDecidable _
def aW:Net af:=⟨λa=>a.Hop.bf,λa=>a.Hop.To,λa=>a.bI⟩
structure jc(ah:List af):Prop where
 cost:∀a∈ah,1≤a.bI∧a.bI≤1000
 to:∀a∈ah,a.Hop.To≠0
 hop:∀a∈ah,∀b∈ah,a.Hop=b.Hop→a=b
 len:ah.length≤1000
structure vR(ah:List af)(root:Int)(ts:List Int)(hs:List aV)(c:Int):Prop where
 ex:∃Hs:List af,Opt aW ah (λt=>t∈ts) root Hs∧bP aW Hs=c∧hs.Perm (Hs.map (·.Hop))
 asc:hs.Pairwise λa b=>dQ [λx:aV=>x.bf,λx:aV=>x.To] a b<0
def ChS(ah:List af)(root:Int)(ts:List Int)(r:List aV×Int×Bool):Prop:=(r.2.2=true∧vR ah root ts r.1 r.2.1)∨(r=([],0,false)∧¬∀t,t∈ts→Con aW ah root t)
noncomputable def iB{β:Type}(ah:List af)(root:Int)(ts:List Int)(K:(List aV×Int×Bool)→Option β):Option β:=@ite _ (jc ah∧ts.length≤6) (Classical.propDecidable _) (vM (ChS ah root ts) K) none
end Go.Proofs.Ytmnbolcmepihlaa
