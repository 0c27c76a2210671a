/- abZ mP trees are: the words. No condition. -/
import Derived.Test.YtmnbolcmepihlaaGreatT
import Derived.Test.YtmnbolcmepihlaaGreatWB
namespace Go.Proofs.YtmnbolcmepihlaaGreat
set_option linter.all false
open Go
noncomputable instance arcDec:DecidableEq aq:=λ_ _=>Classical.propDecidable _
def aX:Net aq:=⟨λa=>a.Hop.aH,λa=>a.Hop.To,λa=>a.bO⟩
structure kU(ay:List aq):Prop where
 cost:∀a∈ay,1≤a.bO∧a.bO≤1000
 to:∀a∈ay,a.Hop.To≠0
 hop:∀a∈ay,∀b∈ay,a.Hop=b.Hop→a=b
 len:ay.length≤1000
structure rD(ay:List aq)(root:Int)(ts:List Int)(hs:List aS)(c:Int):Prop where
 ex:∃Hs:List aq,Opt aX ay (λt=>t∈ts) root Hs∧cz aX Hs=c∧hs.Perm (Hs.map (·.Hop))
 asc:hs.Pairwise λa b=>eD [λx:aS=>x.aH,λx:aS=>x.To] a b<0
def ChS(ay:List aq)(root:Int)(ts:List Int)(r:List aS×Int×Bool):Prop:=(r.2.2=true∧rD ay root ts r.1 r.2.1)∨(r=([],0,false)∧¬∀t,t∈ts→Con aX ay root t)
noncomputable def kI{β:Type}(ay:List aq)(root:Int)(ts:List Int)(K:(List aS×Int×Bool)→Option β):Option β:=@ite _ (kU ay∧ts.length≤6) (Classical.propDecidable _) (aam (ChS ay root ts) K) none
end Go.Proofs.YtmnbolcmepihlaaGreat
