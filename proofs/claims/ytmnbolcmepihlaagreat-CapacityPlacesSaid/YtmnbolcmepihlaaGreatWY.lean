/- Several texts in one. No condition but those that stand in each. -/
import Derived.Test.YtmnbolcmepihlaaGreatT
import Derived.Test.YtmnbolcmepihlaaGreatWZ
namespace Go.Proofs.YtmnbolcmepihlaaGreat
set_option linter.all false
open Go
section
noncomputable instance arcDec:DecidableEq ah:=λ_ _=>Classical.propDecidable _
def bz:Net ah:=⟨λa=>a.Hop.aD,λa=>a.Hop.To,λa=>a.dx⟩
structure iW(ay:List ah):Prop where
 cost:∀a∈ay,1≤a.dx∧a.dx≤1000
 to:∀a∈ay,a.Hop.To≠0
 hop:∀a∈ay,∀b∈ay,a.Hop=b.Hop→a=b
 len:ay.length≤1000
structure mW(ay:List ah)(root:Int)(ts:List Int)(hs:List az)(c:Int):Prop where
 ex:∃Hs:List ah,Opt bz ay (λt=>t∈ts) root Hs∧dG bz Hs=c∧hs.Perm (Hs.map (·.Hop))
 asc:hs.Pairwise λa b=>cZ [λx:az=>x.aD,λx:az=>x.To] a b<0
def ChS(ay:List ah)(root:Int)(ts:List Int)(r:List az×Int×Bool):Prop:=(r.2.2=true∧mW ay root ts r.1 r.2.1)∨(r=([],0,false)∧¬∀t,t∈ts→Con bz ay root t)
noncomputable def iG{β:Type}(ay:List ah)(root:Int)(ts:List Int)(K:(List az×Int×Bool)→Option β):Option β:=@ite _ (iW ay∧ts.length≤6) (Classical.propDecidable _) (acN (ChS ay root ts) K) none
end
section
def jJ(m:List (az×Int)):Option (List aR):=if m.length≤100000 then jO (cZ [λx:aR=>x.aD,λx:aR=>x.To]) (m.map λp=>aR.mk p.1.aD p.1.To p.2)else none
def qQ(l:List aR):List (az×Int):=l.reverse.foldl (λm x=>er bA m (az.mk x.aD x.To) x.Count) []
def mw(l:List aR):Option (List (az×Int)):=if l.length≤100000 then some (qQ l)else none
end
end Go.Proofs.YtmnbolcmepihlaaGreat
