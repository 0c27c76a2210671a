/- Several texts in one. No condition but those that stand in each. -/
import Derived.Test.YtmnbolcmepihlaaGreatT
import Derived.Test.YtmnbolcmepihlaaGreatWZ
namespace Go.Proofs.YtmnbolcmepihlaaGreat
set_option linter.all false
open Go
section
noncomputable instance amH:DecidableEq bL:=λ_ _=>Classical.propDecidable _
def fU:vg bL:=⟨λa=>a.Hop.bg,λa=>a.Hop.aQ,λa=>a.gr⟩
structure ob(aL:List bL):Prop where
 cost:∀a∈aL,1≤a.gr∧a.gr≤1000
 to:∀a∈aL,a.Hop.aQ≠0
 hop:∀a∈aL,∀b∈aL,a.Hop=b.Hop→a=b
 len:aL.length≤1000
structure qm(aL:List bL)(root:Int)(ts:List Int)(W:List bh)(c:Int):Prop where
 ex:∃fH:List bL,kH fU aL (λt=>t∈ts) root fH∧gX fU fH=c∧W.Perm (fH.map (·.Hop))
 mP:W.Pairwise λa b=>fL [λx:bh=>x.bg,λx:bh=>x.aQ] a b<0
def A4(aL:List bL)(root:Int)(ts:List Int)(r:List bh×Int×Bool):Prop:=(r.2.2=true∧qm aL root ts r.1 r.2.1)∨(r=([],0,false)∧¬∀t,t∈ts→eR fU aL root t)
noncomputable def Cn{β:Type}(aL:List bL)(root:Int)(ts:List Int)(K:(List bh×Int×Bool)→Option β):Option β:=@ite _ (ob aL∧ts.length≤6) (Classical.propDecidable _) (Bd (A4 aL root ts) K) none
end
section
def vo(m:List (bh×Int)):Option (List ep):=if m.length≤100000 then m0 (fL [λx:ep=>x.bg,λx:ep=>x.aQ]) (m.map λp=>ep.mk p.1.bg p.1.aQ p.2)else none
def wu(l:List ep):List (bh×Int):=l.reverse.foldl (λm x=>ga c2 m (bh.mk x.bg x.aQ) x.Count) []
def Fp(l:List ep):Option (List (bh×Int)):=if l.length≤100000 then some (wu l)else none
end
end Go.Proofs.YtmnbolcmepihlaaGreat
