/- Plain: aeb of the tape; what Forward comes to. No condition but bK bn stand in each. -/
import Derived.Test.YtdjeacigeegklaaGreatPYM
namespace Go.Proofs.YtdjeacigeegklaaGreat
set_option linter.all false
open Go
structure Pk(e:aC)(p:aH):Prop where
 v:l9 p=true
 m:p.Mode=2
 l:p.Length=e.Length
variable {p:aH}
theorem o4:l9 p=true↔(1≤p.Mode∧p.Mode≤3)∧(0≤p.bU∧p.bU≤7)∧(0≤p.Set∧p.Set≤31)∧xq p.Bits p.Length=true∧(0≤p.TTL∧p.TTL≤63)∧(0≤p.cR∧p.cR≤1023)∧(0≤p.cS∧p.cS≤256)∧(0≤p.dV∧p.dV≤7)∧(p.cu.size:Int)≤64:=by
 unfold l9 inN
 simp only[Bool.and_eq_true,decide_eq_true_eq,and_assoc]
theorem Pk.ttl{e:aC}(h:Pk e p)(n:Int)(hn:0≤n∧n≤63):Pk e (aH.mk p.Mode p.bU p.Set p.Length n p.cR p.cS p.dV p.Bits p.cu):=by
 obtain⟨h1,h2,h3⟩:=h
 rw[o4]at h1
 refine⟨o4.2 ?_,h2,h3⟩
 obtain⟨a1,a2,a3,a4,a5,a6⟩:=h1
 exact⟨a1,a2,a3,a4,hn,a6⟩
theorem Pk.bits{e:aC}(h:Pk e p)(b:Int)(hb:∀i,tbi b i=true→tbi p.Bits i=true):Pk e (aH.mk p.Mode p.bU p.Set p.Length p.TTL p.cR p.cS p.dV b p.cu):=by
 obtain⟨h1,h2,h3⟩:=h
 rw[o4]at h1
 refine⟨o4.2 ?_,h2,h3⟩
 obtain⟨a1,a2,a3,a4,a5⟩:=h1
 rw[aaC]at a4
 exact⟨a1,a2,a3,aaC.2 ⟨a4.1,λi hi=>a4.2 i (hb i hi)⟩,a5⟩
theorem zh{e:aC}{r:Int}{i:Nat}(h:tbi (ep e r p) i=true):tbi p.Bits i=true:=by
 rw[ep,tbn,Bool.and_eq_true]at h;exact h.1
theorem Pk.go{e:aC}(hE:Ve e)(h:Pk e p)(r:Int)(hr:ep e r p≠0)(ht:0<p.TTL):Pk e (goP e r p):=by
 have h2:=(h.bits (ep e r p) λi hi=>zh hi)
 have h3:=o4.1 h.v
 have:=h2.ttl (w64 (p.TTL-1)) (by rw[iA (by omega) (by omega)];omega)
 exact this
def lW(e:aC)(p:aH):Int:=if p.Mode=2 then if p.Length=e.Length then 0 else 8 else 7
theorem ajM(e:aC)(p:aH):lK e p=some (lW e p):=by
 unfold lK lW
 by_cases h1:p.Mode=2<;>by_cases h2:p.Length=e.Length<;>simp[h1,h2]
theorem xP(e:aC)(p:aH):kR e p=some (lW e p):=by
 unfold kR lW
 by_cases h1:p.Mode=2<;>by_cases h2:p.Length=e.Length<;>simp[h1,h2]
theorem Pk.adn{e:aC}(h:Pk e p):lW e p=0:=by unfold lW;rw[if_pos h.m,if_pos h.l]
end Go.Proofs.YtdjeacigeegklaaGreat
