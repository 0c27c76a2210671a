/- Plain: agM of the tape; what Forward comes to. No condition but bO bx stand in each. -/
import Derived.Test.YtdjeacigeegklaaGreatPYM
namespace Go.Proofs.YtdjeacigeegklaaGreat
set_option linter.all false
open Go
structure Pk(e:aF)(p:aH):Prop where
 v:nW p=true
 m:p.Mode=2
 l:p.Length=e.Length
variable {p:aH}
theorem uj:nW p=true↔(1≤p.Mode∧p.Mode≤3)∧(0≤p.bQ∧p.bQ≤7)∧(0≤p.Set∧p.Set≤31)∧xA p.Bits p.Length=true∧(0≤p.TTL∧p.TTL≤63)∧(0≤p.cI∧p.cI≤1023)∧(0≤p.cK∧p.cK≤256)∧(0≤p.dU∧p.dU≤7)∧(p.cD.size:Int)≤64:=by
 unfold nW inN
 simp only[Bool.and_eq_true,decide_eq_true_eq,and_assoc]
theorem Pk.ttl{e:aF}(h:Pk e p)(n:Int)(hn:0≤n∧n≤63):Pk e (aH.mk p.Mode p.bQ p.Set p.Length n p.cI p.cK p.dU p.Bits p.cD):=by
 obtain⟨h1,h2,h3⟩:=h
 rw[uj]at h1
 refine⟨uj.2 ?_,h2,h3⟩
 obtain⟨a1,a2,a3,a4,a5,a6⟩:=h1
 exact⟨a1,a2,a3,a4,hn,a6⟩
theorem Pk.bits{e:aF}(h:Pk e p)(b:Int)(hb:∀i,tbi b i=true→tbi p.Bits i=true):Pk e (aH.mk p.Mode p.bQ p.Set p.Length p.TTL p.cI p.cK p.dU b p.cD):=by
 obtain⟨h1,h2,h3⟩:=h
 rw[uj]at h1
 refine⟨uj.2 ?_,h2,h3⟩
 obtain⟨a1,a2,a3,a4,a5⟩:=h1
 rw[aeh]at a4
 exact⟨a1,a2,a3,aeh.2 ⟨a4.1,λi hi=>a4.2 i (hb i hi)⟩,a5⟩
theorem abS{e:aF}{r:Int}{i:Nat}(h:tbi (kV e r p) i=true):tbi p.Bits i=true:=by
 rw[kV,tbn,Bool.and_eq_true]at h;exact h.1
theorem Pk.go{e:aF}(hE:Ve e)(h:Pk e p)(r:Int)(hr:kV e r p≠0)(ht:0<p.TTL):Pk e (goP e r p):=by
 have h2:=(h.bits (kV e r p) λi hi=>abS hi)
 have h3:=uj.1 h.v
 have:=h2.ttl (w64 (p.TTL-1)) (by rw[iM (by omega) (by omega)];omega)
 exact this
def mo(e:aF)(p:aH):Int:=if p.Mode=2 then if p.Length=e.Length then 0 else 8 else 7
theorem ai2(e:aF)(p:aH):lE e p=some (mo e p):=by
 unfold lE mo
 by_cases h1:p.Mode=2<;>by_cases h2:p.Length=e.Length<;>simp[h1,h2]
theorem af7(e:aF)(p:aH):mO e p=some (mo e p):=by
 unfold mO mo
 by_cases h1:p.Mode=2<;>by_cases h2:p.Length=e.Length<;>simp[h1,h2]
theorem Pk.amE{e:aF}(h:Pk e p):mo e p=0:=by unfold mo;rw[if_pos h.m,if_pos h.l]
end Go.Proofs.YtdjeacigeegklaaGreat
