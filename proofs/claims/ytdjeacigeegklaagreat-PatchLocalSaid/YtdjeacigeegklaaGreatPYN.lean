/- Plain: ad3 of the tape; what Forward comes to. No condition but bB aX stand in each. -/
import Derived.Test.YtdjeacigeegklaaGreatPYM
import Derived.Test.YtdjeacigeegklaaGreatT
import Derived.Test.YtdjeacigeegklaaGreatDA
namespace Go.Proofs.YtdjeacigeegklaaGreat
set_option linter.all false
open Go
structure Pk(e:aK)(p:aT):Prop where
 v:rR p=true
 m:p.Mode=2
 l:p.Length=e.Length
variable {p:aT}
theorem qH:rR p=true↔(1≤p.Mode∧p.Mode≤3)∧(0≤p.cA∧p.cA≤7)∧(0≤p.Set∧p.Set≤31)∧um p.Bits p.Length=true∧(0≤p.TTL∧p.TTL≤63)∧(0≤p.cZ∧p.cZ≤1023)∧(0≤p.de∧p.de≤256)∧(0≤p.eE∧p.eE≤7)∧(p.cS.size:Int)≤64:=by
 unfold rR inN
 simp only[Bool.and_eq_true,decide_eq_true_eq,and_assoc]
theorem Pk.ttl{e:aK}(h:Pk e p)(n:Int)(hn:0≤n∧n≤63):Pk e (aT.mk p.Mode p.cA p.Set p.Length n p.cZ p.de p.eE p.Bits p.cS):=by
 obtain⟨h1,h2,h3⟩:=h
 rw[qH]at h1
 refine⟨qH.2 ?_,h2,h3⟩
 obtain⟨a1,a2,a3,a4,a5,a6⟩:=h1
 exact⟨a1,a2,a3,a4,hn,a6⟩
theorem Pk.bits{e:aK}(h:Pk e p)(b:Int)(hb:∀i,tbi b i=true→tbi p.Bits i=true):Pk e (aT.mk p.Mode p.cA p.Set p.Length p.TTL p.cZ p.de p.eE b p.cS):=by
 obtain⟨h1,h2,h3⟩:=h
 rw[qH]at h1
 refine⟨qH.2 ?_,h2,h3⟩
 obtain⟨a1,a2,a3,a4,a5⟩:=h1
 rw[xG]at a4
 exact⟨a1,a2,a3,xG.2 ⟨a4.1,λi hi=>a4.2 i (hb i hi)⟩,a5⟩
theorem akl{e:aK}{r:Int}{i:Nat}(h:tbi (iT e r p) i=true):tbi p.Bits i=true:=by
 rw[iT,tbn,Bool.and_eq_true]at h;exact h.1
theorem Pk.go{e:aK}(hE:Ve e)(h:Pk e p)(r:Int)(hr:iT e r p≠0)(ht:0<p.TTL):Pk e (goP e r p):=by
 have h2:=(h.bits (iT e r p) λi hi=>akl hi)
 have h3:=qH.1 h.v
 have:=h2.ttl (w64 (p.TTL-1)) (by rw[gF (by omega) (by omega)];omega)
 exact this
def nH(e:aK)(p:aT):Int:=if p.Mode=2 then if p.Length=e.Length then 0 else 8 else 7
theorem agm(e:aK)(p:aT):ji e p=some (nH e p):=by
 unfold ji nH
 by_cases h1:p.Mode=2<;>by_cases h2:p.Length=e.Length<;>simp[h1,h2]
theorem adr(e:aK)(p:aT):j8 e p=some (nH e p):=by
 unfold j8 nH
 by_cases h1:p.Mode=2<;>by_cases h2:p.Length=e.Length<;>simp[h1,h2]
theorem Pk.al3{e:aK}(h:Pk e p):nH e p=0:=by unfold nH;rw[if_pos h.m,if_pos h.l]
end Go.Proofs.YtdjeacigeegklaaGreat
