/- The gW of dB of the program. No condition but bk aJ stand in each. -/
import Derived.Test.YtmnbolcmepihlaaGreatV4
namespace Go.Proofs.YtmnbolcmepihlaaGreat
open Go Go.Proofs.Tryz
set_option maxRecDepth 100000
set_option linter.all false
theorem rO{a:aS}{b:aS}{r:Int}(hm:jm a b=some r):RO prog 125 [] [.agg (k3 a),.agg (k3 b)] (i6 r):=by
 refine aY func125 rfl rfl ?_
 unfold jm at hm
 refine qS [(0,.al 125002),(1,.al 125003)] [(2,.ptr 125002 0),(3,.ptr 125003 0)] [(125002,.cells 84 (k3 a)),(125003,.cells 84 (k3 b))] ?_
 obtain⟨az,h1,hm⟩:=aa hm
 obtain⟨aD,h2,hm⟩:=aa hm
 obtain⟨bt,h3,hm⟩:=aa hm
 refine qS [(4,hro (dy h1) pH),(9,hro (dy h2) pH),(11,hro (lu h3) zD)] [(4,i6 bt)] [] ?_
 cases hm
 exact A.ret qE
theorem xx{a:aq}{b:aq}{r:Int}(hm:nT a b=some r):RO prog 128 [] [.agg (k4 a),.agg (k4 b)] (i6 r):=by
 refine aY func128 rfl rfl ?_
 unfold nT at hm
 refine qS [(0,.al 128002),(1,.al 128003)] [(2,.ptr 128002 0),(3,.ptr 128003 0)] [(128002,.cells 175 (k4 a)),(128003,.cells 175 (k4 b))] ?_
 obtain⟨az,h1,hm⟩:=aa hm
 obtain⟨aD,h2,hm⟩:=aa hm
 obtain⟨bt,h3,hm⟩:=aa hm
 refine qS [(6,hro (dy h1) pH),(13,hro (dy h2) pH),(15,hro (lu h3) zD)] [(4,i6 bt)] [] ?_
 cases hm
 exact A.ret qE
end Go.Proofs.YtmnbolcmepihlaaGreat
