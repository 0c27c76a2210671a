/- The iJ of ee of the program. No condition but bJ aY stand in each. -/
import Derived.Test.YtdjeacigeegklaaGreatV4
namespace Go.Proofs.YtdjeacigeegklaaGreat
open Go Go.Proofs.Tryz
set_option maxRecDepth 100000
set_option linter.all false
theorem yR{a:aG}{b:aG}{r:Int}(hm:nV a b=some r):RO prog 162 [] [.agg (k9 a),.agg (k9 b)] (i6 r):=by
 refine bh func162 rfl rfl ?_
 unfold nV at hm
 refine qS [(0,.al 162002),(1,.al 162003)] [(2,.ptr 162002 0),(3,.ptr 162003 0)] [(162002,.cells 218 (k9 a)),(162003,.cells 218 (k9 b))] ?_
 obtain⟨ai,h1,hm⟩:=af hm
 refine qS [(4,hro (mh h1) aft)] [(4,i6 ai)] [] ?_
 cases hm
 exact A.ret qE
end Go.Proofs.YtdjeacigeegklaaGreat
