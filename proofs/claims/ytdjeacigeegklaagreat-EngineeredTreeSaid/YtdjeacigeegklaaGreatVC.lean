/- The gq of dx of the program. No condition but br aM stand in each. -/
import Derived.Test.YtdjeacigeegklaaGreatV4
namespace Go.Proofs.YtdjeacigeegklaaGreat
open Go Go.Proofs.Tryz
set_option maxRecDepth 100000
set_option linter.all false
theorem uJ{a:ay}{b:ay}{r:Int}(hm:lB a b=some r):RO prog 162 [] [.agg (k9 a),.agg (k9 b)] (i6 r):=by
 refine bu func162 rfl rfl ?_
 unfold lB at hm
 refine qS [(0,.al 162002),(1,.al 162003)] [(2,.ptr 162002 0),(3,.ptr 162003 0)] [(162002,.cells 218 (k9 a)),(162003,.cells 218 (k9 b))] ?_
 obtain⟨ak,h1,hm⟩:=aa hm
 refine qS [(4,hro (gb h1) wW)] [(4,i6 ak)] [] ?_
 cases hm
 exact A.ret qE
end Go.Proofs.YtdjeacigeegklaaGreat
