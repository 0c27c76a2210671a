/- The walks of cz of the program. No condition but aX aL stand in each. -/
import Derived.Test.YtmnbolcmepihlaaGreatV4
namespace Go.Proofs.YtmnbolcmepihlaaGreat
open Go Go.Proofs.Tryz
set_option maxRecDepth 100000
set_option linter.all false
variable {r:Int}
theorem tX{a:aC}{b:aC}(hm:kN a b=some r):RO prog 125 [] [.agg (k3 a),.agg (k3 b)] (i6 r):=by
 refine aY func125 rfl rfl ?_;unfold kN at hm;refine qS [(0,.al 125002),(1,.al 125003)] [(2,.ptr 125002 0),(3,.ptr 125003 0)] [(125002,.cells 84 (k3 a)),(125003,.cells 84 (k3 b))] ?_;obtain⟨az,h1,hm⟩:=aa hm;obtain⟨aH,h2,hm⟩:=aa hm;obtain⟨bA,h3,hm⟩:=aa hm;refine qS [(4,hro (dx h1) pz),(9,hro (dx h2) pz),(11,hro (kL h3) zM)] [(4,i6 bA)] [] ?_;cases hm;exact A.ret qE
theorem zN{a:ai}{b:ai}(hm:pJ a b=some r):RO prog 128 [] [.agg (k4 a),.agg (k4 b)] (i6 r):=by
 refine aY func128 rfl rfl ?_;unfold pJ at hm;refine qS [(0,.al 128002),(1,.al 128003)] [(2,.ptr 128002 0),(3,.ptr 128003 0)] [(128002,.cells 175 (k4 a)),(128003,.cells 175 (k4 b))] ?_;obtain⟨az,h1,hm⟩:=aa hm;obtain⟨aH,h2,hm⟩:=aa hm;obtain⟨bA,h3,hm⟩:=aa hm;refine qS [(6,hro (dx h1) pz),(13,hro (dx h2) pz),(15,hro (kL h3) zM)] [(4,i6 bA)] [] ?_;cases hm;exact A.ret qE
theorem tY{a:bQ}{b:bQ}(hm:kO a b=some r):RO prog 155 [] [.agg (k7 a),.agg (k7 b)] (i6 r):=by
 refine aY func155 rfl rfl ?_;unfold kO at hm;refine qS [(0,.al 155002),(1,.al 155003)] [(2,.ptr 155002 0),(3,.ptr 155003 0)] [(155002,.cells 60 (k7 a)),(155003,.cells 60 (k7 b))] ?_;obtain⟨az,h1,hm⟩:=aa hm;obtain⟨aH,h2,hm⟩:=aa hm;obtain⟨bA,h3,hm⟩:=aa hm;refine qS [(4,hro (dx h1) pz),(9,hro (dx h2) pz),(11,hro (kL h3) zM)] [(4,i6 bA)] [] ?_;cases hm;exact A.ret qE
end Go.Proofs.YtmnbolcmepihlaaGreat
