/- The walks of cE of the program. No condition but bf aM stand in each. -/
import Derived.Test.YtmnbolcmepihlaaGreatV4
namespace Go.Proofs.YtmnbolcmepihlaaGreat
open Go Go.Proofs.Tryz
set_option maxRecDepth 100000
set_option linter.all false
variable {r:Int}
theorem uq{a:az}{b:az}(hm:kH a b=some r):RO prog 125 [] [.agg (k3 a),.agg (k3 b)] (i6 r):=by
 refine aZ func125 rfl rfl ?_;unfold kH at hm;refine qS [(0,.al 125002),(1,.al 125003)] [(2,.ptr 125002 0),(3,.ptr 125003 0)] [(125002,.cells 84 (k3 a)),(125003,.cells 84 (k3 b))] ?_;obtain⟨aq,h1,hm⟩:=aa hm;obtain⟨aF,h2,hm⟩:=aa hm;obtain⟨bx,h3,hm⟩:=aa hm;refine qS [(4,hro (dD h1) pO),(9,hro (dD h2) pO),(11,hro (ku h3) zX)] [(4,i6 bx)] [] ?_;cases hm;exact A.ret qE
theorem zZ{a:ah}{b:ah}(hm:pT a b=some r):RO prog 128 [] [.agg (k4 a),.agg (k4 b)] (i6 r):=by
 refine aZ func128 rfl rfl ?_;unfold pT at hm;refine qS [(0,.al 128002),(1,.al 128003)] [(2,.ptr 128002 0),(3,.ptr 128003 0)] [(128002,.cells 175 (k4 a)),(128003,.cells 175 (k4 b))] ?_;obtain⟨aq,h1,hm⟩:=aa hm;obtain⟨aF,h2,hm⟩:=aa hm;obtain⟨bx,h3,hm⟩:=aa hm;refine qS [(6,hro (dD h1) pO),(13,hro (dD h2) pO),(15,hro (ku h3) zX)] [(4,i6 bx)] [] ?_;cases hm;exact A.ret qE
theorem ur{a:aR}{b:aR}(hm:kI a b=some r):RO prog 155 [] [.agg (k7 a),.agg (k7 b)] (i6 r):=by
 refine aZ func155 rfl rfl ?_;unfold kI at hm;refine qS [(0,.al 155002),(1,.al 155003)] [(2,.ptr 155002 0),(3,.ptr 155003 0)] [(155002,.cells 60 (k7 a)),(155003,.cells 60 (k7 b))] ?_;obtain⟨aq,h1,hm⟩:=aa hm;obtain⟨aF,h2,hm⟩:=aa hm;obtain⟨bx,h3,hm⟩:=aa hm;refine qS [(4,hro (dD h1) pO),(9,hro (dD h2) pO),(11,hro (ku h3) zX)] [(4,i6 bx)] [] ?_;cases hm;exact A.ret qE
end Go.Proofs.YtmnbolcmepihlaaGreat
