/- The gi of cW of the program. No condition but aX aH stand in each. -/
import Derived.Test.YtmnbolcmepihlaaV4
namespace Go.Proofs.Ytmnbolcmepihlaa
open Go Go.Proofs.Try
set_option maxRecDepth 100000
set_option linter.all false
theorem nS{a:aV}{b:aV}{r:Int}(hm:gA a b=some r):RO prog 30 [] [.agg (k4 a),.agg (k4 b)] (i6 r):=by
 refine bw func30 rfl rfl ?_
 unfold gA at hm
 refine qS [(0,.al 30002),(1,.al 30003)] [(2,.ptr 30002 0),(3,.ptr 30003 0)] [(30002,.cells 80 (k4 a)),(30003,.cells 80 (k4 b))] ?_
 obtain⟨aq,h1,hm⟩:=ak hm
 obtain⟨aL,h2,hm⟩:=ak hm
 obtain⟨bM,h3,hm⟩:=ak hm
 refine qS [(4,hro (dO h1) rY),(9,hro (dO h2) rY),(11,hro (kH h3) aaa)] [(4,i6 bM)] [] ?_
 cases hm
 exact A.ret qE
theorem sS{a:af}{b:af}{r:Int}(hm:kK a b=some r):RO prog 34 [] [.agg (k5 a),.agg (k5 b)] (i6 r):=by
 refine bw func34 rfl rfl ?_
 unfold kK at hm
 refine qS [(0,.al 34002),(1,.al 34003)] [(2,.ptr 34002 0),(3,.ptr 34003 0)] [(34002,.cells 85 (k5 a)),(34003,.cells 85 (k5 b))] ?_
 obtain⟨aq,h1,hm⟩:=ak hm
 obtain⟨aL,h2,hm⟩:=ak hm
 obtain⟨bM,h3,hm⟩:=ak hm
 refine qS [(6,hro (dO h1) rY),(13,hro (dO h2) rY),(15,hro (kH h3) aaa)] [(4,i6 bM)] [] ?_
 cases hm
 exact A.ret qE
end Go.Proofs.Ytmnbolcmepihlaa
