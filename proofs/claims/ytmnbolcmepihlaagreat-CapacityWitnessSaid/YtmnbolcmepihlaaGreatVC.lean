/- The walks of cv of the program. No condition but aT aH stand in each. -/
import Derived.Test.YtmnbolcmepihlaaGreatV4
namespace Go.Proofs.YtmnbolcmepihlaaGreat
open Go Go.Proofs.Tryz
set_option maxRecDepth 100000
set_option linter.all false
variable {r:Int}
theorem rj{a:aF}{b:aF}(hm:jf a b=some r):RO prog 125 [] [.agg (k3 a),.agg (k3 b)] (i6 r):=by
 refine bg func125 rfl rfl ?_
 unfold jf at hm
 refine qS [(0,.al 125002),(1,.al 125003)] [(2,.ptr 125002 0),(3,.ptr 125003 0)] [(125002,.cells 84 (k3 a)),(125003,.cells 84 (k3 b))] ?_
 obtain⟨ay,h1,hm⟩:=ah hm
 obtain⟨aI,h2,hm⟩:=ah hm
 obtain⟨bk,h3,hm⟩:=ah hm
 refine qS [(4,hro (cR h1) mX),(9,hro (cR h2) mX),(11,hro (je h3) wV)] [(4,i6 bk)] [] ?_
 cases hm
 exact A.ret qE
theorem wW{a:af}{b:af}(hm:nc a b=some r):RO prog 128 [] [.agg (k4 a),.agg (k4 b)] (i6 r):=by
 refine bg func128 rfl rfl ?_
 unfold nc at hm
 refine qS [(0,.al 128002),(1,.al 128003)] [(2,.ptr 128002 0),(3,.ptr 128003 0)] [(128002,.cells 175 (k4 a)),(128003,.cells 175 (k4 b))] ?_
 obtain⟨ay,h1,hm⟩:=ah hm
 obtain⟨aI,h2,hm⟩:=ah hm
 obtain⟨bk,h3,hm⟩:=ah hm
 refine qS [(6,hro (cR h1) mX),(13,hro (cR h2) mX),(15,hro (je h3) wV)] [(4,i6 bk)] [] ?_
 cases hm
 exact A.ret qE
theorem rq{a:bP}{b:bP}(hm:jg a b=some r):RO prog 155 [] [.agg (k7 a),.agg (k7 b)] (i6 r):=by
 refine bg func155 rfl rfl ?_
 unfold jg at hm
 refine qS [(0,.al 155002),(1,.al 155003)] [(2,.ptr 155002 0),(3,.ptr 155003 0)] [(155002,.cells 60 (k7 a)),(155003,.cells 60 (k7 b))] ?_
 obtain⟨ay,h1,hm⟩:=ah hm
 obtain⟨aI,h2,hm⟩:=ah hm
 obtain⟨bk,h3,hm⟩:=ah hm
 refine qS [(4,hro (cR h1) mX),(9,hro (cR h2) mX),(11,hro (je h3) wV)] [(4,i6 bk)] [] ?_
 cases hm
 exact A.ret qE
end Go.Proofs.YtmnbolcmepihlaaGreat
