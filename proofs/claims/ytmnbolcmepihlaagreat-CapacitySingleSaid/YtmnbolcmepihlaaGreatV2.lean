/- The walks of cz of the program. No condition but aX aL stand in each. -/
import Derived.Test.YtmnbolcmepihlaaGreatV1
namespace Go.Proofs.YtmnbolcmepihlaaGreat
open Go Go.Proofs.Tryz
set_option maxRecDepth 100000
set_option linter.all false
theorem jv{t:af}{ra1:Int}{r:Bool}(hm:gn t ra1=some r):RO prog 79 [] [.agg (k2 t),i6 ra1] (.bool r):=by
 refine aY func79 rfl rfl ?_;unfold gn at hm;refine qS [(0,.al 79002)] [(1,i6 ra1),(2,.ptr 79002 0)] [(79002,.cells 28 (k2 t))] ?_;obtain⟨az,h1,hm⟩:=aa hm;rcases aB hm with⟨c1,hm⟩|⟨c1,hm⟩
 ·obtain⟨aH,h2,hm⟩:=aa hm;refine qS [(1,hro (jG h1) acQ),(3,hto (bE c1)),(6,hro (nJ h2) ab1)] [(4,.bool aH)] [] ?_;cases hm;exact A.ret qE
 refine qS [(1,hro (jG h1) acQ),(3,hto (bE c1))] [(4,.bool false)] [] ?_;cases hm;exact A.ret qE
theorem sY{t:af}{dA:Int}{ff:Int}{r:Int×Bool}(hm:lK t dA ff=some r):RO prog 80 [] [.agg (k2 t),i6 dA,i6 ff] (.tup [i6 r.1,.bool r.2]):=by
 refine aY func80 rfl rfl ?_;unfold lK at hm;refine qS [(0,.al 80003)] [(1,i6 dA),(2,i6 ff),(3,.ptr 80003 0)] [(80003,.cells 28 (k2 t))]<|A.seq ?_
 obtain⟨az,h1,hm⟩:=aa hm;refine qDs [(1,hro (jG h1) acQ)] [] [(10,.bool (!decide (az=0)))] ?_;rcases aB hm with⟨c1,hm⟩|⟨c1,hm⟩
 ·refine qT c1<|qS [] [(6,i6 0),(7,.bool false)] [] ?_
  cases hm;exact A.ret qE
 refine qF c1<|A.skip ?_
 obtain⟨aH,h2,hm⟩:=aa hm;refine qS [(3,hro (yQ h2) asl)] [(6,i6 aH.1),(7,.bool aH.2)] [] ?_;cases hm;exact A.ret qE
end Go.Proofs.YtmnbolcmepihlaaGreat
