/- The walks of cE of the program. No condition but bf aM stand in each. -/
import Derived.Test.YtmnbolcmepihlaaGreatV1
namespace Go.Proofs.YtmnbolcmepihlaaGreat
open Go Go.Proofs.Tryz
set_option maxRecDepth 100000
set_option linter.all false
theorem qp{t:ai}{ra1:Int}{r:Bool}(hm:kX t ra1=some r):RO prog 79 [] [.agg (k2 t),i6 ra1] (.bool r):=by
 refine aZ func79 rfl rfl ?_;unfold kX at hm;refine qS [(0,.al 79002)] [(1,i6 ra1),(2,.ptr 79002 0)] [(79002,.cells 28 (k2 t))] ?_;obtain⟨aq,h1,hm⟩:=aa hm;rcases aA hm with⟨c1,hm⟩|⟨c1,hm⟩
 ·obtain⟨aF,h2,hm⟩:=aa hm;refine qS [(1,hro (jF h1) acT),(3,hto (bE c1)),(6,hro (nP h2) ab5)] [(4,.bool aF)] [] ?_;cases hm;exact A.ret qE
 refine qS [(1,hro (jF h1) acT),(3,hto (bE c1))] [(4,.bool false)] [] ?_;cases hm;exact A.ret qE
theorem tg{t:ai}{cv:Int}{dJ:Int}{r:Int×Bool}(hm:lM t cv dJ=some r):RO prog 80 [] [.agg (k2 t),i6 cv,i6 dJ] (.tup [i6 r.1,.bool r.2]):=by
 refine aZ func80 rfl rfl ?_;unfold lM at hm;refine qS [(0,.al 80003)] [(1,i6 cv),(2,i6 dJ),(3,.ptr 80003 0)] [(80003,.cells 28 (k2 t))]<|A.seq ?_
 obtain⟨aq,h1,hm⟩:=aa hm;refine qDs [(1,hro (jF h1) acT)] [] [(10,.bool (!decide (aq=0)))] ?_;rcases aA hm with⟨c1,hm⟩|⟨c1,hm⟩
 ·refine qT c1<|qS [] [(6,i6 0),(7,.bool false)] [] ?_
  cases hm;exact A.ret qE
 refine qF c1<|A.skip ?_
 obtain⟨aF,h2,hm⟩:=aa hm;refine qS [(3,hro (yX h2) asi)] [(6,i6 aF.1),(7,.bool aF.2)] [] ?_;cases hm;exact A.ret qE
end Go.Proofs.YtmnbolcmepihlaaGreat
