/- The gW of dB of the program. No condition but bk aJ stand in each. -/
import Derived.Test.YtmnbolcmepihlaaGreatV1
namespace Go.Proofs.YtmnbolcmepihlaaGreat
open Go Go.Proofs.Tryz
set_option maxRecDepth 100000
set_option linter.all false
theorem iF{t:aj}{ra1:Int}{r:Bool}(hm:fB t ra1=some r):RO prog 79 [] [.agg (k2 t),i6 ra1] (.bool r):=by
 refine aY func79 rfl rfl ?_
 unfold fB at hm
 refine qS [(0,.al 79002)] [(1,i6 ra1),(2,.ptr 79002 0)] [(79002,.cells 28 (k2 t))] ?_
 obtain⟨az,h1,hm⟩:=aa hm
 rcases aB hm with⟨c1,hm⟩|⟨c1,hm⟩
 ·obtain⟨aD,h2,hm⟩:=aa hm
  refine qS [(1,hro (iN h1) aaq),(3,hto (bE c1)),(6,hro (lZ h2) zG)] [(4,.bool aD)] [] ?_
  cases hm
  exact A.ret qE
 refine qS [(1,hro (iN h1) aaq),(3,hto (bE c1))] [(4,.bool false)] [] ?_
 cases hm
 exact A.ret qE
theorem xw{t:aj}{cH:Int}{ez:Int}{r:Int×Bool}(hm:lM t cH ez=some r):RO prog 80 [] [.agg (k2 t),i6 cH,i6 ez] (.tup [i6 r.1,.bool r.2]):=by
 refine aY func80 rfl rfl ?_
 unfold lM at hm
 refine qS [(0,.al 80003)] [(1,i6 cH),(2,i6 ez),(3,.ptr 80003 0)] [(80003,.cells 28 (k2 t))]<|A.seq ?_
 obtain⟨az,h1,hm⟩:=aa hm
 refine qDs [(1,hro (iN h1) aaq)] [] [(10,.bool (!decide (az=0)))] ?_
 rcases aB hm with⟨c1,hm⟩|⟨c1,hm⟩
 ·refine qT c1<|qS [] [(6,i6 0),(7,.bool false)] [] ?_
  cases hm
  exact A.ret qE
 refine qF c1<|A.skip ?_
 obtain⟨aD,h2,hm⟩:=aa hm
 refine qS [(3,hro (wC h2) aoo)] [(6,i6 aD.1),(7,.bool aD.2)] [] ?_
 cases hm
 exact A.ret qE
end Go.Proofs.YtmnbolcmepihlaaGreat
