/- The walks of cE of the program. No condition but bf aM stand in each. -/
import Derived.Test.YtmnbolcmepihlaaGreatDL8
import Derived.Test.YtmnbolcmepihlaaGreatVLC
import Derived.Test.YtmnbolcmepihlaaGreatVRC
namespace Go.Proofs.YtmnbolcmepihlaaGreat
open Go Go.Proofs.Tryz
set_option maxRecDepth 100000
set_option linter.all false
theorem rW{t:List Int}{r:Bool}(hm:iM t=some r):RO prog 7 [] [lf ak t] (.bool r):=by
 refine aZ func7 rfl rfl ?_;unfold iM at hm;refine qS [] [(0,lf ak t)] [] ?_;obtain⟨aq,h1,hm⟩:=aa hm;refine qS [(1,hdc [900000103] (vt h1) ck12)] [(3,.ptr 900000103 0)] [(900000103,.cells 103 (k5 aq))] ?_;obtain⟨aF,h2,hm⟩:=aa hm;refine qD [(1,hdc [500001300] (x6 h2) ck13),(2,.al 7004)] [] [(4,.ptr 7004 0)] [900000103] [(900000103,.cells 103 (k5 aF.2)),(500001300,.slice 62 5 (ml bD aF.1.Links) 0 false),(7004,.cells 28 [lf bt aF.1.aC,.own 500001300])] ?_;obtain⟨bx,h3,hm⟩:=aa hm;refine A.RS W0 [.fz [500001300]] [(2,hdc [] (y5 h3) ck22)] [(4,.ptr 7004 0),(5,lf bH bx.1)] [(500001300,.slice 62 5 (ml bD aF.1.Links) (ml bD aF.1.Links).length true),(7004,.cells 28 [lf bt aF.1.aC,.own 500001300])] (by kernel_rfl)<|A.RY W0 2 [3,4,5,6,7] [] [] (qd hm) apj (by kernel_rfl) (by kernel_rfl) (by kernel_rfl) (by rintro _ _ ⟨rfl,_,_,rfl⟩;exact⟨rfl,rfl⟩) ?_
 rintro _ _ ⟨rfl,bV,hm,rfl⟩
 try dsimp only at hm
 refine⟨[],[(4,.ptr 7004 0),(5,lf bH bx.1),(6,lf cr bV.1),(7,i6 bV.2)],[(500001300,.slice 62 5 (ml bD aF.1.Links) (ml bD aF.1.Links).length true),(7004,.cells 28 [lf bt aF.1.aC,.own 500001300])],by kernel_rfl,?_⟩;rcases aA hm with⟨c1,hm⟩|⟨c1,hm⟩
 ·rcases aA hm with⟨c2,hm⟩|⟨c2,hm⟩
  ·obtain⟨cK,h4,hm⟩:=aa hm;rcases aA hm with⟨c3,hm⟩|⟨c3,hm⟩
   ·obtain⟨cQ,h5,hm⟩:=aa hm;rcases aA hm with⟨c4,hm⟩|⟨c4,hm⟩
    ·obtain⟨dy,h6,hm⟩:=aa hm;refine qS [(2,hto (bE c1)),(4,hto (lnE cr bV.1)),(6,hto (lnE bH bx.1)),(9,hto (bE c2)),(13,hro (oI h4) aid),(16,hto (bE c3)),(20,hro (qe h5) apk),(23,hto (bE c4)),(24,hro (y8 h6) ck27)] [(2,.bool dy)] [] ?_;cases hm;exact A.ret qE
    refine qS [(2,hto (bE c1)),(4,hto (lnE cr bV.1)),(6,hto (lnE bH bx.1)),(9,hto (bE c2)),(13,hro (oI h4) aid),(16,hto (bE c3)),(20,hro (qe h5) apk),(23,hto (bE c4))] [(2,.bool false)] [] ?_;cases hm;exact A.ret qE
   refine qS [(2,hto (bE c1)),(4,hto (lnE cr bV.1)),(6,hto (lnE bH bx.1)),(9,hto (bE c2)),(13,hro (oI h4) aid),(16,hto (bE c3))] [(2,.bool false)] [] ?_;cases hm;exact A.ret qE
  refine qS [(2,hto (bE c1)),(4,hto (lnE cr bV.1)),(6,hto (lnE bH bx.1)),(9,hto (bE c2))] [(2,.bool false)] [] ?_;cases hm;exact A.ret qE
 refine qS [(2,hto (bE c1))] [(2,.bool false)] [] ?_;cases hm;exact A.ret qE
end Go.Proofs.YtmnbolcmepihlaaGreat
