/- The gW of dB of the program. No condition but bk aJ stand in each. -/
import Derived.Test.YtmnbolcmepihlaaGreatDL1
import Derived.Test.YtmnbolcmepihlaaGreatVL
import Derived.Test.YtmnbolcmepihlaaGreatVY
namespace Go.Proofs.YtmnbolcmepihlaaGreat
open Go Go.Proofs.Tryz
set_option maxRecDepth 100000
set_option linter.all false
theorem o7{t:List Int}{r:Bool}(hm:gw t=some r):RO prog 3 [] [lf ai t] (.bool r):=by
 refine aY func3 rfl rfl ?_
 unfold gw at hm
 refine qS [] [(0,lf ai t)] [] ?_
 obtain⟨az,h1,hm⟩:=aa hm
 refine qS [(1,hdc [900000103] (sU h1) ck12)] [(3,.ptr 900000103 0)] [(900000103,.cells 103 (k5 az))] ?_
 obtain⟨aD,h2,hm⟩:=aa hm
 refine qD [(1,hdc [] (vo h2) ck13),(2,.al 3004)] [] [(4,.ptr 3004 0)] [900000103] [(900000103,.cells 103 (k5 aD.2)),(3004,.cells 28 (k2 aD.1))] ?_
 obtain⟨bt,h3,hm⟩:=aa hm
 obtain⟨e_1,h4,hm⟩:=aa hm
 refine qD [(5,hto (lnE aQ aD.1.ak)),(6,hdc [] (ck h3) qm),(7,hix (ix aQ h4))] [] [(5,i6 e_1.ID)] [900000103] [(900000103,.cells 103 (k5 bt.2))] ?_
 obtain⟨bJ,h5,hm⟩:=aa hm
 refine qD [(2,hdc [] (zo h5) ck15)] [3] [(6,lf ai bJ.1)] [900000103] []<|A.RY W0 3 [4,5,6,7,8,9,10,11] [] [] (nj hm) alq (by kernel_rfl) (by kernel_rfl) (by kernel_rfl) (by rintro _ _ ⟨rfl,_,_,rfl⟩;exact⟨rfl,rfl⟩) ?_
 rintro _ _ ⟨rfl,cc,hm,rfl⟩
 try dsimp only at hm
 refine⟨[(8,.al 3007)],[(4,.ptr 3004 0),(5,i6 e_1.ID),(6,lf ai bJ.1),(7,.ptr 3007 0),(8,i6 cc.2.1),(9,i6 cc.2.2)],[(3004,.cells 28 (k2 aD.1)),(3007,.cells 36 (k6 cc.1))],by kernel_rfl,?_⟩
 obtain⟨dh,h6,hm⟩:=aa hm
 refine qS [(3,hro (tP h6) ck17)] [(4,.ptr 3004 0),(5,i6 e_1.ID),(6,lf ai bJ.1),(7,.ptr 3007 0),(8,i6 cc.2.1),(9,i6 cc.2.2),(10,i6 dh.1),(11,i6 dh.2)] [(3004,.cells 28 (k2 aD.1)),(3007,.cells 36 (k6 cc.1))]<|A.seq<|A.mid [(4,.ptr 3004 0),(5,i6 e_1.ID),(6,lf ai bJ.1),(7,.ptr 3007 0),(8,i6 cc.2.1),(9,i6 cc.2.2),(10,i6 dh.1),(11,i6 dh.2),(52,.bool ((!decide (cc.2.2=dh.2))||(!decide (cc.2.2=0))))] [(3004,.cells 28 (k2 aD.1)),(3007,.cells 36 (k6 cc.1))] (λhk=>?_) ?_
 ·rcases tf (!decide (cc.2.2=dh.2))with c1|c1
  ·exact qS [(3,hto (bE c1)),(6,hto (orT (q:=!decide (cc.2.2=0)) c1))] _ _ hk
  exact qS [(3,hto (bE c1)),(6,hto (orF (q:=!decide (cc.2.2=0)) c1))] _ _ hk
 rcases aB hm with⟨c2,hm⟩|⟨c2,hm⟩
 ·refine qT c2 ?_
  rcases aB hm with⟨c3,hm⟩|⟨c3,hm⟩
  ·obtain⟨cU,h7,hm⟩:=aa hm
   refine qS [(3,hto (bE c3)),(4,hro (qt h7) alr)] [(2,.bool cU)] [] ?_
   cases hm
   exact A.ret qE
  refine qS [(3,hto (bE c3))] [(2,.bool false)] [] ?_
  cases hm
  exact A.ret qE
 refine qF c2<|A.skip ?_
 obtain⟨iU,h8,hm⟩:=aa hm
 refine qDs [(2,hro (vp h8) ck19)] [9,11,52] [(12,i6 iU.1),(13,i6 iU.2)] ?_
 rcases aB hm with⟨c4,hm⟩|⟨c4,hm⟩
 ·rcases aB hm with⟨c5,hm⟩|⟨c5,hm⟩
  ·rcases aB hm with⟨c6,hm⟩|⟨c6,hm⟩
   ·rcases aB hm with⟨c7,hm⟩|⟨c7,hm⟩
    ·obtain⟨mO,h9,hm⟩:=aa hm
     rcases aB hm with⟨c8,hm⟩|⟨c8,hm⟩
     ·obtain⟨vj,h10,hm⟩:=aa hm
      rcases aB hm with⟨c9,hm⟩|⟨c9,hm⟩
      ·obtain⟨l5,h11,hm⟩:=aa hm
       refine qS [(2,hto (bE c4)),(7,hto (bE c5)),(12,hto (bE c6)),(18,hto (bE c7)),(22,hro (gM h9) acn),(25,hto (bE c8)),(29,hro (nU h10) als),(32,hto (bE c9)),(33,hro (qt h11) alr)] [(2,.bool l5)] [] ?_
       cases hm
       exact A.ret qE
      refine qS [(2,hto (bE c4)),(7,hto (bE c5)),(12,hto (bE c6)),(18,hto (bE c7)),(22,hro (gM h9) acn),(25,hto (bE c8)),(29,hro (nU h10) als),(32,hto (bE c9))] [(2,.bool false)] [] ?_
      cases hm
      exact A.ret qE
     refine qS [(2,hto (bE c4)),(7,hto (bE c5)),(12,hto (bE c6)),(18,hto (bE c7)),(22,hro (gM h9) acn),(25,hto (bE c8))] [(2,.bool false)] [] ?_
     cases hm
     exact A.ret qE
    refine qS [(2,hto (bE c4)),(7,hto (bE c5)),(12,hto (bE c6)),(18,hto (bE c7))] [(2,.bool false)] [] ?_
    cases hm
    exact A.ret qE
   refine qS [(2,hto (bE c4)),(7,hto (bE c5)),(12,hto (bE c6))] [(2,.bool false)] [] ?_
   cases hm
   exact A.ret qE
  refine qS [(2,hto (bE c4)),(7,hto (bE c5))] [(2,.bool false)] [] ?_
  cases hm
  exact A.ret qE
 refine qS [(2,hto (bE c4))] [(2,.bool false)] [] ?_
 cases hm
 exact A.ret qE
end Go.Proofs.YtmnbolcmepihlaaGreat
