/- The ew of cA of the program. No condition but bM bw stand in each. -/
import Derived.Test.YtjdopimopgpagaaGreatDL5
import Derived.Test.YtjdopimopgpagaaGreatVQ
import Derived.Test.YtjdopimopgpagaaGreatVL
namespace Go.Proofs.YtjdopimopgpagaaGreat
open Go Go.Proofs.Tryz
set_option maxRecDepth 100000
set_option linter.all false
theorem uy{t:List Int}{raw:List aK}{r:Bool}(hm:jv t raw=some r):RO prog 8 [] [lf bO t,lf az raw] (.bool r):=by
 refine aZ func8 rfl rfl ?_
 unfold jv at hm
 refine qS [] [(0,lf bO t),(1,lf az raw)] [] ?_
 obtain⟨af,h1,hm⟩:=aa hm
 refine qD [(1,hdc [900000083] (aeU h1) ck11)] [0] [(5,.ptr 900000083 0)] [] [(900000083,.cells 83 (k3 af))] ?_
 obtain⟨aD,h2,hm⟩:=aa hm
 obtain⟨aP,h3,hm⟩:=aa hm
 refine qD [(2,hdc [] (SC.uI (r':=.agg (k12 aD.1)) (σ3:=[(900000083,.cells 83 (k3 aD.2))]) [500001300] (y4 h2) (by kernel_rfl) (by kernel_rfl)) ck13),(3,hdc [] (aa8 h3) ck12),(4,.al 8006)] [] [(6,.ptr 8006 0)] [900000083] [(900000083,.cells 83 (k3 aP.2)),(8006,.cells 27 (k12 aP.1))] ?_
 obtain⟨bt,h4,hm⟩:=aa hm
 obtain⟨bF,h5,hm⟩:=aa hm
 obtain⟨cg,h6,hm⟩:=aa hm
 obtain⟨cw,h7,hm⟩:=aa hm
 obtain⟨cr,h8,hm⟩:=aa hm
 refine qD [(1,hro (eA h4) wA),(4,hro (eA h5) wA),(5,hdc [] (SC.uI (r':=.agg (k4 cg.1)) (σ3:=[(900000083,.cells 83 (k3 cg.2))]) [500004500,500004501] (xM h6) (by kernel_rfl) (by kernel_rfl)) ck45),(6,hro (yY h7) ck28),(9,hdc [] (SC.uI (r':=.agg (k2 cr.1)) (σ3:=[(900000083,.cells 83 (k3 cr.2))]) [500004600,500004601] (rJ h8) (by kernel_rfl) (by kernel_rfl)) ao6)] [5] [(7,.lst true (ml (eL az) ([cw.Links,cr.1.Links,raw]:List (List aK))))] [900000083] []<|A.seq<|qDs [] [] [(8,i6 0)]<|A.block ?_
 obtain⟨F1,n1,hF1,hm⟩:=gw hm
 refine A.lpW (F:=F1) hm (λi_1=>[(1,lf az raw),(6,.ptr 8006 0),(7,.lst true (ml (eL az) ([cw.Links,cr.1.Links,raw]:List (List aK)))),(8,i6 i_1)]) (λi_1=>[(8006,.cells 27 (k12 aP.1))]) ?_ ?_
 ·exact qW
 rintro Z1 i_1 hm
 rw[hF1]at hm
 refine A.seq<|A.mid [(1,lf az raw),(6,.ptr 8006 0),(7,.lst true (ml (eL az) ([cw.Links,cr.1.Links,raw]:List (List aK)))),(8,i6 i_1),(40,.bool ((decide (i_1<(([cw.Links,cr.1.Links,raw]:List (List aK)).length:Int)))&&(decide ((raw.length:Int)≤(100:Int)))))] [(8006,.cells 27 (k12 aP.1))] (λhk=>?_) ?_
 ·rcases tf (decide (i_1<(([cw.Links,cr.1.Links,raw]:List (List aK)).length:Int)))with c1|c1
  ·exact qS [(2,hto (lnE (eL az) ([cw.Links,cr.1.Links,raw]:List (List aK)))),(4,hto (bE c1)),(6,hto (lnE az raw)),(8,hto (pE (q:=decide ((raw.length:Int)≤(100:Int))) c1))] _ _ hk
  exact qS [(2,hto (lnE (eL az) ([cw.Links,cr.1.Links,raw]:List (List aK)))),(4,hto (bE c1)),(8,hto (qn (q:=decide ((raw.length:Int)≤(100:Int))) c1))] _ _ hk
 rcases aq hm with⟨c2,hm⟩|⟨c2,hm⟩
 ·refine qT c2<|A.skip<|A.seq<|A.block ?_
  obtain⟨e_1,h9,hm⟩:=aa hm
  obtain⟨dJ,h10,hm⟩:=aa hm
  refine qD [(3,hix (ix (eL az) h9)),(5,hro (xR h10) ck47),(9,.al 8009)] [40] [(9,.ptr 8009 0),(10,i6 dJ.2)] [] [(8009,.cells 27 (k12 dJ.1))] ?_
  obtain⟨bK,h11,hm⟩:=aa hm
  refine qD [(3,hix (ix (eL az) h9)),(5,hro (z8 h11) ck48),(9,.al 8011)] [] [(11,.ptr 8011 0),(12,i6 bK.2)] [] [(8011,.cells 27 (k12 bK.1))] ?_
  obtain⟨J1,hJ1,hm⟩:=bI hm
  refine A.J (J:=J1) (r:=r) (λv_1=>[(1,lf az raw),(6,.ptr 8006 0),(7,.lst true (ml (eL az) ([cw.Links,cr.1.Links,raw]:List (List aK)))),(8,i6 i_1),(69,.bool v_1)]) (λv_1=>[(8006,.cells 27 (k12 aP.1))]) ?_ ?_
  ·obtain⟨ei,h12,hm⟩:=aa hm
   rcases aq hm with⟨c3,hm⟩|⟨c3,hm⟩
   ·exact qG [(2,hro (wg h12) ao2),(4,hto (bE c3))] [9,10,11,12] [(69,.bool true)] [8009,8011] []<|qX true hm
   exact qG [(2,hro (wg h12) ao2),(4,hto (bE c3))] [9,10,11,12] [(69,.bool (!decide (dJ.2=bK.2)))] [8009,8011] []<|qX (!decide (dJ.2=bK.2)) hm
  rintro v_1 hm
  rw[hJ1]at hm
  rcases aq hm with⟨c4,hm⟩|⟨c4,hm⟩
  ·refine qT c4<|qS [] [(4,.bool false)] [] ?_
   cases hm
   exact A.ret qE
  exact qF c4<|A.skip<|qGs [] [8,69] [(8,i6 (w64 (i_1+1)))]<|qX (w64 (i_1+1)) hm
 refine qF c2<|A.exit ?_
 obtain⟨cn,h13,hm⟩:=aa hm
 refine qS [(0,hro (aa7 h13) ck18)] [(4,.bool cn)] [] ?_
 cases hm
 exact A.ret qE
end Go.Proofs.YtjdopimopgpagaaGreat
