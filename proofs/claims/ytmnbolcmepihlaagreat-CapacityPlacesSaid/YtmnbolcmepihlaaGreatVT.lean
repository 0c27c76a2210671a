/- The walks of cE of the program. No condition but bf aM stand in each. -/
import Derived.Test.YtmnbolcmepihlaaGreatVQ
import Derived.Test.YtmnbolcmepihlaaGreatVJ
namespace Go.Proofs.YtmnbolcmepihlaaGreat
open Go Go.Proofs.Tryz
set_option maxRecDepth 100000
set_option linter.all false
theorem tQ{l:List Int}{r:Bool}(hm:iw l=some r):RO prog 74 [] [lf ak l] (.bool r):=by
 refine aZ func74 rfl rfl ?_;unfold iw at hm;refine qS [] [(0,lf ak l)] []<|A.seq<|qDs [] [] [(3,i6 1)]<|A.block<|A.bS 0 rfl λhb1=>?_
 obtain⟨B1,K1,hB1,hK1,hm⟩:=bh hm;refine A.lpI (l:=l) (j0:=1) (B:=B1) (K:=K1) hm (λj1=>λ()=>[(0,lf ak l),(3,i6 (j1:Int))]) (λj1=>λ()=>[]) ?_ ?_ ?_
 ·exact qW
 ·rintro j1 e1 Z1 ⟨⟩ hj1 hx1 hm;rw[hB1]at hm;refine A.seq<|qDs [(2,hto (lnE ak l))] [] [(7,.bool (decide ((j1:Int)<(l.length:Int))))] ?_
  refine qT (ltT hx1)<|A.skip<|A.seq<|A.block ?_
  obtain⟨e_1,h1,hm⟩:=aa hm;refine qDs [(3,hix (ix ak h1)),(7,hix (ix ak (bu hx1)))] [7] [(19,.bool (decide (e1≤e_1)))] ?_;rcases aA hm with⟨c1,hm⟩|⟨c1,hm⟩
  ·refine qT c1<|qS [] [(2,.bool false)] [] ?_
   cases hm;exact A.ret qE
  exact qF c1<|A.skip<|qGs [(1,hto (inc hx1 hb1))] [3,19] [(3,i6 ((j1+1:Nat):Int))]<|qX () hm
 rintro j1 ⟨⟩ hj1 hl1 hm;rw[hK1]at hm;refine A.seq<|qDs [(2,hto (lnE ak l))] [] [(7,.bool (decide ((j1:Int)<(l.length:Int))))] ?_
 refine qF (ltF hl1)<|A.exit<|qS [] [(2,.bool true)] [] ?_
 cases hm;exact A.ret qE
variable {t:ai}{xa1:aT}
theorem iL{receivers:List Int}{r:Int}(hm:fK t xa1 receivers=some r):RO prog 20 [] [.agg (k2 t),.agg (k6 xa1),lf ak receivers] (i6 r):=by
 refine aZ func20 rfl rfl ?_;unfold fK at hm;refine qS [(0,.al 20003),(1,.al 20004)] [(2,lf ak receivers),(3,.ptr 20003 0),(4,.ptr 20004 0)] [(20003,.cells 28 (k2 t)),(20004,.cells 36 (k6 xa1))]<|A.seq ?_
 obtain⟨aq,h1,hm⟩:=aa hm;refine qDs [(1,hro (mU h1) aie)] [] [(19,.bool (!decide (aq=0)))] ?_;rcases aA hm with⟨c1,hm⟩|⟨c1,hm⟩
 ·refine qT c1<|qS [] [(6,i6 1)] [] ?_
  cases hm;exact A.ret qE
 refine qF c1<|A.skip<|A.seq ?_
 obtain⟨aF,h2,hm⟩:=aa hm;refine qDs [(1,hro (nA h2) apn)] [19] [(7,i6 aF)]<|qDs [] [] [(23,.bool (!decide (aF=0)))] ?_
 rcases aA hm with⟨c2,hm⟩|⟨c2,hm⟩
 ·refine qT c2<|qS [] [(6,i6 aF)] [] ?_
  cases hm;exact A.ret qE
 refine qF c2<|A.skip<|A.seq ?_
 obtain⟨l_1,h3,hm⟩:=aa hm;refine qD [(2,.al 20027),(4,hap 20529 (ap ak (bytes:=8) (by decide) h3)),(5,hto (lnE ak l_1))] [7,23] [(29,.own 20529),(30,i6 (l_1.length:Int)),(31,i6 0)] [] [(20529,.slice 3 1 (ml ak l_1) 0 false)]<|A.block<|A.bW 29 rfl rfl λhb1=>?_
 obtain⟨B1,K1,hB1,hK1,hm⟩:=bh hm;refine A.lpI (l:=l_1) (j0:=0) (B:=B1) (K:=K1) hm (λj1=>λ()=>[(2,lf ak receivers),(3,.ptr 20003 0),(4,.ptr 20004 0),(29,.own 20529),(30,i6 (l_1.length:Int)),(31,i6 (j1:Int))]) (λj1=>λ()=>[(20003,.cells 28 (k2 t)),(20004,.cells 36 (k6 xa1)),(20529,.slice 3 1 (ml ak l_1) 0 false)]) ?_ ?_ ?_
 ·exact qW
 ·rintro j1 e1 Z1 ⟨⟩ hj1 hx1 hm;rw[hB1]at hm;refine qDs [] [] [(32,.bool (decide ((j1:Int)<(l_1.length:Int))))]<|A.seq<|qT (ltT hx1)<|A.skip<|A.seq<|A.block<|qDs [(0,hix (ix ak (bu hx1))),(1,hlo 20529 0 (ix ak (bu hx1)))] [32] [(9,i6 e1)] ?_
  obtain⟨bx,h4,hm⟩:=aa hm;refine qDs [(2,hro (rJ h4) apo)] [9] [(38,.bool (!bx))] ?_;rcases aA hm with⟨c3,hm⟩|⟨c3,hm⟩
  ·refine qT c3<|qS [] [(6,i6 4)] [] ?_
   cases hm;exact A.ret qE
  exact qF c3<|A.skip<|qGs [(0,hto (inc hx1 hb1))] [31,38] [(31,i6 ((j1+1:Nat):Int))]<|qX () hm
 rintro j1 ⟨⟩ hj1 hl1 hm;rw[hK1]at hm;refine qDs [] [] [(32,.bool (decide ((j1:Int)<(l_1.length:Int))))]<|A.seq<|qF (ltF hl1)<|A.exit<|A.seq<|qD [(2,hto (lnE aJ xa1.Links))] [29,30,31,32] [(41,lf aJ xa1.Links),(42,i6 (xa1.Links.length:Int)),(43,i6 0)] [20529] []<|A.block<|A.bS 41 rfl λhb2=>?_
 obtain⟨B2,K2,hB2,hK2,hm⟩:=bh hm;refine A.lpI (l:=xa1.Links) (j0:=0) (B:=B2) (K:=K2) hm (λj2=>λ()=>[(2,lf ak receivers),(3,.ptr 20003 0),(4,.ptr 20004 0),(41,lf aJ xa1.Links),(42,i6 (xa1.Links.length:Int)),(43,i6 (j2:Int))]) (λj2=>λ()=>[(20003,.cells 28 (k2 t)),(20004,.cells 36 (k6 xa1))]) ?_ ?_ ?_
 ·exact qW
 ·rintro j2 e2 Z2 ⟨⟩ hj2 hx2 hm;rw[hB2]at hm;refine qDs [] [] [(44,.bool (decide ((j2:Int)<(xa1.Links.length:Int))))]<|A.seq<|qT (ltT hx2)<|A.skip<|A.seq<|A.block<|qD [(0,hix (ix aJ (bu hx2))),(2,.al 20011)] [44] [(11,.ptr 20011 0)] [] [(20011,.cells 84 (k3 e2))] ?_
  obtain⟨bV,h5,hm⟩:=aa hm;refine qD [(5,hro (qO h5) apm)] [11] [(13,.bool bV.2)] [20011] []<|qDs [] [13] [(57,.bool (!bV.2))] ?_
  rcases aA hm with⟨c4,hm⟩|⟨c4,hm⟩
  ·refine qT c4<|qS [] [(6,i6 4)] [] ?_
   cases hm;exact A.ret qE
  exact qF c4<|A.skip<|qGs [(0,hto (inc hx2 hb2))] [43,57] [(43,i6 ((j2+1:Nat):Int))]<|qX () hm
 rintro j2 ⟨⟩ hj2 hl2 hm;rw[hK2]at hm;refine qDs [] [] [(44,.bool (decide ((j2:Int)<(xa1.Links.length:Int))))]<|A.seq<|qF (ltF hl2)<|A.exit<|A.seq ?_
 obtain⟨cK,h6,hm⟩:=aa hm;refine qD [(1,hro (tQ h6) ck74)] [3,41,42,43,44] [(61,.bool (!cK))] [20003] [] ?_;rcases aA hm with⟨c5,hm⟩|⟨c5,hm⟩
 ·refine qT c5<|qS [] [(6,i6 25)] [] ?_
  cases hm;exact A.ret qE
 refine qF c5<|A.skip ?_
 obtain⟨cQ,h7,hm⟩:=aa hm;refine qD [(1,hro (tP h7) ck75)] [4,61] [(14,lf ak cQ)] [20004] []<|A.seq<|qDs [(1,hto (lnE ak receivers))] [2] [(64,lf ak receivers),(65,i6 (receivers.length:Int)),(66,i6 0)]<|A.block<|A.bS 64 rfl λhb3=>?_
 obtain⟨B3,K3,hB3,hK3,hm⟩:=bh hm;refine A.lpI (l:=receivers) (j0:=0) (B:=B3) (K:=K3) hm (λj3=>λ()=>[(14,lf ak cQ),(64,lf ak receivers),(65,i6 (receivers.length:Int)),(66,i6 (j3:Int))]) (λj3=>λ()=>[]) ?_ ?_ ?_
 ·exact qW
 ·rintro j3 e3 Z3 ⟨⟩ hj3 hx3 hm;rw[hB3]at hm;refine qDs [] [] [(67,.bool (decide ((j3:Int)<(receivers.length:Int))))]<|A.seq<|qT (ltT hx3)<|A.skip<|A.seq<|A.block<|qDs [(0,hix (ix ak (bu hx3)))] [67] [(16,i6 e3)] ?_
  obtain⟨dy,h8,hm⟩:=aa hm;refine qDs [(2,hro (qa h8) ck76)] [16] [(73,.bool (!dy))] ?_;rcases aA hm with⟨c6,hm⟩|⟨c6,hm⟩
  ·refine qT c6<|qS [] [(6,i6 9)] [] ?_
   cases hm;exact A.ret qE
  exact qF c6<|A.skip<|qGs [(0,hto (inc hx3 hb3))] [66,73] [(66,i6 ((j3+1:Nat):Int))]<|qX () hm
 rintro j3 ⟨⟩ hj3 hl3 hm;rw[hK3]at hm;refine qDs [] [] [(67,.bool (decide ((j3:Int)<(receivers.length:Int))))]<|A.seq<|qF (ltF hl3)<|A.exit<|qS [] [(6,i6 0)] [] ?_
 cases hm;exact A.ret qE
theorem x8{r:Int×Int}(hm:lV t xa1=some r):RO prog 19 [] [.agg (k2 t),.agg (k6 xa1)] (.tup [i6 r.1,i6 r.2]):=by
 refine aZ func19 rfl rfl ?_;unfold lV at hm;refine qS [(0,.al 19002),(1,.al 19003)] [(2,.ptr 19002 0),(3,.ptr 19003 0)] [(19002,.cells 28 (k2 t)),(19003,.cells 36 (k6 xa1))]<|A.seq ?_
 obtain⟨aq,h1,hm⟩:=aa hm;refine qDs [(2,hro (iL h1) ae5)] [] [(6,i6 aq)]<|qDs [] [] [(16,.bool (!decide (aq=0)))] ?_
 rcases aA hm with⟨c1,hm⟩|⟨c1,hm⟩
 ·refine qT c1<|qS [] [(4,i6 0),(5,i6 aq)] [] ?_
  cases hm;exact A.ret qE
 refine qF c1<|A.skip<|qDs [] [6,16] [(7,i6 0)]<|A.seq<|qD [(2,hto (lnE aJ xa1.Links))] [3] [(19,lf aJ xa1.Links),(20,i6 (xa1.Links.length:Int)),(21,i6 0)] [19003] []<|A.block<|A.bS 19 rfl λhb1=>?_
 obtain⟨B1,K1,hB1,hK1,hm⟩:=bh hm;refine A.lpI (l:=xa1.Links) (j0:=0) (B:=B1) (K:=K1) hm (λj1=>λpV=>[(2,.ptr 19002 0),(7,i6 pV),(19,lf aJ xa1.Links),(20,i6 (xa1.Links.length:Int)),(21,i6 (j1:Int))]) (λj1=>λpV=>[(19002,.cells 28 (k2 t))]) ?_ ?_ ?_
 ·exact qW
 ·rintro j1 e1 Z1 pV hj1 hx1 hm;rw[hB1]at hm;refine qDs [] [] [(22,.bool (decide ((j1:Int)<(xa1.Links.length:Int))))]<|A.seq<|qT (ltT hx1)<|A.skip<|A.seq<|A.block<|qD [(0,hix (ix aJ (bu hx1))),(2,.al 19009)] [22] [(9,.ptr 19009 0)] [] [(19009,.cells 84 (k3 e1))] ?_
  obtain⟨aF,h2,hm⟩:=aa hm;exact qD [(5,hro (qO h2) apm)] [9] [(10,i6 aF.1)] [19009] []<|qGs [] [7,10] [(7,i6 (w64 (pV+aF.1)))]<|qGs [(0,hto (inc hx1 hb1))] [21] [(21,i6 ((j1+1:Nat):Int))]<|qX (w64 (pV+aF.1)) hm
 rintro j1 pV hj1 hl1 hm;rw[hK1]at hm;refine qDs [] [] [(22,.bool (decide ((j1:Int)<(xa1.Links.length:Int))))]<|A.seq<|qF (ltF hl1)<|A.exit<|qS [] [(4,i6 pV),(5,i6 0)] [] ?_
 cases hm;exact A.ret qE
end Go.Proofs.YtmnbolcmepihlaaGreat
