/- The walks of cz of the program. No condition but aX aL stand in each. -/
import Derived.Test.YtmnbolcmepihlaaGreatVQ
import Derived.Test.YtmnbolcmepihlaaGreatVJ
namespace Go.Proofs.YtmnbolcmepihlaaGreat
open Go Go.Proofs.Tryz
set_option maxRecDepth 100000
set_option linter.all false
theorem tD{l:List Int}{r:Bool}(hm:iw l=some r):RO prog 74 [] [lf aj l] (.bool r):=by
 refine aY func74 rfl rfl ?_;unfold iw at hm;refine qS [] [(0,lf aj l)] []<|A.seq<|qDs [] [] [(3,i6 1)]<|A.block<|A.bS 0 rfl λhb1=>?_
 obtain⟨B1,K1,hB1,hK1,hm⟩:=bh hm;refine A.lpI (l:=l) (j0:=1) (B:=B1) (K:=K1) hm (λj1=>λ()=>[(0,lf aj l),(3,i6 (j1:Int))]) (λj1=>λ()=>[]) ?_ ?_ ?_
 ·exact qW
 ·rintro j1 e1 Z1 ⟨⟩ hj1 hx1 hm;rw[hB1]at hm;refine A.seq<|qDs [(2,hto (lnE aj l))] [] [(7,.bool (decide ((j1:Int)<(l.length:Int))))] ?_
  refine qT (ltT hx1)<|A.skip<|A.seq<|A.block ?_
  obtain⟨e_1,h1,hm⟩:=aa hm;refine qDs [(3,hix (ix aj h1)),(7,hix (ix aj (bn hx1)))] [7] [(19,.bool (decide (e1≤e_1)))] ?_;rcases aB hm with⟨c1,hm⟩|⟨c1,hm⟩
  ·refine qT c1<|qS [] [(2,.bool false)] [] ?_
   cases hm;exact A.ret qE
  exact qF c1<|A.skip<|qGs [(1,hto (inc hx1 hb1))] [3,19] [(3,i6 ((j1+1:Nat):Int))]<|qX () hm
 rintro j1 ⟨⟩ hj1 hl1 hm;rw[hK1]at hm;refine A.seq<|qDs [(2,hto (lnE aj l))] [] [(7,.bool (decide ((j1:Int)<(l.length:Int))))] ?_
 refine qF (ltF hl1)<|A.exit<|qS [] [(2,.bool true)] [] ?_
 cases hm;exact A.ret qE
theorem nY{t:af}{xa1:aQ}{receivers:List Int}{r:Int}(hm:iy t xa1 receivers=some r):RO prog 20 [] [.agg (k2 t),.agg (k6 xa1),lf aj receivers] (i6 r):=by
 refine aY func20 rfl rfl ?_;unfold iy at hm;refine qS [(0,.al 20003),(1,.al 20004)] [(2,lf aj receivers),(3,.ptr 20003 0),(4,.ptr 20004 0)] [(20003,.cells 28 (k2 t)),(20004,.cells 36 (k6 xa1))]<|A.seq ?_
 obtain⟨az,h1,hm⟩:=aa hm;refine qDs [(1,hro (mK h1) ah0)] [] [(19,.bool (!decide (az=0)))] ?_;rcases aB hm with⟨c1,hm⟩|⟨c1,hm⟩
 ·refine qT c1<|qS [] [(6,i6 1)] [] ?_
  cases hm;exact A.ret qE
 refine qF c1<|A.skip<|A.seq ?_
 obtain⟨aH,h2,hm⟩:=aa hm;refine qDs [(1,hro (ni h2) apj)] [19] [(7,i6 aH)]<|qDs [] [] [(23,.bool (!decide (aH=0)))] ?_
 rcases aB hm with⟨c2,hm⟩|⟨c2,hm⟩
 ·refine qT c2<|qS [] [(6,i6 aH)] [] ?_
  cases hm;exact A.ret qE
 refine qF c2<|A.skip<|A.seq ?_
 obtain⟨l_1,h3,hm⟩:=aa hm;refine qD [(2,.al 20027),(4,hap 20529 (ap aj (bytes:=8) (by decide) h3)),(5,hto (lnE aj l_1))] [7,23] [(29,.own 20529),(30,i6 (l_1.length:Int)),(31,i6 0)] [] [(20529,.slice 3 1 (ml aj l_1) 0 false)]<|A.block<|A.bW 29 rfl rfl λhb1=>?_
 obtain⟨B1,K1,hB1,hK1,hm⟩:=bh hm;refine A.lpI (l:=l_1) (j0:=0) (B:=B1) (K:=K1) hm (λj1=>λ()=>[(2,lf aj receivers),(3,.ptr 20003 0),(4,.ptr 20004 0),(29,.own 20529),(30,i6 (l_1.length:Int)),(31,i6 (j1:Int))]) (λj1=>λ()=>[(20003,.cells 28 (k2 t)),(20004,.cells 36 (k6 xa1)),(20529,.slice 3 1 (ml aj l_1) 0 false)]) ?_ ?_ ?_
 ·exact qW
 ·rintro j1 e1 Z1 ⟨⟩ hj1 hx1 hm;rw[hB1]at hm;refine qDs [] [] [(32,.bool (decide ((j1:Int)<(l_1.length:Int))))]<|A.seq<|qT (ltT hx1)<|A.skip<|A.seq<|A.block<|qDs [(0,hix (ix aj (bn hx1))),(1,hlo 20529 0 (ix aj (bn hx1)))] [32] [(9,i6 e1)] ?_
  obtain⟨bA,h4,hm⟩:=aa hm;refine qDs [(2,hro (ry h4) apk)] [9] [(38,.bool (!bA))] ?_;rcases aB hm with⟨c3,hm⟩|⟨c3,hm⟩
  ·refine qT c3<|qS [] [(6,i6 4)] [] ?_
   cases hm;exact A.ret qE
  exact qF c3<|A.skip<|qGs [(0,hto (inc hx1 hb1))] [31,38] [(31,i6 ((j1+1:Nat):Int))]<|qX () hm
 rintro j1 ⟨⟩ hj1 hl1 hm;rw[hK1]at hm;refine qDs [] [] [(32,.bool (decide ((j1:Int)<(l_1.length:Int))))]<|A.seq<|qF (ltF hl1)<|A.exit<|A.seq<|qD [(2,hto (lnE aK xa1.Links))] [29,30,31,32] [(41,lf aK xa1.Links),(42,i6 (xa1.Links.length:Int)),(43,i6 0)] [20529] []<|A.block<|A.bS 41 rfl λhb2=>?_
 obtain⟨B2,K2,hB2,hK2,hm⟩:=bh hm;refine A.lpI (l:=xa1.Links) (j0:=0) (B:=B2) (K:=K2) hm (λj2=>λ()=>[(2,lf aj receivers),(3,.ptr 20003 0),(4,.ptr 20004 0),(41,lf aK xa1.Links),(42,i6 (xa1.Links.length:Int)),(43,i6 (j2:Int))]) (λj2=>λ()=>[(20003,.cells 28 (k2 t)),(20004,.cells 36 (k6 xa1))]) ?_ ?_ ?_
 ·exact qW
 ·rintro j2 e2 Z2 ⟨⟩ hj2 hx2 hm;rw[hB2]at hm;refine qDs [] [] [(44,.bool (decide ((j2:Int)<(xa1.Links.length:Int))))]<|A.seq<|qT (ltT hx2)<|A.skip<|A.seq<|A.block<|qD [(0,hix (ix aK (bn hx2))),(2,.al 20011)] [44] [(11,.ptr 20011 0)] [] [(20011,.cells 84 (k3 e2))] ?_
  obtain⟨bU,h5,hm⟩:=aa hm;refine qD [(5,hro (wT h5) ck70)] [11] [(13,.bool bU.2)] [20011] []<|qDs [] [13] [(57,.bool (!bU.2))] ?_
  rcases aB hm with⟨c4,hm⟩|⟨c4,hm⟩
  ·refine qT c4<|qS [] [(6,i6 4)] [] ?_
   cases hm;exact A.ret qE
  exact qF c4<|A.skip<|qGs [(0,hto (inc hx2 hb2))] [43,57] [(43,i6 ((j2+1:Nat):Int))]<|qX () hm
 rintro j2 ⟨⟩ hj2 hl2 hm;rw[hK2]at hm;refine qDs [] [] [(44,.bool (decide ((j2:Int)<(xa1.Links.length:Int))))]<|A.seq<|qF (ltF hl2)<|A.exit<|A.seq ?_
 obtain⟨dP,h6,hm⟩:=aa hm;refine qD [(1,hro (tD h6) ck74)] [3,41,42,43,44] [(61,.bool (!dP))] [20003] [] ?_;rcases aB hm with⟨c5,hm⟩|⟨c5,hm⟩
 ·refine qT c5<|qS [] [(6,i6 25)] [] ?_
  cases hm;exact A.ret qE
 refine qF c5<|A.skip ?_
 obtain⟨cV,h7,hm⟩:=aa hm;refine qD [(1,hro (tC h7) ck75)] [4,61] [(14,lf aj cV)] [20004] []<|A.seq<|qDs [(1,hto (lnE aj receivers))] [2] [(64,lf aj receivers),(65,i6 (receivers.length:Int)),(66,i6 0)]<|A.block<|A.bS 64 rfl λhb3=>?_
 obtain⟨B3,K3,hB3,hK3,hm⟩:=bh hm;refine A.lpI (l:=receivers) (j0:=0) (B:=B3) (K:=K3) hm (λj3=>λ()=>[(14,lf aj cV),(64,lf aj receivers),(65,i6 (receivers.length:Int)),(66,i6 (j3:Int))]) (λj3=>λ()=>[]) ?_ ?_ ?_
 ·exact qW
 ·rintro j3 e3 Z3 ⟨⟩ hj3 hx3 hm;rw[hB3]at hm;refine qDs [] [] [(67,.bool (decide ((j3:Int)<(receivers.length:Int))))]<|A.seq<|qT (ltT hx3)<|A.skip<|A.seq<|A.block<|qDs [(0,hix (ix aj (bn hx3)))] [67] [(16,i6 e3)] ?_
  obtain⟨cB,h8,hm⟩:=aa hm;refine qDs [(2,hro (pU h8) ck76)] [16] [(73,.bool (!cB))] ?_;rcases aB hm with⟨c6,hm⟩|⟨c6,hm⟩
  ·refine qT c6<|qS [] [(6,i6 9)] [] ?_
   cases hm;exact A.ret qE
  exact qF c6<|A.skip<|qGs [(0,hto (inc hx3 hb3))] [66,73] [(66,i6 ((j3+1:Nat):Int))]<|qX () hm
 rintro j3 ⟨⟩ hj3 hl3 hm;rw[hK3]at hm;refine qDs [] [] [(67,.bool (decide ((j3:Int)<(receivers.length:Int))))]<|A.seq<|qF (ltF hl3)<|A.exit<|qS [] [(6,i6 0)] [] ?_
 cases hm;exact A.ret qE
end Go.Proofs.YtmnbolcmepihlaaGreat
