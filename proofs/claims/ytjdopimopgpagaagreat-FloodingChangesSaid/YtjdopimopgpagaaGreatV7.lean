/- The ew of cA of the program. No condition but bM bw stand in each. -/
import Derived.Test.YtjdopimopgpagaaGreatDA
namespace Go.Proofs.YtjdopimopgpagaaGreat
open Go Go.Proofs.Tryz
set_option maxRecDepth 100000
set_option linter.all false
variable {r:Bool}
theorem mV{n:Int}(hm:lU n=some r):RO prog 156 [] [i6 n] (.bool r):=by
 refine aZ func156 rfl rfl ?_
 unfold lU at hm
 refine qS [] [(0,i6 n)] []<|A.mid [(2,.bool ((decide (n=8))||((decide (n=16))||((decide (n=32))||(decide (n=64))))))] [] (λhk=>?_) ?_
 ·rcases tf (decide (n=8))with c1|c1
  ·exact qS [(2,hto (bE c1)),(14,hto (orT (q:=((decide (n=16))||((decide (n=32))||(decide (n=64))))) c1))] _ _ hk
  rcases tf (decide (n=16))with c2|c2
  ·exact qS [(2,hto (bE c1)),(6,hto (bE c2)),(14,hto ((orT (q:=((decide (n=32))||(decide (n=64)))) c2).trans (orF (q:=((decide (n=16))||((decide (n=32))||(decide (n=64))))) c1)))] _ _ hk
  rcases tf (decide (n=32))with c3|c3
  ·exact qS [(2,hto (bE c1)),(6,hto (bE c2)),(10,hto (bE c3)),(14,hto (((orT (q:=decide (n=64)) c3).trans (orF (q:=((decide (n=32))||(decide (n=64)))) c2)).trans (orF (q:=((decide (n=16))||((decide (n=32))||(decide (n=64))))) c1)))] _ _ hk
  exact qS [(2,hto (bE c1)),(6,hto (bE c2)),(10,hto (bE c3)),(14,hto (((orF (q:=decide (n=64)) c3).trans (orF (q:=((decide (n=32))||(decide (n=64)))) c2)).trans (orF (q:=((decide (n=16))||((decide (n=32))||(decide (n=64))))) c1)))] _ _ hk
 cases hm
 exact A.ret qE
theorem bZ{n:Int}{low:Int}{high:Int}(hm:fT n low high=some r):RO prog 155 [] [i6 n,i6 low,i6 high] (.bool r):=by
 refine aZ func155 rfl rfl ?_
 unfold fT at hm
 refine qS [] [(0,i6 n),(1,i6 low),(2,i6 high)] []<|A.mid [(6,.bool ((decide (low≤n))&&(decide (n≤high))))] [] (λhk=>?_) ?_
 ·rcases tf (decide (low≤n))with c1|c1
  ·exact qS [(3,hto (bE c1)),(8,hto (pE (q:=decide (n≤high)) c1))] _ _ hk
  exact qS [(3,hto (bE c1)),(8,hto (qn (q:=decide (n≤high)) c1))] _ _ hk
 cases hm
 exact A.ret qE
theorem mW{l:List bH}(hm:ia l=some r):RO prog 111 [] [lf bg l] (.bool r):=by
 refine aZ func111 rfl rfl ?_
 unfold ia at hm
 refine qS [] [(0,lf bg l)] []<|A.seq<|qDs [(1,hto (lnE bg l))] [] [(6,.bool (decide (8<(l.length:Int))))] ?_
 rcases aq hm with⟨c1,hm⟩|⟨c1,hm⟩
 ·refine qT c1<|qS [] [(2,.bool false)] [] ?_
  cases hm
  exact A.ret qE
 refine qF c1<|A.skip<|A.seq<|qDs [] [6] [(3,i6 0)]<|A.block<|A.bS 0 rfl λhb1=>?_
 obtain⟨B1,K1,hB1,hK1,hm⟩:=bu hm
 refine A.lpI (l:=l) (j0:=0) (B:=B1) (K:=K1) hm (λj1=>λ()=>[(0,lf bg l),(3,i6 (j1:Int))]) (λj1=>λ()=>[]) ?_ ?_ ?_
 ·exact qW
 ·rintro j1 e1 Z1 ⟨⟩ hj1 hx1 hm
  rw[hB1]at hm
  refine A.seq<|qDs [(2,hto (lnE bg l))] [] [(10,.bool (decide ((j1:Int)<(l.length:Int))))] ?_
  refine qT (ltT hx1)<|A.skip<|A.seq<|A.block ?_
  obtain⟨J1,hJ1,hm⟩:=bI hm
  refine A.J (J:=J1) (r:=r) (λv_1=>[(0,lf bg l),(3,i6 (j1:Int)),(55,.bool v_1)]) (λv_1=>[]) ?_ ?_
  ·obtain⟨af,h1,hm⟩:=aa hm
   rcases aq hm with⟨c2,hm⟩|⟨c2,hm⟩
   ·exact qGs [(2,hix (ix bg (bf hx1))),(5,hro (bZ h1) gG),(7,hto (bE c2))] [10] [(55,.bool true)]<|qX true hm
   obtain⟨aD,h2,hm⟩:=aa hm
   rcases aq hm with⟨c3,hm⟩|⟨c3,hm⟩
   ·exact qGs [(2,hix (ix bg (bf hx1))),(5,hro (bZ h1) gG),(7,hto (bE c2)),(10,hix (ix bg (bf hx1))),(13,hro (bZ h2) gG),(16,hto (bE c3))] [10] [(55,.bool true)]<|qX true hm
   obtain⟨aP,h3,hm⟩:=aa hm
   rcases aq hm with⟨c4,hm⟩|⟨c4,hm⟩
   ·exact qGs [(2,hix (ix bg (bf hx1))),(5,hro (bZ h1) gG),(7,hto (bE c2)),(10,hix (ix bg (bf hx1))),(13,hro (bZ h2) gG),(16,hto (bE c3)),(19,hix (ix bg (bf hx1))),(22,hro (mV h3) agi),(25,hto (bE c4))] [10] [(55,.bool true)]<|qX true hm
   rcases aq hm with⟨c5,hm⟩|⟨c5,hm⟩
   ·obtain⟨e_1,h4,hm⟩:=aa hm
    exact qGs [(2,hix (ix bg (bf hx1))),(5,hro (bZ h1) gG),(7,hto (bE c2)),(10,hix (ix bg (bf hx1))),(13,hro (bZ h2) gG),(16,hto (bE c3)),(19,hix (ix bg (bf hx1))),(22,hro (mV h3) agi),(25,hto (bE c4)),(28,hto (bE c5)),(32,hix (ix bg h4)),(37,hix (ix bg (bf hx1)))] [10] [(55,.bool (decide (e1.b9≤e_1.b9)))]<|qX (decide (e1.b9≤e_1.b9)) hm
   exact qGs [(2,hix (ix bg (bf hx1))),(5,hro (bZ h1) gG),(7,hto (bE c2)),(10,hix (ix bg (bf hx1))),(13,hro (bZ h2) gG),(16,hto (bE c3)),(19,hix (ix bg (bf hx1))),(22,hro (mV h3) agi),(25,hto (bE c4)),(28,hto (bE c5))] [10] [(55,.bool false)]<|qX false hm
  rintro v_1 hm
  rw[hJ1]at hm
  rcases aq hm with⟨c6,hm⟩|⟨c6,hm⟩
  ·refine qT c6<|qS [] [(2,.bool false)] [] ?_
   cases hm
   exact A.ret qE
  exact qF c6<|A.skip<|qGs [(1,hto (inc hx1 hb1))] [3,55] [(3,i6 ((j1+1:Nat):Int))]<|qX () hm
 rintro j1 ⟨⟩ hj1 hl1 hm
 rw[hK1]at hm
 refine A.seq<|qDs [(2,hto (lnE bg l))] [] [(10,.bool (decide ((j1:Int)<(l.length:Int))))] ?_
 refine qF (ltF hl1)<|A.exit<|qS [] [(2,.bool true)] [] ?_
 cases hm
 exact A.ret qE
variable {a:ai}
theorem fK(hm:gF a=some r):RO prog 120 [] [.agg (k7 a)] (.bool r):=by
 refine aZ func120 rfl rfl ?_
 unfold gF at hm
 refine qS [(0,.al 120001)] [(1,.ptr 120001 0)] [(120001,.cells 66 (k7 a))]<|A.seq ?_
 obtain⟨J1,hJ1,hm⟩:=bI hm
 refine A.J (J:=J1) (r:=r) (λv_1=>[(1,.ptr 120001 0),(20,.bool v_1)]) (λv_1=>[(120001,.cells 66 (k7 a))]) ?_ ?_
 ·obtain⟨af,h1,hm⟩:=aa hm
  rcases aq hm with⟨c1,hm⟩|⟨c1,hm⟩
  ·exact qGs [(2,hro (bZ h1) gG),(4,hto (bE c1))] [] [(20,.bool true)]<|qX true hm
  obtain⟨aD,h2,hm⟩:=aa hm
  rcases aq hm with⟨c2,hm⟩|⟨c2,hm⟩
  ·exact qGs [(2,hro (bZ h1) gG),(4,hto (bE c1)),(7,hro (bZ h2) gG),(10,hto (bE c2))] [] [(20,.bool true)]<|qX true hm
  exact qGs [(2,hro (bZ h1) gG),(4,hto (bE c1)),(7,hro (bZ h2) gG),(10,hto (bE c2)),(13,hto (lnE bq a.Links))] [] [(20,.bool (decide (23<(a.Links.length:Int))))]<|qX (decide (23<(a.Links.length:Int))) hm
 rintro v_1 hm
 rw[hJ1]at hm
 rcases aq hm with⟨c3,hm⟩|⟨c3,hm⟩
 ·refine qT c3<|qS [] [(2,.bool false)] [] ?_
  cases hm
  exact A.ret qE
 refine qF c3<|A.skip<|A.seq<|qDs [] [20] [(3,i6 0)]<|A.block<|A.bC 1 3 rfl rfl rfl λhb1=>?_
 obtain⟨B1,K1,hB1,hK1,hm⟩:=bu hm
 refine A.lpI (l:=a.Links) (j0:=0) (B:=B1) (K:=K1) hm (λj1=>λ()=>[(1,.ptr 120001 0),(3,i6 (j1:Int))]) (λj1=>λ()=>[(120001,.cells 66 (k7 a))]) ?_ ?_ ?_
 ·exact qW
 ·rintro j1 e1 Z1 ⟨⟩ hj1 hx1 hm
  rw[hB1]at hm
  refine A.seq<|qDs [(3,hto (lnE bq a.Links))] [] [(25,.bool (decide ((j1:Int)<(a.Links.length:Int))))] ?_
  refine qT (ltT hx1)<|A.skip<|A.seq<|A.block<|qD [(3,hix (ix bq (bf hx1))),(5,.al 120004)] [25] [(4,.ptr 120004 0)] [] [(120004,.cells 105 (k6 e1))] ?_
  obtain⟨J2,hJ2,hm⟩:=bI hm
  refine A.J (J:=J2) (r:=r) (λv_2=>[(1,.ptr 120001 0),(3,i6 (j1:Int)),(71,.bool v_2)]) (λv_2=>[(120001,.cells 66 (k7 a))]) ?_ ?_
  ·obtain⟨aP,h3,hm⟩:=aa hm
   rcases aq hm with⟨c4,hm⟩|⟨c4,hm⟩
   ·exact qG [(2,hro (bZ h3) gG),(4,hto (bE c4))] [4] [(71,.bool true)] [120004] []<|qX true hm
   rcases aq hm with⟨c5,hm⟩|⟨c5,hm⟩
   ·exact qG [(2,hro (bZ h3) gG),(4,hto (bE c4)),(11,hto (bE c5))] [4] [(71,.bool true)] [120004] []<|qX true hm
   obtain⟨bt,h4,hm⟩:=aa hm
   rcases aq hm with⟨c6,hm⟩|⟨c6,hm⟩
   ·exact qG [(2,hro (bZ h3) gG),(4,hto (bE c4)),(11,hto (bE c5)),(14,hro (bZ h4) gG),(17,hto (bE c6))] [4] [(71,.bool true)] [120004] []<|qX true hm
   obtain⟨bF,h5,hm⟩:=aa hm
   rcases aq hm with⟨c7,hm⟩|⟨c7,hm⟩
   ·exact qG [(2,hro (bZ h3) gG),(4,hto (bE c4)),(11,hto (bE c5)),(14,hro (bZ h4) gG),(17,hto (bE c6)),(20,hro (bZ h5) gG),(23,hto (bE c7))] [4] [(71,.bool true)] [120004] []<|qX true hm
   rcases aq hm with⟨c8,hm⟩|⟨c8,hm⟩
   ·obtain⟨e_1,h6,hm⟩:=aa hm
    exact qG [(2,hro (bZ h3) gG),(4,hto (bE c4)),(11,hto (bE c5)),(14,hro (bZ h4) gG),(17,hto (bE c6)),(20,hro (bZ h5) gG),(23,hto (bE c7)),(26,hto (bE c8)),(31,hix (ix bq h6))] [4] [(71,.bool (decide (e1.bx≤e_1.bx)))] [120004] []<|qX (decide (e1.bx≤e_1.bx)) hm
   exact qG [(2,hro (bZ h3) gG),(4,hto (bE c4)),(11,hto (bE c5)),(14,hro (bZ h4) gG),(17,hto (bE c6)),(20,hro (bZ h5) gG),(23,hto (bE c7)),(26,hto (bE c8))] [4] [(71,.bool false)] [120004] []<|qX false hm
  rintro v_2 hm
  rw[hJ2]at hm
  rcases aq hm with⟨c9,hm⟩|⟨c9,hm⟩
  ·refine qT c9<|qS [] [(2,.bool false)] [] ?_
   cases hm
   exact A.ret qE
  exact qF c9<|A.skip<|qGs [(1,hto (inc hx1 hb1))] [3,71] [(3,i6 ((j1+1:Nat):Int))]<|qX () hm
 rintro j1 ⟨⟩ hj1 hl1 hm
 rw[hK1]at hm
 refine A.seq<|qDs [(3,hto (lnE bq a.Links))] [] [(25,.bool (decide ((j1:Int)<(a.Links.length:Int))))] ?_
 refine qF (ltF hl1)<|A.exit ?_
 obtain⟨cg,h7,hm⟩:=aa hm
 refine qS [(2,hro (mW h7) agd)] [(2,.bool cg)] [] ?_
 cases hm
 exact A.ret qE
theorem vZ{b:ai}(hm:lK a b=some r):RO prog 36 [] [.agg (k7 a),.agg (k7 b)] (.bool r):=by
 refine aZ func36 rfl rfl ?_
 unfold lK at hm
 refine qS [(0,.al 36002),(1,.al 36003)] [(2,.ptr 36002 0),(3,.ptr 36003 0)] [(36002,.cells 66 (k7 a)),(36003,.cells 66 (k7 b))]<|A.seq<|A.mid [(2,.ptr 36002 0),(3,.ptr 36003 0),(43,.bool ((!decide (a.ah=b.ah))||((!decide (a.Seq=b.Seq))||((!(a.aX==b.aX))||((!decide ((a.Links.length:Int)=(b.Links.length:Int)))||(!decide ((a.Claims.length:Int)=(b.Claims.length:Int))))))))] [(36002,.cells 66 (k7 a)),(36003,.cells 66 (k7 b))] (λhk=>?_) ?_
 ·rcases tf (!decide (a.ah=b.ah))with c1|c1
  ·exact qS [(5,hto (bE c1)),(36,hto (orT (q:=((!decide (a.Seq=b.Seq))||((!(a.aX==b.aX))||((!decide ((a.Links.length:Int)=(b.Links.length:Int)))||(!decide ((a.Claims.length:Int)=(b.Claims.length:Int))))))) c1))] _ _ hk
  rcases tf (!decide (a.Seq=b.Seq))with c2|c2
  ·exact qS [(5,hto (bE c1)),(12,hto (bE c2)),(36,hto ((orT (q:=((!(a.aX==b.aX))||((!decide ((a.Links.length:Int)=(b.Links.length:Int)))||(!decide ((a.Claims.length:Int)=(b.Claims.length:Int)))))) c2).trans (orF (q:=((!decide (a.Seq=b.Seq))||((!(a.aX==b.aX))||((!decide ((a.Links.length:Int)=(b.Links.length:Int)))||(!decide ((a.Claims.length:Int)=(b.Claims.length:Int))))))) c1)))] _ _ hk
  rcases tf (!(a.aX==b.aX))with c3|c3
  ·exact qS [(5,hto (bE c1)),(12,hto (bE c2)),(19,hto (bE c3)),(36,hto (((orT (q:=((!decide ((a.Links.length:Int)=(b.Links.length:Int)))||(!decide ((a.Claims.length:Int)=(b.Claims.length:Int))))) c3).trans (orF (q:=((!(a.aX==b.aX))||((!decide ((a.Links.length:Int)=(b.Links.length:Int)))||(!decide ((a.Claims.length:Int)=(b.Claims.length:Int)))))) c2)).trans (orF (q:=((!decide (a.Seq=b.Seq))||((!(a.aX==b.aX))||((!decide ((a.Links.length:Int)=(b.Links.length:Int)))||(!decide ((a.Claims.length:Int)=(b.Claims.length:Int))))))) c1)))] _ _ hk
  rcases tf (!decide ((a.Links.length:Int)=(b.Links.length:Int)))with c4|c4
  ·exact qS [(5,hto (bE c1)),(12,hto (bE c2)),(19,hto (bE c3)),(22,hto (lnE bq a.Links)),(25,hto (lnE bq b.Links)),(28,hto (bE c4)),(36,hto ((((orT (q:=!decide ((a.Claims.length:Int)=(b.Claims.length:Int))) c4).trans (orF (q:=((!decide ((a.Links.length:Int)=(b.Links.length:Int)))||(!decide ((a.Claims.length:Int)=(b.Claims.length:Int))))) c3)).trans (orF (q:=((!(a.aX==b.aX))||((!decide ((a.Links.length:Int)=(b.Links.length:Int)))||(!decide ((a.Claims.length:Int)=(b.Claims.length:Int)))))) c2)).trans (orF (q:=((!decide (a.Seq=b.Seq))||((!(a.aX==b.aX))||((!decide ((a.Links.length:Int)=(b.Links.length:Int)))||(!decide ((a.Claims.length:Int)=(b.Claims.length:Int))))))) c1)))] _ _ hk
  exact qS [(5,hto (bE c1)),(12,hto (bE c2)),(19,hto (bE c3)),(22,hto (lnE bq a.Links)),(25,hto (lnE bq b.Links)),(28,hto (bE c4)),(31,hto (lnE bg a.Claims)),(34,hto (lnE bg b.Claims)),(36,hto ((((orF (q:=!decide ((a.Claims.length:Int)=(b.Claims.length:Int))) c4).trans (orF (q:=((!decide ((a.Links.length:Int)=(b.Links.length:Int)))||(!decide ((a.Claims.length:Int)=(b.Claims.length:Int))))) c3)).trans (orF (q:=((!(a.aX==b.aX))||((!decide ((a.Links.length:Int)=(b.Links.length:Int)))||(!decide ((a.Claims.length:Int)=(b.Claims.length:Int)))))) c2)).trans (orF (q:=((!decide (a.Seq=b.Seq))||((!(a.aX==b.aX))||((!decide ((a.Links.length:Int)=(b.Links.length:Int)))||(!decide ((a.Claims.length:Int)=(b.Claims.length:Int))))))) c1)))] _ _ hk
 rcases aq hm with⟨c5,hm⟩|⟨c5,hm⟩
 ·refine qT c5<|qS [] [(4,.bool false)] [] ?_
  cases hm
  exact A.ret qE
 refine qF c5<|A.skip<|A.seq<|qDs [] [43] [(5,i6 0)]<|A.block<|A.bC 2 3 rfl rfl rfl λhb1=>?_
 obtain⟨B1,K1,hB1,hK1,hm⟩:=bu hm
 refine A.lpI (l:=a.Links) (j0:=0) (B:=B1) (K:=K1) hm (λj1=>λ()=>[(2,.ptr 36002 0),(3,.ptr 36003 0),(5,i6 (j1:Int))]) (λj1=>λ()=>[(36002,.cells 66 (k7 a)),(36003,.cells 66 (k7 b))]) ?_ ?_ ?_
 ·exact qW
 ·rintro j1 e1 Z1 ⟨⟩ hj1 hx1 hm
  rw[hB1]at hm
  refine A.seq<|qDs [(3,hto (lnE bq a.Links))] [] [(48,.bool (decide ((j1:Int)<(a.Links.length:Int))))] ?_
  refine qT (ltT hx1)<|A.skip<|A.seq<|A.block ?_
  obtain⟨e_1,h1,hm⟩:=aa hm
  refine qDs [(3,hix (ix bq (bf hx1))),(8,hix (ix bq h1)),(10,.sq true 105 (.agg (k6 e1)) (.agg (k6 e_1)) (!(iw e1 e_1)) (λx y w=>acT x y _ _ _ _ _ _ w))] [48] [(61,.bool (!(iw e1 e_1)))] ?_
  rcases aq hm with⟨c6,hm⟩|⟨c6,hm⟩
  ·refine qT c6<|qS [] [(4,.bool false)] [] ?_
   cases hm
   exact A.ret qE
  exact qF c6<|A.skip<|qGs [(1,hto (inc hx1 hb1))] [5,61] [(5,i6 ((j1+1:Nat):Int))]<|qX () hm
 rintro j1 ⟨⟩ hj1 hl1 hm
 rw[hK1]at hm
 refine A.seq<|qDs [(3,hto (lnE bq a.Links))] [] [(48,.bool (decide ((j1:Int)<(a.Links.length:Int))))] ?_
 refine qF (ltF hl1)<|A.exit<|A.seq<|qDs [] [5,48] [(6,i6 0)]<|A.block<|A.bC 2 4 rfl rfl rfl λhb2=>?_
 obtain⟨B2,K2,hB2,hK2,hm⟩:=bu hm
 refine A.lpI (l:=a.Claims) (j0:=0) (B:=B2) (K:=K2) hm (λj2=>λ()=>[(2,.ptr 36002 0),(3,.ptr 36003 0),(6,i6 (j2:Int))]) (λj2=>λ()=>[(36002,.cells 66 (k7 a)),(36003,.cells 66 (k7 b))]) ?_ ?_ ?_
 ·exact qW
 ·rintro j2 e2 Z2 ⟨⟩ hj2 hx2 hm
  rw[hB2]at hm
  refine A.seq<|qDs [(3,hto (lnE bg a.Claims))] [] [(66,.bool (decide ((j2:Int)<(a.Claims.length:Int))))] ?_
  refine qT (ltT hx2)<|A.skip<|A.seq<|A.block ?_
  obtain⟨e_2,h2,hm⟩:=aa hm
  refine qDs [(3,hix (ix bg (bf hx2))),(8,hix (ix bg h2)),(10,.sq true 91 (.agg (k5 e2)) (.agg (k5 e_2)) (!(fZ e2 e_2)) (λx y w=>aaB x y _ _ _ _ _ _ w))] [66] [(79,.bool (!(fZ e2 e_2)))] ?_
  rcases aq hm with⟨c7,hm⟩|⟨c7,hm⟩
  ·refine qT c7<|qS [] [(4,.bool false)] [] ?_
   cases hm
   exact A.ret qE
  exact qF c7<|A.skip<|qGs [(1,hto (inc hx2 hb2))] [6,79] [(6,i6 ((j2+1:Nat):Int))]<|qX () hm
 rintro j2 ⟨⟩ hj2 hl2 hm
 rw[hK2]at hm
 refine A.seq<|qDs [(3,hto (lnE bg a.Claims))] [] [(66,.bool (decide ((j2:Int)<(a.Claims.length:Int))))] ?_
 refine qF (ltF hl2)<|A.exit<|qS [] [(4,.bool true)] [] ?_
 cases hm
 exact A.ret qE
end Go.Proofs.YtjdopimopgpagaaGreat
