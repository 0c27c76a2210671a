/- The eD of cw of the program. No condition but bK bu stand in each. -/
import Derived.Test.YtjdopimopgpagaaGreatV4
import Derived.Shelf.SlSortCmp.NoneTotal
namespace Go.Proofs.YtjdopimopgpagaaGreat
open Go Go.Proofs.Tryz
set_option maxRecDepth 100000
set_option linter.all false
variable {r:Bool}
theorem lY{n:Int}(hm:iX n=some r):RO prog 136 [] [i6 n] (.bool r):=by
 refine aY func136 rfl rfl ?_
 unfold iX at hm
 refine qS [] [(0,i6 n)] []<|A.mid [(2,.bool ((decide (n=8))||((decide (n=16))||((decide (n=32))||(decide (n=64))))))] [] (λhk=>?_) ?_
 ·rcases tf (decide (n=8))with c1|c1
  ·exact qS [(2,hto (bE c1)),(14,hto (orT (q:=((decide (n=16))||((decide (n=32))||(decide (n=64))))) c1))] _ _ hk
  rcases tf (decide (n=16))with c2|c2
  ·exact qS [(2,hto (bE c1)),(6,hto (bE c2)),(14,hto ((orT (q:=((decide (n=32))||(decide (n=64)))) c2).trans (orF (q:=((decide (n=16))||((decide (n=32))||(decide (n=64))))) c1)))] _ _ hk
  rcases tf (decide (n=32))with c3|c3
  ·exact qS [(2,hto (bE c1)),(6,hto (bE c2)),(10,hto (bE c3)),(14,hto (((orT (q:=decide (n=64)) c3).trans (orF (q:=((decide (n=32))||(decide (n=64)))) c2)).trans (orF (q:=((decide (n=16))||((decide (n=32))||(decide (n=64))))) c1)))] _ _ hk
  exact qS [(2,hto (bE c1)),(6,hto (bE c2)),(10,hto (bE c3)),(14,hto (((orF (q:=decide (n=64)) c3).trans (orF (q:=((decide (n=32))||(decide (n=64)))) c2)).trans (orF (q:=((decide (n=16))||((decide (n=32))||(decide (n=64))))) c1)))] _ _ hk
 cases hm
 exact A.ret qE
theorem b9{n:Int}{least:Int}{most:Int}(hm:iQ n least most=some r):RO prog 135 [] [i6 n,i6 least,i6 most] (.bool r):=by
 refine aY func135 rfl rfl ?_
 unfold iQ at hm
 refine qS [] [(0,i6 n),(1,i6 least),(2,i6 most)] []<|A.mid [(6,.bool ((decide (least≤n))&&(decide (n≤most))))] [] (λhk=>?_) ?_
 ·rcases tf (decide (least≤n))with c1|c1
  ·exact qS [(3,hto (bE c1)),(8,hto (qs (q:=decide (n≤most)) c1))] _ _ hk
  exact qS [(3,hto (bE c1)),(8,hto (rE (q:=decide (n≤most)) c1))] _ _ hk
 cases hm
 exact A.ret qE
variable {a:ai}
theorem jc(hm:gV a=some r):RO prog 85 [] [.agg (k7 a)] (.bool r):=by
 refine aY func85 rfl rfl ?_
 unfold gV at hm
 refine qS [(0,.al 85001)] [(1,.ptr 85001 0)] [(85001,.cells 66 (k7 a))]<|A.seq ?_
 obtain⟨J1,hJ1,hm⟩:=bN hm
 refine A.J (J:=J1) (r:=r) (λv_1=>[(1,.ptr 85001 0),(28,.bool v_1)]) (λv_1=>[(85001,.cells 66 (k7 a))]) ?_ ?_
 ·obtain⟨ah,h1,hm⟩:=aa hm
  rcases aq hm with⟨c1,hm⟩|⟨c1,hm⟩
  ·exact qGs [(2,hro (b9 h1) gm),(4,hto (bE c1))] [] [(28,.bool true)]<|qX true hm
  obtain⟨aD,h2,hm⟩:=aa hm
  rcases aq hm with⟨c2,hm⟩|⟨c2,hm⟩
  ·exact qGs [(2,hro (b9 h1) gm),(4,hto (bE c1)),(7,hro (b9 h2) gm),(10,hto (bE c2))] [] [(28,.bool true)]<|qX true hm
  rcases aq hm with⟨c3,hm⟩|⟨c3,hm⟩
  ·exact qGs [(2,hro (b9 h1) gm),(4,hto (bE c1)),(7,hro (b9 h2) gm),(10,hto (bE c2)),(13,hto (lnE bz a.Links)),(16,hto (bE c3))] [] [(28,.bool true)]<|qX true hm
  exact qGs [(2,hro (b9 h1) gm),(4,hto (bE c1)),(7,hro (b9 h2) gm),(10,hto (bE c2)),(13,hto (lnE bz a.Links)),(16,hto (bE c3)),(19,hto (lnE bh a.Claims))] [] [(28,.bool (decide (8<(a.Claims.length:Int))))]<|qX (decide (8<(a.Claims.length:Int))) hm
 rintro v_1 hm
 rw[hJ1]at hm
 rcases aq hm with⟨c4,hm⟩|⟨c4,hm⟩
 ·refine qT c4<|qS [] [(2,.bool false)] [] ?_
  cases hm
  exact A.ret qE
 refine qF c4<|A.skip<|A.seq<|qDs [(2,hto (lnE bz a.Links))] [28] [(30,lf bz a.Links),(31,i6 (a.Links.length:Int)),(32,i6 0)]<|A.block<|A.bS 30 rfl λhb1=>?_
 obtain⟨B1,K1,hB1,hK1,hm⟩:=bw hm
 refine A.lpI (l:=a.Links) (j0:=0) (B:=B1) (K:=K1) hm (λj1=>λ()=>[(1,.ptr 85001 0),(30,lf bz a.Links),(31,i6 (a.Links.length:Int)),(32,i6 (j1:Int))]) (λj1=>λ()=>[(85001,.cells 66 (k7 a))]) ?_ ?_ ?_
 ·exact qW
 ·rintro j1 e1 Z1 ⟨⟩ hj1 hx1 hm
  rw[hB1]at hm
  refine qDs [] [] [(33,.bool (decide ((j1:Int)<(a.Links.length:Int))))]<|A.seq<|qT (ltT hx1)<|A.skip<|A.seq<|A.block<|qD [(1,hix (ix bz (aV hx1))),(3,.al 85004)] [33] [(4,.ptr 85004 0),(3,i6 (j1:Int))] [] [(85004,.cells 105 (k6 e1))] ?_
  obtain⟨J2,hJ2,hm⟩:=bN hm
  refine A.J (J:=J2) (r:=r) (λv_2=>[(1,.ptr 85001 0),(30,lf bz a.Links),(31,i6 (a.Links.length:Int)),(32,i6 (j1:Int)),(75,.bool v_2)]) (λv_2=>[(85001,.cells 66 (k7 a))]) ?_ ?_
  ·obtain⟨aN,h3,hm⟩:=aa hm
   rcases aq hm with⟨c5,hm⟩|⟨c5,hm⟩
   ·exact qG [(2,hro (b9 h3) gm),(4,hto (bE c5))] [4,3] [(75,.bool true)] [85004] []<|qX true hm
   rcases aq hm with⟨c6,hm⟩|⟨c6,hm⟩
   ·exact qG [(2,hro (b9 h3) gm),(4,hto (bE c5)),(11,hto (bE c6))] [4,3] [(75,.bool true)] [85004] []<|qX true hm
   obtain⟨bt,h4,hm⟩:=aa hm
   rcases aq hm with⟨c7,hm⟩|⟨c7,hm⟩
   ·exact qG [(2,hro (b9 h3) gm),(4,hto (bE c5)),(11,hto (bE c6)),(14,hro (b9 h4) gm),(17,hto (bE c7))] [4,3] [(75,.bool true)] [85004] []<|qX true hm
   obtain⟨bL,h5,hm⟩:=aa hm
   rcases aq hm with⟨c8,hm⟩|⟨c8,hm⟩
   ·exact qG [(2,hro (b9 h3) gm),(4,hto (bE c5)),(11,hto (bE c6)),(14,hro (b9 h4) gm),(17,hto (bE c7)),(20,hro (b9 h5) gm),(23,hto (bE c8))] [4,3] [(75,.bool true)] [85004] []<|qX true hm
   rcases aq hm with⟨c9,hm⟩|⟨c9,hm⟩
   ·obtain⟨e_1,h6,hm⟩:=aa hm
    exact qG [(2,hro (b9 h3) gm),(4,hto (bE c5)),(11,hto (bE c6)),(14,hro (b9 h4) gm),(17,hto (bE c7)),(20,hro (b9 h5) gm),(23,hto (bE c8)),(26,hto (bE c9)),(31,hix (ix bz h6))] [4,3] [(75,.bool (decide (e1.bq≤e_1.bq)))] [85004] []<|qX (decide (e1.bq≤e_1.bq)) hm
   exact qG [(2,hro (b9 h3) gm),(4,hto (bE c5)),(11,hto (bE c6)),(14,hro (b9 h4) gm),(17,hto (bE c7)),(20,hro (b9 h5) gm),(23,hto (bE c8)),(26,hto (bE c9))] [4,3] [(75,.bool false)] [85004] []<|qX false hm
  rintro v_2 hm
  rw[hJ2]at hm
  rcases aq hm with⟨c10,hm⟩|⟨c10,hm⟩
  ·refine qT c10<|qS [] [(2,.bool false)] [] ?_
   cases hm
   exact A.ret qE
  exact qF c10<|A.skip<|qGs [(0,hto (inc hx1 hb1))] [32,75] [(32,i6 ((j1+1:Nat):Int))]<|qX () hm
 rintro j1 ⟨⟩ hj1 hl1 hm
 rw[hK1]at hm
 refine qDs [] [] [(33,.bool (decide ((j1:Int)<(a.Links.length:Int))))]<|A.seq<|qF (ltF hl1)<|A.exit<|A.seq<|qDs [(2,hto (lnE bh a.Claims))] [30,31,32,33] [(78,lf bh a.Claims),(79,i6 (a.Claims.length:Int)),(80,i6 0)]<|A.block<|A.bS 78 rfl λhb2=>?_
 obtain⟨B2,K2,hB2,hK2,hm⟩:=bw hm
 refine A.lpI (l:=a.Claims) (j0:=0) (B:=B2) (K:=K2) hm (λj2=>λ()=>[(1,.ptr 85001 0),(78,lf bh a.Claims),(79,i6 (a.Claims.length:Int)),(80,i6 (j2:Int))]) (λj2=>λ()=>[(85001,.cells 66 (k7 a))]) ?_ ?_ ?_
 ·exact qW
 ·rintro j2 e2 Z2 ⟨⟩ hj2 hx2 hm
  rw[hB2]at hm
  refine qDs [] [] [(81,.bool (decide ((j2:Int)<(a.Claims.length:Int))))]<|A.seq<|qT (ltT hx2)<|A.skip<|A.seq<|A.block<|qD [(1,hix (ix bh (aV hx2))),(3,.al 85006)] [81] [(6,.ptr 85006 0),(5,i6 (j2:Int))] [] [(85006,.cells 91 (k5 e2))] ?_
  obtain⟨J3,hJ3,hm⟩:=bN hm
  refine A.J (J:=J3) (r:=r) (λv_3=>[(1,.ptr 85001 0),(78,lf bh a.Claims),(79,i6 (a.Claims.length:Int)),(80,i6 (j2:Int)),(116,.bool v_3)]) (λv_3=>[(85001,.cells 66 (k7 a))]) ?_ ?_
  ·obtain⟨cc,h7,hm⟩:=aa hm
   rcases aq hm with⟨c11,hm⟩|⟨c11,hm⟩
   ·exact qG [(2,hro (b9 h7) gm),(4,hto (bE c11))] [6,5] [(116,.bool true)] [85006] []<|qX true hm
   obtain⟨de,h8,hm⟩:=aa hm
   rcases aq hm with⟨c12,hm⟩|⟨c12,hm⟩
   ·exact qG [(2,hro (b9 h7) gm),(4,hto (bE c11)),(7,hro (b9 h8) gm),(10,hto (bE c12))] [6,5] [(116,.bool true)] [85006] []<|qX true hm
   obtain⟨di,h9,hm⟩:=aa hm
   rcases aq hm with⟨c13,hm⟩|⟨c13,hm⟩
   ·exact qG [(2,hro (b9 h7) gm),(4,hto (bE c11)),(7,hro (b9 h8) gm),(10,hto (bE c12)),(13,hro (lY h9) agl),(16,hto (bE c13))] [6,5] [(116,.bool true)] [85006] []<|qX true hm
   rcases aq hm with⟨c14,hm⟩|⟨c14,hm⟩
   ·obtain⟨e_2,h10,hm⟩:=aa hm
    exact qG [(2,hro (b9 h7) gm),(4,hto (bE c11)),(7,hro (b9 h8) gm),(10,hto (bE c12)),(13,hro (lY h9) agl),(16,hto (bE c13)),(19,hto (bE c14)),(24,hix (ix bh h10))] [6,5] [(116,.bool (decide (e2.bV≤e_2.bV)))] [85006] []<|qX (decide (e2.bV≤e_2.bV)) hm
   exact qG [(2,hro (b9 h7) gm),(4,hto (bE c11)),(7,hro (b9 h8) gm),(10,hto (bE c12)),(13,hro (lY h9) agl),(16,hto (bE c13)),(19,hto (bE c14))] [6,5] [(116,.bool false)] [85006] []<|qX false hm
  rintro v_3 hm
  rw[hJ3]at hm
  rcases aq hm with⟨c15,hm⟩|⟨c15,hm⟩
  ·refine qT c15<|qS [] [(2,.bool false)] [] ?_
   cases hm
   exact A.ret qE
  exact qF c15<|A.skip<|qGs [(0,hto (inc hx2 hb2))] [80,116] [(80,i6 ((j2+1:Nat):Int))]<|qX () hm
 rintro j2 ⟨⟩ hj2 hl2 hm
 rw[hK2]at hm
 refine qDs [] [] [(81,.bool (decide ((j2:Int)<(a.Claims.length:Int))))]<|A.seq<|qF (ltF hl2)<|A.exit<|qS [] [(2,.bool true)] [] ?_
 cases hm
 exact A.ret qE
theorem nP{a:List bp}{b:List bp}(hm:gF a b=some r):RO prog 114 [] [lf bz a,lf bz b] (.bool r):=by
 refine aY func114 rfl rfl ?_
 unfold gF at hm
 refine qS [] [(0,lf bz a),(1,lf bz b)] []<|A.seq<|qDs [(1,hto (lnE bz a)),(3,hto (lnE bz b))] [] [(11,.bool (!decide ((a.length:Int)=(b.length:Int))))] ?_
 rcases aq hm with⟨c1,hm⟩|⟨c1,hm⟩
 ·refine qT c1<|qS [] [(4,.bool false)] [] ?_
  cases hm
  exact A.ret qE
 refine qF c1<|A.skip<|A.seq<|qDs [(1,hto (lnE bz a))] [0,11] [(12,lf bz a),(13,i6 (a.length:Int)),(14,i6 0)]<|A.block<|A.bS 12 rfl λhb1=>?_
 obtain⟨B1,K1,hB1,hK1,hm⟩:=bw hm
 refine A.lpI (l:=a) (j0:=0) (B:=B1) (K:=K1) hm (λj1=>λ()=>[(1,lf bz b),(12,lf bz a),(13,i6 (a.length:Int)),(14,i6 (j1:Int))]) (λj1=>λ()=>[]) ?_ ?_ ?_
 ·exact qW
 ·rintro j1 e1 Z1 ⟨⟩ hj1 hx1 hm
  rw[hB1]at hm
  refine qDs [] [] [(15,.bool (decide ((j1:Int)<(a.length:Int))))]<|A.seq<|qT (ltT hx1)<|A.skip<|A.seq<|A.block<|qD [(1,hix (ix bz (aV hx1))),(3,.al 114006)] [15] [(6,.ptr 114006 0),(5,i6 (j1:Int))] [] [(114006,.cells 105 (k6 e1))] ?_
  obtain⟨e_1,h1,hm⟩:=aa hm
  refine qD [(3,hix (ix bz h1)),(5,.sq true 105 (.agg (k6 e1)) (.agg (k6 e_1)) (!(mO e1 e_1)) (λx y w=>agS x y _ _ _ _ _ _ w))] [6,5] [(24,.bool (!(mO e1 e_1)))] [114006] [] ?_
  rcases aq hm with⟨c2,hm⟩|⟨c2,hm⟩
  ·refine qT c2<|qS [] [(4,.bool false)] [] ?_
   cases hm
   exact A.ret qE
  exact qF c2<|A.skip<|qGs [(0,hto (inc hx1 hb1))] [14,24] [(14,i6 ((j1+1:Nat):Int))]<|qX () hm
 rintro j1 ⟨⟩ hj1 hl1 hm
 rw[hK1]at hm
 refine qDs [] [] [(15,.bool (decide ((j1:Int)<(a.length:Int))))]<|A.seq<|qF (ltF hl1)<|A.exit<|qS [] [(4,.bool true)] [] ?_
 cases hm
 exact A.ret qE
theorem uf{a:List bH}{b:List bH}(hm:gG a b=some r):RO prog 115 [] [lf bh a,lf bh b] (.bool r):=by
 refine aY func115 rfl rfl ?_
 unfold gG at hm
 refine qS [] [(0,lf bh a),(1,lf bh b)] []<|A.seq<|qDs [(1,hto (lnE bh a)),(3,hto (lnE bh b))] [] [(11,.bool (!decide ((a.length:Int)=(b.length:Int))))] ?_
 rcases aq hm with⟨c1,hm⟩|⟨c1,hm⟩
 ·refine qT c1<|qS [] [(4,.bool false)] [] ?_
  cases hm
  exact A.ret qE
 refine qF c1<|A.skip<|A.seq<|qDs [(1,hto (lnE bh a))] [0,11] [(12,lf bh a),(13,i6 (a.length:Int)),(14,i6 0)]<|A.block<|A.bS 12 rfl λhb1=>?_
 obtain⟨B1,K1,hB1,hK1,hm⟩:=bw hm
 refine A.lpI (l:=a) (j0:=0) (B:=B1) (K:=K1) hm (λj1=>λ()=>[(1,lf bh b),(12,lf bh a),(13,i6 (a.length:Int)),(14,i6 (j1:Int))]) (λj1=>λ()=>[]) ?_ ?_ ?_
 ·exact qW
 ·rintro j1 e1 Z1 ⟨⟩ hj1 hx1 hm
  rw[hB1]at hm
  refine qDs [] [] [(15,.bool (decide ((j1:Int)<(a.length:Int))))]<|A.seq<|qT (ltT hx1)<|A.skip<|A.seq<|A.block<|qD [(1,hix (ix bh (aV hx1))),(3,.al 115006)] [15] [(6,.ptr 115006 0),(5,i6 (j1:Int))] [] [(115006,.cells 91 (k5 e1))] ?_
  obtain⟨e_1,h1,hm⟩:=aa hm
  refine qD [(3,hix (ix bh h1)),(5,.sq true 91 (.agg (k5 e1)) (.agg (k5 e_1)) (!(mN e1 e_1)) (λx y w=>ah6 x y _ _ _ _ _ _ w))] [6,5] [(24,.bool (!(mN e1 e_1)))] [115006] [] ?_
  rcases aq hm with⟨c2,hm⟩|⟨c2,hm⟩
  ·refine qT c2<|qS [] [(4,.bool false)] [] ?_
   cases hm
   exact A.ret qE
  exact qF c2<|A.skip<|qGs [(0,hto (inc hx1 hb1))] [14,24] [(14,i6 ((j1+1:Nat):Int))]<|qX () hm
 rintro j1 ⟨⟩ hj1 hl1 hm
 rw[hK1]at hm
 refine qDs [] [] [(15,.bool (decide ((j1:Int)<(a.length:Int))))]<|A.seq<|qF (ltF hl1)<|A.exit<|qS [] [(4,.bool true)] [] ?_
 cases hm
 exact A.ret qE
theorem iq{s1:List ai}{s2:List ai}{eq:ai→ai→Option Bool}{acg:Nat}{ad6:List AV}(aph:aR prog acg)(api:∀(y0:ai) (y1:ai) (q:Bool),eq y0 y1=some q→RO prog acg [] ([.agg (k7 y0),.agg (k7 y1)]++ad6) (.bool q))(hm:cG s1 s2 eq=some r):RO prog 119 [] [lf aL s1,lf aL s2,.cfn acg ad6] (.bool r):=by
 refine aY func119 rfl rfl ?_
 unfold cG at hm
 refine qS [] [(0,lf aL s1),(1,lf aL s2),(2,.cfn acg ad6)] []<|A.seq<|qDs [(1,hto (lnE aL s1)),(3,hto (lnE aL s2))] [] [(14,.bool (!decide ((s1.length:Int)=(s2.length:Int))))] ?_
 rcases aq hm with⟨c1,hm⟩|⟨c1,hm⟩
 ·refine qT c1<|qS [] [(6,.bool false)] [] ?_
  cases hm
  exact A.ret qE
 refine qF c1<|A.skip<|A.seq<|qDs [(1,hto (lnE aL s1))] [0,14] [(15,lf aL s1),(16,i6 (s1.length:Int)),(17,i6 0)]<|A.block<|A.bS 15 rfl λhb1=>?_
 obtain⟨B1,K1,hB1,hK1,hm⟩:=bw hm
 refine A.lpI (l:=s1) (j0:=0) (B:=B1) (K:=K1) hm (λj1=>λ()=>[(1,lf aL s2),(2,.cfn acg ad6),(15,lf aL s1),(16,i6 (s1.length:Int)),(17,i6 (j1:Int))]) (λj1=>λ()=>[]) ?_ ?_ ?_
 ·exact qW
 ·rintro j1 e1 Z1 ⟨⟩ hj1 hx1 hm
  rw[hB1]at hm
  refine qDs [] [] [(18,.bool (decide ((j1:Int)<(s1.length:Int))))]<|A.seq<|qT (ltT hx1)<|A.skip<|A.seq<|A.block<|qD [(1,hix (ix aL (aV hx1))),(3,.al 119008)] [18] [(8,.ptr 119008 0),(7,i6 (j1:Int))] [] [(119008,.cells 66 (k7 e1))] ?_
  obtain⟨e_1,h1,hm⟩:=aa hm
  refine qD [(2,hix (ix aL h1)),(4,.al 119009)] [7] [(9,.ptr 119009 0)] [] [(119009,.cells 66 (k7 e_1))] ?_
  obtain⟨ah,h2,hm⟩:=aa hm
  refine qD [(3,hrf (api _ _ _ h2) aph)] [8,9] [(30,.bool (!ah))] [119008,119009] [] ?_
  rcases aq hm with⟨c2,hm⟩|⟨c2,hm⟩
  ·refine qT c2<|qS [] [(6,.bool false)] [] ?_
   cases hm
   exact A.ret qE
  exact qF c2<|A.skip<|qGs [(0,hto (inc hx1 hb1))] [17,30] [(17,i6 ((j1+1:Nat):Int))]<|qX () hm
 rintro j1 ⟨⟩ hj1 hl1 hm
 rw[hK1]at hm
 refine qDs [] [] [(18,.bool (decide ((j1:Int)<(s1.length:Int))))]<|A.seq<|qF (ltF hl1)<|A.exit<|qS [] [(6,.bool true)] [] ?_
 cases hm
 exact A.ret qE
theorem n9{b:ai}(hm:kS a b=some r):RO prog 72 [] [.agg (k7 a),.agg (k7 b)] (.bool r):=by
 refine aY func72 rfl rfl ?_
 unfold kS at hm
 refine qS [(0,.al 72002),(1,.al 72003)] [(2,.ptr 72002 0),(3,.ptr 72003 0)] [(72002,.cells 66 (k7 a)),(72003,.cells 66 (k7 b))] ?_
 rcases aq hm with⟨c1,hm⟩|⟨c1,hm⟩
 ·rcases aq hm with⟨c2,hm⟩|⟨c2,hm⟩
  ·rcases aq hm with⟨c3,hm⟩|⟨c3,hm⟩
   ·obtain⟨ah,h1,hm⟩:=aa hm
    rcases aq hm with⟨c4,hm⟩|⟨c4,hm⟩
    ·obtain⟨aD,h2,hm⟩:=aa hm
     refine qS [(5,hto (bE c1)),(12,hto (bE c2)),(19,hto (bE c3)),(24,hro (nP h1) aj6),(26,hto (bE c4)),(31,hro (uf h2) aso)] [(4,.bool aD)] [] ?_
     cases hm
     exact A.ret qE
    refine qS [(5,hto (bE c1)),(12,hto (bE c2)),(19,hto (bE c3)),(24,hro (nP h1) aj6),(26,hto (bE c4))] [(4,.bool false)] [] ?_
    cases hm
    exact A.ret qE
   refine qS [(5,hto (bE c1)),(12,hto (bE c2)),(19,hto (bE c3))] [(4,.bool false)] [] ?_
   cases hm
   exact A.ret qE
  refine qS [(5,hto (bE c1)),(12,hto (bE c2))] [(4,.bool false)] [] ?_
  cases hm
  exact A.ret qE
 refine qS [(5,hto (bE c1))] [(4,.bool false)] [] ?_
 cases hm
 exact A.ret qE
theorem oQ{sa0:List aS}(xb:ml aC sa0≠[]){r:(List aS)}(hm:dO sa0=some r):bO prog 88 [] [lf aC sa0] (λa σ'=>a=.own 500008800∧σ'=[(500008800,.slice 86 5 (ml aC r) 0 false)]):=by
 refine aY func88 rfl rfl ?_
 unfold dO at hm
 refine qS [] [(0,lf aC sa0)] []<|A.seq<|qDs [(1,.sn false (lf aC sa0) (aaH xb))] [] [(4,.bool false)]<|A.cF rfl rfl<|A.skip ?_
 obtain⟨l_1,h1,hm⟩:=aa hm
 refine qS [(0,.al 88005),(2,hap 88507 (ap aC (bytes:=40) (by decide) h1))] [(2,.own 88507)] [(88507,.slice 86 5 (ml aC l_1) 0 false)]<|A.ret ?_
 obtain rfl:=some_inj hm
 exact A.fin W0 [.sw 88507 500008800] rfl (by kernel_rfl)
theorem oR{r:(List aS)}(hm:kL=some r):bO prog 88 [] [.sl0] (λa σ'=>a=.own 500008800∧σ'=[(500008800,.slice 86 5 (ml aC r) 0 false)]):=by
 refine aY func88 rfl rfl ?_
 unfold kL at hm
 refine qS [] [(0,.sl0)] []<|A.seq<|qDs [(1,.sn false .sl0 (aaI))] [] [(4,.bool false)]<|A.cF rfl rfl<|A.skip ?_
 obtain⟨l_1,h1,hm⟩:=aa hm
 refine qS [(0,.al 88005),(2,hap 88507 (ap aC (bytes:=40) (by decide) h1))] [(2,.own 88507)] [(88507,.slice 86 5 (ml aC l_1) 0 false)]<|A.ret ?_
 obtain rfl:=some_inj hm
 exact A.fin W0 [.sw 88507 500008800] rfl (by kernel_rfl)
theorem qc(n c:Nat)(w:World):Calls prog 88 #[.slice none n c] w λe w'=>e=.returned (.slice none 0 0)∧w'=w:=by
 have q:∀(w:World) (a:Option Addr) (n c n' c':Nat),(binOp .eql 23 (.slice a n c) (.slice none n' c')).run prog w=.ok (.bool a.isNone) w:=λw a n c n' c'=>Lib.run_eql_slice_nil w _ _ a n c n' c' underlying23
 go_enter func88,Tryz.ntmps88
 go_wp2
 go_ret
 exact⟨rfl,rfl⟩
theorem gH{s r:List aS}(hm:dy s=some r):bO prog 88 [] [.lst false (ml aC s)] (λa σ'=>a=.own 500008800∧σ'=[(500008800,.slice 86 5 (ml aC r) 0 false)]):=by
 obtain rfl:s=r:=by
  unfold dy dO at hm
  obtain⟨l,h,hm⟩:=aa hm
  have:=(ab5 h).symm
  simp at this;subst this
  exact some_inj hm
 refine yN qc (λh=>oQ h hm) (λh=>?_) (λh=>h)
 have h0:s=[]:=by cases s with|nil=>rfl|cons a b=>simp[ml]at h
 subst h0
 exact oR hm
theorem oc{sa0:List bH}(xb:ml bh sa0≠[]){r:(List bH)}(hm:dL sa0=some r):bO prog 110 [] [lf bh sa0] (λa σ'=>a=.own 500011000∧σ'=[(500011000,.slice 91 3 (ml bh r) 0 false)]):=by
 refine aY func110 rfl rfl ?_
 unfold dL at hm
 refine qS [] [(0,lf bh sa0)] []<|A.seq<|qDs [(1,.sn false (lf bh sa0) (aaH xb))] [] [(4,.bool false)]<|A.cF rfl rfl<|A.skip ?_
 obtain⟨l_1,h1,hm⟩:=aa hm
 refine qS [(0,.al 110005),(2,hap 110507 (ap bh (bytes:=24) (by decide) h1))] [(2,.own 110507)] [(110507,.slice 91 3 (ml bh l_1) 0 false)]<|A.ret ?_
 obtain rfl:=some_inj hm
 exact A.fin W0 [.sw 110507 500011000] rfl (by kernel_rfl)
theorem oe{r:(List bH)}(hm:jO=some r):bO prog 110 [] [.sl0] (λa σ'=>a=.own 500011000∧σ'=[(500011000,.slice 91 3 (ml bh r) 0 false)]):=by
 refine aY func110 rfl rfl ?_
 unfold jO at hm
 refine qS [] [(0,.sl0)] []<|A.seq<|qDs [(1,.sn false .sl0 (aaI))] [] [(4,.bool false)]<|A.cF rfl rfl<|A.skip ?_
 obtain⟨l_1,h1,hm⟩:=aa hm
 refine qS [(0,.al 110005),(2,hap 110507 (ap bh (bytes:=24) (by decide) h1))] [(2,.own 110507)] [(110507,.slice 91 3 (ml bh l_1) 0 false)]<|A.ret ?_
 obtain rfl:=some_inj hm
 exact A.fin W0 [.sw 110507 500011000] rfl (by kernel_rfl)
theorem o5(n c:Nat)(w:World):Calls prog 110 #[.slice none n c] w λe w'=>e=.returned (.slice none 0 0)∧w'=w:=by
 have q:∀(w:World) (a:Option Addr) (n c n' c':Nat),(binOp .eql 48 (.slice a n c) (.slice none n' c')).run prog w=.ok (.bool a.isNone) w:=λw a n c n' c'=>Lib.run_eql_slice_nil w _ _ a n c n' c' underlying48
 go_enter func110,Tryz.ntmps110
 go_wp2
 go_ret
 exact⟨rfl,rfl⟩
theorem gd{s r:List bH}(hm:cZ s=some r):bO prog 110 [] [.lst false (ml bh s)] (λa σ'=>a=.own 500011000∧σ'=[(500011000,.slice 91 3 (ml bh r) 0 false)]):=by
 obtain rfl:s=r:=by
  unfold cZ dL at hm
  obtain⟨l,h,hm⟩:=aa hm
  have:=(ab5 h).symm
  simp at this;subst this
  exact some_inj hm
 refine yN o5 (λh=>oc h hm) (λh=>?_) (λh=>h)
 have h0:s=[]:=by cases s with|nil=>rfl|cons a b=>simp[ml]at h
 subst h0
 exact oe hm
theorem og{sa0:List bp}(xb:ml bz sa0≠[]){r:(List bp)}(hm:dM sa0=some r):bO prog 149 [] [lf bz sa0] (λa σ'=>a=.own 500014900∧σ'=[(500014900,.slice 105 3 (ml bz r) 0 false)]):=by
 refine aY func149 rfl rfl ?_
 unfold dM at hm
 refine qS [] [(0,lf bz sa0)] []<|A.seq<|qDs [(1,.sn false (lf bz sa0) (aaH xb))] [] [(4,.bool false)]<|A.cF rfl rfl<|A.skip ?_
 obtain⟨l_1,h1,hm⟩:=aa hm
 refine qS [(0,.al 149005),(2,hap 149507 (ap bz (bytes:=24) (by decide) h1))] [(2,.own 149507)] [(149507,.slice 105 3 (ml bz l_1) 0 false)]<|A.ret ?_
 obtain rfl:=some_inj hm
 exact A.fin W0 [.sw 149507 500014900] rfl (by kernel_rfl)
theorem oh{r:(List bp)}(hm:jP=some r):bO prog 149 [] [.sl0] (λa σ'=>a=.own 500014900∧σ'=[(500014900,.slice 105 3 (ml bz r) 0 false)]):=by
 refine aY func149 rfl rfl ?_
 unfold jP at hm
 refine qS [] [(0,.sl0)] []<|A.seq<|qDs [(1,.sn false .sl0 (aaI))] [] [(4,.bool false)]<|A.cF rfl rfl<|A.skip ?_
 obtain⟨l_1,h1,hm⟩:=aa hm
 refine qS [(0,.al 149005),(2,hap 149507 (ap bz (bytes:=24) (by decide) h1))] [(2,.own 149507)] [(149507,.slice 105 3 (ml bz l_1) 0 false)]<|A.ret ?_
 obtain rfl:=some_inj hm
 exact A.fin W0 [.sw 149507 500014900] rfl (by kernel_rfl)
theorem o6(n c:Nat)(w:World):Calls prog 149 #[.slice none n c] w λe w'=>e=.returned (.slice none 0 0)∧w'=w:=by
 have q:∀(w:World) (a:Option Addr) (n c n' c':Nat),(binOp .eql 64 (.slice a n c) (.slice none n' c')).run prog w=.ok (.bool a.isNone) w:=λw a n c n' c'=>Lib.run_eql_slice_nil w _ _ a n c n' c' underlying64
 go_enter func149,Tryz.ntmps149
 go_wp2
 go_ret
 exact⟨rfl,rfl⟩
theorem jt{s r:List bp}(hm:dD s=some r):bO prog 149 [] [.lst false (ml bz s)] (λa σ'=>a=.own 500014900∧σ'=[(500014900,.slice 105 3 (ml bz r) 0 false)]):=by
 obtain rfl:s=r:=by
  unfold dD dM at hm
  obtain⟨l,h,hm⟩:=aa hm
  have:=(ab5 h).symm
  simp at this;subst this
  exact some_inj hm
 refine yN o6 (λh=>og h hm) (λh=>?_) (λh=>h)
 have h0:s=[]:=by cases s with|nil=>rfl|cons a b=>simp[ml]at h
 subst h0
 exact oh hm
theorem lu{r:ai}(hm:fh a=some r):RO prog 113 [] [.agg (k7 a)] (.agg (k7 r)):=by
 refine aY func113 rfl rfl ?_
 unfold fh at hm
 refine qS [(0,.al 113001),(1,.al 113002)] [(1,.ptr 113001 0),(2,.ptr 113002 0)] [(113001,.cells 66 (k7 a)),(113002,.cells 66 [i6 0,i6 0,.bool false,.aI,.aI])] ?_
 obtain⟨ah,h1,hm⟩:=aa hm
 obtain⟨aD,h2,hm⟩:=aa hm
 refine qD [(2,hdc [500014900] (jt h1) akd),(5,hdc [500011000] (gd h2) agh)] [] [] [113001] [(113001,.cells 66 [i6 a.af,i6 a.Seq,.bool a.aW,.own 500014900,.own 500011000]),(500014900,.slice 105 3 (ml bz ah) 0 false),(500011000,.slice 91 3 (ml bh aD) 0 false)]<|qD [] [1] [] [113001,113002] [(113002,.cells 66 [i6 a.af,i6 a.Seq,.bool a.aW,.own 500014900,.own 500011000])]<|A.ret ?_
 obtain rfl:=some_inj hm
 exact A.fin W0 [.fz [500014900,500011000]] rfl (by kernel_rfl)
theorem xd(hm:mF a=some r):RO prog 138 [] [.agg (k7 a)] (.bool r):=by
 refine aY func138 rfl rfl ?_
 unfold mF at hm
 refine qS [(0,.al 138001)] [(1,.ptr 138001 0)] [(138001,.cells 66 (k7 a))] ?_
 obtain⟨ah,h1,hm⟩:=aa hm
 refine qS [(1,hro (jc h1) acf)] [(2,.bool (!ah))] [] ?_
 cases hm
 exact A.ret qE
variable {d:aH}
theorem gf{r:Int}(hm:fL d=some r):RO prog 86 [] [.agg (k8 d)] (i6 r):=by
 refine aY func86 rfl rfl ?_
 unfold fL at hm
 refine qS [(0,.al 86001)] [(1,.ptr 86001 0)] [(86001,.cells 51 (k8 d))]<|A.seq<|A.block<|qDs [(2,hto (lnE aL d.ay))] [] [(4,.bool (decide (99<(d.ay.length:Int))))] ?_
 rcases aq hm with⟨c1,hm⟩|⟨c1,hm⟩
 ·refine qT c1<|qS [] [(2,i6 3)] [] ?_
  cases hm
  exact A.ret qE
 refine qF c1 ?_
 obtain⟨ah,h1,hm⟩:=aa hm
 refine qDs [(2,hro (lV (f_g:=138) (f_c:=[]) (f_k:=asx) (f_f:=λ_ _ h=>xd h) h1) asw)] [4] [(9,.bool ah)] ?_
 rcases aq hm with⟨c2,hm⟩|⟨c2,hm⟩
 ·refine qT c2<|qS [] [(2,i6 1)] [] ?_
  cases hm
  exact A.ret qE
 refine qF c2<|A.skip<|A.seq<|qDs [(2,hto (lnE aL d.ay))] [9] [(15,i6 (d.ay.length:Int)),(16,i6 0)]<|A.block<|A.bC 1 0 rfl rfl rfl λhb1=>?_
 obtain⟨B1,K1,hB1,hK1,hm⟩:=bw hm
 refine A.lpI (l:=d.ay) (j0:=0) (B:=B1) (K:=K1) hm (λj1=>λ()=>[(1,.ptr 86001 0),(15,i6 (d.ay.length:Int)),(16,i6 (j1:Int))]) (λj1=>λ()=>[(86001,.cells 51 (k8 d))]) ?_ ?_ ?_
 ·exact qW
 ·rintro j1 e1 Z1 ⟨⟩ hj1 hx1 hm
  rw[hB1]at hm
  refine qDs [] [] [(17,.bool (decide ((j1:Int)<(d.ay.length:Int))))]<|A.seq<|qT (ltT hx1)<|A.skip<|A.seq<|A.block<|qDs [] [17] [(3,i6 (j1:Int))] ?_
  obtain⟨J1,hJ1,hm⟩:=bN hm
  refine A.J (J:=J1) (r:=r) (λv_1=>[(1,.ptr 86001 0),(15,i6 (d.ay.length:Int)),(16,i6 (j1:Int)),(36,.bool v_1)]) (λv_1=>[(86001,.cells 51 (k8 d))]) ?_ ?_
  ·rcases aq hm with⟨c3,hm⟩|⟨c3,hm⟩
   ·obtain⟨e_1,h2,hm⟩:=aa hm
    exact qGs [(2,hto (bE c3)),(7,hix (ix aL h2)),(13,hix (ix aL (aV hx1)))] [3] [(36,.bool (decide (e1.af≤e_1.af)))]<|qX (decide (e1.af≤e_1.af)) hm
   exact qGs [(2,hto (bE c3))] [3] [(36,.bool false)]<|qX false hm
  rintro v_1 hm
  rw[hJ1]at hm
  rcases aq hm with⟨c4,hm⟩|⟨c4,hm⟩
  ·refine qT c4<|qS [] [(2,i6 25)] [] ?_
   cases hm
   exact A.ret qE
  exact qF c4<|A.skip<|qGs [(0,hto (inc hx1 hb1))] [16,36] [(16,i6 ((j1+1:Nat):Int))]<|qX () hm
 rintro j1 ⟨⟩ hj1 hl1 hm
 rw[hK1]at hm
 refine qDs [] [] [(17,.bool (decide ((j1:Int)<(d.ay.length:Int))))]<|A.seq<|qF (ltF hl1)<|A.exit<|qS [] [(2,i6 0)] [] ?_
 cases hm
 exact A.ret qE
theorem yX{a:aH}{b:aH}(hm:kM a b=some r):RO prog 74 [] [.agg (k8 a),.agg (k8 b)] (.bool r):=by
 refine aY func74 rfl rfl ?_
 unfold kM at hm
 refine qS [(0,.al 74002),(1,.al 74003)] [(2,.ptr 74002 0),(3,.ptr 74003 0)] [(74002,.cells 51 (k8 a)),(74003,.cells 51 (k8 b))] ?_
 obtain⟨ah,h1,hm⟩:=aa hm
 refine qS [(4,hro (iq (acg:=72) (ad6:=[]) (aph:=agf) (api:=λ_ _ _ h=>n9 h) h1) asq)] [(4,.bool ah)] [] ?_
 cases hm
 exact A.ret qE
theorem ug{aJ:Int}{r:ai×Bool}(hm:kN d aJ=some r):RO prog 71 [] [.agg (k8 d),i6 aJ] (.tup [.agg (k7 r.1),.bool r.2]):=by
 refine aY func71 rfl rfl ?_
 unfold kN at hm
 refine qS [(0,.al 71002),(1,.al 71004)] [(1,i6 aJ),(2,.ptr 71002 0),(4,.ptr 71004 0)] [(71002,.cells 51 (k8 d)),(71004,.cells 66 [i6 0,i6 0,.bool false,.aI,.aI])]<|A.seq<|qD [(2,hto (lnE aL d.ay))] [2] [(9,lf aL d.ay),(10,i6 (d.ay.length:Int)),(11,i6 0)] [71002] []<|A.block<|A.bS 9 rfl λhb1=>?_
 obtain⟨B1,K1,hB1,hK1,hm⟩:=bw hm
 refine A.lpI (l:=d.ay) (j0:=0) (B:=B1) (K:=K1) hm (λj1=>λ()=>[(1,i6 aJ),(4,.ptr 71004 0),(9,lf aL d.ay),(10,i6 (d.ay.length:Int)),(11,i6 (j1:Int))]) (λj1=>λ()=>[(71004,.cells 66 [i6 0,i6 0,.bool false,.aI,.aI])]) ?_ ?_ ?_
 ·exact qW
 ·rintro j1 e1 Z1 ⟨⟩ hj1 hx1 hm
  rw[hB1]at hm
  refine qDs [] [] [(12,.bool (decide ((j1:Int)<(d.ay.length:Int))))]<|A.seq<|qT (ltT hx1)<|A.skip<|A.seq<|A.block<|qD [(0,hix (ix aL (aV hx1))),(2,.al 71007)] [12] [(7,.ptr 71007 0)] [] [(71007,.cells 66 (k7 e1))]<|qDs [] [] [(18,.bool (decide (e1.af=aJ)))] ?_
  rcases aq hm with⟨c1,hm⟩|⟨c1,hm⟩
  ·refine qT c1 ?_
   obtain⟨ah,h1,hm⟩:=aa hm
   refine qS [(1,hro (lu h1) adw)] [(4,.ptr 71004 0),(5,.bool true)] [(71004,.cells 66 (k7 ah))] ?_
   cases hm
   exact A.ret qE
  exact qF c1<|A.skip<|qG [(0,hto (inc hx1 hb1))] [11,7,18] [(11,i6 ((j1+1:Nat):Int))] [71007] []<|qX () hm
 rintro j1 ⟨⟩ hj1 hl1 hm
 rw[hK1]at hm
 refine qDs [] [] [(12,.bool (decide ((j1:Int)<(d.ay.length:Int))))]<|A.seq<|qF (ltF hl1)<|A.exit<|qDs [] [1,9,10,11,12] [(5,.bool false)] ?_
 cases hm
 exact A.ret qE
end Go.Proofs.YtjdopimopgpagaaGreat
