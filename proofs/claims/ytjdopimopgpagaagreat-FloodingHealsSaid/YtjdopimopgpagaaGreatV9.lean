/- The eN of cu of the program. No condition but bH bq stand in each. -/
import Derived.Test.YtjdopimopgpagaaGreatV4
import Derived.Shelf.SlSortCmp.NoneTotal
namespace Go.Proofs.YtjdopimopgpagaaGreat
open Go Go.Proofs.Tryz
set_option maxRecDepth 100000
set_option linter.all false
variable {r:Bool}
theorem mB{n:Int}(hm:jq n=some r):RO prog 136 [] [i6 n] (.bool r):=by
 refine aZ func136 rfl rfl ?_
 unfold jq at hm
 refine qS [] [(0,i6 n)] []<|A.mid [(2,.bool ((decide (n=8))||((decide (n=16))||((decide (n=32))||(decide (n=64))))))] [] (λhk=>?_) ?_
 ·rcases tf (decide (n=8))with c1|c1
  ·exact qS [(2,hto (bE c1)),(14,hto (orT (q:=((decide (n=16))||((decide (n=32))||(decide (n=64))))) c1))] _ _ hk
  rcases tf (decide (n=16))with c2|c2
  ·exact qS [(2,hto (bE c1)),(6,hto (bE c2)),(14,hto ((orT (q:=((decide (n=32))||(decide (n=64)))) c2).trans (orF (q:=((decide (n=16))||((decide (n=32))||(decide (n=64))))) c1)))] _ _ hk
  rcases tf (decide (n=32))with c3|c3
  ·exact qS [(2,hto (bE c1)),(6,hto (bE c2)),(10,hto (bE c3)),(14,hto (((orT (q:=decide (n=64)) c3).trans (orF (q:=((decide (n=32))||(decide (n=64)))) c2)).trans (orF (q:=((decide (n=16))||((decide (n=32))||(decide (n=64))))) c1)))] _ _ hk
  exact qS [(2,hto (bE c1)),(6,hto (bE c2)),(10,hto (bE c3)),(14,hto (((orF (q:=decide (n=64)) c3).trans (orF (q:=((decide (n=32))||(decide (n=64)))) c2)).trans (orF (q:=((decide (n=16))||((decide (n=32))||(decide (n=64))))) c1)))] _ _ hk
 cases hm
 exact A.ret qE
theorem cm{n:Int}{least:Int}{most:Int}(hm:je n least most=some r):RO prog 135 [] [i6 n,i6 least,i6 most] (.bool r):=by
 refine aZ func135 rfl rfl ?_
 unfold je at hm
 refine qS [] [(0,i6 n),(1,i6 least),(2,i6 most)] []<|A.mid [(6,.bool ((decide (least≤n))&&(decide (n≤most))))] [] (λhk=>?_) ?_
 ·rcases tf (decide (least≤n))with c1|c1
  ·exact qS [(3,hto (bE c1)),(8,hto (rO (q:=decide (n≤most)) c1))] _ _ hk
  exact qS [(3,hto (bE c1)),(8,hto (sM (q:=decide (n≤most)) c1))] _ _ hk
 cases hm
 exact A.ret qE
variable {a:ai}
theorem jx(hm:iu a=some r):RO prog 85 [] [.agg (k7 a)] (.bool r):=by
 refine aZ func85 rfl rfl ?_
 unfold iu at hm
 refine qS [(0,.al 85001)] [(1,.ptr 85001 0)] [(85001,.cells 66 (k7 a))]<|A.seq ?_
 obtain⟨J1,hJ1,hm⟩:=bQ hm
 refine A.J (J:=J1) (r:=r) (λv_1=>[(1,.ptr 85001 0),(28,.bool v_1)]) (λv_1=>[(85001,.cells 66 (k7 a))]) ?_ ?_
 ·obtain⟨ah,h1,hm⟩:=aa hm
  rcases az hm with⟨c1,hm⟩|⟨c1,hm⟩
  ·exact qGs [(2,hro (cm h1) gB),(4,hto (bE c1))] [] [(28,.bool true)]<|qX true hm
  obtain⟨aD,h2,hm⟩:=aa hm
  rcases az hm with⟨c2,hm⟩|⟨c2,hm⟩
  ·exact qGs [(2,hro (cm h1) gB),(4,hto (bE c1)),(7,hro (cm h2) gB),(10,hto (bE c2))] [] [(28,.bool true)]<|qX true hm
  rcases az hm with⟨c3,hm⟩|⟨c3,hm⟩
  ·exact qGs [(2,hro (cm h1) gB),(4,hto (bE c1)),(7,hro (cm h2) gB),(10,hto (bE c2)),(13,hto (lnE bx a.Links)),(16,hto (bE c3))] [] [(28,.bool true)]<|qX true hm
  exact qGs [(2,hro (cm h1) gB),(4,hto (bE c1)),(7,hro (cm h2) gB),(10,hto (bE c2)),(13,hto (lnE bx a.Links)),(16,hto (bE c3)),(19,hto (lnE bn a.Claims))] [] [(28,.bool (decide (8<(a.Claims.length:Int))))]<|qX (decide (8<(a.Claims.length:Int))) hm
 rintro v_1 hm
 rw[hJ1]at hm
 rcases az hm with⟨c4,hm⟩|⟨c4,hm⟩
 ·refine qT c4<|qS [] [(2,.bool false)] [] ?_
  cases hm
  exact A.ret qE
 refine qF c4<|A.skip<|A.seq<|qDs [(2,hto (lnE bx a.Links))] [28] [(30,lf bx a.Links),(31,i6 (a.Links.length:Int)),(32,i6 0)]<|A.block<|A.bS 30 rfl λhb1=>?_
 obtain⟨B1,K1,hB1,hK1,hm⟩:=bF hm
 refine A.lpI (l:=a.Links) (j0:=0) (B:=B1) (K:=K1) hm (λj1=>λ()=>[(1,.ptr 85001 0),(30,lf bx a.Links),(31,i6 (a.Links.length:Int)),(32,i6 (j1:Int))]) (λj1=>λ()=>[(85001,.cells 66 (k7 a))]) ?_ ?_ ?_
 ·exact qW
 ·rintro j1 e1 Z1 ⟨⟩ hj1 hx1 hm
  rw[hB1]at hm
  refine qDs [] [] [(33,.bool (decide ((j1:Int)<(a.Links.length:Int))))]<|A.seq<|qT (ltT hx1)<|A.skip<|A.seq<|A.block<|qD [(1,hix (ix bx (bh hx1))),(3,.al 85004)] [33] [(4,.ptr 85004 0),(3,i6 (j1:Int))] [] [(85004,.cells 105 (k6 e1))] ?_
  obtain⟨J2,hJ2,hm⟩:=bQ hm
  refine A.J (J:=J2) (r:=r) (λv_2=>[(1,.ptr 85001 0),(30,lf bx a.Links),(31,i6 (a.Links.length:Int)),(32,i6 (j1:Int)),(75,.bool v_2)]) (λv_2=>[(85001,.cells 66 (k7 a))]) ?_ ?_
  ·obtain⟨aP,h3,hm⟩:=aa hm
   rcases az hm with⟨c5,hm⟩|⟨c5,hm⟩
   ·exact qG [(2,hro (cm h3) gB),(4,hto (bE c5))] [4,3] [(75,.bool true)] [85004] []<|qX true hm
   rcases az hm with⟨c6,hm⟩|⟨c6,hm⟩
   ·exact qG [(2,hro (cm h3) gB),(4,hto (bE c5)),(11,hto (bE c6))] [4,3] [(75,.bool true)] [85004] []<|qX true hm
   obtain⟨bt,h4,hm⟩:=aa hm
   rcases az hm with⟨c7,hm⟩|⟨c7,hm⟩
   ·exact qG [(2,hro (cm h3) gB),(4,hto (bE c5)),(11,hto (bE c6)),(14,hro (cm h4) gB),(17,hto (bE c7))] [4,3] [(75,.bool true)] [85004] []<|qX true hm
   obtain⟨bL,h5,hm⟩:=aa hm
   rcases az hm with⟨c8,hm⟩|⟨c8,hm⟩
   ·exact qG [(2,hro (cm h3) gB),(4,hto (bE c5)),(11,hto (bE c6)),(14,hro (cm h4) gB),(17,hto (bE c7)),(20,hro (cm h5) gB),(23,hto (bE c8))] [4,3] [(75,.bool true)] [85004] []<|qX true hm
   rcases az hm with⟨c9,hm⟩|⟨c9,hm⟩
   ·obtain⟨e_1,h6,hm⟩:=aa hm
    exact qG [(2,hro (cm h3) gB),(4,hto (bE c5)),(11,hto (bE c6)),(14,hro (cm h4) gB),(17,hto (bE c7)),(20,hro (cm h5) gB),(23,hto (bE c8)),(26,hto (bE c9)),(31,hix (ix bx h6))] [4,3] [(75,.bool (decide (e1.bu≤e_1.bu)))] [85004] []<|qX (decide (e1.bu≤e_1.bu)) hm
   exact qG [(2,hro (cm h3) gB),(4,hto (bE c5)),(11,hto (bE c6)),(14,hro (cm h4) gB),(17,hto (bE c7)),(20,hro (cm h5) gB),(23,hto (bE c8)),(26,hto (bE c9))] [4,3] [(75,.bool false)] [85004] []<|qX false hm
  rintro v_2 hm
  rw[hJ2]at hm
  rcases az hm with⟨c10,hm⟩|⟨c10,hm⟩
  ·refine qT c10<|qS [] [(2,.bool false)] [] ?_
   cases hm
   exact A.ret qE
  exact qF c10<|A.skip<|qGs [(0,hto (inc hx1 hb1))] [32,75] [(32,i6 ((j1+1:Nat):Int))]<|qX () hm
 rintro j1 ⟨⟩ hj1 hl1 hm
 rw[hK1]at hm
 refine qDs [] [] [(33,.bool (decide ((j1:Int)<(a.Links.length:Int))))]<|A.seq<|qF (ltF hl1)<|A.exit<|A.seq<|qDs [(2,hto (lnE bn a.Claims))] [30,31,32,33] [(78,lf bn a.Claims),(79,i6 (a.Claims.length:Int)),(80,i6 0)]<|A.block<|A.bS 78 rfl λhb2=>?_
 obtain⟨B2,K2,hB2,hK2,hm⟩:=bF hm
 refine A.lpI (l:=a.Claims) (j0:=0) (B:=B2) (K:=K2) hm (λj2=>λ()=>[(1,.ptr 85001 0),(78,lf bn a.Claims),(79,i6 (a.Claims.length:Int)),(80,i6 (j2:Int))]) (λj2=>λ()=>[(85001,.cells 66 (k7 a))]) ?_ ?_ ?_
 ·exact qW
 ·rintro j2 e2 Z2 ⟨⟩ hj2 hx2 hm
  rw[hB2]at hm
  refine qDs [] [] [(81,.bool (decide ((j2:Int)<(a.Claims.length:Int))))]<|A.seq<|qT (ltT hx2)<|A.skip<|A.seq<|A.block<|qD [(1,hix (ix bn (bh hx2))),(3,.al 85006)] [81] [(6,.ptr 85006 0),(5,i6 (j2:Int))] [] [(85006,.cells 91 (k5 e2))] ?_
  obtain⟨J3,hJ3,hm⟩:=bQ hm
  refine A.J (J:=J3) (r:=r) (λv_3=>[(1,.ptr 85001 0),(78,lf bn a.Claims),(79,i6 (a.Claims.length:Int)),(80,i6 (j2:Int)),(116,.bool v_3)]) (λv_3=>[(85001,.cells 66 (k7 a))]) ?_ ?_
  ·obtain⟨cq,h7,hm⟩:=aa hm
   rcases az hm with⟨c11,hm⟩|⟨c11,hm⟩
   ·exact qG [(2,hro (cm h7) gB),(4,hto (bE c11))] [6,5] [(116,.bool true)] [85006] []<|qX true hm
   obtain⟨cU,h8,hm⟩:=aa hm
   rcases az hm with⟨c12,hm⟩|⟨c12,hm⟩
   ·exact qG [(2,hro (cm h7) gB),(4,hto (bE c11)),(7,hro (cm h8) gB),(10,hto (bE c12))] [6,5] [(116,.bool true)] [85006] []<|qX true hm
   obtain⟨dz,h9,hm⟩:=aa hm
   rcases az hm with⟨c13,hm⟩|⟨c13,hm⟩
   ·exact qG [(2,hro (cm h7) gB),(4,hto (bE c11)),(7,hro (cm h8) gB),(10,hto (bE c12)),(13,hro (mB h9) agG),(16,hto (bE c13))] [6,5] [(116,.bool true)] [85006] []<|qX true hm
   rcases az hm with⟨c14,hm⟩|⟨c14,hm⟩
   ·obtain⟨e_2,h10,hm⟩:=aa hm
    exact qG [(2,hro (cm h7) gB),(4,hto (bE c11)),(7,hro (cm h8) gB),(10,hto (bE c12)),(13,hro (mB h9) agG),(16,hto (bE c13)),(19,hto (bE c14)),(24,hix (ix bn h10))] [6,5] [(116,.bool (decide (e2.bZ≤e_2.bZ)))] [85006] []<|qX (decide (e2.bZ≤e_2.bZ)) hm
   exact qG [(2,hro (cm h7) gB),(4,hto (bE c11)),(7,hro (cm h8) gB),(10,hto (bE c12)),(13,hro (mB h9) agG),(16,hto (bE c13)),(19,hto (bE c14))] [6,5] [(116,.bool false)] [85006] []<|qX false hm
  rintro v_3 hm
  rw[hJ3]at hm
  rcases az hm with⟨c15,hm⟩|⟨c15,hm⟩
  ·refine qT c15<|qS [] [(2,.bool false)] [] ?_
   cases hm
   exact A.ret qE
  exact qF c15<|A.skip<|qGs [(0,hto (inc hx2 hb2))] [80,116] [(80,i6 ((j2+1:Nat):Int))]<|qX () hm
 rintro j2 ⟨⟩ hj2 hl2 hm
 rw[hK2]at hm
 refine qDs [] [] [(81,.bool (decide ((j2:Int)<(a.Claims.length:Int))))]<|A.seq<|qF (ltF hl2)<|A.exit<|qS [] [(2,.bool true)] [] ?_
 cases hm
 exact A.ret qE
theorem oh{a:List bw}{b:List bw}(hm:gV a b=some r):RO prog 114 [] [lf bx a,lf bx b] (.bool r):=by
 refine aZ func114 rfl rfl ?_
 unfold gV at hm
 refine qS [] [(0,lf bx a),(1,lf bx b)] []<|A.seq<|qDs [(1,hto (lnE bx a)),(3,hto (lnE bx b))] [] [(11,.bool (!decide ((a.length:Int)=(b.length:Int))))] ?_
 rcases az hm with⟨c1,hm⟩|⟨c1,hm⟩
 ·refine qT c1<|qS [] [(4,.bool false)] [] ?_
  cases hm
  exact A.ret qE
 refine qF c1<|A.skip<|A.seq<|qDs [(1,hto (lnE bx a))] [0,11] [(12,lf bx a),(13,i6 (a.length:Int)),(14,i6 0)]<|A.block<|A.bS 12 rfl λhb1=>?_
 obtain⟨B1,K1,hB1,hK1,hm⟩:=bF hm
 refine A.lpI (l:=a) (j0:=0) (B:=B1) (K:=K1) hm (λj1=>λ()=>[(1,lf bx b),(12,lf bx a),(13,i6 (a.length:Int)),(14,i6 (j1:Int))]) (λj1=>λ()=>[]) ?_ ?_ ?_
 ·exact qW
 ·rintro j1 e1 Z1 ⟨⟩ hj1 hx1 hm
  rw[hB1]at hm
  refine qDs [] [] [(15,.bool (decide ((j1:Int)<(a.length:Int))))]<|A.seq<|qT (ltT hx1)<|A.skip<|A.seq<|A.block<|qD [(1,hix (ix bx (bh hx1))),(3,.al 114006)] [15] [(6,.ptr 114006 0),(5,i6 (j1:Int))] [] [(114006,.cells 105 (k6 e1))] ?_
  obtain⟨e_1,h1,hm⟩:=aa hm
  refine qD [(3,hix (ix bx h1)),(5,.sq true 105 (.agg (k6 e1)) (.agg (k6 e_1)) (!(nv e1 e_1)) (λx y w=>ahm x y _ _ _ _ _ _ w))] [6,5] [(24,.bool (!(nv e1 e_1)))] [114006] [] ?_
  rcases az hm with⟨c2,hm⟩|⟨c2,hm⟩
  ·refine qT c2<|qS [] [(4,.bool false)] [] ?_
   cases hm
   exact A.ret qE
  exact qF c2<|A.skip<|qGs [(0,hto (inc hx1 hb1))] [14,24] [(14,i6 ((j1+1:Nat):Int))]<|qX () hm
 rintro j1 ⟨⟩ hj1 hl1 hm
 rw[hK1]at hm
 refine qDs [] [] [(15,.bool (decide ((j1:Int)<(a.length:Int))))]<|A.seq<|qF (ltF hl1)<|A.exit<|qS [] [(4,.bool true)] [] ?_
 cases hm
 exact A.ret qE
theorem uv{a:List bG}{b:List bG}(hm:gW a b=some r):RO prog 115 [] [lf bn a,lf bn b] (.bool r):=by
 refine aZ func115 rfl rfl ?_
 unfold gW at hm
 refine qS [] [(0,lf bn a),(1,lf bn b)] []<|A.seq<|qDs [(1,hto (lnE bn a)),(3,hto (lnE bn b))] [] [(11,.bool (!decide ((a.length:Int)=(b.length:Int))))] ?_
 rcases az hm with⟨c1,hm⟩|⟨c1,hm⟩
 ·refine qT c1<|qS [] [(4,.bool false)] [] ?_
  cases hm
  exact A.ret qE
 refine qF c1<|A.skip<|A.seq<|qDs [(1,hto (lnE bn a))] [0,11] [(12,lf bn a),(13,i6 (a.length:Int)),(14,i6 0)]<|A.block<|A.bS 12 rfl λhb1=>?_
 obtain⟨B1,K1,hB1,hK1,hm⟩:=bF hm
 refine A.lpI (l:=a) (j0:=0) (B:=B1) (K:=K1) hm (λj1=>λ()=>[(1,lf bn b),(12,lf bn a),(13,i6 (a.length:Int)),(14,i6 (j1:Int))]) (λj1=>λ()=>[]) ?_ ?_ ?_
 ·exact qW
 ·rintro j1 e1 Z1 ⟨⟩ hj1 hx1 hm
  rw[hB1]at hm
  refine qDs [] [] [(15,.bool (decide ((j1:Int)<(a.length:Int))))]<|A.seq<|qT (ltT hx1)<|A.skip<|A.seq<|A.block<|qD [(1,hix (ix bn (bh hx1))),(3,.al 115006)] [15] [(6,.ptr 115006 0),(5,i6 (j1:Int))] [] [(115006,.cells 91 (k5 e1))] ?_
  obtain⟨e_1,h1,hm⟩:=aa hm
  refine qD [(3,hix (ix bn h1)),(5,.sq true 91 (.agg (k5 e1)) (.agg (k5 e_1)) (!(nu e1 e_1)) (λx y w=>aiz x y _ _ _ _ _ _ w))] [6,5] [(24,.bool (!(nu e1 e_1)))] [115006] [] ?_
  rcases az hm with⟨c2,hm⟩|⟨c2,hm⟩
  ·refine qT c2<|qS [] [(4,.bool false)] [] ?_
   cases hm
   exact A.ret qE
  exact qF c2<|A.skip<|qGs [(0,hto (inc hx1 hb1))] [14,24] [(14,i6 ((j1+1:Nat):Int))]<|qX () hm
 rintro j1 ⟨⟩ hj1 hl1 hm
 rw[hK1]at hm
 refine qDs [] [] [(15,.bool (decide ((j1:Int)<(a.length:Int))))]<|A.seq<|qF (ltF hl1)<|A.exit<|qS [] [(4,.bool true)] [] ?_
 cases hm
 exact A.ret qE
theorem iG{s1:List ai}{s2:List ai}{eq:ai→ai→Option Bool}{acv:Nat}{aet:List AV}(apK:aT prog acv)(apL:∀(y0:ai) (y1:ai) (q:Bool),eq y0 y1=some q→RO prog acv [] ([.agg (k7 y0),.agg (k7 y1)]++aet) (.bool q))(hm:cI s1 s2 eq=some r):RO prog 119 [] [lf aQ s1,lf aQ s2,.cfn acv aet] (.bool r):=by
 refine aZ func119 rfl rfl ?_
 unfold cI at hm
 refine qS [] [(0,lf aQ s1),(1,lf aQ s2),(2,.cfn acv aet)] []<|A.seq<|qDs [(1,hto (lnE aQ s1)),(3,hto (lnE aQ s2))] [] [(14,.bool (!decide ((s1.length:Int)=(s2.length:Int))))] ?_
 rcases az hm with⟨c1,hm⟩|⟨c1,hm⟩
 ·refine qT c1<|qS [] [(6,.bool false)] [] ?_
  cases hm
  exact A.ret qE
 refine qF c1<|A.skip<|A.seq<|qDs [(1,hto (lnE aQ s1))] [0,14] [(15,lf aQ s1),(16,i6 (s1.length:Int)),(17,i6 0)]<|A.block<|A.bS 15 rfl λhb1=>?_
 obtain⟨B1,K1,hB1,hK1,hm⟩:=bF hm
 refine A.lpI (l:=s1) (j0:=0) (B:=B1) (K:=K1) hm (λj1=>λ()=>[(1,lf aQ s2),(2,.cfn acv aet),(15,lf aQ s1),(16,i6 (s1.length:Int)),(17,i6 (j1:Int))]) (λj1=>λ()=>[]) ?_ ?_ ?_
 ·exact qW
 ·rintro j1 e1 Z1 ⟨⟩ hj1 hx1 hm
  rw[hB1]at hm
  refine qDs [] [] [(18,.bool (decide ((j1:Int)<(s1.length:Int))))]<|A.seq<|qT (ltT hx1)<|A.skip<|A.seq<|A.block<|qD [(1,hix (ix aQ (bh hx1))),(3,.al 119008)] [18] [(8,.ptr 119008 0),(7,i6 (j1:Int))] [] [(119008,.cells 66 (k7 e1))] ?_
  obtain⟨e_1,h1,hm⟩:=aa hm
  refine qD [(2,hix (ix aQ h1)),(4,.al 119009)] [7] [(9,.ptr 119009 0)] [] [(119009,.cells 66 (k7 e_1))] ?_
  obtain⟨ah,h2,hm⟩:=aa hm
  refine qD [(3,hrf (apL _ _ _ h2) apK)] [8,9] [(30,.bool (!ah))] [119008,119009] [] ?_
  rcases az hm with⟨c2,hm⟩|⟨c2,hm⟩
  ·refine qT c2<|qS [] [(6,.bool false)] [] ?_
   cases hm
   exact A.ret qE
  exact qF c2<|A.skip<|qGs [(0,hto (inc hx1 hb1))] [17,30] [(17,i6 ((j1+1:Nat):Int))]<|qX () hm
 rintro j1 ⟨⟩ hj1 hl1 hm
 rw[hK1]at hm
 refine qDs [] [] [(18,.bool (decide ((j1:Int)<(s1.length:Int))))]<|A.seq<|qF (ltF hl1)<|A.exit<|qS [] [(6,.bool true)] [] ?_
 cases hm
 exact A.ret qE
theorem jT{b:ai}(hm:jB a b=some r):RO prog 72 [] [.agg (k7 a),.agg (k7 b)] (.bool r):=by
 refine aZ func72 rfl rfl ?_
 unfold jB at hm
 refine qS [(0,.al 72002),(1,.al 72003)] [(2,.ptr 72002 0),(3,.ptr 72003 0)] [(72002,.cells 66 (k7 a)),(72003,.cells 66 (k7 b))] ?_
 rcases az hm with⟨c1,hm⟩|⟨c1,hm⟩
 ·rcases az hm with⟨c2,hm⟩|⟨c2,hm⟩
  ·rcases az hm with⟨c3,hm⟩|⟨c3,hm⟩
   ·obtain⟨ah,h1,hm⟩:=aa hm
    rcases az hm with⟨c4,hm⟩|⟨c4,hm⟩
    ·obtain⟨aD,h2,hm⟩:=aa hm
     refine qS [(5,hto (bE c1)),(12,hto (bE c2)),(19,hto (bE c3)),(24,hro (oh h1) akw),(26,hto (bE c4)),(31,hro (uv h2) asM)] [(4,.bool aD)] [] ?_
     cases hm
     exact A.ret qE
    refine qS [(5,hto (bE c1)),(12,hto (bE c2)),(19,hto (bE c3)),(24,hro (oh h1) akw),(26,hto (bE c4))] [(4,.bool false)] [] ?_
    cases hm
    exact A.ret qE
   refine qS [(5,hto (bE c1)),(12,hto (bE c2)),(19,hto (bE c3))] [(4,.bool false)] [] ?_
   cases hm
   exact A.ret qE
  refine qS [(5,hto (bE c1)),(12,hto (bE c2))] [(4,.bool false)] [] ?_
  cases hm
  exact A.ret qE
 refine qS [(5,hto (bE c1))] [(4,.bool false)] [] ?_
 cases hm
 exact A.ret qE
theorem pL{sa0:List aV}(xw:ml aC sa0≠[]){r:(List aV)}(hm:ec sa0=some r):bM prog 88 [] [lf aC sa0] (λa σ'=>a=.own 500008800∧σ'=[(500008800,.slice 86 5 (ml aC r) 0 false)]):=by
 refine aZ func88 rfl rfl ?_
 unfold ec at hm
 refine qS [] [(0,lf aC sa0)] []<|A.seq<|qDs [(1,.sn false (lf aC sa0) (aaT xw))] [] [(4,.bool false)]<|A.cF rfl rfl<|A.skip ?_
 obtain⟨l_1,h1,hm⟩:=aa hm
 refine qS [(0,.al 88005),(2,hap 88507 (ap aC (bytes:=40) (by decide) h1))] [(2,.own 88507)] [(88507,.slice 86 5 (ml aC l_1) 0 false)]<|A.ret ?_
 obtain rfl:=some_inj hm
 exact A.fin W0 [.sw 88507 500008800] rfl (by kernel_rfl)
theorem pM{r:(List aV)}(hm:kT=some r):bM prog 88 [] [.sl0] (λa σ'=>a=.own 500008800∧σ'=[(500008800,.slice 86 5 (ml aC r) 0 false)]):=by
 refine aZ func88 rfl rfl ?_
 unfold kT at hm
 refine qS [] [(0,.sl0)] []<|A.seq<|qDs [(1,.sn false .sl0 (aaU))] [] [(4,.bool false)]<|A.cF rfl rfl<|A.skip ?_
 obtain⟨l_1,h1,hm⟩:=aa hm
 refine qS [(0,.al 88005),(2,hap 88507 (ap aC (bytes:=40) (by decide) h1))] [(2,.own 88507)] [(88507,.slice 86 5 (ml aC l_1) 0 false)]<|A.ret ?_
 obtain rfl:=some_inj hm
 exact A.fin W0 [.sw 88507 500008800] rfl (by kernel_rfl)
theorem qv(n c:Nat)(w:World):Calls prog 88 #[.slice none n c] w λe w'=>e=.returned (.slice none 0 0)∧w'=w:=by
 have q:∀(w:World) (a:Option Addr) (n c n' c':Nat),(binOp .eql 23 (.slice a n c) (.slice none n' c')).run prog w=.ok (.bool a.isNone) w:=λw a n c n' c'=>Lib.run_eql_slice_nil w _ _ a n c n' c' underlying23
 go_enter func88,Tryz.ntmps88
 go_wp2
 go_ret
 exact⟨rfl,rfl⟩
theorem eZ{s r:List aV}(hm:cV s=some r):bM prog 88 [] [.lst false (ml aC s)] (λa σ'=>a=.own 500008800∧σ'=[(500008800,.slice 86 5 (ml aC r) 0 false)]):=by
 obtain rfl:s=r:=by
  unfold cV ec at hm
  obtain⟨l,h,hm⟩:=aa hm
  have:=(acj h).symm
  simp at this;subst this
  exact some_inj hm
 refine zd qv (λh=>pL h hm) (λh=>?_) (λh=>h)
 have h0:s=[]:=by cases s with|nil=>rfl|cons a b=>simp[ml]at h
 subst h0
 exact pM hm
theorem oG{sa0:List bG}(xw:ml bn sa0≠[]){r:(List bG)}(hm:dU sa0=some r):bM prog 110 [] [lf bn sa0] (λa σ'=>a=.own 500011000∧σ'=[(500011000,.slice 91 3 (ml bn r) 0 false)]):=by
 refine aZ func110 rfl rfl ?_
 unfold dU at hm
 refine qS [] [(0,lf bn sa0)] []<|A.seq<|qDs [(1,.sn false (lf bn sa0) (aaT xw))] [] [(4,.bool false)]<|A.cF rfl rfl<|A.skip ?_
 obtain⟨l_1,h1,hm⟩:=aa hm
 refine qS [(0,.al 110005),(2,hap 110507 (ap bn (bytes:=24) (by decide) h1))] [(2,.own 110507)] [(110507,.slice 91 3 (ml bn l_1) 0 false)]<|A.ret ?_
 obtain rfl:=some_inj hm
 exact A.fin W0 [.sw 110507 500011000] rfl (by kernel_rfl)
theorem oH{r:(List bG)}(hm:jX=some r):bM prog 110 [] [.sl0] (λa σ'=>a=.own 500011000∧σ'=[(500011000,.slice 91 3 (ml bn r) 0 false)]):=by
 refine aZ func110 rfl rfl ?_
 unfold jX at hm
 refine qS [] [(0,.sl0)] []<|A.seq<|qDs [(1,.sn false .sl0 (aaU))] [] [(4,.bool false)]<|A.cF rfl rfl<|A.skip ?_
 obtain⟨l_1,h1,hm⟩:=aa hm
 refine qS [(0,.al 110005),(2,hap 110507 (ap bn (bytes:=24) (by decide) h1))] [(2,.own 110507)] [(110507,.slice 91 3 (ml bn l_1) 0 false)]<|A.ret ?_
 obtain rfl:=some_inj hm
 exact A.fin W0 [.sw 110507 500011000] rfl (by kernel_rfl)
theorem pS(n c:Nat)(w:World):Calls prog 110 #[.slice none n c] w λe w'=>e=.returned (.slice none 0 0)∧w'=w:=by
 have q:∀(w:World) (a:Option Addr) (n c n' c':Nat),(binOp .eql 48 (.slice a n c) (.slice none n' c')).run prog w=.ok (.bool a.isNone) w:=λw a n c n' c'=>Lib.run_eql_slice_nil w _ _ a n c n' c' underlying48
 go_enter func110,Tryz.ntmps110
 go_wp2
 go_ret
 exact⟨rfl,rfl⟩
theorem gv{s r:List bG}(hm:dh s=some r):bM prog 110 [] [.lst false (ml bn s)] (λa σ'=>a=.own 500011000∧σ'=[(500011000,.slice 91 3 (ml bn r) 0 false)]):=by
 obtain rfl:s=r:=by
  unfold dh dU at hm
  obtain⟨l,h,hm⟩:=aa hm
  have:=(acj h).symm
  simp at this;subst this
  exact some_inj hm
 refine zd pS (λh=>oG h hm) (λh=>?_) (λh=>h)
 have h0:s=[]:=by cases s with|nil=>rfl|cons a b=>simp[ml]at h
 subst h0
 exact oH hm
theorem oI{sa0:List bw}(xw:ml bx sa0≠[]){r:(List bw)}(hm:dV sa0=some r):bM prog 149 [] [lf bx sa0] (λa σ'=>a=.own 500014900∧σ'=[(500014900,.slice 105 3 (ml bx r) 0 false)]):=by
 refine aZ func149 rfl rfl ?_
 unfold dV at hm
 refine qS [] [(0,lf bx sa0)] []<|A.seq<|qDs [(1,.sn false (lf bx sa0) (aaT xw))] [] [(4,.bool false)]<|A.cF rfl rfl<|A.skip ?_
 obtain⟨l_1,h1,hm⟩:=aa hm
 refine qS [(0,.al 149005),(2,hap 149507 (ap bx (bytes:=24) (by decide) h1))] [(2,.own 149507)] [(149507,.slice 105 3 (ml bx l_1) 0 false)]<|A.ret ?_
 obtain rfl:=some_inj hm
 exact A.fin W0 [.sw 149507 500014900] rfl (by kernel_rfl)
theorem oJ{r:(List bw)}(hm:jY=some r):bM prog 149 [] [.sl0] (λa σ'=>a=.own 500014900∧σ'=[(500014900,.slice 105 3 (ml bx r) 0 false)]):=by
 refine aZ func149 rfl rfl ?_
 unfold jY at hm
 refine qS [] [(0,.sl0)] []<|A.seq<|qDs [(1,.sn false .sl0 (aaU))] [] [(4,.bool false)]<|A.cF rfl rfl<|A.skip ?_
 obtain⟨l_1,h1,hm⟩:=aa hm
 refine qS [(0,.al 149005),(2,hap 149507 (ap bx (bytes:=24) (by decide) h1))] [(2,.own 149507)] [(149507,.slice 105 3 (ml bx l_1) 0 false)]<|A.ret ?_
 obtain rfl:=some_inj hm
 exact A.fin W0 [.sw 149507 500014900] rfl (by kernel_rfl)
theorem pT(n c:Nat)(w:World):Calls prog 149 #[.slice none n c] w λe w'=>e=.returned (.slice none 0 0)∧w'=w:=by
 have q:∀(w:World) (a:Option Addr) (n c n' c':Nat),(binOp .eql 64 (.slice a n c) (.slice none n' c')).run prog w=.ok (.bool a.isNone) w:=λw a n c n' c'=>Lib.run_eql_slice_nil w _ _ a n c n' c' underlying64
 go_enter func149,Tryz.ntmps149
 go_wp2
 go_ret
 exact⟨rfl,rfl⟩
theorem jJ{s r:List bw}(hm:dI s=some r):bM prog 149 [] [.lst false (ml bx s)] (λa σ'=>a=.own 500014900∧σ'=[(500014900,.slice 105 3 (ml bx r) 0 false)]):=by
 obtain rfl:s=r:=by
  unfold dI dV at hm
  obtain⟨l,h,hm⟩:=aa hm
  have:=(acj h).symm
  simp at this;subst this
  exact some_inj hm
 refine zd pT (λh=>oI h hm) (λh=>?_) (λh=>h)
 have h0:s=[]:=by cases s with|nil=>rfl|cons a b=>simp[ml]at h
 subst h0
 exact oJ hm
theorem lM{r:ai}(hm:fE a=some r):RO prog 113 [] [.agg (k7 a)] (.agg (k7 r)):=by
 refine aZ func113 rfl rfl ?_
 unfold fE at hm
 refine qS [(0,.al 113001),(1,.al 113002)] [(1,.ptr 113001 0),(2,.ptr 113002 0)] [(113001,.cells 66 (k7 a)),(113002,.cells 66 [i6 0,i6 0,.bool false,.aH,.aH])] ?_
 obtain⟨ah,h1,hm⟩:=aa hm
 obtain⟨aD,h2,hm⟩:=aa hm
 refine qD [(2,hdc [500014900] (jJ h1) akC),(5,hdc [500011000] (gv h2) agC)] [] [] [113001] [(113001,.cells 66 [i6 a.af,i6 a.Seq,.bool a.aY,.own 500014900,.own 500011000]),(500014900,.slice 105 3 (ml bx ah) 0 false),(500011000,.slice 91 3 (ml bn aD) 0 false)]<|qD [] [1] [] [113001,113002] [(113002,.cells 66 [i6 a.af,i6 a.Seq,.bool a.aY,.own 500014900,.own 500011000])]<|A.ret ?_
 obtain rfl:=some_inj hm
 exact A.fin W0 [.fz [500014900,500011000]] rfl (by kernel_rfl)
theorem xx(hm:mV a=some r):RO prog 138 [] [.agg (k7 a)] (.bool r):=by
 refine aZ func138 rfl rfl ?_
 unfold mV at hm
 refine qS [(0,.al 138001)] [(1,.ptr 138001 0)] [(138001,.cells 66 (k7 a))] ?_
 obtain⟨ah,h1,hm⟩:=aa hm
 refine qS [(1,hro (jx h1) acq)] [(2,.bool (!ah))] [] ?_
 cases hm
 exact A.ret qE
variable {d:aF}
theorem gw{r:Int}(hm:fU d=some r):RO prog 86 [] [.agg (k8 d)] (i6 r):=by
 refine aZ func86 rfl rfl ?_
 unfold fU at hm
 refine qS [(0,.al 86001)] [(1,.ptr 86001 0)] [(86001,.cells 51 (k8 d))]<|A.seq<|A.block<|qDs [(2,hto (lnE aQ d.aG))] [] [(4,.bool (decide (99<(d.aG.length:Int))))] ?_
 rcases az hm with⟨c1,hm⟩|⟨c1,hm⟩
 ·refine qT c1<|qS [] [(2,i6 3)] [] ?_
  cases hm
  exact A.ret qE
 refine qF c1 ?_
 obtain⟨ah,h1,hm⟩:=aa hm
 refine qDs [(2,hro (mq (f_g:=138) (f_c:=[]) (f_k:=asV) (f_f:=λ_ _ h=>xx h) h1) asU)] [4] [(9,.bool ah)] ?_
 rcases az hm with⟨c2,hm⟩|⟨c2,hm⟩
 ·refine qT c2<|qS [] [(2,i6 1)] [] ?_
  cases hm
  exact A.ret qE
 refine qF c2<|A.skip<|A.seq<|qDs [(2,hto (lnE aQ d.aG))] [9] [(15,i6 (d.aG.length:Int)),(16,i6 0)]<|A.block<|A.bC 1 0 rfl rfl rfl λhb1=>?_
 obtain⟨B1,K1,hB1,hK1,hm⟩:=bF hm
 refine A.lpI (l:=d.aG) (j0:=0) (B:=B1) (K:=K1) hm (λj1=>λ()=>[(1,.ptr 86001 0),(15,i6 (d.aG.length:Int)),(16,i6 (j1:Int))]) (λj1=>λ()=>[(86001,.cells 51 (k8 d))]) ?_ ?_ ?_
 ·exact qW
 ·rintro j1 e1 Z1 ⟨⟩ hj1 hx1 hm
  rw[hB1]at hm
  refine qDs [] [] [(17,.bool (decide ((j1:Int)<(d.aG.length:Int))))]<|A.seq<|qT (ltT hx1)<|A.skip<|A.seq<|A.block<|qDs [] [17] [(3,i6 (j1:Int))] ?_
  obtain⟨J1,hJ1,hm⟩:=bQ hm
  refine A.J (J:=J1) (r:=r) (λv_1=>[(1,.ptr 86001 0),(15,i6 (d.aG.length:Int)),(16,i6 (j1:Int)),(36,.bool v_1)]) (λv_1=>[(86001,.cells 51 (k8 d))]) ?_ ?_
  ·rcases az hm with⟨c3,hm⟩|⟨c3,hm⟩
   ·obtain⟨e_1,h2,hm⟩:=aa hm
    exact qGs [(2,hto (bE c3)),(7,hix (ix aQ h2)),(13,hix (ix aQ (bh hx1)))] [3] [(36,.bool (decide (e1.af≤e_1.af)))]<|qX (decide (e1.af≤e_1.af)) hm
   exact qGs [(2,hto (bE c3))] [3] [(36,.bool false)]<|qX false hm
  rintro v_1 hm
  rw[hJ1]at hm
  rcases az hm with⟨c4,hm⟩|⟨c4,hm⟩
  ·refine qT c4<|qS [] [(2,i6 25)] [] ?_
   cases hm
   exact A.ret qE
  exact qF c4<|A.skip<|qGs [(0,hto (inc hx1 hb1))] [16,36] [(16,i6 ((j1+1:Nat):Int))]<|qX () hm
 rintro j1 ⟨⟩ hj1 hl1 hm
 rw[hK1]at hm
 refine qDs [] [] [(17,.bool (decide ((j1:Int)<(d.aG.length:Int))))]<|A.seq<|qF (ltF hl1)<|A.exit<|qS [] [(2,i6 0)] [] ?_
 cases hm
 exact A.ret qE
theorem zl{a:aF}{b:aF}(hm:kU a b=some r):RO prog 74 [] [.agg (k8 a),.agg (k8 b)] (.bool r):=by
 refine aZ func74 rfl rfl ?_
 unfold kU at hm
 refine qS [(0,.al 74002),(1,.al 74003)] [(2,.ptr 74002 0),(3,.ptr 74003 0)] [(74002,.cells 51 (k8 a)),(74003,.cells 51 (k8 b))] ?_
 obtain⟨ah,h1,hm⟩:=aa hm
 refine qS [(4,hro (iG (acv:=72) (aet:=[]) (apK:=aco) (apL:=λ_ _ _ h=>jT h) h1) asO)] [(4,.bool ah)] [] ?_
 cases hm
 exact A.ret qE
theorem uw{aM:Int}{r:ai×Bool}(hm:kV d aM=some r):RO prog 71 [] [.agg (k8 d),i6 aM] (.tup [.agg (k7 r.1),.bool r.2]):=by
 refine aZ func71 rfl rfl ?_
 unfold kV at hm
 refine qS [(0,.al 71002),(1,.al 71004)] [(1,i6 aM),(2,.ptr 71002 0),(4,.ptr 71004 0)] [(71002,.cells 51 (k8 d)),(71004,.cells 66 [i6 0,i6 0,.bool false,.aH,.aH])]<|A.seq<|qD [(2,hto (lnE aQ d.aG))] [2] [(9,lf aQ d.aG),(10,i6 (d.aG.length:Int)),(11,i6 0)] [71002] []<|A.block<|A.bS 9 rfl λhb1=>?_
 obtain⟨B1,K1,hB1,hK1,hm⟩:=bF hm
 refine A.lpI (l:=d.aG) (j0:=0) (B:=B1) (K:=K1) hm (λj1=>λ()=>[(1,i6 aM),(4,.ptr 71004 0),(9,lf aQ d.aG),(10,i6 (d.aG.length:Int)),(11,i6 (j1:Int))]) (λj1=>λ()=>[(71004,.cells 66 [i6 0,i6 0,.bool false,.aH,.aH])]) ?_ ?_ ?_
 ·exact qW
 ·rintro j1 e1 Z1 ⟨⟩ hj1 hx1 hm
  rw[hB1]at hm
  refine qDs [] [] [(12,.bool (decide ((j1:Int)<(d.aG.length:Int))))]<|A.seq<|qT (ltT hx1)<|A.skip<|A.seq<|A.block<|qD [(0,hix (ix aQ (bh hx1))),(2,.al 71007)] [12] [(7,.ptr 71007 0)] [] [(71007,.cells 66 (k7 e1))]<|qDs [] [] [(18,.bool (decide (e1.af=aM)))] ?_
  rcases az hm with⟨c1,hm⟩|⟨c1,hm⟩
  ·refine qT c1 ?_
   obtain⟨ah,h1,hm⟩:=aa hm
   refine qS [(1,hro (lM h1) adN)] [(4,.ptr 71004 0),(5,.bool true)] [(71004,.cells 66 (k7 ah))] ?_
   cases hm
   exact A.ret qE
  exact qF c1<|A.skip<|qG [(0,hto (inc hx1 hb1))] [11,7,18] [(11,i6 ((j1+1:Nat):Int))] [71007] []<|qX () hm
 rintro j1 ⟨⟩ hj1 hl1 hm
 rw[hK1]at hm
 refine qDs [] [] [(12,.bool (decide ((j1:Int)<(d.aG.length:Int))))]<|A.seq<|qF (ltF hl1)<|A.exit<|qDs [] [1,9,10,11,12] [(5,.bool false)] ?_
 cases hm
 exact A.ret qE
end Go.Proofs.YtjdopimopgpagaaGreat
