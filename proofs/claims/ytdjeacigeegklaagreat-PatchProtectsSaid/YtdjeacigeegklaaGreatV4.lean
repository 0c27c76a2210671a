/- The iJ of ee of the program. No condition but bJ aY stand in each. -/
import Derived.Test.YtdjeacigeegklaaGreatDA
namespace Go.Proofs.YtdjeacigeegklaaGreat
open Go Go.Proofs.Tryz
set_option maxRecDepth 100000
set_option linter.all false
variable {r:Bool}{xa0:Int}
theorem uo(hm:lK xa0=some r):RO prog 158 [] [i6 xa0] (.bool r):=by
 refine bh func158 rfl rfl ?_
 unfold lK at hm
 refine qS [] [(0,i6 xa0)] []<|qS [] [(2,.bool (!decide (xa0=xa0)))] [] ?_
 cases hm
 exact A.ret qE
theorem mh{y:Int}{r:Int}(hm:fN xa0 y=some r):RO prog 136 [] [i6 xa0,i6 y] (i6 r):=by
 refine bh func136 rfl rfl ?_
 unfold fN at hm
 refine qS [] [(0,i6 xa0),(1,i6 y)] [] ?_
 obtain⟨ai,h1,hm⟩:=af hm
 refine qDs [(1,hro (uo h1) anA)] [] [(5,.bool ai)] ?_
 obtain⟨aI,h2,hm⟩:=af hm
 refine qDs [(1,hro (uo h2) anA)] [] [(6,.bool aI)]<|A.seq<|qDs [] [5] [(11,.bool ai)] ?_
 rcases ak hm with⟨c1,hm⟩|⟨c1,hm⟩
 ·refine qT c1<|A.seq<|qS [] [(12,.bool aI)] [] ?_
  rcases ak hm with⟨c2,hm⟩|⟨c2,hm⟩
  ·refine qT c2<|qS [] [(4,i6 0)] [] ?_
   cases hm
   exact A.ret qE
  refine qF c2<|A.skip<|qS [] [(4,i6 (-1))] [] ?_
  cases hm
  exact A.ret qE
 refine qF c1<|A.skip<|A.seq<|qDs [] [6,11] [(13,.bool aI)] ?_
 rcases ak hm with⟨c3,hm⟩|⟨c3,hm⟩
 ·refine qT c3<|qS [] [(4,i6 1)] [] ?_
  cases hm
  exact A.ret qE
 refine qF c3<|A.skip<|A.seq<|qDs [] [13] [(16,.bool (decide (xa0<y)))] ?_
 rcases ak hm with⟨c4,hm⟩|⟨c4,hm⟩
 ·refine qT c4<|qS [] [(4,i6 (-1))] [] ?_
  cases hm
  exact A.ret qE
 refine qF c4<|A.skip<|A.seq<|qS [] [(19,.bool (decide (y<xa0)))] [] ?_
 rcases ak hm with⟨c5,hm⟩|⟨c5,hm⟩
 ·refine qT c5<|qS [] [(4,i6 1)] [] ?_
  cases hm
  exact A.ret qE
 refine qF c5<|A.skip<|qS [] [(4,i6 0)] [] ?_
 cases hm
 exact A.ret qE
theorem ac5{vals:List Int}{r:Int}(hm:pW vals=some r):RO prog 138 [] [lf aA vals] (i6 r):=by
 refine bh func138 rfl rfl ?_
 unfold pW at hm
 refine qS [] [(0,lf aA vals)] []<|qDs [] [] [(3,i6 0)]<|A.seq<|qDs [(1,hto (lnE aA vals))] [0] [(6,lf aA vals),(7,i6 (vals.length:Int)),(8,i6 0)]<|A.block<|A.bS 6 rfl λhb1=>?_
 obtain⟨B1,K1,hB1,hK1,hm⟩:=bu hm
 refine A.lpI (l:=vals) (j0:=0) (B:=B1) (K:=K1) hm (λj1=>λ()=>[(3,i6 0),(6,lf aA vals),(7,i6 (vals.length:Int)),(8,i6 (j1:Int))]) (λj1=>λ()=>[]) ?_ ?_ ?_
 ·exact qW
 ·rintro j1 e1 Z1 ⟨⟩ hj1 hx1 hm
  rw[hB1]at hm
  refine qDs [] [] [(9,.bool (decide ((j1:Int)<(vals.length:Int))))]<|A.seq<|qT (ltT hx1)<|A.skip<|A.seq<|A.block<|qDs [(0,hix (ix aA (bt hx1)))] [9] [(5,i6 e1)]<|qDs [] [] [(14,.bool (!decide (e1=0)))] ?_
  rcases ak hm with⟨c1,hm⟩|⟨c1,hm⟩
  ·refine qT c1<|qS [] [(2,i6 e1)] [] ?_
   cases hm
   exact A.ret qE
  exact qF c1<|A.skip<|qGs [(0,hto (inc hx1 hb1))] [8,5,14] [(8,i6 ((j1+1:Nat):Int))]<|qX () hm
 rintro j1 ⟨⟩ hj1 hl1 hm
 rw[hK1]at hm
 refine qDs [] [] [(9,.bool (decide ((j1:Int)<(vals.length:Int))))]<|A.seq<|qF (ltF hl1)<|A.exit<|qS [] [(2,i6 0)] [] ?_
 cases hm
 exact A.ret qE
variable {pG:Nat}{ru:List AV}
theorem gp{xa0:List aR}{target:Int}{cmp:aR→Int→Option Int}(wY:aT prog pG)(wZ:∀(y0:aR) (y1:Int) (q:Int),cmp y0 y1=some q→RO prog pG [] ([.agg (k0 y0),i6 y1]++ru) (i6 q)){r:Int×Bool}(hm:cN xa0 target cmp=some r):RO prog 97 [] [lf aJ xa0,i6 target,.cfn pG ru] (.tup [i6 r.1,.bool r.2]):=by
 refine bh func97 rfl rfl ?_
 unfold cN at hm
 refine qS [] [(0,lf aJ xa0),(1,i6 target),(2,.cfn pG ru)] []<|qDs [(1,hto (lnE aJ xa0))] [] [(8,i6 (xa0.length:Int))]<|qDs [] [] [(9,i6 0),(10,i6 (xa0.length:Int))]<|A.seq<|A.block ?_
 obtain⟨F1,n1,hF1,hm⟩:=jA hm
 refine A.lpW (F:=F1) hm (λ(i_1,j_1)=>[(0,lf aJ xa0),(1,i6 target),(2,.cfn pG ru),(8,i6 (xa0.length:Int)),(9,i6 i_1),(10,i6 j_1)]) (λ(i_1,j_1)=>[]) ?_ ?_
 ·exact qW
 rintro Z1 ⟨i_1,j_1⟩ hm
 rw[hF1]at hm
 refine A.seq<|qDs [] [] [(17,.bool (decide (i_1<j_1)))] ?_
 rcases ak hm with⟨c1,hm⟩|⟨c1,hm⟩
 ·refine qT c1<|A.skip<|A.block<|qDs [(4,.sh (1:Int) (by decide))] [17] [(11,i6 (w64 (Int.fdiv (IntKind.wrap .u64 (w64 (i_1+j_1))) (2 ^ min (1:Int).toNat 64))))] ?_
  obtain⟨e_1,h1,hm⟩:=af hm
  obtain⟨ai,h2,hm⟩:=af hm
  refine qDs [(3,hix (ix aJ h1)),(6,hrf (wZ _ _ _ h2) wY)] [] [(31,.bool (decide (ai<0)))] ?_
  rcases ak hm with⟨c2,hm⟩|⟨c2,hm⟩
  ·exact qT c2<|qGs [] [9,11,31] [(9,i6 (w64 ((w64 (Int.fdiv (IntKind.wrap .u64 (w64 (i_1+j_1))) (2 ^ min (1:Int).toNat 64)))+(1:Int))))]<|qX (w64 ((w64 (Int.fdiv (IntKind.wrap .u64 (w64 (i_1+j_1))) (2 ^ min (1:Int).toNat 64)))+(1:Int)),j_1) hm
  exact qF c2<|qGs [] [10,11,31] [(10,i6 (w64 (Int.fdiv (IntKind.wrap .u64 (w64 (i_1+j_1))) (2 ^ min (1:Int).toNat 64))))]<|qX (i_1,w64 (Int.fdiv (IntKind.wrap .u64 (w64 (i_1+j_1))) (2 ^ min (1:Int).toNat 64))) hm
 refine qF c1<|A.exit ?_
 rcases ak hm with⟨c3,hm⟩|⟨c3,hm⟩
 ·obtain⟨e_2,h3,hm⟩:=af hm
  obtain⟨aI,h4,hm⟩:=af hm
  refine qS [(4,hto (bE c3)),(8,hix (ix aJ h3)),(11,hrf (wZ _ _ _ h4) wY)] [(6,i6 i_1),(7,.bool (decide (aI=0)))] [] ?_
  cases hm
  exact A.ret qE
 refine qS [(4,hto (bE c3))] [(6,i6 i_1),(7,.bool false)] [] ?_
 cases hm
 exact A.ret qE
variable {sa0:List Int}
theorem uC{v:Int}{r:Int}(hm:kf sa0 v=some r):RO prog 104 [] [lf aA sa0,i6 v] (i6 r):=by
 refine bh func104 rfl rfl ?_
 unfold kf at hm
 refine qS [] [(0,lf aA sa0),(1,i6 v)] []<|A.seq<|qDs [(1,hto (lnE aA sa0))] [] [(7,i6 (sa0.length:Int)),(8,i6 0)]<|A.block<|A.bS 0 rfl λhb1=>?_
 obtain⟨B1,K1,hB1,hK1,hm⟩:=bu hm
 refine A.lpI (l:=sa0) (j0:=0) (B:=B1) (K:=K1) hm (λj1=>λ()=>[(0,lf aA sa0),(1,i6 v),(7,i6 (sa0.length:Int)),(8,i6 (j1:Int))]) (λj1=>λ()=>[]) ?_ ?_ ?_
 ·exact qW
 ·rintro j1 e1 Z1 ⟨⟩ hj1 hx1 hm
  rw[hB1]at hm
  refine qDs [] [] [(9,.bool (decide ((j1:Int)<(sa0.length:Int))))]<|A.seq<|qT (ltT hx1)<|A.skip<|A.seq<|A.block<|qDs [] [9] [(5,i6 (j1:Int))]<|qDs [(3,hix (ix aA (bt hx1)))] [] [(16,.bool (decide (v=e1)))] ?_
  rcases ak hm with⟨c1,hm⟩|⟨c1,hm⟩
  ·refine qT c1<|qS [] [(4,i6 (j1:Int))] [] ?_
   cases hm
   exact A.ret qE
  exact qF c1<|A.skip<|qGs [(0,hto (inc hx1 hb1))] [8,5,16] [(8,i6 ((j1+1:Nat):Int))]<|qX () hm
 rintro j1 ⟨⟩ hj1 hl1 hm
 rw[hK1]at hm
 refine qDs [] [] [(9,.bool (decide ((j1:Int)<(sa0.length:Int))))]<|A.seq<|qF (ltF hl1)<|A.exit<|qS [] [(4,i6 (-1))] [] ?_
 cases hm
 exact A.ret qE
variable {f:aq→Option Bool}{f_c:List AV}{f_g:Nat}
theorem mj{sa0:List aq}(f_k:aT prog f_g)(f_f:∀(y0:aq) (q:Bool),f y0=some q→RO prog f_g [] ([.agg (k5 y0)]++f_c) (.bool q)){r:Int}(hm:ez sa0 f=some r):RO prog 127 [] [lf aF sa0,.cfn f_g f_c] (i6 r):=by
 refine bh func127 rfl rfl ?_
 unfold ez at hm
 refine qS [] [(0,lf aF sa0),(1,.cfn f_g f_c)] []<|A.seq<|qDs [(1,hto (lnE aF sa0))] [] [(7,i6 (sa0.length:Int)),(8,i6 0)]<|A.block<|A.bS 0 rfl λhb1=>?_
 obtain⟨B1,K1,hB1,hK1,hm⟩:=bu hm
 refine A.lpI (l:=sa0) (j0:=0) (B:=B1) (K:=K1) hm (λj1=>λ()=>[(0,lf aF sa0),(1,.cfn f_g f_c),(7,i6 (sa0.length:Int)),(8,i6 (j1:Int))]) (λj1=>λ()=>[]) ?_ ?_ ?_
 ·exact qW
 ·rintro j1 e1 Z1 ⟨⟩ hj1 hx1 hm
  rw[hB1]at hm
  refine qDs [] [] [(9,.bool (decide ((j1:Int)<(sa0.length:Int))))]<|A.seq<|qT (ltT hx1)<|A.skip<|A.seq<|A.block<|qDs [] [9] [(5,i6 (j1:Int))] ?_
  obtain⟨ai,h1,hm⟩:=af hm
  refine qDs [(3,hix (ix aF (bt hx1))),(5,hrf (f_f _ _ h1) f_k)] [] [(16,.bool ai)] ?_
  rcases ak hm with⟨c1,hm⟩|⟨c1,hm⟩
  ·refine qT c1<|qS [] [(4,i6 (j1:Int))] [] ?_
   cases hm
   exact A.ret qE
  exact qF c1<|A.skip<|qGs [(0,hto (inc hx1 hb1))] [8,5,16] [(8,i6 ((j1+1:Nat):Int))]<|qX () hm
 rintro j1 ⟨⟩ hj1 hl1 hm
 rw[hK1]at hm
 refine qDs [] [] [(9,.bool (decide ((j1:Int)<(sa0.length:Int))))]<|A.seq<|qF (ltF hl1)<|A.exit<|qS [] [(4,i6 (-1))] [] ?_
 cases hm
 exact A.ret qE
theorem nR{sa0:List aR}{f:aR→Option Bool}(f_k:aT prog f_g)(f_f:∀(y0:aR) (q:Bool),f y0=some q→RO prog f_g [] ([.agg (k0 y0)]++f_c) (.bool q)){r:Int}(hm:fA sa0 f=some r):RO prog 135 [] [lf aJ sa0,.cfn f_g f_c] (i6 r):=by
 refine bh func135 rfl rfl ?_
 unfold fA at hm
 refine qS [] [(0,lf aJ sa0),(1,.cfn f_g f_c)] []<|A.seq<|qDs [(1,hto (lnE aJ sa0))] [] [(7,i6 (sa0.length:Int)),(8,i6 0)]<|A.block<|A.bS 0 rfl λhb1=>?_
 obtain⟨B1,K1,hB1,hK1,hm⟩:=bu hm
 refine A.lpI (l:=sa0) (j0:=0) (B:=B1) (K:=K1) hm (λj1=>λ()=>[(0,lf aJ sa0),(1,.cfn f_g f_c),(7,i6 (sa0.length:Int)),(8,i6 (j1:Int))]) (λj1=>λ()=>[]) ?_ ?_ ?_
 ·exact qW
 ·rintro j1 e1 Z1 ⟨⟩ hj1 hx1 hm
  rw[hB1]at hm
  refine qDs [] [] [(9,.bool (decide ((j1:Int)<(sa0.length:Int))))]<|A.seq<|qT (ltT hx1)<|A.skip<|A.seq<|A.block<|qDs [] [9] [(5,i6 (j1:Int))] ?_
  obtain⟨ai,h1,hm⟩:=af hm
  refine qDs [(3,hix (ix aJ (bt hx1))),(5,hrf (f_f _ _ h1) f_k)] [] [(16,.bool ai)] ?_
  rcases ak hm with⟨c1,hm⟩|⟨c1,hm⟩
  ·refine qT c1<|qS [] [(4,i6 (j1:Int))] [] ?_
   cases hm
   exact A.ret qE
  exact qF c1<|A.skip<|qGs [(0,hto (inc hx1 hb1))] [8,5,16] [(8,i6 ((j1+1:Nat):Int))]<|qX () hm
 rintro j1 ⟨⟩ hj1 hl1 hm
 rw[hK1]at hm
 refine qDs [] [] [(9,.bool (decide ((j1:Int)<(sa0.length:Int))))]<|A.seq<|qF (ltF hl1)<|A.exit<|qS [] [(4,i6 (-1))] [] ?_
 cases hm
 exact A.ret qE
theorem oM{sa0:List aW}{f:aW→Option Bool}(f_k:aT prog f_g)(f_f:∀(y0:aW) (q:Bool),f y0=some q→RO prog f_g [] ([.agg (k1 y0)]++f_c) (.bool q)){r:Int}(hm:fO sa0 f=some r):RO prog 137 [] [lf aV sa0,.cfn f_g f_c] (i6 r):=by
 refine bh func137 rfl rfl ?_
 unfold fO at hm
 refine qS [] [(0,lf aV sa0),(1,.cfn f_g f_c)] []<|A.seq<|qDs [(1,hto (lnE aV sa0))] [] [(7,i6 (sa0.length:Int)),(8,i6 0)]<|A.block<|A.bS 0 rfl λhb1=>?_
 obtain⟨B1,K1,hB1,hK1,hm⟩:=bu hm
 refine A.lpI (l:=sa0) (j0:=0) (B:=B1) (K:=K1) hm (λj1=>λ()=>[(0,lf aV sa0),(1,.cfn f_g f_c),(7,i6 (sa0.length:Int)),(8,i6 (j1:Int))]) (λj1=>λ()=>[]) ?_ ?_ ?_
 ·exact qW
 ·rintro j1 e1 Z1 ⟨⟩ hj1 hx1 hm
  rw[hB1]at hm
  refine qDs [] [] [(9,.bool (decide ((j1:Int)<(sa0.length:Int))))]<|A.seq<|qT (ltT hx1)<|A.skip<|A.seq<|A.block<|qDs [] [9] [(5,i6 (j1:Int))] ?_
  obtain⟨ai,h1,hm⟩:=af hm
  refine qDs [(3,hix (ix aV (bt hx1))),(5,hrf (f_f _ _ h1) f_k)] [] [(16,.bool ai)] ?_
  rcases ak hm with⟨c1,hm⟩|⟨c1,hm⟩
  ·refine qT c1<|qS [] [(4,i6 (j1:Int))] [] ?_
   cases hm
   exact A.ret qE
  exact qF c1<|A.skip<|qGs [(0,hto (inc hx1 hb1))] [8,5,16] [(8,i6 ((j1+1:Nat):Int))]<|qX () hm
 rintro j1 ⟨⟩ hj1 hl1 hm
 rw[hK1]at hm
 refine qDs [] [] [(9,.bool (decide ((j1:Int)<(sa0.length:Int))))]<|A.seq<|qF (ltF hl1)<|A.exit<|qS [] [(4,i6 (-1))] [] ?_
 cases hm
 exact A.ret qE
theorem kM{xa0:List aW}{target:aW}{cmp:aW→aW→Option Int}(wY:aT prog pG)(wZ:∀(y0:aW) (y1:aW) (q:Int),cmp y0 y1=some q→RO prog pG [] ([.agg (k1 y0),.agg (k1 y1)]++ru) (i6 q)){r:Int×Bool}(hm:dy xa0 target cmp=some r):RO prog 151 [] [lf aV xa0,.agg (k1 target),.cfn pG ru] (.tup [i6 r.1,.bool r.2]):=by
 refine bh func151 rfl rfl ?_
 unfold dy at hm
 refine qS [(0,.al 151004)] [(0,lf aV xa0),(2,.cfn pG ru),(4,.ptr 151004 0)] [(151004,.cells 89 (k1 target))]<|qDs [(1,hto (lnE aV xa0))] [] [(8,i6 (xa0.length:Int))]<|qDs [] [] [(9,i6 0),(10,i6 (xa0.length:Int))]<|A.seq<|A.block ?_
 obtain⟨F1,n1,hF1,hm⟩:=jA hm
 refine A.lpW (F:=F1) hm (λ(i_1,j_1)=>[(0,lf aV xa0),(2,.cfn pG ru),(4,.ptr 151004 0),(8,i6 (xa0.length:Int)),(9,i6 i_1),(10,i6 j_1)]) (λ(i_1,j_1)=>[(151004,.cells 89 (k1 target))]) ?_ ?_
 ·exact qW
 rintro Z1 ⟨i_1,j_1⟩ hm
 rw[hF1]at hm
 refine A.seq<|qDs [] [] [(17,.bool (decide (i_1<j_1)))] ?_
 rcases ak hm with⟨c1,hm⟩|⟨c1,hm⟩
 ·refine qT c1<|A.skip<|A.block<|qDs [(4,.sh (1:Int) (by decide))] [17] [(11,i6 (w64 (Int.fdiv (IntKind.wrap .u64 (w64 (i_1+j_1))) (2 ^ min (1:Int).toNat 64))))] ?_
  obtain⟨e_1,h1,hm⟩:=af hm
  obtain⟨ai,h2,hm⟩:=af hm
  refine qDs [(3,hix (ix aV h1)),(6,hrf (wZ _ _ _ h2) wY)] [] [(31,.bool (decide (ai<0)))] ?_
  rcases ak hm with⟨c2,hm⟩|⟨c2,hm⟩
  ·exact qT c2<|qGs [] [9,11,31] [(9,i6 (w64 ((w64 (Int.fdiv (IntKind.wrap .u64 (w64 (i_1+j_1))) (2 ^ min (1:Int).toNat 64)))+(1:Int))))]<|qX (w64 ((w64 (Int.fdiv (IntKind.wrap .u64 (w64 (i_1+j_1))) (2 ^ min (1:Int).toNat 64)))+(1:Int)),j_1) hm
  exact qF c2<|qGs [] [10,11,31] [(10,i6 (w64 (Int.fdiv (IntKind.wrap .u64 (w64 (i_1+j_1))) (2 ^ min (1:Int).toNat 64))))]<|qX (i_1,w64 (Int.fdiv (IntKind.wrap .u64 (w64 (i_1+j_1))) (2 ^ min (1:Int).toNat 64))) hm
 refine qF c1<|A.exit ?_
 rcases ak hm with⟨c3,hm⟩|⟨c3,hm⟩
 ·obtain⟨e_2,h3,hm⟩:=af hm
  obtain⟨aI,h4,hm⟩:=af hm
  refine qS [(4,hto (bE c3)),(8,hix (ix aV h3)),(11,hrf (wZ _ _ _ h4) wY)] [(6,i6 i_1),(7,.bool (decide (aI=0)))] [] ?_
  cases hm
  exact A.ret qE
 refine qS [(4,hto (bE c3))] [(6,i6 i_1),(7,.bool false)] [] ?_
 cases hm
 exact A.ret qE
theorem qA{sa0:List aN}{v:aN}{r:Int}(hm:gF sa0 v=some r):RO prog 154 [] [lf bz sa0,.agg (k3 v)] (i6 r):=by
 refine bh func154 rfl rfl ?_
 unfold gF at hm
 refine qS [(0,.al 154003)] [(0,lf bz sa0),(3,.ptr 154003 0)] [(154003,.cells 67 (k3 v))]<|A.seq<|qDs [(1,hto (lnE bz sa0))] [] [(7,i6 (sa0.length:Int)),(8,i6 0)]<|A.block<|A.bS 0 rfl λhb1=>?_
 obtain⟨B1,K1,hB1,hK1,hm⟩:=bu hm
 refine A.lpI (l:=sa0) (j0:=0) (B:=B1) (K:=K1) hm (λj1=>λ()=>[(0,lf bz sa0),(3,.ptr 154003 0),(7,i6 (sa0.length:Int)),(8,i6 (j1:Int))]) (λj1=>λ()=>[(154003,.cells 67 (k3 v))]) ?_ ?_ ?_
 ·exact qW
 ·rintro j1 e1 Z1 ⟨⟩ hj1 hx1 hm
  rw[hB1]at hm
  refine qDs [] [] [(9,.bool (decide ((j1:Int)<(sa0.length:Int))))]<|A.seq<|qT (ltT hx1)<|A.skip<|A.seq<|A.block<|qDs [] [9] [(5,i6 (j1:Int))]<|qDs [(3,hix (ix bz (bt hx1))),(5,.sq false 67 (.agg (k3 v)) (.agg (k3 e1)) (kj v e1) (λx y w=>akw x y _ _ _ _ w))] [] [(16,.bool (kj v e1))] ?_
  rcases ak hm with⟨c1,hm⟩|⟨c1,hm⟩
  ·refine qT c1<|qS [] [(4,i6 (j1:Int))] [] ?_
   cases hm
   exact A.ret qE
  exact qF c1<|A.skip<|qGs [(0,hto (inc hx1 hb1))] [8,5,16] [(8,i6 ((j1+1:Nat):Int))]<|qX () hm
 rintro j1 ⟨⟩ hj1 hl1 hm
 rw[hK1]at hm
 refine qDs [] [] [(9,.bool (decide ((j1:Int)<(sa0.length:Int))))]<|A.seq<|qF (ltF hl1)<|A.exit<|qS [] [(4,i6 (-1))] [] ?_
 cases hm
 exact A.ret qE
theorem bR{v:Int}(hm:cO sa0 v=some r):RO prog 59 [] [lf aA sa0,i6 v] (.bool r):=by
 refine bh func59 rfl rfl ?_
 unfold cO at hm
 refine qS [] [(0,lf aA sa0),(1,i6 v)] [] ?_
 obtain⟨ai,h1,hm⟩:=af hm
 refine qS [(2,hro (uC h1) axr)] [(4,.bool (decide (0≤ai)))] [] ?_
 cases hm
 exact A.ret qE
theorem lJ{sa0:List aq}(f_k:aT prog f_g)(f_f:∀(y0:aq) (q:Bool),f y0=some q→RO prog f_g [] ([.agg (k5 y0)]++f_c) (.bool q))(hm:dK sa0 f=some r):RO prog 79 [] [lf aF sa0,.cfn f_g f_c] (.bool r):=by
 refine bh func79 rfl rfl ?_
 unfold dK at hm
 refine qS [] [(0,lf aF sa0),(1,.cfn f_g f_c)] [] ?_
 obtain⟨ai,h1,hm⟩:=af hm
 refine qS [(2,hro (mj (f_k:=f_k) (f_f:=f_f) h1) axx)] [(4,.bool (decide (0≤ai)))] [] ?_
 cases hm
 exact A.ret qE
theorem mZ{sa0:List aR}{f:aR→Option Bool}(f_k:aT prog f_g)(f_f:∀(y0:aR) (q:Bool),f y0=some q→RO prog f_g [] ([.agg (k0 y0)]++f_c) (.bool q))(hm:dV sa0 f=some r):RO prog 93 [] [lf aJ sa0,.cfn f_g f_c] (.bool r):=by
 refine bh func93 rfl rfl ?_
 unfold dV at hm
 refine qS [] [(0,lf aJ sa0),(1,.cfn f_g f_c)] [] ?_
 obtain⟨ai,h1,hm⟩:=af hm
 refine qS [(2,hro (nR (f_k:=f_k) (f_f:=f_f) h1) axB)] [(4,.bool (decide (0≤ai)))] [] ?_
 cases hm
 exact A.ret qE
theorem gf{sa0:List aW}{f:aW→Option Bool}(f_k:aT prog f_g)(f_f:∀(y0:aW) (q:Bool),f y0=some q→RO prog f_g [] ([.agg (k1 y0)]++f_c) (.bool q))(hm:dx sa0 f=some r):RO prog 99 [] [lf aV sa0,.cfn f_g f_c] (.bool r):=by
 refine bh func99 rfl rfl ?_
 unfold dx at hm
 refine qS [] [(0,lf aV sa0),(1,.cfn f_g f_c)] [] ?_
 obtain⟨ai,h1,hm⟩:=af hm
 refine qS [(2,hro (oM (f_k:=f_k) (f_f:=f_f) h1) axC)] [(4,.bool (decide (0≤ai)))] [] ?_
 cases hm
 exact A.ret qE
theorem ec{sa0:List aN}{v:aN}(hm:dJ sa0 v=some r):RO prog 129 [] [lf bz sa0,.agg (k3 v)] (.bool r):=by
 refine bh func129 rfl rfl ?_
 unfold dJ at hm
 refine qS [(0,.al 129003)] [(0,lf bz sa0),(3,.ptr 129003 0)] [(129003,.cells 67 (k3 v))] ?_
 obtain⟨ai,h1,hm⟩:=af hm
 refine qS [(2,hro (qA h1) axL)] [(4,.bool (decide (0≤ai)))] [] ?_
 cases hm
 exact A.ret qE
theorem iU{n:Int}{least:Int}{most:Int}(hm:jS n least most=some r):RO prog 95 [] [i6 n,i6 least,i6 most] (.bool r):=by
 refine bh func95 rfl rfl ?_
 unfold jS at hm
 refine qS [] [(0,i6 n),(1,i6 least),(2,i6 most)] []<|A.mid [(6,.bool ((decide (least≤n))&&(decide (n≤most))))] [] (λhk=>?_) ?_
 ·rcases tf (decide (least≤n))with c1|c1
  ·exact qS [(3,hto (bE c1)),(8,hto (nO (q:=decide (n≤most)) c1))] _ _ hk
  exact qS [(3,hto (bE c1)),(8,hto (oK (q:=decide (n≤most)) c1))] _ _ hk
 cases hm
 exact A.ret qE
theorem rS{a:aW}{b:aW}{r:Int}(hm:ja a b=some r):RO prog 103 [] [.agg (k1 a),.agg (k1 b)] (i6 r):=by
 refine bh func103 rfl rfl ?_
 unfold ja at hm
 refine qS [(0,.al 103002),(1,.al 103003)] [(2,.ptr 103002 0),(3,.ptr 103003 0)] [(103002,.cells 89 (k1 a)),(103003,.cells 89 (k1 b))] ?_
 obtain⟨ai,h1,hm⟩:=af hm
 obtain⟨aI,h2,hm⟩:=af hm
 obtain⟨bf,h3,hm⟩:=af hm
 refine qS [(4,hro (mh h1) aft),(9,hro (mh h2) aft),(11,hro (ac5 h3) axD)] [(4,i6 bf)] [] ?_
 cases hm
 exact A.ret qE
variable {id:Int}{ra0:aR}
theorem uq{r:Int}(hm:lM ra0 id=some r):RO prog 98 [] [.agg (k0 ra0),i6 id] (i6 r):=by
 refine bh func98 rfl rfl ?_
 unfold lM at hm
 refine qS [(0,.al 98002)] [(1,i6 id),(2,.ptr 98002 0)] [(98002,.cells 42 (k0 ra0))] ?_
 obtain⟨ai,h1,hm⟩:=af hm
 refine qS [(3,hro (mh h1) aft)] [(4,i6 ai)] [] ?_
 cases hm
 exact A.ret qE
theorem xZ(hm:nB ra0=some r):RO prog 94 [] [.agg (k0 ra0)] (.bool r):=by
 refine bh func94 rfl rfl ?_
 unfold nB at hm
 refine qS [(0,.al 94001)] [(1,.ptr 94001 0)] [(94001,.cells 42 (k0 ra0))] ?_
 obtain⟨ai,h1,hm⟩:=af hm
 refine qS [(2,hro (iU h1) ace)] [(2,.bool (!ai))] [] ?_
 cases hm
 exact A.ret qE
variable {l:aW}
theorem x5(hm:lB l=some r):RO prog 100 [] [.agg (k1 l)] (.bool r):=by
 refine bh func100 rfl rfl ?_
 unfold lB at hm
 refine qS [(0,.al 100001)] [(1,.ptr 100001 0)] [(100001,.cells 89 (k1 l))] ?_
 obtain⟨ai,h1,hm⟩:=af hm
 rcases ak hm with⟨c1,hm⟩|⟨c1,hm⟩
 ·refine qS [(2,hro (iU h1) ace),(4,hto (bE c1))] [(2,.bool true)] [] ?_
  cases hm
  exact A.ret qE
 obtain⟨aI,h2,hm⟩:=af hm
 rcases ak hm with⟨c2,hm⟩|⟨c2,hm⟩
 ·refine qS [(2,hro (iU h1) ace),(4,hto (bE c1)),(7,hro (iU h2) ace),(10,hto (bE c2))] [(2,.bool true)] [] ?_
  cases hm
  exact A.ret qE
 obtain⟨bf,h3,hm⟩:=af hm
 refine qS [(2,hro (iU h1) ace),(4,hto (bE c1)),(7,hro (iU h2) ace),(10,hto (bE c2)),(13,hro (iU h3) ace)] [(2,.bool (!bf))] [] ?_
 cases hm
 exact A.ret qE
variable {c_0:aa}
theorem ot(hm:jb id c_0=some r):RO prog 96 [] [i6 id,.gd (k2 c_0)] (.bool r):=by
 refine bh func96 rfl rfl ?_
 unfold jb at hm
 refine qS [] [(0,i6 id),(1,.gd (k2 c_0))] [] ?_
 obtain⟨ai,h1,hm⟩:=af hm
 refine qS [(3,hro (gp (pG:=98) (ru:=[]) (wY:=aus) (wZ:=λ_ _ _ h=>uq h) h1) aur)] [(5,.bool ai.2)] []<|qS [] [(3,.bool (!ai.2))] [] ?_
 cases hm
 exact A.ret qE
theorem x6(hm:nC l c_0=some r):RO prog 101 [] [.agg (k1 l),.gd [.fn 96 [.gd (k2 c_0)]]] (.bool r):=by
 refine bh func101 rfl rfl ?_
 unfold nC at hm
 refine qS [(0,.al 101002)] [(1,.gd [.fn 96 [.gd (k2 c_0)]]),(2,.ptr 101002 0)] [(101002,.cells 89 (k1 l))] ?_
 obtain⟨ai,h1,hm⟩:=af hm
 rcases ak hm with⟨c1,hm⟩|⟨c1,hm⟩
 ·refine qS [(3,hle [] (ot h1) alN),(4,hto (bE c1))] [(3,.bool true)] [] ?_
  cases hm
  exact A.ret qE
 obtain⟨aI,h2,hm⟩:=af hm
 refine qS [(3,hle [] (ot h1) alN),(4,hto (bE c1)),(8,hle [] (ot h2) alN)] [(3,.bool aI)] [] ?_
 cases hm
 exact A.ret qE
theorem x7(hm:nD l=some r):RO prog 102 [] [.agg (k1 l)] (.bool r):=by
 refine bh func102 rfl rfl ?_
 unfold nD at hm
 refine qS [(0,.al 102001)] [(1,.ptr 102001 0)] [(102001,.cells 89 (k1 l))]<|qS [] [(2,.bool (decide (l.B≤l.A)))] [] ?_
 cases hm
 exact A.ret qE
variable {t:aa}
theorem kr{r:Int}(hm:gY t=some r):RO prog 58 [] [.agg (k2 t)] (i6 r):=by
 refine bh func58 rfl rfl ?_
 unfold gY at hm
 refine qS [(0,.al 58001)] [(1,.ptr 58001 0)] [(58001,.cells 28 (k2 t))]<|A.seq<|A.block<|A.mid [(1,.ptr 58001 0),(6,.bool ((decide (24<(t.ah.length:Int)))||(decide (60<(t.Links.length:Int)))))] [(58001,.cells 28 (k2 t))] (λhk=>?_) ?_
 ·rcases tf (decide (24<(t.ah.length:Int)))with c1|c1
  ·exact qS [(2,hto (lnE aJ t.ah)),(4,hto (bE c1)),(10,hto (orT (q:=decide (60<(t.Links.length:Int))) c1))] _ _ hk
  exact qS [(2,hto (lnE aJ t.ah)),(4,hto (bE c1)),(7,hto (lnE aV t.Links)),(10,hto (orF (q:=decide (60<(t.Links.length:Int))) c1))] _ _ hk
 rcases ak hm with⟨c2,hm⟩|⟨c2,hm⟩
 ·refine qT c2<|qS [] [(2,i6 3)] [] ?_
  cases hm
  exact A.ret qE
 refine qF c2 ?_
 obtain⟨ai,h1,hm⟩:=af hm
 refine qDs [(2,hro (mZ (f_g:=94) (f_c:=[]) (f_k:=ck94) (f_f:=λ_ _ h=>xZ h) h1) ck93)] [6] [(17,.bool ai)] ?_
 rcases ak hm with⟨c3,hm⟩|⟨c3,hm⟩
 ·refine qT c3<|qS [] [(2,i6 2)] [] ?_
  cases hm
  exact A.ret qE
 refine qF c3<|A.skip<|A.seq<|qDs [(2,hto (lnE aJ t.ah))] [17] [(23,i6 (t.ah.length:Int)),(24,i6 0)]<|A.block<|A.bC 1 0 rfl rfl rfl λhb1=>?_
 obtain⟨B1,K1,hB1,hK1,hm⟩:=bu hm
 refine A.lpI (l:=t.ah) (j0:=0) (B:=B1) (K:=K1) hm (λj1=>λ()=>[(1,.ptr 58001 0),(23,i6 (t.ah.length:Int)),(24,i6 (j1:Int))]) (λj1=>λ()=>[(58001,.cells 28 (k2 t))]) ?_ ?_ ?_
 ·exact qW
 ·rintro j1 e1 Z1 ⟨⟩ hj1 hx1 hm
  rw[hB1]at hm
  refine qDs [] [] [(25,.bool (decide ((j1:Int)<(t.ah.length:Int))))]<|A.seq<|qT (ltT hx1)<|A.skip<|A.seq<|A.block<|qDs [] [25] [(3,i6 (j1:Int))] ?_
  obtain⟨J1,hJ1,hm⟩:=cw hm
  refine A.J (J:=J1) (r:=r) (λv_1=>[(1,.ptr 58001 0),(23,i6 (t.ah.length:Int)),(24,i6 (j1:Int)),(44,.bool v_1)]) (λv_1=>[(58001,.cells 28 (k2 t))]) ?_ ?_
  ·rcases ak hm with⟨c4,hm⟩|⟨c4,hm⟩
   ·obtain⟨e_1,h2,hm⟩:=af hm
    exact qGs [(2,hto (bE c4)),(7,hix (ix aJ h2)),(13,hix (ix aJ (bt hx1)))] [3] [(44,.bool (decide (e1.ID≤e_1.ID)))]<|qX (decide (e1.ID≤e_1.ID)) hm
   exact qGs [(2,hto (bE c4))] [3] [(44,.bool false)]<|qX false hm
  rintro v_1 hm
  rw[hJ1]at hm
  rcases ak hm with⟨c5,hm⟩|⟨c5,hm⟩
  ·refine qT c5<|qS [] [(2,i6 25)] [] ?_
   cases hm
   exact A.ret qE
  exact qF c5<|A.skip<|qGs [(0,hto (inc hx1 hb1))] [24,44] [(24,i6 ((j1+1:Nat):Int))]<|qX () hm
 rintro j1 ⟨⟩ hj1 hl1 hm
 rw[hK1]at hm
 refine qDs [] [] [(25,.bool (decide ((j1:Int)<(t.ah.length:Int))))]<|A.seq<|qF (ltF hl1)<|A.exit<|qD [(1,.al 58004)] [23,24,25] [(4,.ptr 58004 0)] [] [(58004,.cells 130 [.fn 96 [.ptr 58001 0]])]<|A.seq<|A.block ?_
 obtain⟨aI,h3,hm⟩:=af hm
 refine qDs [(2,hro (gf (f_g:=100) (f_c:=[]) (f_k:=axo) (f_f:=λ_ _ h=>x5 h) h3) alO)] [] [(47,.bool aI)] ?_
 rcases ak hm with⟨c6,hm⟩|⟨c6,hm⟩
 ·refine qT c6<|qS [] [(2,i6 2)] [] ?_
  cases hm
  exact A.ret qE
 refine qF c6 ?_
 obtain⟨bf,h4,hm⟩:=af hm
 refine qD [(3,hle [58004,58001] (gf (f_g:=101) (f_c:=[.gd [.fn 96 [.gd (k2 t)]]]) (f_k:=axp) (f_f:=λ_ _ h=>x6 h) h4) alO)] [4,47] [(51,.bool bf)] [58004] [] ?_
 rcases ak hm with⟨c7,hm⟩|⟨c7,hm⟩
 ·refine qT c7<|qS [] [(2,i6 4)] [] ?_
  cases hm
  exact A.ret qE
 refine qF c7 ?_
 obtain⟨bB,h5,hm⟩:=af hm
 refine qDs [(2,hro (gf (f_g:=102) (f_c:=[]) (f_k:=axq) (f_f:=λ_ _ h=>x7 h) h5) alO)] [51] [(56,.bool bB)] ?_
 rcases ak hm with⟨c8,hm⟩|⟨c8,hm⟩
 ·refine qT c8<|qS [] [(2,i6 8)] [] ?_
  cases hm
  exact A.ret qE
 refine qF c8<|A.skip<|A.seq<|qDs [(2,hto (lnE aV t.Links))] [56] [(62,i6 (t.Links.length:Int)),(63,i6 0)]<|A.block<|A.bC 1 1 rfl rfl rfl λhb2=>?_
 obtain⟨B2,K2,hB2,hK2,hm⟩:=bu hm
 refine A.lpI (l:=t.Links) (j0:=0) (B:=B2) (K:=K2) hm (λj2=>λ()=>[(1,.ptr 58001 0),(62,i6 (t.Links.length:Int)),(63,i6 (j2:Int))]) (λj2=>λ()=>[(58001,.cells 28 (k2 t))]) ?_ ?_ ?_
 ·exact qW
 ·rintro j2 e2 Z2 ⟨⟩ hj2 hx2 hm
  rw[hB2]at hm
  refine qDs [] [] [(64,.bool (decide ((j2:Int)<(t.Links.length:Int))))]<|A.seq<|qT (ltT hx2)<|A.skip<|A.seq<|A.block<|qDs [] [64] [(5,i6 (j2:Int))] ?_
  obtain⟨J2,hJ2,hm⟩:=cw hm
  refine A.J (J:=J2) (r:=r) (λv_2=>[(1,.ptr 58001 0),(62,i6 (t.Links.length:Int)),(63,i6 (j2:Int)),(82,.bool v_2)]) (λv_2=>[(58001,.cells 28 (k2 t))]) ?_ ?_
  ·rcases ak hm with⟨c9,hm⟩|⟨c9,hm⟩
   ·obtain⟨e_2,h6,hm⟩:=af hm
    obtain⟨bD,h7,hm⟩:=af hm
    exact qGs [(2,hto (bE c9)),(7,hix (ix aV h6)),(12,hix (ix aV (bt hx2))),(14,hro (rS h7) anq)] [5] [(82,.bool (decide (0≤bD)))]<|qX (decide (0≤bD)) hm
   exact qGs [(2,hto (bE c9))] [5] [(82,.bool false)]<|qX false hm
  rintro v_2 hm
  rw[hJ2]at hm
  rcases ak hm with⟨c10,hm⟩|⟨c10,hm⟩
  ·refine qT c10<|qS [] [(2,i6 25)] [] ?_
   cases hm
   exact A.ret qE
  exact qF c10<|A.skip<|qGs [(0,hto (inc hx2 hb2))] [63,82] [(63,i6 ((j2+1:Nat):Int))]<|qX () hm
 rintro j2 ⟨⟩ hj2 hl2 hm
 rw[hK2]at hm
 refine qDs [] [] [(64,.bool (decide ((j2:Int)<(t.Links.length:Int))))]<|A.seq<|qF (ltF hl2)<|A.exit<|qS [] [(2,i6 0)] [] ?_
 cases hm
 exact A.ret qE
theorem ku(hm:gZ t=some r):RO prog 124 [] [.agg (k2 t)] (.bool r):=by
 refine bh func124 rfl rfl ?_
 unfold gZ at hm
 refine qS [(0,.al 124001)] [(1,.ptr 124001 0)] [(124001,.cells 28 (k2 t))] ?_
 obtain⟨ai,h1,hm⟩:=af hm
 refine qS [(1,hro (kr h1) af7)] [(2,.bool (decide (ai=0)))] [] ?_
 cases hm
 exact A.ret qE
variable {aS:Int}
theorem aag{r:aR×Bool}(hm:nE t aS=some r):RO prog 123 [] [.agg (k2 t),i6 aS] (.tup [.agg (k0 r.1),.bool r.2]):=by
 refine bh func123 rfl rfl ?_
 unfold nE at hm
 refine qS [(0,.al 123002),(1,.al 123004)] [(1,i6 aS),(2,.ptr 123002 0),(4,.ptr 123004 0)] [(123002,.cells 28 (k2 t)),(123004,.cells 42 [i6 0,.bool false])] ?_
 obtain⟨ai,h1,hm⟩:=af hm
 refine qDs [(3,hro (gp (pG:=98) (ru:=[]) (wY:=aus) (wZ:=λ_ _ _ h=>uq h) h1) aur)] [1] [(6,i6 ai.1),(7,.bool ai.2)]<|A.seq<|qDs [] [7] [(16,.bool (!ai.2))] ?_
 rcases ak hm with⟨c1,hm⟩|⟨c1,hm⟩
 ·refine qT c1<|qD [] [2,6,16] [(5,.bool false)] [123002] [] ?_
  cases hm
  exact A.ret qE
 refine qF c1<|A.skip ?_
 obtain⟨e_1,h2,hm⟩:=af hm
 refine qS [(3,hix (ix aJ h2))] [(4,.ptr 123004 0),(5,.bool true)] [(123004,.cells 42 (k0 e_1))] ?_
 cases hm
 exact A.ret qE
theorem jN(hm:kL t aS=some r):RO prog 70 [] [.agg (k2 t),i6 aS] (.bool r):=by
 refine bh func70 rfl rfl ?_
 unfold kL at hm
 refine qS [(0,.al 70002)] [(1,i6 aS),(2,.ptr 70002 0)] [(70002,.cells 28 (k2 t))] ?_
 obtain⟨ai,h1,hm⟩:=af hm
 refine qDs [(2,hro (aag h1) axv),(6,.al 70005)] [1] [(6,.bool ai.2)] ?_
 obtain⟨aI,h2,hm⟩:=af hm
 rcases ak hm with⟨c1,hm⟩|⟨c1,hm⟩
 ·refine qS [(1,hro (ku h2) ac3),(2,hto (bE c1))] [(4,.bool ai.2)] [] ?_
  cases hm
  exact A.ret qE
 refine qS [(1,hro (ku h2) ac3),(2,hto (bE c1))] [(4,.bool false)] [] ?_
 cases hm
 exact A.ret qE
theorem aah{cI:Int}{fF:Int}{r:Int×Bool}(hm:nF t cI fF=some r):RO prog 125 [] [.agg (k2 t),i6 cI,i6 fF] (.tup [i6 r.1,.bool r.2]):=by
 refine bh func125 rfl rfl ?_
 unfold nF at hm
 refine qS [(0,.al 125003)] [(1,i6 cI),(2,i6 fF),(3,.ptr 125003 0)] [(125003,.cells 28 (k2 t))]<|A.seq ?_
 obtain⟨ai,h1,hm⟩:=af hm
 refine qDs [(1,hro (ku h1) ac3)] [] [(12,.bool (!ai))] ?_
 rcases ak hm with⟨c1,hm⟩|⟨c1,hm⟩
 ·refine qT c1<|qS [] [(6,i6 0),(7,.bool false)] [] ?_
  cases hm
  exact A.ret qE
 refine qF c1<|A.skip ?_
 obtain⟨aI,h2,hm⟩:=af hm
 refine qDs [(9,hro (kM (pG:=103) (ru:=[]) (wY:=anq) (wZ:=λ_ _ _ h=>rS h) h2) axK)] [12] [(8,i6 aI.1),(9,.bool aI.2)]<|A.seq<|A.block<|qDs [] [9] [(26,.bool (!aI.2))] ?_
 rcases ak hm with⟨c2,hm⟩|⟨c2,hm⟩
 ·refine qT c2<|qS [] [(6,i6 0),(7,.bool false)] [] ?_
  cases hm
  exact A.ret qE
 refine qF c2<|qDs [] [1,2,26] [(29,.bool (decide (cI<fF)))] ?_
 rcases ak hm with⟨c3,hm⟩|⟨c3,hm⟩
 ·refine qT c3 ?_
  obtain⟨e_1,h3,hm⟩:=af hm
  refine qS [(3,hix (ix aV h3))] [(6,i6 e_1.jh),(7,.bool true)] [] ?_
  cases hm
  exact A.ret qE
 refine qF c3<|A.skip ?_
 obtain⟨e_2,h4,hm⟩:=af hm
 refine qS [(3,hix (ix aV h4))] [(6,i6 e_2.ji),(7,.bool true)] [] ?_
 cases hm
 exact A.ret qE
theorem ou{f:bg}{r:aa}(hm:hU t f=some r):RO prog 83 [] [.agg (k2 t),.agg (k4 f)] (.agg (k2 r)):=by
 refine bh func83 rfl rfl ?_
 unfold hU at hm
 refine qS [(0,.al 83002),(1,.al 83003),(2,.al 83004)] [(2,.ptr 83002 0),(3,.ptr 83003 0),(4,.ptr 83004 0)] [(83002,.cells 28 (k2 t)),(83003,.cells 100 (k4 f)),(83004,.cells 28 [.aQ,.aQ])]<|qD [(0,.al 83005)] [] [(5,.ptr 83005 0)] [] [(83005,.cells 28 [.aQ,.aQ])]<|A.seq ?_
 obtain⟨ai,h1,hm⟩:=af hm
 refine qDs [(1,hro (ku h1) ac3)] [] [(13,.bool (!ai))] ?_
 rcases ak hm with⟨c1,hm⟩|⟨c1,hm⟩
 ·refine qT c1<|qD [] [2,3,5,13] [] [83002,83003,83005] [] ?_
  cases hm
  exact A.ret qE
 refine qF c1<|A.skip<|A.seq<|qDs [(2,hto (lnE aJ t.ah))] [13] [(16,lf aJ t.ah),(17,i6 (t.ah.length:Int)),(18,i6 0)]<|A.block<|A.bS 16 rfl λhb1=>?_
 obtain⟨B1,K1,hB1,hK1,hm⟩:=bu hm
 refine A.lpI (l:=t.ah) (j0:=0) (B:=B1) (K:=K1) hm (λj1=>λm_1=>[(2,.ptr 83002 0),(3,.ptr 83003 0),(4,.ptr 83004 0),(5,.ptr 83005 0),(16,lf aJ t.ah),(17,i6 (t.ah.length:Int)),(18,i6 (j1:Int))]) (λj1=>λm_1=>[(83002,.cells 28 (k2 t)),(83003,.cells 100 (k4 f)),(83004,.cells 28 [.aQ,.aQ]),(83005,.cells 28 [.own 708300500,.aQ]),(708300500,.slice 42 2 (ml aJ m_1) 0 false)]) ?_ ?_ ?_
 ·exact bx.go [.ac 83005 708300500 42 2 0] [] (by kernel_rfl)
 ·rintro j1 e1 Z1 m_1 hj1 hx1 hm
  rw[hB1]at hm
  refine qDs [] [] [(19,.bool (decide ((j1:Int)<(t.ah.length:Int))))]<|A.seq<|qT (ltT hx1)<|A.skip ?_
  obtain⟨J1,hJ1,hm⟩:=cw hm
  refine A.J (J:=J1) (r:=r) (λm_2=>[(2,.ptr 83002 0),(3,.ptr 83003 0),(4,.ptr 83004 0),(5,.ptr 83005 0),(16,lf aJ t.ah),(17,i6 (t.ah.length:Int)),(18,i6 (j1:Int))]) (λm_2=>[(83002,.cells 28 (k2 t)),(83003,.cells 100 (k4 f)),(83004,.cells 28 [.aQ,.aQ]),(83005,.cells 28 [.own 708300500,.aQ]),(708300500,.slice 42 2 (ml aJ m_2) 0 false)]) ?_ ?_
  ·refine A.block<|qD [(0,hix (ix aJ (bt hx1))),(2,.al 83007)] [19] [(7,.ptr 83007 0)] [] [(83007,.cells 42 (k0 e1))] ?_
   obtain⟨aI,h2,hm⟩:=af hm
   refine qDs [(4,hro (bR h2) qz)] [] [(27,.bool (!aI))] ?_
   rcases ak hm with⟨c2,hm⟩|⟨c2,hm⟩
   ·refine qT c2 ?_
    obtain⟨l_1,h3,hm⟩:=af hm
    exact qG [(4,hap 83532 (ap aJ (bytes:=16) (by decide) h3))] [7,27] [] [83005,708300500,83007] [(83005,.cells 28 [.own 83532,.aQ]),(83532,.slice 42 2 (ml aJ l_1) 0 false)]<|Exists.intro l_1 (And.intro hm (bx.go [.sw 83532 708300500] [] (by kernel_rfl)))
   exact qF c2<|A.skip<|qX m_1 hm
  rintro m_2 hm
  rw[hJ1]at hm
  exact qGs [(0,hto (inc hx1 hb1))] [18] [(18,i6 ((j1+1:Nat):Int))]<|qX m_2 hm
 rintro j1 m_1 hj1 hl1 hm
 rw[hK1]at hm
 refine qDs [] [] [(19,.bool (decide ((j1:Int)<(t.ah.length:Int))))]<|A.seq<|qF (ltF hl1)<|A.exit<|A.seq<|qD [(2,hto (lnE aV t.Links))] [2,16,17,18,19] [(36,lf aV t.Links),(37,i6 (t.Links.length:Int)),(38,i6 0)] [83002] []<|A.block<|A.bS 36 rfl λhb2=>?_
 obtain⟨B2,K2,hB2,hK2,hm⟩:=bu hm
 refine A.lpI (l:=t.Links) (j0:=0) (B:=B2) (K:=K2) hm (λj2=>λm_3=>[(3,.ptr 83003 0),(4,.ptr 83004 0),(5,.ptr 83005 0),(36,lf aV t.Links),(37,i6 (t.Links.length:Int)),(38,i6 (j2:Int))]) (λj2=>λm_3=>[(83003,.cells 100 (k4 f)),(83004,.cells 28 [.aQ,.aQ]),(83005,.cells 28 [.own 708300500,.own 708300501]),(708300500,.slice 42 2 (ml aJ m_1) 0 false),(708300501,.slice 89 5 (ml aV m_3) 0 false)]) ?_ ?_ ?_
 ·exact bx.go [.ac 83005 708300501 89 5 1] [] (by kernel_rfl)
 ·rintro j2 e2 Z2 m_3 hj2 hx2 hm
  rw[hB2]at hm
  refine qDs [] [] [(39,.bool (decide ((j2:Int)<(t.Links.length:Int))))]<|A.seq<|qT (ltT hx2)<|A.skip ?_
  obtain⟨J2,hJ2,hm⟩:=cw hm
  refine A.J (J:=J2) (r:=r) (λm_4=>[(3,.ptr 83003 0),(4,.ptr 83004 0),(5,.ptr 83005 0),(36,lf aV t.Links),(37,i6 (t.Links.length:Int)),(38,i6 (j2:Int))]) (λm_4=>[(83003,.cells 100 (k4 f)),(83004,.cells 28 [.aQ,.aQ]),(83005,.cells 28 [.own 708300500,.own 708300501]),(708300500,.slice 42 2 (ml aJ m_1) 0 false),(708300501,.slice 89 5 (ml aV m_4) 0 false)]) ?_ ?_
  ·refine A.block<|qD [(0,hix (ix aV (bt hx2))),(2,.al 83009)] [39] [(9,.ptr 83009 0)] [] [(83009,.cells 89 (k1 e2))] ?_
   obtain⟨J3,hJ3,hm⟩:=cw hm
   refine A.J (J:=J3) (r:=r) (λxY=>[(3,.ptr 83003 0),(4,.ptr 83004 0),(5,.ptr 83005 0),(9,.ptr 83009 0),(10,.bool xY),(36,lf aV t.Links),(37,i6 (t.Links.length:Int)),(38,i6 (j2:Int))]) (λxY=>[(83003,.cells 100 (k4 f)),(83004,.cells 28 [.aQ,.aQ]),(83005,.cells 28 [.own 708300500,.own 708300501]),(708300500,.slice 42 2 (ml aJ m_1) 0 false),(708300501,.slice 89 5 (ml aV m_3) 0 false),(83009,.cells 89 (k1 e2))]) ?_ ?_
   ·obtain⟨bf,h4,hm⟩:=af hm
    rcases ak hm with⟨c3,hm⟩|⟨c3,hm⟩
    ·exact qGs [(4,hro (bR h4) qz),(5,hto (bE c3))] [] [(10,.bool true)]<|qX true hm
    obtain⟨bB,h5,hm⟩:=af hm
    rcases ak hm with⟨c4,hm⟩|⟨c4,hm⟩
    ·exact qGs [(4,hro (bR h4) qz),(5,hto (bE c3)),(10,hro (bR h5) qz),(12,hto (bE c4))] [] [(10,.bool true)]<|qX true hm
    obtain⟨bD,h6,hm⟩:=af hm
    rcases ak hm with⟨c5,hm⟩|⟨c5,hm⟩
    ·exact qGs [(4,hro (bR h4) qz),(5,hto (bE c3)),(10,hro (bR h5) qz),(12,hto (bE c4)),(20,hro (ec h6) aa4),(22,hto (bE c5))] [] [(10,.bool true)]<|qX true hm
    obtain⟨cW,h7,hm⟩:=af hm
    exact qGs [(4,hro (bR h4) qz),(5,hto (bE c3)),(10,hro (bR h5) qz),(12,hto (bE c4)),(20,hro (ec h6) aa4),(22,hto (bE c5)),(30,hro (ec h7) aa4)] [] [(10,.bool cW)]<|qX cW hm
   rintro xY hm
   rw[hJ3]at hm
   refine qDs [] [10] [(75,.bool (!xY))] ?_
   rcases ak hm with⟨c6,hm⟩|⟨c6,hm⟩
   ·refine qT c6 ?_
    obtain⟨l_2,h8,hm⟩:=af hm
    exact qG [(4,hap 83580 (ap aV (bytes:=40) (by decide) h8))] [9,75] [] [83005,708300501,83009] [(83005,.cells 28 [.own 708300500,.own 83580]),(83580,.slice 89 5 (ml aV l_2) 0 false)]<|Exists.intro l_2 (And.intro hm (bx.go [.sw 83580 708300501] [] (by kernel_rfl)))
   exact qF c6<|A.skip<|qX m_3 hm
  rintro m_4 hm
  rw[hJ2]at hm
  exact qGs [(0,hto (inc hx2 hb2))] [38] [(38,i6 ((j2+1:Nat):Int))]<|qX m_4 hm
 rintro j2 m_3 hj2 hl2 hm
 rw[hK2]at hm
 refine qDs [] [] [(39,.bool (decide ((j2:Int)<(t.Links.length:Int))))]<|A.seq<|qF (ltF hl2)<|A.exit<|qD [] [3,5,36,37,38,39] [] [83003,83004,83005] [(83004,.cells 28 [.own 708300500,.own 708300501])]<|A.ret ?_
 obtain rfl:=some_inj hm
 exact A.fin W0 [.fz [708300500,708300501]] rfl (by kernel_rfl)
end Go.Proofs.YtdjeacigeegklaaGreat
