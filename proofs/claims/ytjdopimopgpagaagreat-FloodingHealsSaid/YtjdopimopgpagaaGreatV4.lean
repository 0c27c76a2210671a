/- The eN of cu of the program. No condition but bH bq stand in each. -/
import Derived.Test.YtjdopimopgpagaaGreatDA
namespace Go.Proofs.YtjdopimopgpagaaGreat
open Go Go.Proofs.Tryz
set_option maxRecDepth 100000
set_option linter.all false
variable {r:Bool}{xa0:Int}
theorem uo(hm:mQ xa0=some r):RO prog 171 [] [i6 xa0] (.bool r):=by
 refine aZ func171 rfl rfl ?_
 unfold mQ at hm
 refine qS [] [(0,i6 xa0)] []<|qS [] [(2,.bool (!decide (xa0=xa0)))] [] ?_
 cases hm
 exact A.ret qE
theorem ij{y:Int}{r:Int}(hm:eT xa0 y=some r):RO prog 148 [] [i6 xa0,i6 y] (i6 r):=by
 refine aZ func148 rfl rfl ?_
 unfold eT at hm
 refine qS [] [(0,i6 xa0),(1,i6 y)] [] ?_
 obtain⟨ah,h1,hm⟩:=aa hm
 refine qDs [(1,hro (uo h1) akJ)] [] [(5,.bool ah)] ?_
 obtain⟨aD,h2,hm⟩:=aa hm
 refine qDs [(1,hro (uo h2) akJ)] [] [(6,.bool aD)]<|A.seq<|qDs [] [5] [(11,.bool ah)] ?_
 rcases az hm with⟨c1,hm⟩|⟨c1,hm⟩
 ·refine qT c1<|A.seq<|qS [] [(12,.bool aD)] [] ?_
  rcases az hm with⟨c2,hm⟩|⟨c2,hm⟩
  ·refine qT c2<|qS [] [(4,i6 0)] [] ?_
   cases hm
   exact A.ret qE
  refine qF c2<|A.skip<|qS [] [(4,i6 (-1))] [] ?_
  cases hm
  exact A.ret qE
 refine qF c1<|A.skip<|A.seq<|qDs [] [6,11] [(13,.bool aD)] ?_
 rcases az hm with⟨c3,hm⟩|⟨c3,hm⟩
 ·refine qT c3<|qS [] [(4,i6 1)] [] ?_
  cases hm
  exact A.ret qE
 refine qF c3<|A.skip<|A.seq<|qDs [] [13] [(16,.bool (decide (xa0<y)))] ?_
 rcases az hm with⟨c4,hm⟩|⟨c4,hm⟩
 ·refine qT c4<|qS [] [(4,i6 (-1))] [] ?_
  cases hm
  exact A.ret qE
 refine qF c4<|A.skip<|A.seq<|qS [] [(19,.bool (decide (y<xa0)))] [] ?_
 rcases az hm with⟨c5,hm⟩|⟨c5,hm⟩
 ·refine qT c5<|qS [] [(4,i6 1)] [] ?_
  cases hm
  exact A.ret qE
 refine qF c5<|A.skip<|qS [] [(4,i6 0)] [] ?_
 cases hm
 exact A.ret qE
theorem wF{vals:List Int}{r:Int}(hm:nX vals=some r):RO prog 147 [] [lf bK vals] (i6 r):=by
 refine aZ func147 rfl rfl ?_
 unfold nX at hm
 refine qS [] [(0,lf bK vals)] []<|qDs [] [] [(3,i6 0)]<|A.seq<|qDs [(1,hto (lnE bK vals))] [0] [(6,lf bK vals),(7,i6 (vals.length:Int)),(8,i6 0)]<|A.block<|A.bS 6 rfl λhb1=>?_
 obtain⟨B1,K1,hB1,hK1,hm⟩:=bF hm
 refine A.lpI (l:=vals) (j0:=0) (B:=B1) (K:=K1) hm (λj1=>λ()=>[(3,i6 0),(6,lf bK vals),(7,i6 (vals.length:Int)),(8,i6 (j1:Int))]) (λj1=>λ()=>[]) ?_ ?_ ?_
 ·exact qW
 ·rintro j1 e1 Z1 ⟨⟩ hj1 hx1 hm
  rw[hB1]at hm
  refine qDs [] [] [(9,.bool (decide ((j1:Int)<(vals.length:Int))))]<|A.seq<|qT (ltT hx1)<|A.skip<|A.seq<|A.block<|qDs [(0,hix (ix bK (bh hx1)))] [9] [(5,i6 e1)]<|qDs [] [] [(14,.bool (!decide (e1=0)))] ?_
  rcases az hm with⟨c1,hm⟩|⟨c1,hm⟩
  ·refine qT c1<|qS [] [(2,i6 e1)] [] ?_
   cases hm
   exact A.ret qE
  exact qF c1<|A.skip<|qGs [(0,hto (inc hx1 hb1))] [8,5,14] [(8,i6 ((j1+1:Nat):Int))]<|qX () hm
 rintro j1 ⟨⟩ hj1 hl1 hm
 rw[hK1]at hm
 refine qDs [] [] [(9,.bool (decide ((j1:Int)<(vals.length:Int))))]<|A.seq<|qF (ltF hl1)<|A.exit<|qS [] [(2,i6 0)] [] ?_
 cases hm
 exact A.ret qE
variable {jZ:Nat}{mh:List AV}{target:Int}
theorem fL{xa0:List bf}{cmp:bf→Int→Option Int}(rG:aT prog jZ)(rH:∀(y0:bf) (y1:Int) (q:Int),cmp y0 y1=some q→RO prog jZ [] ([.agg (k0 y0),i6 y1]++mh) (i6 q)){r:Int×Bool}(hm:ct xa0 target cmp=some r):RO prog 128 [] [lf aX xa0,i6 target,.cfn jZ mh] (.tup [i6 r.1,.bool r.2]):=by
 refine aZ func128 rfl rfl ?_
 unfold ct at hm
 refine qS [] [(0,lf aX xa0),(1,i6 target),(2,.cfn jZ mh)] []<|qDs [(1,hto (lnE aX xa0))] [] [(8,i6 (xa0.length:Int))]<|qDs [] [] [(9,i6 0),(10,i6 (xa0.length:Int))]<|A.seq<|A.block ?_
 obtain⟨F1,n1,hF1,hm⟩:=ji hm
 refine A.lpW (F:=F1) hm (λ(i_1,j_1)=>[(0,lf aX xa0),(1,i6 target),(2,.cfn jZ mh),(8,i6 (xa0.length:Int)),(9,i6 i_1),(10,i6 j_1)]) (λ(i_1,j_1)=>[]) ?_ ?_
 ·exact qW
 rintro Z1 ⟨i_1,j_1⟩ hm
 rw[hF1]at hm
 refine A.seq<|qDs [] [] [(17,.bool (decide (i_1<j_1)))] ?_
 rcases az hm with⟨c1,hm⟩|⟨c1,hm⟩
 ·refine qT c1<|A.skip<|A.block<|qDs [(4,.sh (1:Int) (by decide))] [17] [(11,i6 (w64 (Int.fdiv (IntKind.wrap .u64 (w64 (i_1+j_1))) (2 ^ min (1:Int).toNat 64))))] ?_
  obtain⟨e_1,h1,hm⟩:=aa hm
  obtain⟨ah,h2,hm⟩:=aa hm
  refine qDs [(3,hix (ix aX h1)),(6,hrf (rH _ _ _ h2) rG)] [] [(31,.bool (decide (ah<0)))] ?_
  rcases az hm with⟨c2,hm⟩|⟨c2,hm⟩
  ·exact qT c2<|qGs [] [9,11,31] [(9,i6 (w64 ((w64 (Int.fdiv (IntKind.wrap .u64 (w64 (i_1+j_1))) (2 ^ min (1:Int).toNat 64)))+(1:Int))))]<|qX (w64 ((w64 (Int.fdiv (IntKind.wrap .u64 (w64 (i_1+j_1))) (2 ^ min (1:Int).toNat 64)))+(1:Int)),j_1) hm
  exact qF c2<|qGs [] [10,11,31] [(10,i6 (w64 (Int.fdiv (IntKind.wrap .u64 (w64 (i_1+j_1))) (2 ^ min (1:Int).toNat 64))))]<|qX (i_1,w64 (Int.fdiv (IntKind.wrap .u64 (w64 (i_1+j_1))) (2 ^ min (1:Int).toNat 64))) hm
 refine qF c1<|A.exit ?_
 rcases az hm with⟨c3,hm⟩|⟨c3,hm⟩
 ·obtain⟨e_2,h3,hm⟩:=aa hm
  obtain⟨aD,h4,hm⟩:=aa hm
  refine qS [(4,hto (bE c3)),(8,hix (ix aX h3)),(11,hrf (rH _ _ _ h4) rG)] [(6,i6 i_1),(7,.bool (decide (aD=0)))] [] ?_
  cases hm
  exact A.ret qE
 refine qS [(4,hto (bE c3))] [(6,i6 i_1),(7,.bool false)] [] ?_
 cases hm
 exact A.ret qE
variable {f_c:List AV}{f_g:Nat}
theorem oD{sa0:List aO}{f:aO→Option Bool}(f_k:aT prog f_g)(f_f:∀(y0:aO) (q:Bool),f y0=some q→RO prog f_g [] ([.agg (k9 y0)]++f_c) (.bool q)){r:Int}(hm:eV sa0 f=some r):RO prog 139 [] [lf aN sa0,.cfn f_g f_c] (i6 r):=by
 refine aZ func139 rfl rfl ?_
 unfold eV at hm
 refine qS [] [(0,lf aN sa0),(1,.cfn f_g f_c)] []<|A.seq<|qDs [(1,hto (lnE aN sa0))] [] [(7,i6 (sa0.length:Int)),(8,i6 0)]<|A.block<|A.bS 0 rfl λhb1=>?_
 obtain⟨B1,K1,hB1,hK1,hm⟩:=bF hm
 refine A.lpI (l:=sa0) (j0:=0) (B:=B1) (K:=K1) hm (λj1=>λ()=>[(0,lf aN sa0),(1,.cfn f_g f_c),(7,i6 (sa0.length:Int)),(8,i6 (j1:Int))]) (λj1=>λ()=>[]) ?_ ?_ ?_
 ·exact qW
 ·rintro j1 e1 Z1 ⟨⟩ hj1 hx1 hm
  rw[hB1]at hm
  refine qDs [] [] [(9,.bool (decide ((j1:Int)<(sa0.length:Int))))]<|A.seq<|qT (ltT hx1)<|A.skip<|A.seq<|A.block<|qDs [] [9] [(5,i6 (j1:Int))] ?_
  obtain⟨ah,h1,hm⟩:=aa hm
  refine qDs [(3,hix (ix aN (bh hx1))),(5,hrf (f_f _ _ h1) f_k)] [] [(16,.bool ah)] ?_
  rcases az hm with⟨c1,hm⟩|⟨c1,hm⟩
  ·refine qT c1<|qS [] [(4,i6 (j1:Int))] [] ?_
   cases hm
   exact A.ret qE
  exact qF c1<|A.skip<|qGs [(0,hto (inc hx1 hb1))] [8,5,16] [(8,i6 ((j1+1:Nat):Int))]<|qX () hm
 rintro j1 ⟨⟩ hj1 hl1 hm
 rw[hK1]at hm
 refine qDs [] [] [(9,.bool (decide ((j1:Int)<(sa0.length:Int))))]<|A.seq<|qF (ltF hl1)<|A.exit<|qS [] [(4,i6 (-1))] [] ?_
 cases hm
 exact A.ret qE
theorem mA{sa0:List aR}{f:aR→Option Bool}(f_k:aT prog f_g)(f_f:∀(y0:aR) (q:Bool),f y0=some q→RO prog f_g [] ([.agg (k10 y0)]++f_c) (.bool q)){r:Int}(hm:dY sa0 f=some r):RO prog 150 [] [lf aJ sa0,.cfn f_g f_c] (i6 r):=by
 refine aZ func150 rfl rfl ?_
 unfold dY at hm
 refine qS [] [(0,lf aJ sa0),(1,.cfn f_g f_c)] []<|A.seq<|qDs [(1,hto (lnE aJ sa0))] [] [(7,i6 (sa0.length:Int)),(8,i6 0)]<|A.block<|A.bS 0 rfl λhb1=>?_
 obtain⟨B1,K1,hB1,hK1,hm⟩:=bF hm
 refine A.lpI (l:=sa0) (j0:=0) (B:=B1) (K:=K1) hm (λj1=>λ()=>[(0,lf aJ sa0),(1,.cfn f_g f_c),(7,i6 (sa0.length:Int)),(8,i6 (j1:Int))]) (λj1=>λ()=>[]) ?_ ?_ ?_
 ·exact qW
 ·rintro j1 e1 Z1 ⟨⟩ hj1 hx1 hm
  rw[hB1]at hm
  refine qDs [] [] [(9,.bool (decide ((j1:Int)<(sa0.length:Int))))]<|A.seq<|qT (ltT hx1)<|A.skip<|A.seq<|A.block<|qDs [] [9] [(5,i6 (j1:Int))] ?_
  obtain⟨ah,h1,hm⟩:=aa hm
  refine qDs [(3,hix (ix aJ (bh hx1))),(5,hrf (f_f _ _ h1) f_k)] [] [(16,.bool ah)] ?_
  rcases az hm with⟨c1,hm⟩|⟨c1,hm⟩
  ·refine qT c1<|qS [] [(4,i6 (j1:Int))] [] ?_
   cases hm
   exact A.ret qE
  exact qF c1<|A.skip<|qGs [(0,hto (inc hx1 hb1))] [8,5,16] [(8,i6 ((j1+1:Nat):Int))]<|qX () hm
 rintro j1 ⟨⟩ hj1 hl1 hm
 rw[hK1]at hm
 refine qDs [] [] [(9,.bool (decide ((j1:Int)<(sa0.length:Int))))]<|A.seq<|qF (ltF hl1)<|A.exit<|qS [] [(4,i6 (-1))] [] ?_
 cases hm
 exact A.ret qE
theorem jS{xa0:List aV}{target:aV}{cmp:aV→aV→Option Int}(rG:aT prog jZ)(rH:∀(y0:aV) (y1:aV) (q:Int),cmp y0 y1=some q→RO prog jZ [] ([.agg (k1 y0),.agg (k1 y1)]++mh) (i6 q)){r:Int×Bool}(hm:cK xa0 target cmp=some r):RO prog 152 [] [lf aC xa0,.agg (k1 target),.cfn jZ mh] (.tup [i6 r.1,.bool r.2]):=by
 refine aZ func152 rfl rfl ?_
 unfold cK at hm
 refine qS [(0,.al 152004)] [(0,lf aC xa0),(2,.cfn jZ mh),(4,.ptr 152004 0)] [(152004,.cells 86 (k1 target))]<|qDs [(1,hto (lnE aC xa0))] [] [(8,i6 (xa0.length:Int))]<|qDs [] [] [(9,i6 0),(10,i6 (xa0.length:Int))]<|A.seq<|A.block ?_
 obtain⟨F1,n1,hF1,hm⟩:=ji hm
 refine A.lpW (F:=F1) hm (λ(i_1,j_1)=>[(0,lf aC xa0),(2,.cfn jZ mh),(4,.ptr 152004 0),(8,i6 (xa0.length:Int)),(9,i6 i_1),(10,i6 j_1)]) (λ(i_1,j_1)=>[(152004,.cells 86 (k1 target))]) ?_ ?_
 ·exact qW
 rintro Z1 ⟨i_1,j_1⟩ hm
 rw[hF1]at hm
 refine A.seq<|qDs [] [] [(17,.bool (decide (i_1<j_1)))] ?_
 rcases az hm with⟨c1,hm⟩|⟨c1,hm⟩
 ·refine qT c1<|A.skip<|A.block<|qDs [(4,.sh (1:Int) (by decide))] [17] [(11,i6 (w64 (Int.fdiv (IntKind.wrap .u64 (w64 (i_1+j_1))) (2 ^ min (1:Int).toNat 64))))] ?_
  obtain⟨e_1,h1,hm⟩:=aa hm
  obtain⟨ah,h2,hm⟩:=aa hm
  refine qDs [(3,hix (ix aC h1)),(6,hrf (rH _ _ _ h2) rG)] [] [(31,.bool (decide (ah<0)))] ?_
  rcases az hm with⟨c2,hm⟩|⟨c2,hm⟩
  ·exact qT c2<|qGs [] [9,11,31] [(9,i6 (w64 ((w64 (Int.fdiv (IntKind.wrap .u64 (w64 (i_1+j_1))) (2 ^ min (1:Int).toNat 64)))+(1:Int))))]<|qX (w64 ((w64 (Int.fdiv (IntKind.wrap .u64 (w64 (i_1+j_1))) (2 ^ min (1:Int).toNat 64)))+(1:Int)),j_1) hm
  exact qF c2<|qGs [] [10,11,31] [(10,i6 (w64 (Int.fdiv (IntKind.wrap .u64 (w64 (i_1+j_1))) (2 ^ min (1:Int).toNat 64))))]<|qX (i_1,w64 (Int.fdiv (IntKind.wrap .u64 (w64 (i_1+j_1))) (2 ^ min (1:Int).toNat 64))) hm
 refine qF c1<|A.exit ?_
 rcases az hm with⟨c3,hm⟩|⟨c3,hm⟩
 ·obtain⟨e_2,h3,hm⟩:=aa hm
  obtain⟨aD,h4,hm⟩:=aa hm
  refine qS [(4,hto (bE c3)),(8,hix (ix aC h3)),(11,hrf (rH _ _ _ h4) rG)] [(6,i6 i_1),(7,.bool (decide (aD=0)))] [] ?_
  cases hm
  exact A.ret qE
 refine qS [(4,hto (bE c3))] [(6,i6 i_1),(7,.bool false)] [] ?_
 cases hm
 exact A.ret qE
variable {sa0:List Int}
theorem uO{v:Int}{r:Int}(hm:jH sa0 v=some r):RO prog 159 [] [lf bK sa0,i6 v] (i6 r):=by
 refine aZ func159 rfl rfl ?_
 unfold jH at hm
 refine qS [] [(0,lf bK sa0),(1,i6 v)] []<|A.seq<|qDs [(1,hto (lnE bK sa0))] [] [(7,i6 (sa0.length:Int)),(8,i6 0)]<|A.block<|A.bS 0 rfl λhb1=>?_
 obtain⟨B1,K1,hB1,hK1,hm⟩:=bF hm
 refine A.lpI (l:=sa0) (j0:=0) (B:=B1) (K:=K1) hm (λj1=>λ()=>[(0,lf bK sa0),(1,i6 v),(7,i6 (sa0.length:Int)),(8,i6 (j1:Int))]) (λj1=>λ()=>[]) ?_ ?_ ?_
 ·exact qW
 ·rintro j1 e1 Z1 ⟨⟩ hj1 hx1 hm
  rw[hB1]at hm
  refine qDs [] [] [(9,.bool (decide ((j1:Int)<(sa0.length:Int))))]<|A.seq<|qT (ltT hx1)<|A.skip<|A.seq<|A.block<|qDs [] [9] [(5,i6 (j1:Int))]<|qDs [(3,hix (ix bK (bh hx1)))] [] [(16,.bool (decide (v=e1)))] ?_
  rcases az hm with⟨c1,hm⟩|⟨c1,hm⟩
  ·refine qT c1<|qS [] [(4,i6 (j1:Int))] [] ?_
   cases hm
   exact A.ret qE
  exact qF c1<|A.skip<|qGs [(0,hto (inc hx1 hb1))] [8,5,16] [(8,i6 ((j1+1:Nat):Int))]<|qX () hm
 rintro j1 ⟨⟩ hj1 hl1 hm
 rw[hK1]at hm
 refine qDs [] [] [(9,.bool (decide ((j1:Int)<(sa0.length:Int))))]<|A.seq<|qF (ltF hl1)<|A.exit<|qS [] [(4,i6 (-1))] [] ?_
 cases hm
 exact A.ret qE
variable {f:bf→Option Bool}
theorem nB{sa0:List bf}(f_k:aT prog f_g)(f_f:∀(y0:bf) (q:Bool),f y0=some q→RO prog f_g [] ([.agg (k0 y0)]++f_c) (.bool q)){r:Int}(hm:ew sa0 f=some r):RO prog 163 [] [lf aX sa0,.cfn f_g f_c] (i6 r):=by
 refine aZ func163 rfl rfl ?_
 unfold ew at hm
 refine qS [] [(0,lf aX sa0),(1,.cfn f_g f_c)] []<|A.seq<|qDs [(1,hto (lnE aX sa0))] [] [(7,i6 (sa0.length:Int)),(8,i6 0)]<|A.block<|A.bS 0 rfl λhb1=>?_
 obtain⟨B1,K1,hB1,hK1,hm⟩:=bF hm
 refine A.lpI (l:=sa0) (j0:=0) (B:=B1) (K:=K1) hm (λj1=>λ()=>[(0,lf aX sa0),(1,.cfn f_g f_c),(7,i6 (sa0.length:Int)),(8,i6 (j1:Int))]) (λj1=>λ()=>[]) ?_ ?_ ?_
 ·exact qW
 ·rintro j1 e1 Z1 ⟨⟩ hj1 hx1 hm
  rw[hB1]at hm
  refine qDs [] [] [(9,.bool (decide ((j1:Int)<(sa0.length:Int))))]<|A.seq<|qT (ltT hx1)<|A.skip<|A.seq<|A.block<|qDs [] [9] [(5,i6 (j1:Int))] ?_
  obtain⟨ah,h1,hm⟩:=aa hm
  refine qDs [(3,hix (ix aX (bh hx1))),(5,hrf (f_f _ _ h1) f_k)] [] [(16,.bool ah)] ?_
  rcases az hm with⟨c1,hm⟩|⟨c1,hm⟩
  ·refine qT c1<|qS [] [(4,i6 (j1:Int))] [] ?_
   cases hm
   exact A.ret qE
  exact qF c1<|A.skip<|qGs [(0,hto (inc hx1 hb1))] [8,5,16] [(8,i6 ((j1+1:Nat):Int))]<|qX () hm
 rintro j1 ⟨⟩ hj1 hl1 hm
 rw[hK1]at hm
 refine qDs [] [] [(9,.bool (decide ((j1:Int)<(sa0.length:Int))))]<|A.seq<|qF (ltF hl1)<|A.exit<|qS [] [(4,i6 (-1))] [] ?_
 cases hm
 exact A.ret qE
theorem oE{sa0:List aV}{f:aV→Option Bool}(f_k:aT prog f_g)(f_f:∀(y0:aV) (q:Bool),f y0=some q→RO prog f_g [] ([.agg (k1 y0)]++f_c) (.bool q)){r:Int}(hm:eW sa0 f=some r):RO prog 164 [] [lf aC sa0,.cfn f_g f_c] (i6 r):=by
 refine aZ func164 rfl rfl ?_
 unfold eW at hm
 refine qS [] [(0,lf aC sa0),(1,.cfn f_g f_c)] []<|A.seq<|qDs [(1,hto (lnE aC sa0))] [] [(7,i6 (sa0.length:Int)),(8,i6 0)]<|A.block<|A.bS 0 rfl λhb1=>?_
 obtain⟨B1,K1,hB1,hK1,hm⟩:=bF hm
 refine A.lpI (l:=sa0) (j0:=0) (B:=B1) (K:=K1) hm (λj1=>λ()=>[(0,lf aC sa0),(1,.cfn f_g f_c),(7,i6 (sa0.length:Int)),(8,i6 (j1:Int))]) (λj1=>λ()=>[]) ?_ ?_ ?_
 ·exact qW
 ·rintro j1 e1 Z1 ⟨⟩ hj1 hx1 hm
  rw[hB1]at hm
  refine qDs [] [] [(9,.bool (decide ((j1:Int)<(sa0.length:Int))))]<|A.seq<|qT (ltT hx1)<|A.skip<|A.seq<|A.block<|qDs [] [9] [(5,i6 (j1:Int))] ?_
  obtain⟨ah,h1,hm⟩:=aa hm
  refine qDs [(3,hix (ix aC (bh hx1))),(5,hrf (f_f _ _ h1) f_k)] [] [(16,.bool ah)] ?_
  rcases az hm with⟨c1,hm⟩|⟨c1,hm⟩
  ·refine qT c1<|qS [] [(4,i6 (j1:Int))] [] ?_
   cases hm
   exact A.ret qE
  exact qF c1<|A.skip<|qGs [(0,hto (inc hx1 hb1))] [8,5,16] [(8,i6 ((j1+1:Nat):Int))]<|qX () hm
 rintro j1 ⟨⟩ hj1 hl1 hm
 rw[hK1]at hm
 refine qDs [] [] [(9,.bool (decide ((j1:Int)<(sa0.length:Int))))]<|A.seq<|qF (ltF hl1)<|A.exit<|qS [] [(4,i6 (-1))] [] ?_
 cases hm
 exact A.ret qE
theorem nC{sa0:List ai}{f:ai→Option Bool}(f_k:aT prog f_g)(f_f:∀(y0:ai) (q:Bool),f y0=some q→RO prog f_g [] ([.agg (k7 y0)]++f_c) (.bool q)){r:Int}(hm:ez sa0 f=some r):RO prog 165 [] [lf aQ sa0,.cfn f_g f_c] (i6 r):=by
 refine aZ func165 rfl rfl ?_
 unfold ez at hm
 refine qS [] [(0,lf aQ sa0),(1,.cfn f_g f_c)] []<|A.seq<|qDs [(1,hto (lnE aQ sa0))] [] [(7,i6 (sa0.length:Int)),(8,i6 0)]<|A.block<|A.bS 0 rfl λhb1=>?_
 obtain⟨B1,K1,hB1,hK1,hm⟩:=bF hm
 refine A.lpI (l:=sa0) (j0:=0) (B:=B1) (K:=K1) hm (λj1=>λ()=>[(0,lf aQ sa0),(1,.cfn f_g f_c),(7,i6 (sa0.length:Int)),(8,i6 (j1:Int))]) (λj1=>λ()=>[]) ?_ ?_ ?_
 ·exact qW
 ·rintro j1 e1 Z1 ⟨⟩ hj1 hx1 hm
  rw[hB1]at hm
  refine qDs [] [] [(9,.bool (decide ((j1:Int)<(sa0.length:Int))))]<|A.seq<|qT (ltT hx1)<|A.skip<|A.seq<|A.block<|qDs [] [9] [(5,i6 (j1:Int))] ?_
  obtain⟨ah,h1,hm⟩:=aa hm
  refine qDs [(3,hix (ix aQ (bh hx1))),(5,hrf (f_f _ _ h1) f_k)] [] [(16,.bool ah)] ?_
  rcases az hm with⟨c1,hm⟩|⟨c1,hm⟩
  ·refine qT c1<|qS [] [(4,i6 (j1:Int))] [] ?_
   cases hm
   exact A.ret qE
  exact qF c1<|A.skip<|qGs [(0,hto (inc hx1 hb1))] [8,5,16] [(8,i6 ((j1+1:Nat):Int))]<|qX () hm
 rintro j1 ⟨⟩ hj1 hl1 hm
 rw[hK1]at hm
 refine qDs [] [] [(9,.bool (decide ((j1:Int)<(sa0.length:Int))))]<|A.seq<|qF (ltF hl1)<|A.exit<|qS [] [(4,i6 (-1))] [] ?_
 cases hm
 exact A.ret qE
theorem nY{sa0:List gR}{f:gR→Option Bool}(f_k:aT prog f_g)(f_f:∀(y0:gR) (q:Bool),f y0=some q→RO prog f_g [] ([.agg (k11 y0)]++f_c) (.bool q)){r:Int}(hm:fZ sa0 f=some r):RO prog 170 [] [lf eR sa0,.cfn f_g f_c] (i6 r):=by
 refine aZ func170 rfl rfl ?_
 unfold fZ at hm
 refine qS [] [(0,lf eR sa0),(1,.cfn f_g f_c)] []<|A.seq<|qDs [(1,hto (lnE eR sa0))] [] [(7,i6 (sa0.length:Int)),(8,i6 0)]<|A.block<|A.bS 0 rfl λhb1=>?_
 obtain⟨B1,K1,hB1,hK1,hm⟩:=bF hm
 refine A.lpI (l:=sa0) (j0:=0) (B:=B1) (K:=K1) hm (λj1=>λ()=>[(0,lf eR sa0),(1,.cfn f_g f_c),(7,i6 (sa0.length:Int)),(8,i6 (j1:Int))]) (λj1=>λ()=>[]) ?_ ?_ ?_
 ·exact qW
 ·rintro j1 e1 Z1 ⟨⟩ hj1 hx1 hm
  rw[hB1]at hm
  refine qDs [] [] [(9,.bool (decide ((j1:Int)<(sa0.length:Int))))]<|A.seq<|qT (ltT hx1)<|A.skip<|A.seq<|A.block<|qDs [] [9] [(5,i6 (j1:Int))] ?_
  obtain⟨ah,h1,hm⟩:=aa hm
  refine qDs [(3,hix (ix eR (bh hx1))),(5,hrf (f_f _ _ h1) f_k)] [] [(16,.bool ah)] ?_
  rcases az hm with⟨c1,hm⟩|⟨c1,hm⟩
  ·refine qT c1<|qS [] [(4,i6 (j1:Int))] [] ?_
   cases hm
   exact A.ret qE
  exact qF c1<|A.skip<|qGs [(0,hto (inc hx1 hb1))] [8,5,16] [(8,i6 ((j1+1:Nat):Int))]<|qX () hm
 rintro j1 ⟨⟩ hj1 hl1 hm
 rw[hK1]at hm
 refine qDs [] [] [(9,.bool (decide ((j1:Int)<(sa0.length:Int))))]<|A.seq<|qF (ltF hl1)<|A.exit<|qS [] [(4,i6 (-1))] [] ?_
 cases hm
 exact A.ret qE
theorem j7{xa0:List ai}{cmp:ai→Int→Option Int}(rG:aT prog jZ)(rH:∀(y0:ai) (y1:Int) (q:Int),cmp y0 y1=some q→RO prog jZ [] ([.agg (k7 y0),i6 y1]++mh) (i6 q)){r:Int×Bool}(hm:cO xa0 target cmp=some r):RO prog 174 [] [lf aQ xa0,i6 target,.cfn jZ mh] (.tup [i6 r.1,.bool r.2]):=by
 refine aZ func174 rfl rfl ?_
 unfold cO at hm
 refine qS [] [(0,lf aQ xa0),(1,i6 target),(2,.cfn jZ mh)] []<|qDs [(1,hto (lnE aQ xa0))] [] [(8,i6 (xa0.length:Int))]<|qDs [] [] [(9,i6 0),(10,i6 (xa0.length:Int))]<|A.seq<|A.block ?_
 obtain⟨F1,n1,hF1,hm⟩:=ji hm
 refine A.lpW (F:=F1) hm (λ(i_1,j_1)=>[(0,lf aQ xa0),(1,i6 target),(2,.cfn jZ mh),(8,i6 (xa0.length:Int)),(9,i6 i_1),(10,i6 j_1)]) (λ(i_1,j_1)=>[]) ?_ ?_
 ·exact qW
 rintro Z1 ⟨i_1,j_1⟩ hm
 rw[hF1]at hm
 refine A.seq<|qDs [] [] [(17,.bool (decide (i_1<j_1)))] ?_
 rcases az hm with⟨c1,hm⟩|⟨c1,hm⟩
 ·refine qT c1<|A.skip<|A.block<|qDs [(4,.sh (1:Int) (by decide))] [17] [(11,i6 (w64 (Int.fdiv (IntKind.wrap .u64 (w64 (i_1+j_1))) (2 ^ min (1:Int).toNat 64))))] ?_
  obtain⟨e_1,h1,hm⟩:=aa hm
  obtain⟨ah,h2,hm⟩:=aa hm
  refine qDs [(3,hix (ix aQ h1)),(6,hrf (rH _ _ _ h2) rG)] [] [(31,.bool (decide (ah<0)))] ?_
  rcases az hm with⟨c2,hm⟩|⟨c2,hm⟩
  ·exact qT c2<|qGs [] [9,11,31] [(9,i6 (w64 ((w64 (Int.fdiv (IntKind.wrap .u64 (w64 (i_1+j_1))) (2 ^ min (1:Int).toNat 64)))+(1:Int))))]<|qX (w64 ((w64 (Int.fdiv (IntKind.wrap .u64 (w64 (i_1+j_1))) (2 ^ min (1:Int).toNat 64)))+(1:Int)),j_1) hm
  exact qF c2<|qGs [] [10,11,31] [(10,i6 (w64 (Int.fdiv (IntKind.wrap .u64 (w64 (i_1+j_1))) (2 ^ min (1:Int).toNat 64))))]<|qX (i_1,w64 (Int.fdiv (IntKind.wrap .u64 (w64 (i_1+j_1))) (2 ^ min (1:Int).toNat 64))) hm
 refine qF c1<|A.exit ?_
 rcases az hm with⟨c3,hm⟩|⟨c3,hm⟩
 ·obtain⟨e_2,h3,hm⟩:=aa hm
  obtain⟨aD,h4,hm⟩:=aa hm
  refine qS [(4,hto (bE c3)),(8,hix (ix aQ h3)),(11,hrf (rH _ _ _ h4) rG)] [(6,i6 i_1),(7,.bool (decide (aD=0)))] [] ?_
  cases hm
  exact A.ret qE
 refine qS [(4,hto (bE c3))] [(6,i6 i_1),(7,.bool false)] [] ?_
 cases hm
 exact A.ret qE
theorem gM{v:Int}(hm:ei sa0 v=some r):RO prog 117 [] [lf bK sa0,i6 v] (.bool r):=by
 refine aZ func117 rfl rfl ?_
 unfold ei at hm
 refine qS [] [(0,lf bK sa0),(1,i6 v)] [] ?_
 obtain⟨ah,h1,hm⟩:=aa hm
 refine qS [(2,hro (uO h1) as7)] [(4,.bool (decide (0≤ah)))] [] ?_
 cases hm
 exact A.ret qE
theorem mo{sa0:List bf}(f_k:aT prog f_g)(f_f:∀(y0:bf) (q:Bool),f y0=some q→RO prog f_g [] ([.agg (k0 y0)]++f_c) (.bool q))(hm:dw sa0 f=some r):RO prog 124 [] [lf aX sa0,.cfn f_g f_c] (.bool r):=by
 refine aZ func124 rfl rfl ?_
 unfold dw at hm
 refine qS [] [(0,lf aX sa0),(1,.cfn f_g f_c)] [] ?_
 obtain⟨ah,h1,hm⟩:=aa hm
 refine qS [(2,hro (nB (f_k:=f_k) (f_f:=f_f) h1) as8)] [(4,.bool (decide (0≤ah)))] [] ?_
 cases hm
 exact A.ret qE
theorem fB{sa0:List aV}{f:aV→Option Bool}(f_k:aT prog f_g)(f_f:∀(y0:aV) (q:Bool),f y0=some q→RO prog f_g [] ([.agg (k1 y0)]++f_c) (.bool q))(hm:cH sa0 f=some r):RO prog 130 [] [lf aC sa0,.cfn f_g f_c] (.bool r):=by
 refine aZ func130 rfl rfl ?_
 unfold cH at hm
 refine qS [] [(0,lf aC sa0),(1,.cfn f_g f_c)] [] ?_
 obtain⟨ah,h1,hm⟩:=aa hm
 refine qS [(2,hro (oE (f_k:=f_k) (f_f:=f_f) h1) as9)] [(4,.bool (decide (0≤ah)))] [] ?_
 cases hm
 exact A.ret qE
theorem mq{sa0:List ai}{f:ai→Option Bool}(f_k:aT prog f_g)(f_f:∀(y0:ai) (q:Bool),f y0=some q→RO prog f_g [] ([.agg (k7 y0)]++f_c) (.bool q))(hm:dx sa0 f=some r):RO prog 137 [] [lf aQ sa0,.cfn f_g f_c] (.bool r):=by
 refine aZ func137 rfl rfl ?_
 unfold dx at hm
 refine qS [] [(0,lf aQ sa0),(1,.cfn f_g f_c)] [] ?_
 obtain⟨ah,h1,hm⟩:=aa hm
 refine qS [(2,hro (nC (f_k:=f_k) (f_f:=f_f) h1) ata)] [(4,.bool (decide (0≤ah)))] [] ?_
 cases hm
 exact A.ret qE
theorem mU{sa0:List gR}{f:gR→Option Bool}(f_k:aT prog f_g)(f_f:∀(y0:gR) (q:Bool),f y0=some q→RO prog f_g [] ([.agg (k11 y0)]++f_c) (.bool q))(hm:fG sa0 f=some r):RO prog 145 [] [lf eR sa0,.cfn f_g f_c] (.bool r):=by
 refine aZ func145 rfl rfl ?_
 unfold fG at hm
 refine qS [] [(0,lf eR sa0),(1,.cfn f_g f_c)] [] ?_
 obtain⟨ah,h1,hm⟩:=aa hm
 refine qS [(2,hro (nY (f_k:=f_k) (f_f:=f_f) h1) atc)] [(4,.bool (decide (0≤ah)))] [] ?_
 cases hm
 exact A.ret qE
theorem iQ{n:Int}{least:Int}{most:Int}(hm:jA n least most=some r):RO prog 126 [] [i6 n,i6 least,i6 most] (.bool r):=by
 refine aZ func126 rfl rfl ?_
 unfold jA at hm
 refine qS [] [(0,i6 n),(1,i6 least),(2,i6 most)] []<|A.mid [(6,.bool ((decide (least≤n))&&(decide (n≤most))))] [] (λhk=>?_) ?_
 ·rcases tf (decide (least≤n))with c1|c1
  ·exact qS [(3,hto (bE c1)),(8,hto (rO (q:=decide (n≤most)) c1))] _ _ hk
  exact qS [(3,hto (bE c1)),(8,hto (sM (q:=decide (n≤most)) c1))] _ _ hk
 cases hm
 exact A.ret qE
theorem r9{a:aV}{b:aV}{r:Int}(hm:iS a b=some r):RO prog 134 [] [.agg (k1 a),.agg (k1 b)] (i6 r):=by
 refine aZ func134 rfl rfl ?_
 unfold iS at hm
 refine qS [(0,.al 134002),(1,.al 134003)] [(2,.ptr 134002 0),(3,.ptr 134003 0)] [(134002,.cells 86 (k1 a)),(134003,.cells 86 (k1 b))] ?_
 obtain⟨ah,h1,hm⟩:=aa hm
 obtain⟨aD,h2,hm⟩:=aa hm
 obtain⟨aP,h3,hm⟩:=aa hm
 refine qS [(4,hro (ij h1) aac),(9,hro (ij h2) aac),(11,hro (wF h3) akB)] [(4,i6 aP)] [] ?_
 cases hm
 exact A.ret qE
variable {id:Int}{ra0:bf}
theorem uq{r:Int}(hm:kR ra0 id=some r):RO prog 129 [] [.agg (k0 ra0),i6 id] (i6 r):=by
 refine aZ func129 rfl rfl ?_
 unfold kR at hm
 refine qS [(0,.al 129002)] [(1,i6 id),(2,.ptr 129002 0)] [(129002,.cells 93 (k0 ra0))] ?_
 obtain⟨ah,h1,hm⟩:=aa hm
 refine qS [(3,hro (ij h1) aac)] [(4,i6 ah)] [] ?_
 cases hm
 exact A.ret qE
theorem xh(hm:mR ra0=some r):RO prog 125 [] [.agg (k0 ra0)] (.bool r):=by
 refine aZ func125 rfl rfl ?_
 unfold mR at hm
 refine qS [(0,.al 125001)] [(1,.ptr 125001 0)] [(125001,.cells 93 (k0 ra0))] ?_
 obtain⟨ah,h1,hm⟩:=aa hm
 refine qS [(2,hro (iQ h1) ya)] [(2,.bool (!ah))] [] ?_
 cases hm
 exact A.ret qE
variable {l:aV}
theorem xk(hm:ko l=some r):RO prog 131 [] [.agg (k1 l)] (.bool r):=by
 refine aZ func131 rfl rfl ?_
 unfold ko at hm
 refine qS [(0,.al 131001)] [(1,.ptr 131001 0)] [(131001,.cells 86 (k1 l))] ?_
 obtain⟨ah,h1,hm⟩:=aa hm
 rcases az hm with⟨c1,hm⟩|⟨c1,hm⟩
 ·refine qS [(2,hro (iQ h1) ya),(4,hto (bE c1))] [(2,.bool true)] [] ?_
  cases hm
  exact A.ret qE
 obtain⟨aD,h2,hm⟩:=aa hm
 rcases az hm with⟨c2,hm⟩|⟨c2,hm⟩
 ·refine qS [(2,hro (iQ h1) ya),(4,hto (bE c1)),(7,hro (iQ h2) ya),(10,hto (bE c2))] [(2,.bool true)] [] ?_
  cases hm
  exact A.ret qE
 obtain⟨aP,h3,hm⟩:=aa hm
 refine qS [(2,hro (iQ h1) ya),(4,hto (bE c1)),(7,hro (iQ h2) ya),(10,hto (bE c2)),(13,hro (iQ h3) ya)] [(2,.bool (!aP))] [] ?_
 cases hm
 exact A.ret qE
variable {c_0:aB}
theorem nZ(hm:iT id c_0=some r):RO prog 127 [] [i6 id,.dZ (k2 c_0)] (.bool r):=by
 refine aZ func127 rfl rfl ?_
 unfold iT at hm
 refine qS [] [(0,i6 id),(1,.dZ (k2 c_0))] [] ?_
 obtain⟨ah,h1,hm⟩:=aa hm
 refine qS [(3,hro (fL (jZ:=129) (mh:=[]) (rG:=akz) (rH:=λ_ _ _ h=>uq h) h1) aky)] [(5,.bool ah.2)] []<|qS [] [(3,.bool (!ah.2))] [] ?_
 cases hm
 exact A.ret qE
theorem xm(hm:mS l c_0=some r):RO prog 132 [] [.agg (k1 l),.dZ [.fn 127 [.dZ (k2 c_0)]]] (.bool r):=by
 refine aZ func132 rfl rfl ?_
 unfold mS at hm
 refine qS [(0,.al 132002)] [(1,.dZ [.fn 127 [.dZ (k2 c_0)]]),(2,.ptr 132002 0)] [(132002,.cells 86 (k1 l))] ?_
 obtain⟨ah,h1,hm⟩:=aa hm
 rcases az hm with⟨c1,hm⟩|⟨c1,hm⟩
 ·refine qS [(3,hle [] (nZ h1) agE),(4,hto (bE c1))] [(3,.bool true)] [] ?_
  cases hm
  exact A.ret qE
 obtain⟨aD,h2,hm⟩:=aa hm
 refine qS [(3,hle [] (nZ h1) agE),(4,hto (bE c1)),(8,hle [] (nZ h2) agE)] [(3,.bool aD)] [] ?_
 cases hm
 exact A.ret qE
theorem xo(hm:mT l=some r):RO prog 133 [] [.agg (k1 l)] (.bool r):=by
 refine aZ func133 rfl rfl ?_
 unfold mT at hm
 refine qS [(0,.al 133001)] [(1,.ptr 133001 0)] [(133001,.cells 86 (k1 l))]<|qS [] [(2,.bool (decide (l.B≤l.A)))] [] ?_
 cases hm
 exact A.ret qE
variable {t:aB}
theorem jI{r:Int}(hm:gT t=some r):RO prog 84 [] [.agg (k2 t)] (i6 r):=by
 refine aZ func84 rfl rfl ?_
 unfold gT at hm
 refine qS [(0,.al 84001)] [(1,.ptr 84001 0)] [(84001,.cells 45 (k2 t))]<|A.seq<|A.block<|A.mid [(1,.ptr 84001 0),(6,.bool ((decide (24<(t.aI.length:Int)))||(decide (60<(t.Links.length:Int)))))] [(84001,.cells 45 (k2 t))] (λhk=>?_) ?_
 ·rcases tf (decide (24<(t.aI.length:Int)))with c1|c1
  ·exact qS [(2,hto (lnE aX t.aI)),(4,hto (bE c1)),(10,hto (orT (q:=decide (60<(t.Links.length:Int))) c1))] _ _ hk
  exact qS [(2,hto (lnE aX t.aI)),(4,hto (bE c1)),(7,hto (lnE aC t.Links)),(10,hto (orF (q:=decide (60<(t.Links.length:Int))) c1))] _ _ hk
 rcases az hm with⟨c2,hm⟩|⟨c2,hm⟩
 ·refine qT c2<|qS [] [(2,i6 3)] [] ?_
  cases hm
  exact A.ret qE
 refine qF c2 ?_
 obtain⟨ah,h1,hm⟩:=aa hm
 refine qDs [(2,hro (mo (f_g:=125) (f_c:=[]) (f_k:=asQ) (f_f:=λ_ _ h=>xh h) h1) asP)] [6] [(17,.bool ah)] ?_
 rcases az hm with⟨c3,hm⟩|⟨c3,hm⟩
 ·refine qT c3<|qS [] [(2,i6 2)] [] ?_
  cases hm
  exact A.ret qE
 refine qF c3<|A.skip<|A.seq<|qDs [(2,hto (lnE aX t.aI))] [17] [(23,i6 (t.aI.length:Int)),(24,i6 0)]<|A.block<|A.bC 1 0 rfl rfl rfl λhb1=>?_
 obtain⟨B1,K1,hB1,hK1,hm⟩:=bF hm
 refine A.lpI (l:=t.aI) (j0:=0) (B:=B1) (K:=K1) hm (λj1=>λ()=>[(1,.ptr 84001 0),(23,i6 (t.aI.length:Int)),(24,i6 (j1:Int))]) (λj1=>λ()=>[(84001,.cells 45 (k2 t))]) ?_ ?_ ?_
 ·exact qW
 ·rintro j1 e1 Z1 ⟨⟩ hj1 hx1 hm
  rw[hB1]at hm
  refine qDs [] [] [(25,.bool (decide ((j1:Int)<(t.aI.length:Int))))]<|A.seq<|qT (ltT hx1)<|A.skip<|A.seq<|A.block<|qDs [] [25] [(3,i6 (j1:Int))] ?_
  obtain⟨J1,hJ1,hm⟩:=bQ hm
  refine A.J (J:=J1) (r:=r) (λv_1=>[(1,.ptr 84001 0),(23,i6 (t.aI.length:Int)),(24,i6 (j1:Int)),(44,.bool v_1)]) (λv_1=>[(84001,.cells 45 (k2 t))]) ?_ ?_
  ·rcases az hm with⟨c4,hm⟩|⟨c4,hm⟩
   ·obtain⟨e_1,h2,hm⟩:=aa hm
    exact qGs [(2,hto (bE c4)),(7,hix (ix aX h2)),(13,hix (ix aX (bh hx1)))] [3] [(44,.bool (decide (e1.ID≤e_1.ID)))]<|qX (decide (e1.ID≤e_1.ID)) hm
   exact qGs [(2,hto (bE c4))] [3] [(44,.bool false)]<|qX false hm
  rintro v_1 hm
  rw[hJ1]at hm
  rcases az hm with⟨c5,hm⟩|⟨c5,hm⟩
  ·refine qT c5<|qS [] [(2,i6 25)] [] ?_
   cases hm
   exact A.ret qE
  exact qF c5<|A.skip<|qGs [(0,hto (inc hx1 hb1))] [24,44] [(24,i6 ((j1+1:Nat):Int))]<|qX () hm
 rintro j1 ⟨⟩ hj1 hl1 hm
 rw[hK1]at hm
 refine qDs [] [] [(25,.bool (decide ((j1:Int)<(t.aI.length:Int))))]<|A.seq<|qF (ltF hl1)<|A.exit<|qD [(1,.al 84004)] [23,24,25] [(4,.ptr 84004 0)] [] [(84004,.cells 84 [.fn 127 [.ptr 84001 0]])]<|A.seq<|A.block ?_
 obtain⟨aD,h3,hm⟩:=aa hm
 refine qDs [(2,hro (fB (f_g:=131) (f_c:=[]) (f_k:=asR) (f_f:=λ_ _ h=>xk h) h3) agF)] [] [(47,.bool aD)] ?_
 rcases az hm with⟨c6,hm⟩|⟨c6,hm⟩
 ·refine qT c6<|qS [] [(2,i6 2)] [] ?_
  cases hm
  exact A.ret qE
 refine qF c6 ?_
 obtain⟨aP,h4,hm⟩:=aa hm
 refine qD [(3,hle [84004,84001] (fB (f_g:=132) (f_c:=[.dZ [.fn 127 [.dZ (k2 t)]]]) (f_k:=asS) (f_f:=λ_ _ h=>xm h) h4) agF)] [4,47] [(51,.bool aP)] [84004] [] ?_
 rcases az hm with⟨c7,hm⟩|⟨c7,hm⟩
 ·refine qT c7<|qS [] [(2,i6 4)] [] ?_
  cases hm
  exact A.ret qE
 refine qF c7 ?_
 obtain⟨bt,h5,hm⟩:=aa hm
 refine qDs [(2,hro (fB (f_g:=133) (f_c:=[]) (f_k:=asT) (f_f:=λ_ _ h=>xo h) h5) agF)] [51] [(56,.bool bt)] ?_
 rcases az hm with⟨c8,hm⟩|⟨c8,hm⟩
 ·refine qT c8<|qS [] [(2,i6 8)] [] ?_
  cases hm
  exact A.ret qE
 refine qF c8<|A.skip<|A.seq<|qDs [(2,hto (lnE aC t.Links))] [56] [(62,i6 (t.Links.length:Int)),(63,i6 0)]<|A.block<|A.bC 1 1 rfl rfl rfl λhb2=>?_
 obtain⟨B2,K2,hB2,hK2,hm⟩:=bF hm
 refine A.lpI (l:=t.Links) (j0:=0) (B:=B2) (K:=K2) hm (λj2=>λ()=>[(1,.ptr 84001 0),(62,i6 (t.Links.length:Int)),(63,i6 (j2:Int))]) (λj2=>λ()=>[(84001,.cells 45 (k2 t))]) ?_ ?_ ?_
 ·exact qW
 ·rintro j2 e2 Z2 ⟨⟩ hj2 hx2 hm
  rw[hB2]at hm
  refine qDs [] [] [(64,.bool (decide ((j2:Int)<(t.Links.length:Int))))]<|A.seq<|qT (ltT hx2)<|A.skip<|A.seq<|A.block<|qDs [] [64] [(5,i6 (j2:Int))] ?_
  obtain⟨J2,hJ2,hm⟩:=bQ hm
  refine A.J (J:=J2) (r:=r) (λv_2=>[(1,.ptr 84001 0),(62,i6 (t.Links.length:Int)),(63,i6 (j2:Int)),(82,.bool v_2)]) (λv_2=>[(84001,.cells 45 (k2 t))]) ?_ ?_
  ·rcases az hm with⟨c9,hm⟩|⟨c9,hm⟩
   ·obtain⟨e_2,h6,hm⟩:=aa hm
    obtain⟨bL,h7,hm⟩:=aa hm
    exact qGs [(2,hto (bE c9)),(7,hix (ix aC h6)),(12,hix (ix aC (bh hx2))),(14,hro (r9 h7) akA)] [5] [(82,.bool (decide (0≤bL)))]<|qX (decide (0≤bL)) hm
   exact qGs [(2,hto (bE c9))] [5] [(82,.bool false)]<|qX false hm
  rintro v_2 hm
  rw[hJ2]at hm
  rcases az hm with⟨c10,hm⟩|⟨c10,hm⟩
  ·refine qT c10<|qS [] [(2,i6 25)] [] ?_
   cases hm
   exact A.ret qE
  exact qF c10<|A.skip<|qGs [(0,hto (inc hx2 hb2))] [63,82] [(63,i6 ((j2+1:Nat):Int))]<|qX () hm
 rintro j2 ⟨⟩ hj2 hl2 hm
 rw[hK2]at hm
 refine qDs [] [] [(64,.bool (decide ((j2:Int)<(t.Links.length:Int))))]<|A.seq<|qF (ltF hl2)<|A.exit<|qS [] [(2,i6 0)] [] ?_
 cases hm
 exact A.ret qE
theorem iH(hm:gU t=some r):RO prog 151 [] [.agg (k2 t)] (.bool r):=by
 refine aZ func151 rfl rfl ?_
 unfold gU at hm
 refine qS [(0,.al 151001)] [(1,.ptr 151001 0)] [(151001,.cells 45 (k2 t))] ?_
 obtain⟨ah,h1,hm⟩:=aa hm
 refine qS [(1,hro (jI h1) aep)] [(2,.bool (decide (ah=0)))] [] ?_
 cases hm
 exact A.ret qE
variable {aM:Int}
theorem ur{r:bf×Bool}(hm:kS t aM=some r):RO prog 158 [] [.agg (k2 t),i6 aM] (.tup [.agg (k0 r.1),.bool r.2]):=by
 refine aZ func158 rfl rfl ?_
 unfold kS at hm
 refine qS [(0,.al 158002),(1,.al 158004)] [(1,i6 aM),(2,.ptr 158002 0),(4,.ptr 158004 0)] [(158002,.cells 45 (k2 t)),(158004,.cells 93 [i6 0,.bool false])] ?_
 obtain⟨ah,h1,hm⟩:=aa hm
 refine qDs [(3,hro (fL (jZ:=129) (mh:=[]) (rG:=akz) (rH:=λ_ _ _ h=>uq h) h1) aky)] [1] [(6,i6 ah.1),(7,.bool ah.2)]<|A.seq<|qDs [] [7] [(16,.bool (!ah.2))] ?_
 rcases az hm with⟨c1,hm⟩|⟨c1,hm⟩
 ·refine qT c1<|qD [] [2,6,16] [(5,.bool false)] [158002] [] ?_
  cases hm
  exact A.ret qE
 refine qF c1<|A.skip ?_
 obtain⟨e_1,h2,hm⟩:=aa hm
 refine qS [(3,hix (ix aX h2))] [(4,.ptr 158004 0),(5,.bool true)] [(158004,.cells 93 (k0 e_1))] ?_
 cases hm
 exact A.ret qE
theorem iC(hm:iU t aM=some r):RO prog 116 [] [.agg (k2 t),i6 aM] (.bool r):=by
 refine aZ func116 rfl rfl ?_
 unfold iU at hm
 refine qS [(0,.al 116002)] [(1,i6 aM),(2,.ptr 116002 0)] [(116002,.cells 45 (k2 t))] ?_
 obtain⟨ah,h1,hm⟩:=aa hm
 refine qDs [(2,hro (ur h1) akD),(6,.al 116005)] [1] [(6,.bool ah.2)] ?_
 obtain⟨aD,h2,hm⟩:=aa hm
 rcases az hm with⟨c1,hm⟩|⟨c1,hm⟩
 ·refine qS [(1,hro (iH h2) aad),(2,hto (bE c1))] [(4,.bool ah.2)] [] ?_
  cases hm
  exact A.ret qE
 refine qS [(1,hro (iH h2) aad),(2,hto (bE c1))] [(4,.bool false)] [] ?_
 cases hm
 exact A.ret qE
theorem xq(hm:kr t aM=some r):RO prog 157 [] [.agg (k2 t),i6 aM] (.bool r):=by
 refine aZ func157 rfl rfl ?_
 unfold kr at hm
 refine qS [(0,.al 157002)] [(1,i6 aM),(2,.ptr 157002 0)] [(157002,.cells 45 (k2 t))] ?_
 obtain⟨ah,h1,hm⟩:=aa hm
 refine qD [(2,hro (ur h1) akD),(6,.al 157005)] [1] [(5,.ptr 157005 0)] [] [(157005,.cells 93 (k0 ah.1))] ?_
 obtain⟨aD,h2,hm⟩:=aa hm
 rcases az hm with⟨c1,hm⟩|⟨c1,hm⟩
 ·refine qS [(1,hro (iH h2) aad),(2,hto (bE c1))] [(4,.bool ah.1.aY)] [] ?_
  cases hm
  exact A.ret qE
 refine qS [(1,hro (iH h2) aad),(2,hto (bE c1))] [(4,.bool false)] [] ?_
 cases hm
 exact A.ret qE
theorem uu{eU:Int}{ki:Int}{r:Int×Bool}(hm:jo t eU ki=some r):RO prog 102 [] [.agg (k2 t),i6 eU,i6 ki] (.tup [i6 r.1,.bool r.2]):=by
 refine aZ func102 rfl rfl ?_
 unfold jo at hm
 refine qS [(0,.al 102003)] [(1,i6 eU),(2,i6 ki),(3,.ptr 102003 0)] [(102003,.cells 45 (k2 t))]<|A.seq ?_
 obtain⟨ah,h1,hm⟩:=aa hm
 refine qDs [(1,hro (iH h1) aad)] [] [(12,.bool (!ah))] ?_
 rcases az hm with⟨c1,hm⟩|⟨c1,hm⟩
 ·refine qT c1<|qS [] [(6,i6 0),(7,.bool false)] [] ?_
  cases hm
  exact A.ret qE
 refine qF c1<|A.skip ?_
 obtain⟨aD,h2,hm⟩:=aa hm
 refine qDs [(9,hro (jS (jZ:=134) (mh:=[]) (rG:=akA) (rH:=λ_ _ _ h=>r9 h) h2) as4)] [12] [(8,i6 aD.1),(9,.bool aD.2)]<|A.seq<|A.block<|qDs [] [9] [(26,.bool (!aD.2))] ?_
 rcases az hm with⟨c2,hm⟩|⟨c2,hm⟩
 ·refine qT c2<|qS [] [(6,i6 0),(7,.bool false)] [] ?_
  cases hm
  exact A.ret qE
 refine qF c2<|qDs [] [1,2,26] [(29,.bool (decide (eU<ki)))] ?_
 rcases az hm with⟨c3,hm⟩|⟨c3,hm⟩
 ·refine qT c3 ?_
  obtain⟨e_1,h3,hm⟩:=aa hm
  refine qS [(3,hix (ix aC h3))] [(6,i6 e_1.lK),(7,.bool true)] [] ?_
  cases hm
  exact A.ret qE
 refine qF c3<|A.skip ?_
 obtain⟨e_2,h4,hm⟩:=aa hm
 refine qS [(3,hix (ix aC h4))] [(6,i6 e_2.kP),(7,.bool true)] [] ?_
 cases hm
 exact A.ret qE
end Go.Proofs.YtjdopimopgpagaaGreat
