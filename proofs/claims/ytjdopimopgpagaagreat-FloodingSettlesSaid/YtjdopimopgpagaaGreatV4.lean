/- The eD of cw of the program. No condition but bK bu stand in each. -/
import Derived.Test.YtjdopimopgpagaaGreatDA
namespace Go.Proofs.YtjdopimopgpagaaGreat
open Go Go.Proofs.Tryz
set_option maxRecDepth 100000
set_option linter.all false
variable {r:Bool}{xa0:Int}
theorem uc(hm:mA xa0=some r):RO prog 171 [] [i6 xa0] (.bool r):=by
 refine aY func171 rfl rfl ?_
 unfold mA at hm
 refine qS [] [(0,i6 xa0)] []<|qS [] [(2,.bool (!decide (xa0=xa0)))] [] ?_
 cases hm
 exact A.ret qE
theorem gR{y:Int}{r:Int}(hm:ez xa0 y=some r):RO prog 148 [] [i6 xa0,i6 y] (i6 r):=by
 refine aY func148 rfl rfl ?_
 unfold ez at hm
 refine qS [] [(0,i6 xa0),(1,i6 y)] [] ?_
 obtain⟨ah,h1,hm⟩:=aa hm
 refine qDs [(1,hro (uc h1) akk)] [] [(5,.bool ah)] ?_
 obtain⟨aD,h2,hm⟩:=aa hm
 refine qDs [(1,hro (uc h2) akk)] [] [(6,.bool aD)]<|A.seq<|qDs [] [5] [(11,.bool ah)] ?_
 rcases aq hm with⟨c1,hm⟩|⟨c1,hm⟩
 ·refine qT c1<|A.seq<|qS [] [(12,.bool aD)] [] ?_
  rcases aq hm with⟨c2,hm⟩|⟨c2,hm⟩
  ·refine qT c2<|qS [] [(4,i6 0)] [] ?_
   cases hm
   exact A.ret qE
  refine qF c2<|A.skip<|qS [] [(4,i6 (-1))] [] ?_
  cases hm
  exact A.ret qE
 refine qF c1<|A.skip<|A.seq<|qDs [] [6,11] [(13,.bool aD)] ?_
 rcases aq hm with⟨c3,hm⟩|⟨c3,hm⟩
 ·refine qT c3<|qS [] [(4,i6 1)] [] ?_
  cases hm
  exact A.ret qE
 refine qF c3<|A.skip<|A.seq<|qDs [] [13] [(16,.bool (decide (xa0<y)))] ?_
 rcases aq hm with⟨c4,hm⟩|⟨c4,hm⟩
 ·refine qT c4<|qS [] [(4,i6 (-1))] [] ?_
  cases hm
  exact A.ret qE
 refine qF c4<|A.skip<|A.seq<|qS [] [(19,.bool (decide (y<xa0)))] [] ?_
 rcases aq hm with⟨c5,hm⟩|⟨c5,hm⟩
 ·refine qT c5<|qS [] [(4,i6 1)] [] ?_
  cases hm
  exact A.ret qE
 refine qF c5<|A.skip<|qS [] [(4,i6 0)] [] ?_
 cases hm
 exact A.ret qE
theorem wm{vals:List Int}{r:Int}(hm:nE vals=some r):RO prog 147 [] [lf bg vals] (i6 r):=by
 refine aY func147 rfl rfl ?_
 unfold nE at hm
 refine qS [] [(0,lf bg vals)] []<|qDs [] [] [(3,i6 0)]<|A.seq<|qDs [(1,hto (lnE bg vals))] [0] [(6,lf bg vals),(7,i6 (vals.length:Int)),(8,i6 0)]<|A.block<|A.bS 6 rfl λhb1=>?_
 obtain⟨B1,K1,hB1,hK1,hm⟩:=bw hm
 refine A.lpI (l:=vals) (j0:=0) (B:=B1) (K:=K1) hm (λj1=>λ()=>[(3,i6 0),(6,lf bg vals),(7,i6 (vals.length:Int)),(8,i6 (j1:Int))]) (λj1=>λ()=>[]) ?_ ?_ ?_
 ·exact qW
 ·rintro j1 e1 Z1 ⟨⟩ hj1 hx1 hm
  rw[hB1]at hm
  refine qDs [] [] [(9,.bool (decide ((j1:Int)<(vals.length:Int))))]<|A.seq<|qT (ltT hx1)<|A.skip<|A.seq<|A.block<|qDs [(0,hix (ix bg (aV hx1)))] [9] [(5,i6 e1)]<|qDs [] [] [(14,.bool (!decide (e1=0)))] ?_
  rcases aq hm with⟨c1,hm⟩|⟨c1,hm⟩
  ·refine qT c1<|qS [] [(2,i6 e1)] [] ?_
   cases hm
   exact A.ret qE
  exact qF c1<|A.skip<|qGs [(0,hto (inc hx1 hb1))] [8,5,14] [(8,i6 ((j1+1:Nat):Int))]<|qX () hm
 rintro j1 ⟨⟩ hj1 hl1 hm
 rw[hK1]at hm
 refine qDs [] [] [(9,.bool (decide ((j1:Int)<(vals.length:Int))))]<|A.seq<|qF (ltF hl1)<|A.exit<|qS [] [(2,i6 0)] [] ?_
 cases hm
 exact A.ret qE
variable {jU:Nat}{lS:List AV}{target:Int}
theorem fu{xa0:List aU}{cmp:aU→Int→Option Int}(rj:aR prog jU)(rq:∀(y0:aU) (y1:Int) (q:Int),cmp y0 y1=some q→RO prog jU [] ([.agg (k0 y0),i6 y1]++lS) (i6 q)){r:Int×Bool}(hm:cu xa0 target cmp=some r):RO prog 128 [] [lf aP xa0,i6 target,.cfn jU lS] (.tup [i6 r.1,.bool r.2]):=by
 refine aY func128 rfl rfl ?_
 unfold cu at hm
 refine qS [] [(0,lf aP xa0),(1,i6 target),(2,.cfn jU lS)] []<|qDs [(1,hto (lnE aP xa0))] [] [(8,i6 (xa0.length:Int))]<|qDs [] [] [(9,i6 0),(10,i6 (xa0.length:Int))]<|A.seq<|A.block ?_
 obtain⟨F1,n1,hF1,hm⟩:=gZ hm
 refine A.lpW (F:=F1) hm (λ(i_1,j_1)=>[(0,lf aP xa0),(1,i6 target),(2,.cfn jU lS),(8,i6 (xa0.length:Int)),(9,i6 i_1),(10,i6 j_1)]) (λ(i_1,j_1)=>[]) ?_ ?_
 ·exact qW
 rintro Z1 ⟨i_1,j_1⟩ hm
 rw[hF1]at hm
 refine A.seq<|qDs [] [] [(17,.bool (decide (i_1<j_1)))] ?_
 rcases aq hm with⟨c1,hm⟩|⟨c1,hm⟩
 ·refine qT c1<|A.skip<|A.block<|qDs [(4,.sh (1:Int) (by decide))] [17] [(11,i6 (w64 (Int.fdiv (IntKind.wrap .u64 (w64 (i_1+j_1))) (2 ^ min (1:Int).toNat 64))))] ?_
  obtain⟨e_1,h1,hm⟩:=aa hm
  obtain⟨ah,h2,hm⟩:=aa hm
  refine qDs [(3,hix (ix aP h1)),(6,hrf (rq _ _ _ h2) rj)] [] [(31,.bool (decide (ah<0)))] ?_
  rcases aq hm with⟨c2,hm⟩|⟨c2,hm⟩
  ·exact qT c2<|qGs [] [9,11,31] [(9,i6 (w64 ((w64 (Int.fdiv (IntKind.wrap .u64 (w64 (i_1+j_1))) (2 ^ min (1:Int).toNat 64)))+(1:Int))))]<|qX (w64 ((w64 (Int.fdiv (IntKind.wrap .u64 (w64 (i_1+j_1))) (2 ^ min (1:Int).toNat 64)))+(1:Int)),j_1) hm
  exact qF c2<|qGs [] [10,11,31] [(10,i6 (w64 (Int.fdiv (IntKind.wrap .u64 (w64 (i_1+j_1))) (2 ^ min (1:Int).toNat 64))))]<|qX (i_1,w64 (Int.fdiv (IntKind.wrap .u64 (w64 (i_1+j_1))) (2 ^ min (1:Int).toNat 64))) hm
 refine qF c1<|A.exit ?_
 rcases aq hm with⟨c3,hm⟩|⟨c3,hm⟩
 ·obtain⟨e_2,h3,hm⟩:=aa hm
  obtain⟨aD,h4,hm⟩:=aa hm
  refine qS [(4,hto (bE c3)),(8,hix (ix aP h3)),(11,hrf (rq _ _ _ h4) rj)] [(6,i6 i_1),(7,.bool (decide (aD=0)))] [] ?_
  cases hm
  exact A.ret qE
 refine qS [(4,hto (bE c3))] [(6,i6 i_1),(7,.bool false)] [] ?_
 cases hm
 exact A.ret qE
variable {f_c:List AV}{f_g:Nat}
theorem nY{sa0:List aT}{f:aT→Option Bool}(f_k:aR prog f_g)(f_f:∀(y0:aT) (q:Bool),f y0=some q→RO prog f_g [] ([.agg (k9 y0)]++f_c) (.bool q)){r:Int}(hm:eE sa0 f=some r):RO prog 139 [] [lf aO sa0,.cfn f_g f_c] (i6 r):=by
 refine aY func139 rfl rfl ?_
 unfold eE at hm
 refine qS [] [(0,lf aO sa0),(1,.cfn f_g f_c)] []<|A.seq<|qDs [(1,hto (lnE aO sa0))] [] [(7,i6 (sa0.length:Int)),(8,i6 0)]<|A.block<|A.bS 0 rfl λhb1=>?_
 obtain⟨B1,K1,hB1,hK1,hm⟩:=bw hm
 refine A.lpI (l:=sa0) (j0:=0) (B:=B1) (K:=K1) hm (λj1=>λ()=>[(0,lf aO sa0),(1,.cfn f_g f_c),(7,i6 (sa0.length:Int)),(8,i6 (j1:Int))]) (λj1=>λ()=>[]) ?_ ?_ ?_
 ·exact qW
 ·rintro j1 e1 Z1 ⟨⟩ hj1 hx1 hm
  rw[hB1]at hm
  refine qDs [] [] [(9,.bool (decide ((j1:Int)<(sa0.length:Int))))]<|A.seq<|qT (ltT hx1)<|A.skip<|A.seq<|A.block<|qDs [] [9] [(5,i6 (j1:Int))] ?_
  obtain⟨ah,h1,hm⟩:=aa hm
  refine qDs [(3,hix (ix aO (aV hx1))),(5,hrf (f_f _ _ h1) f_k)] [] [(16,.bool ah)] ?_
  rcases aq hm with⟨c1,hm⟩|⟨c1,hm⟩
  ·refine qT c1<|qS [] [(4,i6 (j1:Int))] [] ?_
   cases hm
   exact A.ret qE
  exact qF c1<|A.skip<|qGs [(0,hto (inc hx1 hb1))] [8,5,16] [(8,i6 ((j1+1:Nat):Int))]<|qX () hm
 rintro j1 ⟨⟩ hj1 hl1 hm
 rw[hK1]at hm
 refine qDs [] [] [(9,.bool (decide ((j1:Int)<(sa0.length:Int))))]<|A.seq<|qF (ltF hl1)<|A.exit<|qS [] [(4,i6 (-1))] [] ?_
 cases hm
 exact A.ret qE
theorem jI{xa0:List aS}{target:aS}{cmp:aS→aS→Option Int}(rj:aR prog jU)(rq:∀(y0:aS) (y1:aS) (q:Int),cmp y0 y1=some q→RO prog jU [] ([.agg (k1 y0),.agg (k1 y1)]++lS) (i6 q)){r:Int×Bool}(hm:cH xa0 target cmp=some r):RO prog 152 [] [lf aC xa0,.agg (k1 target),.cfn jU lS] (.tup [i6 r.1,.bool r.2]):=by
 refine aY func152 rfl rfl ?_
 unfold cH at hm
 refine qS [(0,.al 152004)] [(0,lf aC xa0),(2,.cfn jU lS),(4,.ptr 152004 0)] [(152004,.cells 86 (k1 target))]<|qDs [(1,hto (lnE aC xa0))] [] [(8,i6 (xa0.length:Int))]<|qDs [] [] [(9,i6 0),(10,i6 (xa0.length:Int))]<|A.seq<|A.block ?_
 obtain⟨F1,n1,hF1,hm⟩:=gZ hm
 refine A.lpW (F:=F1) hm (λ(i_1,j_1)=>[(0,lf aC xa0),(2,.cfn jU lS),(4,.ptr 152004 0),(8,i6 (xa0.length:Int)),(9,i6 i_1),(10,i6 j_1)]) (λ(i_1,j_1)=>[(152004,.cells 86 (k1 target))]) ?_ ?_
 ·exact qW
 rintro Z1 ⟨i_1,j_1⟩ hm
 rw[hF1]at hm
 refine A.seq<|qDs [] [] [(17,.bool (decide (i_1<j_1)))] ?_
 rcases aq hm with⟨c1,hm⟩|⟨c1,hm⟩
 ·refine qT c1<|A.skip<|A.block<|qDs [(4,.sh (1:Int) (by decide))] [17] [(11,i6 (w64 (Int.fdiv (IntKind.wrap .u64 (w64 (i_1+j_1))) (2 ^ min (1:Int).toNat 64))))] ?_
  obtain⟨e_1,h1,hm⟩:=aa hm
  obtain⟨ah,h2,hm⟩:=aa hm
  refine qDs [(3,hix (ix aC h1)),(6,hrf (rq _ _ _ h2) rj)] [] [(31,.bool (decide (ah<0)))] ?_
  rcases aq hm with⟨c2,hm⟩|⟨c2,hm⟩
  ·exact qT c2<|qGs [] [9,11,31] [(9,i6 (w64 ((w64 (Int.fdiv (IntKind.wrap .u64 (w64 (i_1+j_1))) (2 ^ min (1:Int).toNat 64)))+(1:Int))))]<|qX (w64 ((w64 (Int.fdiv (IntKind.wrap .u64 (w64 (i_1+j_1))) (2 ^ min (1:Int).toNat 64)))+(1:Int)),j_1) hm
  exact qF c2<|qGs [] [10,11,31] [(10,i6 (w64 (Int.fdiv (IntKind.wrap .u64 (w64 (i_1+j_1))) (2 ^ min (1:Int).toNat 64))))]<|qX (i_1,w64 (Int.fdiv (IntKind.wrap .u64 (w64 (i_1+j_1))) (2 ^ min (1:Int).toNat 64))) hm
 refine qF c1<|A.exit ?_
 rcases aq hm with⟨c3,hm⟩|⟨c3,hm⟩
 ·obtain⟨e_2,h3,hm⟩:=aa hm
  obtain⟨aD,h4,hm⟩:=aa hm
  refine qS [(4,hto (bE c3)),(8,hix (ix aC h3)),(11,hrf (rq _ _ _ h4) rj)] [(6,i6 i_1),(7,.bool (decide (aD=0)))] [] ?_
  cases hm
  exact A.ret qE
 refine qS [(4,hto (bE c3))] [(6,i6 i_1),(7,.bool false)] [] ?_
 cases hm
 exact A.ret qE
variable {sa0:List Int}
theorem uA{v:Int}{r:Int}(hm:jm sa0 v=some r):RO prog 159 [] [lf bg sa0,i6 v] (i6 r):=by
 refine aY func159 rfl rfl ?_
 unfold jm at hm
 refine qS [] [(0,lf bg sa0),(1,i6 v)] []<|A.seq<|qDs [(1,hto (lnE bg sa0))] [] [(7,i6 (sa0.length:Int)),(8,i6 0)]<|A.block<|A.bS 0 rfl λhb1=>?_
 obtain⟨B1,K1,hB1,hK1,hm⟩:=bw hm
 refine A.lpI (l:=sa0) (j0:=0) (B:=B1) (K:=K1) hm (λj1=>λ()=>[(0,lf bg sa0),(1,i6 v),(7,i6 (sa0.length:Int)),(8,i6 (j1:Int))]) (λj1=>λ()=>[]) ?_ ?_ ?_
 ·exact qW
 ·rintro j1 e1 Z1 ⟨⟩ hj1 hx1 hm
  rw[hB1]at hm
  refine qDs [] [] [(9,.bool (decide ((j1:Int)<(sa0.length:Int))))]<|A.seq<|qT (ltT hx1)<|A.skip<|A.seq<|A.block<|qDs [] [9] [(5,i6 (j1:Int))]<|qDs [(3,hix (ix bg (aV hx1)))] [] [(16,.bool (decide (v=e1)))] ?_
  rcases aq hm with⟨c1,hm⟩|⟨c1,hm⟩
  ·refine qT c1<|qS [] [(4,i6 (j1:Int))] [] ?_
   cases hm
   exact A.ret qE
  exact qF c1<|A.skip<|qGs [(0,hto (inc hx1 hb1))] [8,5,16] [(8,i6 ((j1+1:Nat):Int))]<|qX () hm
 rintro j1 ⟨⟩ hj1 hl1 hm
 rw[hK1]at hm
 refine qDs [] [] [(9,.bool (decide ((j1:Int)<(sa0.length:Int))))]<|A.seq<|qF (ltF hl1)<|A.exit<|qS [] [(4,i6 (-1))] [] ?_
 cases hm
 exact A.ret qE
variable {f:aU→Option Bool}
theorem mR{sa0:List aU}(f_k:aR prog f_g)(f_f:∀(y0:aU) (q:Bool),f y0=some q→RO prog f_g [] ([.agg (k0 y0)]++f_c) (.bool q)){r:Int}(hm:dX sa0 f=some r):RO prog 163 [] [lf aP sa0,.cfn f_g f_c] (i6 r):=by
 refine aY func163 rfl rfl ?_
 unfold dX at hm
 refine qS [] [(0,lf aP sa0),(1,.cfn f_g f_c)] []<|A.seq<|qDs [(1,hto (lnE aP sa0))] [] [(7,i6 (sa0.length:Int)),(8,i6 0)]<|A.block<|A.bS 0 rfl λhb1=>?_
 obtain⟨B1,K1,hB1,hK1,hm⟩:=bw hm
 refine A.lpI (l:=sa0) (j0:=0) (B:=B1) (K:=K1) hm (λj1=>λ()=>[(0,lf aP sa0),(1,.cfn f_g f_c),(7,i6 (sa0.length:Int)),(8,i6 (j1:Int))]) (λj1=>λ()=>[]) ?_ ?_ ?_
 ·exact qW
 ·rintro j1 e1 Z1 ⟨⟩ hj1 hx1 hm
  rw[hB1]at hm
  refine qDs [] [] [(9,.bool (decide ((j1:Int)<(sa0.length:Int))))]<|A.seq<|qT (ltT hx1)<|A.skip<|A.seq<|A.block<|qDs [] [9] [(5,i6 (j1:Int))] ?_
  obtain⟨ah,h1,hm⟩:=aa hm
  refine qDs [(3,hix (ix aP (aV hx1))),(5,hrf (f_f _ _ h1) f_k)] [] [(16,.bool ah)] ?_
  rcases aq hm with⟨c1,hm⟩|⟨c1,hm⟩
  ·refine qT c1<|qS [] [(4,i6 (j1:Int))] [] ?_
   cases hm
   exact A.ret qE
  exact qF c1<|A.skip<|qGs [(0,hto (inc hx1 hb1))] [8,5,16] [(8,i6 ((j1+1:Nat):Int))]<|qX () hm
 rintro j1 ⟨⟩ hj1 hl1 hm
 rw[hK1]at hm
 refine qDs [] [] [(9,.bool (decide ((j1:Int)<(sa0.length:Int))))]<|A.seq<|qF (ltF hl1)<|A.exit<|qS [] [(4,i6 (-1))] [] ?_
 cases hm
 exact A.ret qE
theorem nZ{sa0:List aS}{f:aS→Option Bool}(f_k:aR prog f_g)(f_f:∀(y0:aS) (q:Bool),f y0=some q→RO prog f_g [] ([.agg (k1 y0)]++f_c) (.bool q)){r:Int}(hm:eF sa0 f=some r):RO prog 164 [] [lf aC sa0,.cfn f_g f_c] (i6 r):=by
 refine aY func164 rfl rfl ?_
 unfold eF at hm
 refine qS [] [(0,lf aC sa0),(1,.cfn f_g f_c)] []<|A.seq<|qDs [(1,hto (lnE aC sa0))] [] [(7,i6 (sa0.length:Int)),(8,i6 0)]<|A.block<|A.bS 0 rfl λhb1=>?_
 obtain⟨B1,K1,hB1,hK1,hm⟩:=bw hm
 refine A.lpI (l:=sa0) (j0:=0) (B:=B1) (K:=K1) hm (λj1=>λ()=>[(0,lf aC sa0),(1,.cfn f_g f_c),(7,i6 (sa0.length:Int)),(8,i6 (j1:Int))]) (λj1=>λ()=>[]) ?_ ?_ ?_
 ·exact qW
 ·rintro j1 e1 Z1 ⟨⟩ hj1 hx1 hm
  rw[hB1]at hm
  refine qDs [] [] [(9,.bool (decide ((j1:Int)<(sa0.length:Int))))]<|A.seq<|qT (ltT hx1)<|A.skip<|A.seq<|A.block<|qDs [] [9] [(5,i6 (j1:Int))] ?_
  obtain⟨ah,h1,hm⟩:=aa hm
  refine qDs [(3,hix (ix aC (aV hx1))),(5,hrf (f_f _ _ h1) f_k)] [] [(16,.bool ah)] ?_
  rcases aq hm with⟨c1,hm⟩|⟨c1,hm⟩
  ·refine qT c1<|qS [] [(4,i6 (j1:Int))] [] ?_
   cases hm
   exact A.ret qE
  exact qF c1<|A.skip<|qGs [(0,hto (inc hx1 hb1))] [8,5,16] [(8,i6 ((j1+1:Nat):Int))]<|qX () hm
 rintro j1 ⟨⟩ hj1 hl1 hm
 rw[hK1]at hm
 refine qDs [] [] [(9,.bool (decide ((j1:Int)<(sa0.length:Int))))]<|A.seq<|qF (ltF hl1)<|A.exit<|qS [] [(4,i6 (-1))] [] ?_
 cases hm
 exact A.ret qE
theorem mS{sa0:List ai}{f:ai→Option Bool}(f_k:aR prog f_g)(f_f:∀(y0:ai) (q:Bool),f y0=some q→RO prog f_g [] ([.agg (k7 y0)]++f_c) (.bool q)){r:Int}(hm:dY sa0 f=some r):RO prog 165 [] [lf aL sa0,.cfn f_g f_c] (i6 r):=by
 refine aY func165 rfl rfl ?_
 unfold dY at hm
 refine qS [] [(0,lf aL sa0),(1,.cfn f_g f_c)] []<|A.seq<|qDs [(1,hto (lnE aL sa0))] [] [(7,i6 (sa0.length:Int)),(8,i6 0)]<|A.block<|A.bS 0 rfl λhb1=>?_
 obtain⟨B1,K1,hB1,hK1,hm⟩:=bw hm
 refine A.lpI (l:=sa0) (j0:=0) (B:=B1) (K:=K1) hm (λj1=>λ()=>[(0,lf aL sa0),(1,.cfn f_g f_c),(7,i6 (sa0.length:Int)),(8,i6 (j1:Int))]) (λj1=>λ()=>[]) ?_ ?_ ?_
 ·exact qW
 ·rintro j1 e1 Z1 ⟨⟩ hj1 hx1 hm
  rw[hB1]at hm
  refine qDs [] [] [(9,.bool (decide ((j1:Int)<(sa0.length:Int))))]<|A.seq<|qT (ltT hx1)<|A.skip<|A.seq<|A.block<|qDs [] [9] [(5,i6 (j1:Int))] ?_
  obtain⟨ah,h1,hm⟩:=aa hm
  refine qDs [(3,hix (ix aL (aV hx1))),(5,hrf (f_f _ _ h1) f_k)] [] [(16,.bool ah)] ?_
  rcases aq hm with⟨c1,hm⟩|⟨c1,hm⟩
  ·refine qT c1<|qS [] [(4,i6 (j1:Int))] [] ?_
   cases hm
   exact A.ret qE
  exact qF c1<|A.skip<|qGs [(0,hto (inc hx1 hb1))] [8,5,16] [(8,i6 ((j1+1:Nat):Int))]<|qX () hm
 rintro j1 ⟨⟩ hj1 hl1 hm
 rw[hK1]at hm
 refine qDs [] [] [(9,.bool (decide ((j1:Int)<(sa0.length:Int))))]<|A.seq<|qF (ltF hl1)<|A.exit<|qS [] [(4,i6 (-1))] [] ?_
 cases hm
 exact A.ret qE
theorem nF{sa0:List gB}{f:gB→Option Bool}(f_k:aR prog f_g)(f_f:∀(y0:gB) (q:Bool),f y0=some q→RO prog f_g [] ([.agg (k11 y0)]++f_c) (.bool q)){r:Int}(hm:fO sa0 f=some r):RO prog 170 [] [lf ew sa0,.cfn f_g f_c] (i6 r):=by
 refine aY func170 rfl rfl ?_
 unfold fO at hm
 refine qS [] [(0,lf ew sa0),(1,.cfn f_g f_c)] []<|A.seq<|qDs [(1,hto (lnE ew sa0))] [] [(7,i6 (sa0.length:Int)),(8,i6 0)]<|A.block<|A.bS 0 rfl λhb1=>?_
 obtain⟨B1,K1,hB1,hK1,hm⟩:=bw hm
 refine A.lpI (l:=sa0) (j0:=0) (B:=B1) (K:=K1) hm (λj1=>λ()=>[(0,lf ew sa0),(1,.cfn f_g f_c),(7,i6 (sa0.length:Int)),(8,i6 (j1:Int))]) (λj1=>λ()=>[]) ?_ ?_ ?_
 ·exact qW
 ·rintro j1 e1 Z1 ⟨⟩ hj1 hx1 hm
  rw[hB1]at hm
  refine qDs [] [] [(9,.bool (decide ((j1:Int)<(sa0.length:Int))))]<|A.seq<|qT (ltT hx1)<|A.skip<|A.seq<|A.block<|qDs [] [9] [(5,i6 (j1:Int))] ?_
  obtain⟨ah,h1,hm⟩:=aa hm
  refine qDs [(3,hix (ix ew (aV hx1))),(5,hrf (f_f _ _ h1) f_k)] [] [(16,.bool ah)] ?_
  rcases aq hm with⟨c1,hm⟩|⟨c1,hm⟩
  ·refine qT c1<|qS [] [(4,i6 (j1:Int))] [] ?_
   cases hm
   exact A.ret qE
  exact qF c1<|A.skip<|qGs [(0,hto (inc hx1 hb1))] [8,5,16] [(8,i6 ((j1+1:Nat):Int))]<|qX () hm
 rintro j1 ⟨⟩ hj1 hl1 hm
 rw[hK1]at hm
 refine qDs [] [] [(9,.bool (decide ((j1:Int)<(sa0.length:Int))))]<|A.seq<|qF (ltF hl1)<|A.exit<|qS [] [(4,i6 (-1))] [] ?_
 cases hm
 exact A.ret qE
theorem jV{xa0:List ai}{cmp:ai→Int→Option Int}(rj:aR prog jU)(rq:∀(y0:ai) (y1:Int) (q:Int),cmp y0 y1=some q→RO prog jU [] ([.agg (k7 y0),i6 y1]++lS) (i6 q)){r:Int×Bool}(hm:cM xa0 target cmp=some r):RO prog 174 [] [lf aL xa0,i6 target,.cfn jU lS] (.tup [i6 r.1,.bool r.2]):=by
 refine aY func174 rfl rfl ?_
 unfold cM at hm
 refine qS [] [(0,lf aL xa0),(1,i6 target),(2,.cfn jU lS)] []<|qDs [(1,hto (lnE aL xa0))] [] [(8,i6 (xa0.length:Int))]<|qDs [] [] [(9,i6 0),(10,i6 (xa0.length:Int))]<|A.seq<|A.block ?_
 obtain⟨F1,n1,hF1,hm⟩:=gZ hm
 refine A.lpW (F:=F1) hm (λ(i_1,j_1)=>[(0,lf aL xa0),(1,i6 target),(2,.cfn jU lS),(8,i6 (xa0.length:Int)),(9,i6 i_1),(10,i6 j_1)]) (λ(i_1,j_1)=>[]) ?_ ?_
 ·exact qW
 rintro Z1 ⟨i_1,j_1⟩ hm
 rw[hF1]at hm
 refine A.seq<|qDs [] [] [(17,.bool (decide (i_1<j_1)))] ?_
 rcases aq hm with⟨c1,hm⟩|⟨c1,hm⟩
 ·refine qT c1<|A.skip<|A.block<|qDs [(4,.sh (1:Int) (by decide))] [17] [(11,i6 (w64 (Int.fdiv (IntKind.wrap .u64 (w64 (i_1+j_1))) (2 ^ min (1:Int).toNat 64))))] ?_
  obtain⟨e_1,h1,hm⟩:=aa hm
  obtain⟨ah,h2,hm⟩:=aa hm
  refine qDs [(3,hix (ix aL h1)),(6,hrf (rq _ _ _ h2) rj)] [] [(31,.bool (decide (ah<0)))] ?_
  rcases aq hm with⟨c2,hm⟩|⟨c2,hm⟩
  ·exact qT c2<|qGs [] [9,11,31] [(9,i6 (w64 ((w64 (Int.fdiv (IntKind.wrap .u64 (w64 (i_1+j_1))) (2 ^ min (1:Int).toNat 64)))+(1:Int))))]<|qX (w64 ((w64 (Int.fdiv (IntKind.wrap .u64 (w64 (i_1+j_1))) (2 ^ min (1:Int).toNat 64)))+(1:Int)),j_1) hm
  exact qF c2<|qGs [] [10,11,31] [(10,i6 (w64 (Int.fdiv (IntKind.wrap .u64 (w64 (i_1+j_1))) (2 ^ min (1:Int).toNat 64))))]<|qX (i_1,w64 (Int.fdiv (IntKind.wrap .u64 (w64 (i_1+j_1))) (2 ^ min (1:Int).toNat 64))) hm
 refine qF c1<|A.exit ?_
 rcases aq hm with⟨c3,hm⟩|⟨c3,hm⟩
 ·obtain⟨e_2,h3,hm⟩:=aa hm
  obtain⟨aD,h4,hm⟩:=aa hm
  refine qS [(4,hto (bE c3)),(8,hix (ix aL h3)),(11,hrf (rq _ _ _ h4) rj)] [(6,i6 i_1),(7,.bool (decide (aD=0)))] [] ?_
  cases hm
  exact A.ret qE
 refine qS [(4,hto (bE c3))] [(6,i6 i_1),(7,.bool false)] [] ?_
 cases hm
 exact A.ret qE
theorem gx{v:Int}(hm:dV sa0 v=some r):RO prog 117 [] [lf bg sa0,i6 v] (.bool r):=by
 refine aY func117 rfl rfl ?_
 unfold dV at hm
 refine qS [] [(0,lf bg sa0),(1,i6 v)] [] ?_
 obtain⟨ah,h1,hm⟩:=aa hm
 refine qS [(2,hro (uA h1) asI)] [(4,.bool (decide (0≤ah)))] [] ?_
 cases hm
 exact A.ret qE
theorem lU{sa0:List aU}(f_k:aR prog f_g)(f_f:∀(y0:aU) (q:Bool),f y0=some q→RO prog f_g [] ([.agg (k0 y0)]++f_c) (.bool q))(hm:dw sa0 f=some r):RO prog 124 [] [lf aP sa0,.cfn f_g f_c] (.bool r):=by
 refine aY func124 rfl rfl ?_
 unfold dw at hm
 refine qS [] [(0,lf aP sa0),(1,.cfn f_g f_c)] [] ?_
 obtain⟨ah,h1,hm⟩:=aa hm
 refine qS [(2,hro (mR (f_k:=f_k) (f_f:=f_f) h1) asJ)] [(4,.bool (decide (0≤ah)))] [] ?_
 cases hm
 exact A.ret qE
theorem fc{sa0:List aS}{f:aS→Option Bool}(f_k:aR prog f_g)(f_f:∀(y0:aS) (q:Bool),f y0=some q→RO prog f_g [] ([.agg (k1 y0)]++f_c) (.bool q))(hm:cE sa0 f=some r):RO prog 130 [] [lf aC sa0,.cfn f_g f_c] (.bool r):=by
 refine aY func130 rfl rfl ?_
 unfold cE at hm
 refine qS [] [(0,lf aC sa0),(1,.cfn f_g f_c)] [] ?_
 obtain⟨ah,h1,hm⟩:=aa hm
 refine qS [(2,hro (nZ (f_k:=f_k) (f_f:=f_f) h1) asK)] [(4,.bool (decide (0≤ah)))] [] ?_
 cases hm
 exact A.ret qE
theorem lV{sa0:List ai}{f:ai→Option Bool}(f_k:aR prog f_g)(f_f:∀(y0:ai) (q:Bool),f y0=some q→RO prog f_g [] ([.agg (k7 y0)]++f_c) (.bool q))(hm:dx sa0 f=some r):RO prog 137 [] [lf aL sa0,.cfn f_g f_c] (.bool r):=by
 refine aY func137 rfl rfl ?_
 unfold dx at hm
 refine qS [] [(0,lf aL sa0),(1,.cfn f_g f_c)] [] ?_
 obtain⟨ah,h1,hm⟩:=aa hm
 refine qS [(2,hro (mS (f_k:=f_k) (f_f:=f_f) h1) asL)] [(4,.bool (decide (0≤ah)))] [] ?_
 cases hm
 exact A.ret qE
theorem mE{sa0:List gB}{f:gB→Option Bool}(f_k:aR prog f_g)(f_f:∀(y0:gB) (q:Bool),f y0=some q→RO prog f_g [] ([.agg (k11 y0)]++f_c) (.bool q))(hm:fm sa0 f=some r):RO prog 145 [] [lf ew sa0,.cfn f_g f_c] (.bool r):=by
 refine aY func145 rfl rfl ?_
 unfold fm at hm
 refine qS [] [(0,lf ew sa0),(1,.cfn f_g f_c)] [] ?_
 obtain⟨ah,h1,hm⟩:=aa hm
 refine qS [(2,hro (nF (f_k:=f_k) (f_f:=f_f) h1) asN)] [(4,.bool (decide (0≤ah)))] [] ?_
 cases hm
 exact A.ret qE
theorem iE{n:Int}{least:Int}{most:Int}(hm:je n least most=some r):RO prog 126 [] [i6 n,i6 least,i6 most] (.bool r):=by
 refine aY func126 rfl rfl ?_
 unfold je at hm
 refine qS [] [(0,i6 n),(1,i6 least),(2,i6 most)] []<|A.mid [(6,.bool ((decide (least≤n))&&(decide (n≤most))))] [] (λhk=>?_) ?_
 ·rcases tf (decide (least≤n))with c1|c1
  ·exact qS [(3,hto (bE c1)),(8,hto (qs (q:=decide (n≤most)) c1))] _ _ hk
  exact qS [(3,hto (bE c1)),(8,hto (rE (q:=decide (n≤most)) c1))] _ _ hk
 cases hm
 exact A.ret qE
theorem rT{a:aS}{b:aS}{r:Int}(hm:iH a b=some r):RO prog 134 [] [.agg (k1 a),.agg (k1 b)] (i6 r):=by
 refine aY func134 rfl rfl ?_
 unfold iH at hm
 refine qS [(0,.al 134002),(1,.al 134003)] [(2,.ptr 134002 0),(3,.ptr 134003 0)] [(134002,.cells 86 (k1 a)),(134003,.cells 86 (k1 b))] ?_
 obtain⟨ah,h1,hm⟩:=aa hm
 obtain⟨aD,h2,hm⟩:=aa hm
 obtain⟨aN,h3,hm⟩:=aa hm
 refine qS [(4,hro (gR h1) zO),(9,hro (gR h2) zO),(11,hro (wm h3) akc)] [(4,i6 aN)] [] ?_
 cases hm
 exact A.ret qE
variable {id:Int}{ra0:aU}
theorem ud{r:Int}(hm:kI ra0 id=some r):RO prog 129 [] [.agg (k0 ra0),i6 id] (i6 r):=by
 refine aY func129 rfl rfl ?_
 unfold kI at hm
 refine qS [(0,.al 129002)] [(1,i6 id),(2,.ptr 129002 0)] [(129002,.cells 93 (k0 ra0))] ?_
 obtain⟨ah,h1,hm⟩:=aa hm
 refine qS [(3,hro (gR h1) zO)] [(4,i6 ah)] [] ?_
 cases hm
 exact A.ret qE
theorem wY(hm:mB ra0=some r):RO prog 125 [] [.agg (k0 ra0)] (.bool r):=by
 refine aY func125 rfl rfl ?_
 unfold mB at hm
 refine qS [(0,.al 125001)] [(1,.ptr 125001 0)] [(125001,.cells 93 (k0 ra0))] ?_
 obtain⟨ah,h1,hm⟩:=aa hm
 refine qS [(2,hro (iE h1) xP)] [(2,.bool (!ah))] [] ?_
 cases hm
 exact A.ret qE
variable {l:aS}
theorem wZ(hm:j9 l=some r):RO prog 131 [] [.agg (k1 l)] (.bool r):=by
 refine aY func131 rfl rfl ?_
 unfold j9 at hm
 refine qS [(0,.al 131001)] [(1,.ptr 131001 0)] [(131001,.cells 86 (k1 l))] ?_
 obtain⟨ah,h1,hm⟩:=aa hm
 rcases aq hm with⟨c1,hm⟩|⟨c1,hm⟩
 ·refine qS [(2,hro (iE h1) xP),(4,hto (bE c1))] [(2,.bool true)] [] ?_
  cases hm
  exact A.ret qE
 obtain⟨aD,h2,hm⟩:=aa hm
 rcases aq hm with⟨c2,hm⟩|⟨c2,hm⟩
 ·refine qS [(2,hro (iE h1) xP),(4,hto (bE c1)),(7,hro (iE h2) xP),(10,hto (bE c2))] [(2,.bool true)] [] ?_
  cases hm
  exact A.ret qE
 obtain⟨aN,h3,hm⟩:=aa hm
 refine qS [(2,hro (iE h1) xP),(4,hto (bE c1)),(7,hro (iE h2) xP),(10,hto (bE c2)),(13,hro (iE h3) xP)] [(2,.bool (!aN))] [] ?_
 cases hm
 exact A.ret qE
variable {c_0:az}
theorem nG(hm:iI id c_0=some r):RO prog 127 [] [i6 id,.dZ (k2 c_0)] (.bool r):=by
 refine aY func127 rfl rfl ?_
 unfold iI at hm
 refine qS [] [(0,i6 id),(1,.dZ (k2 c_0))] [] ?_
 obtain⟨ah,h1,hm⟩:=aa hm
 refine qS [(3,hro (fu (jU:=129) (lS:=[]) (rj:=aka) (rq:=λ_ _ _ h=>ud h) h1) aj9)] [(5,.bool ah.2)] []<|qS [] [(3,.bool (!ah.2))] [] ?_
 cases hm
 exact A.ret qE
theorem w5(hm:mC l c_0=some r):RO prog 132 [] [.agg (k1 l),.dZ [.fn 127 [.dZ (k2 c_0)]]] (.bool r):=by
 refine aY func132 rfl rfl ?_
 unfold mC at hm
 refine qS [(0,.al 132002)] [(1,.dZ [.fn 127 [.dZ (k2 c_0)]]),(2,.ptr 132002 0)] [(132002,.cells 86 (k1 l))] ?_
 obtain⟨ah,h1,hm⟩:=aa hm
 rcases aq hm with⟨c1,hm⟩|⟨c1,hm⟩
 ·refine qS [(3,hle [] (nG h1) agj),(4,hto (bE c1))] [(3,.bool true)] [] ?_
  cases hm
  exact A.ret qE
 obtain⟨aD,h2,hm⟩:=aa hm
 refine qS [(3,hle [] (nG h1) agj),(4,hto (bE c1)),(8,hle [] (nG h2) agj)] [(3,.bool aD)] [] ?_
 cases hm
 exact A.ret qE
theorem w6(hm:mD l=some r):RO prog 133 [] [.agg (k1 l)] (.bool r):=by
 refine aY func133 rfl rfl ?_
 unfold mD at hm
 refine qS [(0,.al 133001)] [(1,.ptr 133001 0)] [(133001,.cells 86 (k1 l))]<|qS [] [(2,.bool (decide (l.B≤l.A)))] [] ?_
 cases hm
 exact A.ret qE
variable {t:az}
theorem jr{r:Int}(hm:gD t=some r):RO prog 84 [] [.agg (k2 t)] (i6 r):=by
 refine aY func84 rfl rfl ?_
 unfold gD at hm
 refine qS [(0,.al 84001)] [(1,.ptr 84001 0)] [(84001,.cells 45 (k2 t))]<|A.seq<|A.block<|A.mid [(1,.ptr 84001 0),(6,.bool ((decide (24<(t.aG.length:Int)))||(decide (60<(t.Links.length:Int)))))] [(84001,.cells 45 (k2 t))] (λhk=>?_) ?_
 ·rcases tf (decide (24<(t.aG.length:Int)))with c1|c1
  ·exact qS [(2,hto (lnE aP t.aG)),(4,hto (bE c1)),(10,hto (orT (q:=decide (60<(t.Links.length:Int))) c1))] _ _ hk
  exact qS [(2,hto (lnE aP t.aG)),(4,hto (bE c1)),(7,hto (lnE aC t.Links)),(10,hto (orF (q:=decide (60<(t.Links.length:Int))) c1))] _ _ hk
 rcases aq hm with⟨c2,hm⟩|⟨c2,hm⟩
 ·refine qT c2<|qS [] [(2,i6 3)] [] ?_
  cases hm
  exact A.ret qE
 refine qF c2 ?_
 obtain⟨ah,h1,hm⟩:=aa hm
 refine qDs [(2,hro (lU (f_g:=125) (f_c:=[]) (f_k:=ass) (f_f:=λ_ _ h=>wY h) h1) asr)] [6] [(17,.bool ah)] ?_
 rcases aq hm with⟨c3,hm⟩|⟨c3,hm⟩
 ·refine qT c3<|qS [] [(2,i6 2)] [] ?_
  cases hm
  exact A.ret qE
 refine qF c3<|A.skip<|A.seq<|qDs [(2,hto (lnE aP t.aG))] [17] [(23,i6 (t.aG.length:Int)),(24,i6 0)]<|A.block<|A.bC 1 0 rfl rfl rfl λhb1=>?_
 obtain⟨B1,K1,hB1,hK1,hm⟩:=bw hm
 refine A.lpI (l:=t.aG) (j0:=0) (B:=B1) (K:=K1) hm (λj1=>λ()=>[(1,.ptr 84001 0),(23,i6 (t.aG.length:Int)),(24,i6 (j1:Int))]) (λj1=>λ()=>[(84001,.cells 45 (k2 t))]) ?_ ?_ ?_
 ·exact qW
 ·rintro j1 e1 Z1 ⟨⟩ hj1 hx1 hm
  rw[hB1]at hm
  refine qDs [] [] [(25,.bool (decide ((j1:Int)<(t.aG.length:Int))))]<|A.seq<|qT (ltT hx1)<|A.skip<|A.seq<|A.block<|qDs [] [25] [(3,i6 (j1:Int))] ?_
  obtain⟨J1,hJ1,hm⟩:=bN hm
  refine A.J (J:=J1) (r:=r) (λv_1=>[(1,.ptr 84001 0),(23,i6 (t.aG.length:Int)),(24,i6 (j1:Int)),(44,.bool v_1)]) (λv_1=>[(84001,.cells 45 (k2 t))]) ?_ ?_
  ·rcases aq hm with⟨c4,hm⟩|⟨c4,hm⟩
   ·obtain⟨e_1,h2,hm⟩:=aa hm
    exact qGs [(2,hto (bE c4)),(7,hix (ix aP h2)),(13,hix (ix aP (aV hx1)))] [3] [(44,.bool (decide (e1.ID≤e_1.ID)))]<|qX (decide (e1.ID≤e_1.ID)) hm
   exact qGs [(2,hto (bE c4))] [3] [(44,.bool false)]<|qX false hm
  rintro v_1 hm
  rw[hJ1]at hm
  rcases aq hm with⟨c5,hm⟩|⟨c5,hm⟩
  ·refine qT c5<|qS [] [(2,i6 25)] [] ?_
   cases hm
   exact A.ret qE
  exact qF c5<|A.skip<|qGs [(0,hto (inc hx1 hb1))] [24,44] [(24,i6 ((j1+1:Nat):Int))]<|qX () hm
 rintro j1 ⟨⟩ hj1 hl1 hm
 rw[hK1]at hm
 refine qDs [] [] [(25,.bool (decide ((j1:Int)<(t.aG.length:Int))))]<|A.seq<|qF (ltF hl1)<|A.exit<|qD [(1,.al 84004)] [23,24,25] [(4,.ptr 84004 0)] [] [(84004,.cells 84 [.fn 127 [.ptr 84001 0]])]<|A.seq<|A.block ?_
 obtain⟨aD,h3,hm⟩:=aa hm
 refine qDs [(2,hro (fc (f_g:=131) (f_c:=[]) (f_k:=ast) (f_f:=λ_ _ h=>wZ h) h3) agk)] [] [(47,.bool aD)] ?_
 rcases aq hm with⟨c6,hm⟩|⟨c6,hm⟩
 ·refine qT c6<|qS [] [(2,i6 2)] [] ?_
  cases hm
  exact A.ret qE
 refine qF c6 ?_
 obtain⟨aN,h4,hm⟩:=aa hm
 refine qD [(3,hle [84004,84001] (fc (f_g:=132) (f_c:=[.dZ [.fn 127 [.dZ (k2 t)]]]) (f_k:=asu) (f_f:=λ_ _ h=>w5 h) h4) agk)] [4,47] [(51,.bool aN)] [84004] [] ?_
 rcases aq hm with⟨c7,hm⟩|⟨c7,hm⟩
 ·refine qT c7<|qS [] [(2,i6 4)] [] ?_
  cases hm
  exact A.ret qE
 refine qF c7 ?_
 obtain⟨bt,h5,hm⟩:=aa hm
 refine qDs [(2,hro (fc (f_g:=133) (f_c:=[]) (f_k:=asv) (f_f:=λ_ _ h=>w6 h) h5) agk)] [51] [(56,.bool bt)] ?_
 rcases aq hm with⟨c8,hm⟩|⟨c8,hm⟩
 ·refine qT c8<|qS [] [(2,i6 8)] [] ?_
  cases hm
  exact A.ret qE
 refine qF c8<|A.skip<|A.seq<|qDs [(2,hto (lnE aC t.Links))] [56] [(62,i6 (t.Links.length:Int)),(63,i6 0)]<|A.block<|A.bC 1 1 rfl rfl rfl λhb2=>?_
 obtain⟨B2,K2,hB2,hK2,hm⟩:=bw hm
 refine A.lpI (l:=t.Links) (j0:=0) (B:=B2) (K:=K2) hm (λj2=>λ()=>[(1,.ptr 84001 0),(62,i6 (t.Links.length:Int)),(63,i6 (j2:Int))]) (λj2=>λ()=>[(84001,.cells 45 (k2 t))]) ?_ ?_ ?_
 ·exact qW
 ·rintro j2 e2 Z2 ⟨⟩ hj2 hx2 hm
  rw[hB2]at hm
  refine qDs [] [] [(64,.bool (decide ((j2:Int)<(t.Links.length:Int))))]<|A.seq<|qT (ltT hx2)<|A.skip<|A.seq<|A.block<|qDs [] [64] [(5,i6 (j2:Int))] ?_
  obtain⟨J2,hJ2,hm⟩:=bN hm
  refine A.J (J:=J2) (r:=r) (λv_2=>[(1,.ptr 84001 0),(62,i6 (t.Links.length:Int)),(63,i6 (j2:Int)),(82,.bool v_2)]) (λv_2=>[(84001,.cells 45 (k2 t))]) ?_ ?_
  ·rcases aq hm with⟨c9,hm⟩|⟨c9,hm⟩
   ·obtain⟨e_2,h6,hm⟩:=aa hm
    obtain⟨bL,h7,hm⟩:=aa hm
    exact qGs [(2,hto (bE c9)),(7,hix (ix aC h6)),(12,hix (ix aC (aV hx2))),(14,hro (rT h7) akb)] [5] [(82,.bool (decide (0≤bL)))]<|qX (decide (0≤bL)) hm
   exact qGs [(2,hto (bE c9))] [5] [(82,.bool false)]<|qX false hm
  rintro v_2 hm
  rw[hJ2]at hm
  rcases aq hm with⟨c10,hm⟩|⟨c10,hm⟩
  ·refine qT c10<|qS [] [(2,i6 25)] [] ?_
   cases hm
   exact A.ret qE
  exact qF c10<|A.skip<|qGs [(0,hto (inc hx2 hb2))] [63,82] [(63,i6 ((j2+1:Nat):Int))]<|qX () hm
 rintro j2 ⟨⟩ hj2 hl2 hm
 rw[hK2]at hm
 refine qDs [] [] [(64,.bool (decide ((j2:Int)<(t.Links.length:Int))))]<|A.seq<|qF (ltF hl2)<|A.exit<|qS [] [(2,i6 0)] [] ?_
 cases hm
 exact A.ret qE
theorem ir(hm:gE t=some r):RO prog 151 [] [.agg (k2 t)] (.bool r):=by
 refine aY func151 rfl rfl ?_
 unfold gE at hm
 refine qS [(0,.al 151001)] [(1,.ptr 151001 0)] [(151001,.cells 45 (k2 t))] ?_
 obtain⟨ah,h1,hm⟩:=aa hm
 refine qS [(1,hro (jr h1) ad3)] [(2,.bool (decide (ah=0)))] [] ?_
 cases hm
 exact A.ret qE
variable {aJ:Int}
theorem ue{r:aU×Bool}(hm:kJ t aJ=some r):RO prog 158 [] [.agg (k2 t),i6 aJ] (.tup [.agg (k0 r.1),.bool r.2]):=by
 refine aY func158 rfl rfl ?_
 unfold kJ at hm
 refine qS [(0,.al 158002),(1,.al 158004)] [(1,i6 aJ),(2,.ptr 158002 0),(4,.ptr 158004 0)] [(158002,.cells 45 (k2 t)),(158004,.cells 93 [i6 0,.bool false])] ?_
 obtain⟨ah,h1,hm⟩:=aa hm
 refine qDs [(3,hro (fu (jU:=129) (lS:=[]) (rj:=aka) (rq:=λ_ _ _ h=>ud h) h1) aj9)] [1] [(6,i6 ah.1),(7,.bool ah.2)]<|A.seq<|qDs [] [7] [(16,.bool (!ah.2))] ?_
 rcases aq hm with⟨c1,hm⟩|⟨c1,hm⟩
 ·refine qT c1<|qD [] [2,6,16] [(5,.bool false)] [158002] [] ?_
  cases hm
  exact A.ret qE
 refine qF c1<|A.skip ?_
 obtain⟨e_1,h2,hm⟩:=aa hm
 refine qS [(3,hix (ix aP h2))] [(4,.ptr 158004 0),(5,.bool true)] [(158004,.cells 93 (k0 e_1))] ?_
 cases hm
 exact A.ret qE
theorem ia(hm:iJ t aJ=some r):RO prog 116 [] [.agg (k2 t),i6 aJ] (.bool r):=by
 refine aY func116 rfl rfl ?_
 unfold iJ at hm
 refine qS [(0,.al 116002)] [(1,i6 aJ),(2,.ptr 116002 0)] [(116002,.cells 45 (k2 t))] ?_
 obtain⟨ah,h1,hm⟩:=aa hm
 refine qDs [(2,hro (ue h1) ake),(6,.al 116005)] [1] [(6,.bool ah.2)] ?_
 obtain⟨aD,h2,hm⟩:=aa hm
 rcases aq hm with⟨c1,hm⟩|⟨c1,hm⟩
 ·refine qS [(1,hro (ir h2) zP),(2,hto (bE c1))] [(4,.bool ah.2)] [] ?_
  cases hm
  exact A.ret qE
 refine qS [(1,hro (ir h2) zP),(2,hto (bE c1))] [(4,.bool false)] [] ?_
 cases hm
 exact A.ret qE
theorem w8(hm:kf t aJ=some r):RO prog 157 [] [.agg (k2 t),i6 aJ] (.bool r):=by
 refine aY func157 rfl rfl ?_
 unfold kf at hm
 refine qS [(0,.al 157002)] [(1,i6 aJ),(2,.ptr 157002 0)] [(157002,.cells 45 (k2 t))] ?_
 obtain⟨ah,h1,hm⟩:=aa hm
 refine qD [(2,hro (ue h1) ake),(6,.al 157005)] [1] [(5,.ptr 157005 0)] [] [(157005,.cells 93 (k0 ah.1))] ?_
 obtain⟨aD,h2,hm⟩:=aa hm
 rcases aq hm with⟨c1,hm⟩|⟨c1,hm⟩
 ·refine qS [(1,hro (ir h2) zP),(2,hto (bE c1))] [(4,.bool ah.1.aW)] [] ?_
  cases hm
  exact A.ret qE
 refine qS [(1,hro (ir h2) zP),(2,hto (bE c1))] [(4,.bool false)] [] ?_
 cases hm
 exact A.ret qE
theorem yU{eC:Int}{j7:Int}{r:Int×Bool}(hm:kK t eC j7=some r):RO prog 102 [] [.agg (k2 t),i6 eC,i6 j7] (.tup [i6 r.1,.bool r.2]):=by
 refine aY func102 rfl rfl ?_
 unfold kK at hm
 refine qS [(0,.al 102003)] [(1,i6 eC),(2,i6 j7),(3,.ptr 102003 0)] [(102003,.cells 45 (k2 t))]<|A.seq ?_
 obtain⟨ah,h1,hm⟩:=aa hm
 refine qDs [(1,hro (ir h1) zP)] [] [(12,.bool (!ah))] ?_
 rcases aq hm with⟨c1,hm⟩|⟨c1,hm⟩
 ·refine qT c1<|qS [] [(6,i6 0),(7,.bool false)] [] ?_
  cases hm
  exact A.ret qE
 refine qF c1<|A.skip ?_
 obtain⟨aD,h2,hm⟩:=aa hm
 refine qDs [(9,hro (jI (jU:=134) (lS:=[]) (rj:=akb) (rq:=λ_ _ _ h=>rT h) h2) asF)] [12] [(8,i6 aD.1),(9,.bool aD.2)]<|A.seq<|A.block<|qDs [] [9] [(26,.bool (!aD.2))] ?_
 rcases aq hm with⟨c2,hm⟩|⟨c2,hm⟩
 ·refine qT c2<|qS [] [(6,i6 0),(7,.bool false)] [] ?_
  cases hm
  exact A.ret qE
 refine qF c2<|qDs [] [1,2,26] [(29,.bool (decide (eC<j7)))] ?_
 rcases aq hm with⟨c3,hm⟩|⟨c3,hm⟩
 ·refine qT c3 ?_
  obtain⟨e_1,h3,hm⟩:=aa hm
  refine qS [(3,hix (ix aC h3))] [(6,i6 e_1.jR),(7,.bool true)] [] ?_
  cases hm
  exact A.ret qE
 refine qF c3<|A.skip ?_
 obtain⟨e_2,h4,hm⟩:=aa hm
 refine qS [(3,hix (ix aC h4))] [(6,i6 e_2.jl),(7,.bool true)] [] ?_
 cases hm
 exact A.ret qE
end Go.Proofs.YtjdopimopgpagaaGreat
