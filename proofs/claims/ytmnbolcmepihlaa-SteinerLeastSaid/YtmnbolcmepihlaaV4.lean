/- The gi of cW of the program. No condition but aX aH stand in each. -/
import Derived.Test.YtmnbolcmepihlaaDA
namespace Go.Proofs.Ytmnbolcmepihlaa
open Go Go.Proofs.Try
set_option maxRecDepth 100000
set_option linter.all false
variable {r:Bool}{xa0:Int}
theorem lC(hm:fH xa0=some r):RO prog 51 [] [i6 xa0] (.bool r):=by
 refine bw func51 rfl rfl ?_
 unfold fH at hm
 refine qS [] [(0,i6 xa0)] []<|qS [] [(2,.bool (!decide (xa0=xa0)))] [] ?_
 cases hm
 exact A.ret qE
theorem dO{y:Int}{r:Int}(hm:b8 xa0 y=some r):RO prog 32 [] [i6 xa0,i6 y] (i6 r):=by
 refine bw func32 rfl rfl ?_
 unfold b8 at hm
 refine qS [] [(0,i6 xa0),(1,i6 y)] [] ?_
 obtain⟨aq,h1,hm⟩:=ak hm
 refine qDs [(1,hro (lC h1) agc)] [] [(5,.bool aq)] ?_
 obtain⟨aL,h2,hm⟩:=ak hm
 refine qDs [(1,hro (lC h2) agc)] [] [(6,.bool aL)]<|A.seq<|qDs [] [5] [(11,.bool aq)] ?_
 rcases aQ hm with⟨c1,hm⟩|⟨c1,hm⟩
 ·refine qT c1<|A.seq<|qS [] [(12,.bool aL)] [] ?_
  rcases aQ hm with⟨c2,hm⟩|⟨c2,hm⟩
  ·refine qT c2<|qS [] [(4,i6 0)] [] ?_
   cases hm
   exact A.ret qE
  refine qF c2<|A.skip<|qS [] [(4,i6 (-1))] [] ?_
  cases hm
  exact A.ret qE
 refine qF c1<|A.skip<|A.seq<|qDs [] [6,11] [(13,.bool aL)] ?_
 rcases aQ hm with⟨c3,hm⟩|⟨c3,hm⟩
 ·refine qT c3<|qS [] [(4,i6 1)] [] ?_
  cases hm
  exact A.ret qE
 refine qF c3<|A.skip<|A.seq<|qDs [] [13] [(16,.bool (decide (xa0<y)))] ?_
 rcases aQ hm with⟨c4,hm⟩|⟨c4,hm⟩
 ·refine qT c4<|qS [] [(4,i6 (-1))] [] ?_
  cases hm
  exact A.ret qE
 refine qF c4<|A.skip<|A.seq<|qS [] [(19,.bool (decide (y<xa0)))] [] ?_
 rcases aQ hm with⟨c5,hm⟩|⟨c5,hm⟩
 ·refine qT c5<|qS [] [(4,i6 1)] [] ?_
  cases hm
  exact A.ret qE
 refine qF c5<|A.skip<|qS [] [(4,i6 0)] [] ?_
 cases hm
 exact A.ret qE
theorem kH{vals:List Int}{r:Int}(hm:eU vals=some r):RO prog 31 [] [lf aB vals] (i6 r):=by
 refine bw func31 rfl rfl ?_
 unfold eU at hm
 refine qS [] [(0,lf aB vals)] []<|qDs [] [] [(3,i6 0)]<|A.seq<|qDs [(1,hto (lnE aB vals))] [0] [(6,lf aB vals),(7,i6 (vals.length:Int)),(8,i6 0)]<|A.block<|A.bS 6 rfl λhb1=>?_
 obtain⟨B1,K1,hB1,hK1,hm⟩:=cH hm
 refine A.lpI (l:=vals) (j0:=0) (B:=B1) (K:=K1) hm (λj1=>λ()=>[(3,i6 0),(6,lf aB vals),(7,i6 (vals.length:Int)),(8,i6 (j1:Int))]) (λj1=>λ()=>[]) ?_ ?_ ?_
 ·exact qW
 ·rintro j1 e1 Z1 ⟨⟩ hj1 hx1 hm
  rw[hB1]at hm
  refine qDs [] [] [(9,.bool (decide ((j1:Int)<(vals.length:Int))))]<|A.seq<|qT (ltT hx1)<|A.skip<|A.seq<|A.block<|qDs [(0,hix (ix aB (dG hx1)))] [9] [(5,i6 e1)]<|qDs [] [] [(14,.bool (!decide (e1=0)))] ?_
  rcases aQ hm with⟨c1,hm⟩|⟨c1,hm⟩
  ·refine qT c1<|qS [] [(2,i6 e1)] [] ?_
   cases hm
   exact A.ret qE
  exact qF c1<|A.skip<|qGs [(0,hto (inc hx1 hb1))] [8,5,14] [(8,i6 ((j1+1:Nat):Int))]<|qX () hm
 rintro j1 ⟨⟩ hj1 hl1 hm
 rw[hK1]at hm
 refine qDs [] [] [(9,.bool (decide ((j1:Int)<(vals.length:Int))))]<|A.seq<|qF (ltF hl1)<|A.exit<|qS [] [(2,i6 0)] [] ?_
 cases hm
 exact A.ret qE
theorem dJ{xa0:List aK}{target:Int}{cmp:aK→Int→Option Int}{oJ:Nat}{qu:List AV}(uY:aU prog oJ)(uZ:∀(y0:aK) (y1:Int) (q:Int),cmp y0 y1=some q→RO prog oJ [] ([.agg (k0 y0),i6 y1]++qu) (i6 q)){r:Int×Bool}(hm:bq xa0 target cmp=some r):RO prog 40 [] [lf aP xa0,i6 target,.cfn oJ qu] (.tup [i6 r.1,.bool r.2]):=by
 refine bw func40 rfl rfl ?_
 unfold bq at hm
 refine qS [] [(0,lf aP xa0),(1,i6 target),(2,.cfn oJ qu)] []<|qDs [(1,hto (lnE aP xa0))] [] [(8,i6 (xa0.length:Int))]<|qDs [] [] [(9,i6 0),(10,i6 (xa0.length:Int))]<|A.seq<|A.block ?_
 obtain⟨F1,n1,hF1,hm⟩:=mF hm
 refine A.lpW (F:=F1) hm (λ(i_1,j_1)=>[(0,lf aP xa0),(1,i6 target),(2,.cfn oJ qu),(8,i6 (xa0.length:Int)),(9,i6 i_1),(10,i6 j_1)]) (λ(i_1,j_1)=>[]) ?_ ?_
 ·exact qW
 rintro Z1 ⟨i_1,j_1⟩ hm
 rw[hF1]at hm
 refine A.seq<|qDs [] [] [(17,.bool (decide (i_1<j_1)))] ?_
 rcases aQ hm with⟨c1,hm⟩|⟨c1,hm⟩
 ·refine qT c1<|A.skip<|A.block<|qDs [(4,.sh (1:Int) (by decide))] [17] [(11,i6 (w64 (Int.fdiv (IntKind.wrap .u64 (w64 (i_1+j_1))) (2 ^ min (1:Int).toNat 64))))] ?_
  obtain⟨e_1,h1,hm⟩:=ak hm
  obtain⟨aq,h2,hm⟩:=ak hm
  refine qDs [(3,hix (ix aP h1)),(6,hrf (uZ _ _ _ h2) uY)] [] [(31,.bool (decide (aq<0)))] ?_
  rcases aQ hm with⟨c2,hm⟩|⟨c2,hm⟩
  ·exact qT c2<|qGs [] [9,11,31] [(9,i6 (w64 ((w64 (Int.fdiv (IntKind.wrap .u64 (w64 (i_1+j_1))) (2 ^ min (1:Int).toNat 64)))+(1:Int))))]<|qX (w64 ((w64 (Int.fdiv (IntKind.wrap .u64 (w64 (i_1+j_1))) (2 ^ min (1:Int).toNat 64)))+(1:Int)),j_1) hm
  exact qF c2<|qGs [] [10,11,31] [(10,i6 (w64 (Int.fdiv (IntKind.wrap .u64 (w64 (i_1+j_1))) (2 ^ min (1:Int).toNat 64))))]<|qX (i_1,w64 (Int.fdiv (IntKind.wrap .u64 (w64 (i_1+j_1))) (2 ^ min (1:Int).toNat 64))) hm
 refine qF c1<|A.exit ?_
 rcases aQ hm with⟨c3,hm⟩|⟨c3,hm⟩
 ·obtain⟨e_2,h3,hm⟩:=ak hm
  obtain⟨aL,h4,hm⟩:=ak hm
  refine qS [(4,hto (bE c3)),(8,hix (ix aP h3)),(11,hrf (uZ _ _ _ h4) uY)] [(6,i6 i_1),(7,.bool (decide (aL=0)))] [] ?_
  cases hm
  exact A.ret qE
 refine qS [(4,hto (bE c3))] [(6,i6 i_1),(7,.bool false)] [] ?_
 cases hm
 exact A.ret qE
variable {f_c:List AV}{f_g:Nat}
theorem gJ{sa0:List aK}{f:aK→Option Bool}(f_k:aU prog f_g)(f_f:∀(y0:aK) (q:Bool),f y0=some q→RO prog f_g [] ([.agg (k0 y0)]++f_c) (.bool q)){r:Int}(hm:cG sa0 f=some r):RO prog 56 [] [lf aP sa0,.cfn f_g f_c] (i6 r):=by
 refine bw func56 rfl rfl ?_
 unfold cG at hm
 refine qS [] [(0,lf aP sa0),(1,.cfn f_g f_c)] []<|A.seq<|qDs [(1,hto (lnE aP sa0))] [] [(7,i6 (sa0.length:Int)),(8,i6 0)]<|A.block<|A.bS 0 rfl λhb1=>?_
 obtain⟨B1,K1,hB1,hK1,hm⟩:=cH hm
 refine A.lpI (l:=sa0) (j0:=0) (B:=B1) (K:=K1) hm (λj1=>λ()=>[(0,lf aP sa0),(1,.cfn f_g f_c),(7,i6 (sa0.length:Int)),(8,i6 (j1:Int))]) (λj1=>λ()=>[]) ?_ ?_ ?_
 ·exact qW
 ·rintro j1 e1 Z1 ⟨⟩ hj1 hx1 hm
  rw[hB1]at hm
  refine qDs [] [] [(9,.bool (decide ((j1:Int)<(sa0.length:Int))))]<|A.seq<|qT (ltT hx1)<|A.skip<|A.seq<|A.block<|qDs [] [9] [(5,i6 (j1:Int))] ?_
  obtain⟨aq,h1,hm⟩:=ak hm
  refine qDs [(3,hix (ix aP (dG hx1))),(5,hrf (f_f _ _ h1) f_k)] [] [(16,.bool aq)] ?_
  rcases aQ hm with⟨c1,hm⟩|⟨c1,hm⟩
  ·refine qT c1<|qS [] [(4,i6 (j1:Int))] [] ?_
   cases hm
   exact A.ret qE
  exact qF c1<|A.skip<|qGs [(0,hto (inc hx1 hb1))] [8,5,16] [(8,i6 ((j1+1:Nat):Int))]<|qX () hm
 rintro j1 ⟨⟩ hj1 hl1 hm
 rw[hK1]at hm
 refine qDs [] [] [(9,.bool (decide ((j1:Int)<(sa0.length:Int))))]<|A.seq<|qF (ltF hl1)<|A.exit<|qS [] [(4,i6 (-1))] [] ?_
 cases hm
 exact A.ret qE
theorem iz{sa0:List bh}{f:bh→Option Bool}(f_k:aU prog f_g)(f_f:∀(y0:bh) (q:Bool),f y0=some q→RO prog f_g [] ([.agg (k1 y0)]++f_c) (.bool q)){r:Int}(hm:cR sa0 f=some r):RO prog 57 [] [lf bz sa0,.cfn f_g f_c] (i6 r):=by
 refine bw func57 rfl rfl ?_
 unfold cR at hm
 refine qS [] [(0,lf bz sa0),(1,.cfn f_g f_c)] []<|A.seq<|qDs [(1,hto (lnE bz sa0))] [] [(7,i6 (sa0.length:Int)),(8,i6 0)]<|A.block<|A.bS 0 rfl λhb1=>?_
 obtain⟨B1,K1,hB1,hK1,hm⟩:=cH hm
 refine A.lpI (l:=sa0) (j0:=0) (B:=B1) (K:=K1) hm (λj1=>λ()=>[(0,lf bz sa0),(1,.cfn f_g f_c),(7,i6 (sa0.length:Int)),(8,i6 (j1:Int))]) (λj1=>λ()=>[]) ?_ ?_ ?_
 ·exact qW
 ·rintro j1 e1 Z1 ⟨⟩ hj1 hx1 hm
  rw[hB1]at hm
  refine qDs [] [] [(9,.bool (decide ((j1:Int)<(sa0.length:Int))))]<|A.seq<|qT (ltT hx1)<|A.skip<|A.seq<|A.block<|qDs [] [9] [(5,i6 (j1:Int))] ?_
  obtain⟨aq,h1,hm⟩:=ak hm
  refine qDs [(3,hix (ix bz (dG hx1))),(5,hrf (f_f _ _ h1) f_k)] [] [(16,.bool aq)] ?_
  rcases aQ hm with⟨c1,hm⟩|⟨c1,hm⟩
  ·refine qT c1<|qS [] [(4,i6 (j1:Int))] [] ?_
   cases hm
   exact A.ret qE
  exact qF c1<|A.skip<|qGs [(0,hto (inc hx1 hb1))] [8,5,16] [(8,i6 ((j1+1:Nat):Int))]<|qX () hm
 rintro j1 ⟨⟩ hj1 hl1 hm
 rw[hK1]at hm
 refine qDs [] [] [(9,.bool (decide ((j1:Int)<(sa0.length:Int))))]<|A.seq<|qF (ltF hl1)<|A.exit<|qS [] [(4,i6 (-1))] [] ?_
 cases hm
 exact A.ret qE
variable {sa0:List Int}
theorem lN{v:Int}{r:Int}(hm:gm sa0 v=some r):RO prog 76 [] [lf aB sa0,i6 v] (i6 r):=by
 refine bw func76 rfl rfl ?_
 unfold gm at hm
 refine qS [] [(0,lf aB sa0),(1,i6 v)] []<|A.seq<|qDs [(1,hto (lnE aB sa0))] [] [(7,i6 (sa0.length:Int)),(8,i6 0)]<|A.block<|A.bS 0 rfl λhb1=>?_
 obtain⟨B1,K1,hB1,hK1,hm⟩:=cH hm
 refine A.lpI (l:=sa0) (j0:=0) (B:=B1) (K:=K1) hm (λj1=>λ()=>[(0,lf aB sa0),(1,i6 v),(7,i6 (sa0.length:Int)),(8,i6 (j1:Int))]) (λj1=>λ()=>[]) ?_ ?_ ?_
 ·exact qW
 ·rintro j1 e1 Z1 ⟨⟩ hj1 hx1 hm
  rw[hB1]at hm
  refine qDs [] [] [(9,.bool (decide ((j1:Int)<(sa0.length:Int))))]<|A.seq<|qT (ltT hx1)<|A.skip<|A.seq<|A.block<|qDs [] [9] [(5,i6 (j1:Int))]<|qDs [(3,hix (ix aB (dG hx1)))] [] [(16,.bool (decide (v=e1)))] ?_
  rcases aQ hm with⟨c1,hm⟩|⟨c1,hm⟩
  ·refine qT c1<|qS [] [(4,i6 (j1:Int))] [] ?_
   cases hm
   exact A.ret qE
  exact qF c1<|A.skip<|qGs [(0,hto (inc hx1 hb1))] [8,5,16] [(8,i6 ((j1+1:Nat):Int))]<|qX () hm
 rintro j1 ⟨⟩ hj1 hl1 hm
 rw[hK1]at hm
 refine qDs [] [] [(9,.bool (decide ((j1:Int)<(sa0.length:Int))))]<|A.seq<|qF (ltF hl1)<|A.exit<|qS [] [(4,i6 (-1))] [] ?_
 cases hm
 exact A.ret qE
variable {f:Int→Option Bool}
theorem kI(f_k:aU prog f_g)(f_f:∀(y0:Int) (q:Bool),f y0=some q→RO prog f_g [] ([i6 y0]++f_c) (.bool q)){r:Int}(hm:fC sa0 f=some r):RO prog 77 [] [lf aB sa0,.cfn f_g f_c] (i6 r):=by
 refine bw func77 rfl rfl ?_
 unfold fC at hm
 refine qS [] [(0,lf aB sa0),(1,.cfn f_g f_c)] []<|A.seq<|qDs [(1,hto (lnE aB sa0))] [] [(7,i6 (sa0.length:Int)),(8,i6 0)]<|A.block<|A.bS 0 rfl λhb1=>?_
 obtain⟨B1,K1,hB1,hK1,hm⟩:=cH hm
 refine A.lpI (l:=sa0) (j0:=0) (B:=B1) (K:=K1) hm (λj1=>λ()=>[(0,lf aB sa0),(1,.cfn f_g f_c),(7,i6 (sa0.length:Int)),(8,i6 (j1:Int))]) (λj1=>λ()=>[]) ?_ ?_ ?_
 ·exact qW
 ·rintro j1 e1 Z1 ⟨⟩ hj1 hx1 hm
  rw[hB1]at hm
  refine qDs [] [] [(9,.bool (decide ((j1:Int)<(sa0.length:Int))))]<|A.seq<|qT (ltT hx1)<|A.skip<|A.seq<|A.block<|qDs [] [9] [(5,i6 (j1:Int))] ?_
  obtain⟨aq,h1,hm⟩:=ak hm
  refine qDs [(3,hix (ix aB (dG hx1))),(5,hrf (f_f _ _ h1) f_k)] [] [(16,.bool aq)] ?_
  rcases aQ hm with⟨c1,hm⟩|⟨c1,hm⟩
  ·refine qT c1<|qS [] [(4,i6 (j1:Int))] [] ?_
   cases hm
   exact A.ret qE
  exact qF c1<|A.skip<|qGs [(0,hto (inc hx1 hb1))] [8,5,16] [(8,i6 ((j1+1:Nat):Int))]<|qX () hm
 rintro j1 ⟨⟩ hj1 hl1 hm
 rw[hK1]at hm
 refine qDs [] [] [(9,.bool (decide ((j1:Int)<(sa0.length:Int))))]<|A.seq<|qF (ltF hl1)<|A.exit<|qS [] [(4,i6 (-1))] [] ?_
 cases hm
 exact A.ret qE
theorem gj{sa0:List aK}{f:aK→Option Bool}(f_k:aU prog f_g)(f_f:∀(y0:aK) (q:Bool),f y0=some q→RO prog f_g [] ([.agg (k0 y0)]++f_c) (.bool q))(hm:bN sa0 f=some r):RO prog 36 [] [lf aP sa0,.cfn f_g f_c] (.bool r):=by
 refine bw func36 rfl rfl ?_
 unfold bN at hm
 refine qS [] [(0,lf aP sa0),(1,.cfn f_g f_c)] [] ?_
 obtain⟨aq,h1,hm⟩:=ak hm
 refine qS [(2,hro (gJ (f_k:=f_k) (f_f:=f_f) h1) ck56)] [(4,.bool (decide (0≤aq)))] [] ?_
 cases hm
 exact A.ret qE
theorem dx{sa0:List bh}{f:bh→Option Bool}(f_k:aU prog f_g)(f_f:∀(y0:bh) (q:Bool),f y0=some q→RO prog f_g [] ([.agg (k1 y0)]++f_c) (.bool q))(hm:bA sa0 f=some r):RO prog 42 [] [lf bz sa0,.cfn f_g f_c] (.bool r):=by
 refine bw func42 rfl rfl ?_
 unfold bA at hm
 refine qS [] [(0,lf bz sa0),(1,.cfn f_g f_c)] [] ?_
 obtain⟨aq,h1,hm⟩:=ak hm
 refine qS [(2,hro (iz (f_k:=f_k) (f_f:=f_f) h1) ck57)] [(4,.bool (decide (0≤aq)))] [] ?_
 cases hm
 exact A.ret qE
theorem de{v:Int}(hm:cU sa0 v=some r):RO prog 53 [] [lf aB sa0,i6 v] (.bool r):=by
 refine bw func53 rfl rfl ?_
 unfold cU at hm
 refine qS [] [(0,lf aB sa0),(1,i6 v)] [] ?_
 obtain⟨aq,h1,hm⟩:=ak hm
 refine qS [(2,hro (lN h1) ck76)] [(4,.bool (decide (0≤aq)))] [] ?_
 cases hm
 exact A.ret qE
theorem jG(f_k:aU prog f_g)(f_f:∀(y0:Int) (q:Bool),f y0=some q→RO prog f_g [] ([i6 y0]++f_c) (.bool q))(hm:eV sa0 f=some r):RO prog 54 [] [lf aB sa0,.cfn f_g f_c] (.bool r):=by
 refine bw func54 rfl rfl ?_
 unfold eV at hm
 refine qS [] [(0,lf aB sa0),(1,.cfn f_g f_c)] [] ?_
 obtain⟨aq,h1,hm⟩:=ak hm
 refine qS [(2,hro (kI (f_k:=f_k) (f_f:=f_f) h1) ck77)] [(4,.bool (decide (0≤aq)))] [] ?_
 cases hm
 exact A.ret qE
theorem eE{n:Int}{least:Int}{most:Int}(hm:eX n least most=some r):RO prog 38 [] [i6 n,i6 least,i6 most] (.bool r):=by
 refine bw func38 rfl rfl ?_
 unfold eX at hm
 refine qS [] [(0,i6 n),(1,i6 least),(2,i6 most)] []<|A.mid [(6,.bool ((decide (least≤n))&&(decide (n≤most))))] [] (λhk=>?_) ?_
 ·rcases tf (decide (least≤n))with c1|c1
  ·exact qS [(3,hto (bE c1)),(8,hto (kU (q:=decide (n≤most)) c1))] _ _ hk
  exact qS [(3,hto (bE c1)),(8,hto (rR (q:=decide (n≤most)) c1))] _ _ hk
 cases hm
 exact A.ret qE
theorem nM{a:bh}{b:bh}{r:Int}(hm:fD a b=some r):RO prog 46 [] [.agg (k1 a),.agg (k1 b)] (i6 r):=by
 refine bw func46 rfl rfl ?_
 unfold fD at hm
 refine qS [(0,.al 46002),(1,.al 46003)] [(2,.ptr 46002 0),(3,.ptr 46003 0)] [(46002,.cells 42 (k1 a)),(46003,.cells 42 (k1 b))] ?_
 obtain⟨aq,h1,hm⟩:=ak hm
 obtain⟨aL,h2,hm⟩:=ak hm
 obtain⟨bM,h3,hm⟩:=ak hm
 refine qS [(4,hro (dO h1) rY),(9,hro (dO h2) rY),(11,hro (kH h3) aaa)] [(4,i6 bM)] [] ?_
 cases hm
 exact A.ret qE
variable {id:Int}{ra0:aK}
theorem lD{r:Int}(hm:fI ra0 id=some r):RO prog 41 [] [.agg (k0 ra0),i6 id] (i6 r):=by
 refine bw func41 rfl rfl ?_
 unfold fI at hm
 refine qS [(0,.al 41002)] [(1,i6 id),(2,.ptr 41002 0)] [(41002,.cells 31 (k0 ra0))] ?_
 obtain⟨aq,h1,hm⟩:=ak hm
 refine qS [(3,hro (dO h1) rY)] [(4,i6 aq)] [] ?_
 cases hm
 exact A.ret qE
theorem nN(hm:gv ra0=some r):RO prog 37 [] [.agg (k0 ra0)] (.bool r):=by
 refine bw func37 rfl rfl ?_
 unfold gv at hm
 refine qS [(0,.al 37001)] [(1,.ptr 37001 0)] [(37001,.cells 31 (k0 ra0))] ?_
 obtain⟨aq,h1,hm⟩:=ak hm
 refine qS [(2,hro (eE h1) rZ)] [(2,.bool (!aq))] [] ?_
 cases hm
 exact A.ret qE
variable {l:bh}
theorem nO(hm:fE l=some r):RO prog 43 [] [.agg (k1 l)] (.bool r):=by
 refine bw func43 rfl rfl ?_
 unfold fE at hm
 refine qS [(0,.al 43001)] [(1,.ptr 43001 0)] [(43001,.cells 42 (k1 l))] ?_
 obtain⟨aq,h1,hm⟩:=ak hm
 rcases aQ hm with⟨c1,hm⟩|⟨c1,hm⟩
 ·refine qS [(2,hro (eE h1) rZ),(4,hto (bE c1))] [(2,.bool true)] [] ?_
  cases hm
  exact A.ret qE
 obtain⟨aL,h2,hm⟩:=ak hm
 rcases aQ hm with⟨c2,hm⟩|⟨c2,hm⟩
 ·refine qS [(2,hro (eE h1) rZ),(4,hto (bE c1)),(7,hro (eE h2) rZ),(10,hto (bE c2))] [(2,.bool true)] [] ?_
  cases hm
  exact A.ret qE
 obtain⟨bM,h3,hm⟩:=ak hm
 refine qS [(2,hro (eE h1) rZ),(4,hto (bE c1)),(7,hro (eE h2) rZ),(10,hto (bE c2)),(13,hro (eE h3) rZ)] [(2,.bool (!bM))] [] ?_
 cases hm
 exact A.ret qE
variable {c_0:az}
theorem ic(hm:eM id c_0=some r):RO prog 39 [] [i6 id,.bV (k2 c_0)] (.bool r):=by
 refine bw func39 rfl rfl ?_
 unfold eM at hm
 refine qS [] [(0,i6 id),(1,.bV (k2 c_0))] [] ?_
 obtain⟨aq,h1,hm⟩:=ak hm
 refine qS [(3,hro (dJ (oJ:=41) (qu:=[]) (uY:=aga) (uZ:=λ_ _ _ h=>lD h) h1) af9)] [(5,.bool aq.2)] []<|qS [] [(3,.bool (!aq.2))] [] ?_
 cases hm
 exact A.ret qE
theorem nP(hm:gw l c_0=some r):RO prog 44 [] [.agg (k1 l),.bV [.fn 39 [.bV (k2 c_0)]]] (.bool r):=by
 refine bw func44 rfl rfl ?_
 unfold gw at hm
 refine qS [(0,.al 44002)] [(1,.bV [.fn 39 [.bV (k2 c_0)]]),(2,.ptr 44002 0)] [(44002,.cells 42 (k1 l))] ?_
 obtain⟨aq,h1,hm⟩:=ak hm
 rcases aQ hm with⟨c1,hm⟩|⟨c1,hm⟩
 ·refine qS [(3,hle [] (ic h1) aab),(4,hto (bE c1))] [(3,.bool true)] [] ?_
  cases hm
  exact A.ret qE
 obtain⟨aL,h2,hm⟩:=ak hm
 refine qS [(3,hle [] (ic h1) aab),(4,hto (bE c1)),(8,hle [] (ic h2) aab)] [(3,.bool aL)] [] ?_
 cases hm
 exact A.ret qE
theorem nQ(hm:gx l=some r):RO prog 45 [] [.agg (k1 l)] (.bool r):=by
 refine bw func45 rfl rfl ?_
 unfold gx at hm
 refine qS [(0,.al 45001)] [(1,.ptr 45001 0)] [(45001,.cells 42 (k1 l))]<|qS [] [(2,.bool (decide (l.B≤l.A)))] [] ?_
 cases hm
 exact A.ret qE
variable {t:az}
theorem kL{r:Int}(hm:fk t=some r):RO prog 21 [] [.agg (k2 t)] (i6 r):=by
 refine bw func21 rfl rfl ?_
 unfold fk at hm
 refine qS [(0,.al 21001)] [(1,.ptr 21001 0)] [(21001,.cells 28 (k2 t))]<|A.seq<|A.block<|A.mid [(1,.ptr 21001 0),(6,.bool ((decide (24<(t.ay.length:Int)))||(decide (60<(t.Links.length:Int)))))] [(21001,.cells 28 (k2 t))] (λhk=>?_) ?_
 ·rcases tf (decide (24<(t.ay.length:Int)))with c1|c1
  ·exact qS [(2,hto (lnE aP t.ay)),(4,hto (bE c1)),(10,hto (orT (q:=decide (60<(t.Links.length:Int))) c1))] _ _ hk
  exact qS [(2,hto (lnE aP t.ay)),(4,hto (bE c1)),(7,hto (lnE bz t.Links)),(10,hto (orF (q:=decide (60<(t.Links.length:Int))) c1))] _ _ hk
 rcases aQ hm with⟨c2,hm⟩|⟨c2,hm⟩
 ·refine qT c2<|qS [] [(2,i6 3)] [] ?_
  cases hm
  exact A.ret qE
 refine qF c2 ?_
 obtain⟨aq,h1,hm⟩:=ak hm
 refine qDs [(2,hro (gj (f_g:=37) (f_c:=[]) (f_k:=ck37) (f_f:=λ_ _ h=>nN h) h1) ck36)] [6] [(17,.bool aq)] ?_
 rcases aQ hm with⟨c3,hm⟩|⟨c3,hm⟩
 ·refine qT c3<|qS [] [(2,i6 2)] [] ?_
  cases hm
  exact A.ret qE
 refine qF c3<|A.skip<|A.seq<|qDs [(2,hto (lnE aP t.ay))] [17] [(23,i6 (t.ay.length:Int)),(24,i6 0)]<|A.block<|A.bC 1 0 rfl rfl rfl λhb1=>?_
 obtain⟨B1,K1,hB1,hK1,hm⟩:=cH hm
 refine A.lpI (l:=t.ay) (j0:=0) (B:=B1) (K:=K1) hm (λj1=>λ()=>[(1,.ptr 21001 0),(23,i6 (t.ay.length:Int)),(24,i6 (j1:Int))]) (λj1=>λ()=>[(21001,.cells 28 (k2 t))]) ?_ ?_ ?_
 ·exact qW
 ·rintro j1 e1 Z1 ⟨⟩ hj1 hx1 hm
  rw[hB1]at hm
  refine qDs [] [] [(25,.bool (decide ((j1:Int)<(t.ay.length:Int))))]<|A.seq<|qT (ltT hx1)<|A.skip<|A.seq<|A.block<|qDs [] [25] [(3,i6 (j1:Int))] ?_
  obtain⟨J1,hJ1,hm⟩:=eF hm
  refine A.J (J:=J1) (r:=r) (λv_1=>[(1,.ptr 21001 0),(23,i6 (t.ay.length:Int)),(24,i6 (j1:Int)),(44,.bool v_1)]) (λv_1=>[(21001,.cells 28 (k2 t))]) ?_ ?_
  ·rcases aQ hm with⟨c4,hm⟩|⟨c4,hm⟩
   ·obtain⟨e_1,h2,hm⟩:=ak hm
    exact qGs [(2,hto (bE c4)),(7,hix (ix aP h2)),(13,hix (ix aP (dG hx1)))] [3] [(44,.bool (decide (e1.ID≤e_1.ID)))]<|qX (decide (e1.ID≤e_1.ID)) hm
   exact qGs [(2,hto (bE c4))] [3] [(44,.bool false)]<|qX false hm
  rintro v_1 hm
  rw[hJ1]at hm
  rcases aQ hm with⟨c5,hm⟩|⟨c5,hm⟩
  ·refine qT c5<|qS [] [(2,i6 25)] [] ?_
   cases hm
   exact A.ret qE
  exact qF c5<|A.skip<|qGs [(0,hto (inc hx1 hb1))] [24,44] [(24,i6 ((j1+1:Nat):Int))]<|qX () hm
 rintro j1 ⟨⟩ hj1 hl1 hm
 rw[hK1]at hm
 refine qDs [] [] [(25,.bool (decide ((j1:Int)<(t.ay.length:Int))))]<|A.seq<|qF (ltF hl1)<|A.exit<|qD [(1,.al 21004)] [23,24,25] [(4,.ptr 21004 0)] [] [(21004,.cells 97 [.fn 39 [.ptr 21001 0]])]<|A.seq<|A.block ?_
 obtain⟨aL,h3,hm⟩:=ak hm
 refine qDs [(2,hro (dx (f_g:=43) (f_c:=[]) (f_k:=ck43) (f_f:=λ_ _ h=>nO h) h3) aac)] [] [(47,.bool aL)] ?_
 rcases aQ hm with⟨c6,hm⟩|⟨c6,hm⟩
 ·refine qT c6<|qS [] [(2,i6 2)] [] ?_
  cases hm
  exact A.ret qE
 refine qF c6 ?_
 obtain⟨bM,h4,hm⟩:=ak hm
 refine qD [(3,hle [21004,21001] (dx (f_g:=44) (f_c:=[.bV [.fn 39 [.bV (k2 t)]]]) (f_k:=ck44) (f_f:=λ_ _ h=>nP h) h4) aac)] [4,47] [(51,.bool bM)] [21004] [] ?_
 rcases aQ hm with⟨c7,hm⟩|⟨c7,hm⟩
 ·refine qT c7<|qS [] [(2,i6 4)] [] ?_
  cases hm
  exact A.ret qE
 refine qF c7 ?_
 obtain⟨bF,h5,hm⟩:=ak hm
 refine qDs [(2,hro (dx (f_g:=45) (f_c:=[]) (f_k:=ck45) (f_f:=λ_ _ h=>nQ h) h5) aac)] [51] [(56,.bool bF)] ?_
 rcases aQ hm with⟨c8,hm⟩|⟨c8,hm⟩
 ·refine qT c8<|qS [] [(2,i6 8)] [] ?_
  cases hm
  exact A.ret qE
 refine qF c8<|A.skip<|A.seq<|qDs [(2,hto (lnE bz t.Links))] [56] [(62,i6 (t.Links.length:Int)),(63,i6 0)]<|A.block<|A.bC 1 1 rfl rfl rfl λhb2=>?_
 obtain⟨B2,K2,hB2,hK2,hm⟩:=cH hm
 refine A.lpI (l:=t.Links) (j0:=0) (B:=B2) (K:=K2) hm (λj2=>λ()=>[(1,.ptr 21001 0),(62,i6 (t.Links.length:Int)),(63,i6 (j2:Int))]) (λj2=>λ()=>[(21001,.cells 28 (k2 t))]) ?_ ?_ ?_
 ·exact qW
 ·rintro j2 e2 Z2 ⟨⟩ hj2 hx2 hm
  rw[hB2]at hm
  refine qDs [] [] [(64,.bool (decide ((j2:Int)<(t.Links.length:Int))))]<|A.seq<|qT (ltT hx2)<|A.skip<|A.seq<|A.block<|qDs [] [64] [(5,i6 (j2:Int))] ?_
  obtain⟨J2,hJ2,hm⟩:=eF hm
  refine A.J (J:=J2) (r:=r) (λv_2=>[(1,.ptr 21001 0),(62,i6 (t.Links.length:Int)),(63,i6 (j2:Int)),(82,.bool v_2)]) (λv_2=>[(21001,.cells 28 (k2 t))]) ?_ ?_
  ·rcases aQ hm with⟨c9,hm⟩|⟨c9,hm⟩
   ·obtain⟨e_2,h6,hm⟩:=ak hm
    obtain⟨bY,h7,hm⟩:=ak hm
    exact qGs [(2,hto (bE c9)),(7,hix (ix bz h6)),(12,hix (ix bz (dG hx2))),(14,hro (nM h7) ck46)] [5] [(82,.bool (decide (0≤bY)))]<|qX (decide (0≤bY)) hm
   exact qGs [(2,hto (bE c9))] [5] [(82,.bool false)]<|qX false hm
  rintro v_2 hm
  rw[hJ2]at hm
  rcases aQ hm with⟨c10,hm⟩|⟨c10,hm⟩
  ·refine qT c10<|qS [] [(2,i6 25)] [] ?_
   cases hm
   exact A.ret qE
  exact qF c10<|A.skip<|qGs [(0,hto (inc hx2 hb2))] [63,82] [(63,i6 ((j2+1:Nat):Int))]<|qX () hm
 rintro j2 ⟨⟩ hj2 hl2 hm
 rw[hK2]at hm
 refine qDs [] [] [(64,.bool (decide ((j2:Int)<(t.Links.length:Int))))]<|A.seq<|qF (ltF hl2)<|A.exit<|qS [] [(2,i6 0)] [] ?_
 cases hm
 exact A.ret qE
theorem kM(hm:gd t=some r):RO prog 48 [] [.agg (k2 t)] (.bool r):=by
 refine bw func48 rfl rfl ?_
 unfold gd at hm
 refine qS [(0,.al 48001)] [(1,.ptr 48001 0)] [(48001,.cells 28 (k2 t))] ?_
 obtain⟨aq,h1,hm⟩:=ak hm
 refine qS [(1,hro (kL h1) af7)] [(2,.bool (decide (aq=0)))] [] ?_
 cases hm
 exact A.ret qE
variable {gf:Int}
theorem pX{r:aK×Bool}(hm:gy t gf=some r):RO prog 47 [] [.agg (k2 t),i6 gf] (.tup [.agg (k0 r.1),.bool r.2]):=by
 refine bw func47 rfl rfl ?_
 unfold gy at hm
 refine qS [(0,.al 47002),(1,.al 47004)] [(1,i6 gf),(2,.ptr 47002 0),(4,.ptr 47004 0)] [(47002,.cells 28 (k2 t)),(47004,.cells 31 [i6 0,.bool false])] ?_
 obtain⟨aq,h1,hm⟩:=ak hm
 refine qDs [(3,hro (dJ (oJ:=41) (qu:=[]) (uY:=aga) (uZ:=λ_ _ _ h=>lD h) h1) af9)] [1] [(6,i6 aq.1),(7,.bool aq.2)]<|A.seq<|qDs [] [7] [(16,.bool (!aq.2))] ?_
 rcases aQ hm with⟨c1,hm⟩|⟨c1,hm⟩
 ·refine qT c1<|qD [] [2,6,16] [(5,.bool false)] [47002] [] ?_
  cases hm
  exact A.ret qE
 refine qF c1<|A.skip ?_
 obtain⟨e_1,h2,hm⟩:=ak hm
 refine qS [(3,hix (ix aP h2))] [(4,.ptr 47004 0),(5,.bool true)] [(47004,.cells 31 (k0 e_1))] ?_
 cases hm
 exact A.ret qE
theorem lR(hm:fZ t gf=some r):RO prog 23 [] [.agg (k2 t),i6 gf] (.bool r):=by
 refine bw func23 rfl rfl ?_
 unfold fZ at hm
 refine qS [(0,.al 23002)] [(1,i6 gf),(2,.ptr 23002 0)] [(23002,.cells 28 (k2 t))] ?_
 obtain⟨aq,h1,hm⟩:=ak hm
 refine qDs [(2,hro (pX h1) ck47),(6,.al 23005)] [1] [(6,.bool aq.2)] ?_
 obtain⟨aL,h2,hm⟩:=ak hm
 rcases aQ hm with⟨c1,hm⟩|⟨c1,hm⟩
 ·refine qS [(1,hro (kM h2) agb),(2,hto (bE c1))] [(4,.bool aq.2)] [] ?_
  cases hm
  exact A.ret qE
 refine qS [(1,hro (kM h2) agb),(2,hto (bE c1))] [(4,.bool false)] [] ?_
 cases hm
 exact A.ret qE
end Go.Proofs.Ytmnbolcmepihlaa
