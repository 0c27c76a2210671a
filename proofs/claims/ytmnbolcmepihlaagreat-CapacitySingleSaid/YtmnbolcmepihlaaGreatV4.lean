/- The walks of cz of the program. No condition but aX aL stand in each. -/
import Derived.Test.YtmnbolcmepihlaaGreatDA
namespace Go.Proofs.YtmnbolcmepihlaaGreat
open Go Go.Proofs.Tryz
set_option maxRecDepth 100000
set_option linter.all false
variable {r:Bool}{xa0:Int}
theorem fR(hm:fD xa0=some r):RO prog 164 [] [i6 xa0] (.bool r):=by
 refine aY func164 rfl rfl ?_;unfold fD at hm;refine qS [] [(0,i6 xa0)] []<|qS [] [(2,.bool (!decide (xa0=xa0)))] [] ?_
 cases hm;exact A.ret qE
theorem dx{y:Int}{r:Int}(hm:cv xa0 y=some r):RO prog 106 [] [i6 xa0,i6 y] (i6 r):=by
 refine aY func106 rfl rfl ?_;unfold cv at hm;refine qS [] [(0,i6 xa0),(1,i6 y)] [] ?_;obtain⟨az,h1,hm⟩:=aa hm;refine qDs [(1,hro (fR h1) u0)] [] [(5,.bool az)] ?_;obtain⟨aH,h2,hm⟩:=aa hm;refine qDs [(1,hro (fR h2) u0)] [] [(6,.bool aH)]<|A.seq<|qDs [] [5] [(11,.bool az)] ?_
 rcases aB hm with⟨c1,hm⟩|⟨c1,hm⟩
 ·refine qT c1<|A.seq<|qS [] [(12,.bool aH)] [] ?_
  rcases aB hm with⟨c2,hm⟩|⟨c2,hm⟩
  ·refine qT c2<|qS [] [(4,i6 0)] [] ?_
   cases hm;exact A.ret qE
  refine qF c2<|A.skip<|qS [] [(4,i6 (-1))] [] ?_
  cases hm;exact A.ret qE
 refine qF c1<|A.skip<|A.seq<|qDs [] [6,11] [(13,.bool aH)] ?_
 rcases aB hm with⟨c3,hm⟩|⟨c3,hm⟩
 ·refine qT c3<|qS [] [(4,i6 1)] [] ?_
  cases hm;exact A.ret qE
 refine qF c3<|A.skip<|A.seq<|qDs [] [13] [(16,.bool (decide (xa0<y)))] ?_
 rcases aB hm with⟨c4,hm⟩|⟨c4,hm⟩
 ·refine qT c4<|qS [] [(4,i6 (-1))] [] ?_
  cases hm;exact A.ret qE
 refine qF c4<|A.skip<|A.seq<|qS [] [(19,.bool (decide (y<xa0)))] [] ?_
 rcases aB hm with⟨c5,hm⟩|⟨c5,hm⟩
 ·refine qT c5<|qS [] [(4,i6 1)] [] ?_
  cases hm;exact A.ret qE
 refine qF c5<|A.skip<|qS [] [(4,i6 0)] [] ?_
 cases hm;exact A.ret qE
theorem kL{vals:List Int}{r:Int}(hm:fm vals=some r):RO prog 126 [] [lf aj vals] (i6 r):=by
 refine aY func126 rfl rfl ?_;unfold fm at hm;refine qS [] [(0,lf aj vals)] []<|qDs [] [] [(3,i6 0)]<|A.seq<|qDs [(1,hto (lnE aj vals))] [0] [(6,lf aj vals),(7,i6 (vals.length:Int)),(8,i6 0)]<|A.block<|A.bS 6 rfl λhb1=>?_
 obtain⟨B1,K1,hB1,hK1,hm⟩:=bh hm;refine A.lpI (l:=vals) (j0:=0) (B:=B1) (K:=K1) hm (λj1=>λ()=>[(3,i6 0),(6,lf aj vals),(7,i6 (vals.length:Int)),(8,i6 (j1:Int))]) (λj1=>λ()=>[]) ?_ ?_ ?_
 ·exact qW
 ·rintro j1 e1 Z1 ⟨⟩ hj1 hx1 hm;rw[hB1]at hm;refine qDs [] [] [(9,.bool (decide ((j1:Int)<(vals.length:Int))))]<|A.seq<|qT (ltT hx1)<|A.skip<|A.seq<|A.block<|qDs [(0,hix (ix aj (bn hx1)))] [9] [(5,i6 e1)]<|qDs [] [] [(14,.bool (!decide (e1=0)))] ?_
  rcases aB hm with⟨c1,hm⟩|⟨c1,hm⟩
  ·refine qT c1<|qS [] [(2,i6 e1)] [] ?_
   cases hm;exact A.ret qE
  exact qF c1<|A.skip<|qGs [(0,hto (inc hx1 hb1))] [8,5,14] [(8,i6 ((j1+1:Nat):Int))]<|qX () hm
 rintro j1 ⟨⟩ hj1 hl1 hm;rw[hK1]at hm;refine qDs [] [] [(9,.bool (decide ((j1:Int)<(vals.length:Int))))]<|A.seq<|qF (ltF hl1)<|A.exit<|qS [] [(2,i6 0)] [] ?_
 cases hm;exact A.ret qE
variable {mR:Nat}{oe:List AV}
theorem iH{xa0:List aU}{target:aU}{cmp:aU→aU→Option Int}(sZ:aN prog mR)(s4:∀(y0:aU) (y1:aU) (q:Int),cmp y0 y1=some q→RO prog mR [] ([.agg (k1 y0),.agg (k1 y1)]++oe) (i6 q)){r:Int×Bool}(hm:cr xa0 target cmp=some r):RO prog 130 [] [lf bw xa0,.agg (k1 target),.cfn mR oe] (.tup [i6 r.1,.bool r.2]):=by
 refine aY func130 rfl rfl ?_;unfold cr at hm;refine qS [(0,.al 130004)] [(0,lf bw xa0),(2,.cfn mR oe),(4,.ptr 130004 0)] [(130004,.cells 62 (k1 target))]<|qDs [(1,hto (lnE bw xa0))] [] [(8,i6 (xa0.length:Int))]<|qDs [] [] [(9,i6 0),(10,i6 (xa0.length:Int))]<|A.seq<|A.block ?_
 obtain⟨F1,n1,hF1,hm⟩:=fP hm;refine A.lpW (F:=F1) hm (λ(i_1,j_1)=>[(0,lf bw xa0),(2,.cfn mR oe),(4,.ptr 130004 0),(8,i6 (xa0.length:Int)),(9,i6 i_1),(10,i6 j_1)]) (λ(i_1,j_1)=>[(130004,.cells 62 (k1 target))]) ?_ ?_
 ·exact qW
 rintro Z1 ⟨i_1,j_1⟩ hm;rw[hF1]at hm;refine A.seq<|qDs [] [] [(17,.bool (decide (i_1<j_1)))] ?_
 rcases aB hm with⟨c1,hm⟩|⟨c1,hm⟩
 ·refine qT c1<|A.skip<|A.block<|qDs [(4,.sh (1:Int) (by decide))] [17] [(11,i6 (w64 (Int.fdiv (IntKind.wrap .u64 (w64 (i_1+j_1))) (2 ^ min (1:Int).toNat 64))))] ?_
  obtain⟨e_1,h1,hm⟩:=aa hm;obtain⟨az,h2,hm⟩:=aa hm;refine qDs [(3,hix (ix bw h1)),(6,hrf (s4 _ _ _ h2) sZ)] [] [(31,.bool (decide (az<0)))] ?_;rcases aB hm with⟨c2,hm⟩|⟨c2,hm⟩
  ·exact qT c2<|qGs [] [9,11,31] [(9,i6 (w64 ((w64 (Int.fdiv (IntKind.wrap .u64 (w64 (i_1+j_1))) (2 ^ min (1:Int).toNat 64)))+(1:Int))))]<|qX (w64 ((w64 (Int.fdiv (IntKind.wrap .u64 (w64 (i_1+j_1))) (2 ^ min (1:Int).toNat 64)))+(1:Int)),j_1) hm
  exact qF c2<|qGs [] [10,11,31] [(10,i6 (w64 (Int.fdiv (IntKind.wrap .u64 (w64 (i_1+j_1))) (2 ^ min (1:Int).toNat 64))))]<|qX (i_1,w64 (Int.fdiv (IntKind.wrap .u64 (w64 (i_1+j_1))) (2 ^ min (1:Int).toNat 64))) hm
 refine qF c1<|A.exit ?_
 rcases aB hm with⟨c3,hm⟩|⟨c3,hm⟩
 ·obtain⟨e_2,h3,hm⟩:=aa hm;obtain⟨aH,h4,hm⟩:=aa hm;refine qS [(4,hto (bE c3)),(8,hix (ix bw h3)),(11,hrf (s4 _ _ _ h4) sZ)] [(6,i6 i_1),(7,.bool (decide (aH=0)))] [] ?_;cases hm;exact A.ret qE
 refine qS [(4,hto (bE c3))] [(6,i6 i_1),(7,.bool false)] [] ?_;cases hm;exact A.ret qE
theorem fe{xa0:List aW}{target:Int}{cmp:aW→Int→Option Int}(sZ:aN prog mR)(s4:∀(y0:aW) (y1:Int) (q:Int),cmp y0 y1=some q→RO prog mR [] ([.agg (k0 y0),i6 y1]++oe) (i6 q)){r:Int×Bool}(hm:bV xa0 target cmp=some r):RO prog 136 [] [lf aV xa0,i6 target,.cfn mR oe] (.tup [i6 r.1,.bool r.2]):=by
 refine aY func136 rfl rfl ?_;unfold bV at hm;refine qS [] [(0,lf aV xa0),(1,i6 target),(2,.cfn mR oe)] []<|qDs [(1,hto (lnE aV xa0))] [] [(8,i6 (xa0.length:Int))]<|qDs [] [] [(9,i6 0),(10,i6 (xa0.length:Int))]<|A.seq<|A.block ?_
 obtain⟨F1,n1,hF1,hm⟩:=fP hm;refine A.lpW (F:=F1) hm (λ(i_1,j_1)=>[(0,lf aV xa0),(1,i6 target),(2,.cfn mR oe),(8,i6 (xa0.length:Int)),(9,i6 i_1),(10,i6 j_1)]) (λ(i_1,j_1)=>[]) ?_ ?_
 ·exact qW
 rintro Z1 ⟨i_1,j_1⟩ hm;rw[hF1]at hm;refine A.seq<|qDs [] [] [(17,.bool (decide (i_1<j_1)))] ?_
 rcases aB hm with⟨c1,hm⟩|⟨c1,hm⟩
 ·refine qT c1<|A.skip<|A.block<|qDs [(4,.sh (1:Int) (by decide))] [17] [(11,i6 (w64 (Int.fdiv (IntKind.wrap .u64 (w64 (i_1+j_1))) (2 ^ min (1:Int).toNat 64))))] ?_
  obtain⟨e_1,h1,hm⟩:=aa hm;obtain⟨az,h2,hm⟩:=aa hm;refine qDs [(3,hix (ix aV h1)),(6,hrf (s4 _ _ _ h2) sZ)] [] [(31,.bool (decide (az<0)))] ?_;rcases aB hm with⟨c2,hm⟩|⟨c2,hm⟩
  ·exact qT c2<|qGs [] [9,11,31] [(9,i6 (w64 ((w64 (Int.fdiv (IntKind.wrap .u64 (w64 (i_1+j_1))) (2 ^ min (1:Int).toNat 64)))+(1:Int))))]<|qX (w64 ((w64 (Int.fdiv (IntKind.wrap .u64 (w64 (i_1+j_1))) (2 ^ min (1:Int).toNat 64)))+(1:Int)),j_1) hm
  exact qF c2<|qGs [] [10,11,31] [(10,i6 (w64 (Int.fdiv (IntKind.wrap .u64 (w64 (i_1+j_1))) (2 ^ min (1:Int).toNat 64))))]<|qX (i_1,w64 (Int.fdiv (IntKind.wrap .u64 (w64 (i_1+j_1))) (2 ^ min (1:Int).toNat 64))) hm
 refine qF c1<|A.exit ?_
 rcases aB hm with⟨c3,hm⟩|⟨c3,hm⟩
 ·obtain⟨e_2,h3,hm⟩:=aa hm;obtain⟨aH,h4,hm⟩:=aa hm;refine qS [(4,hto (bE c3)),(8,hix (ix aV h3)),(11,hrf (s4 _ _ _ h4) sZ)] [(6,i6 i_1),(7,.bool (decide (aH=0)))] [] ?_;cases hm;exact A.ret qE
 refine qS [(4,hto (bE c3))] [(6,i6 i_1),(7,.bool false)] [] ?_;cases hm;exact A.ret qE
variable {sa0:List Int}
theorem qU{v:Int}{r:Int}(hm:ig sa0 v=some r):RO prog 146 [] [lf aj sa0,i6 v] (i6 r):=by
 refine aY func146 rfl rfl ?_;unfold ig at hm;refine qS [] [(0,lf aj sa0),(1,i6 v)] []<|A.seq<|qDs [(1,hto (lnE aj sa0))] [] [(7,i6 (sa0.length:Int)),(8,i6 0)]<|A.block<|A.bS 0 rfl λhb1=>?_
 obtain⟨B1,K1,hB1,hK1,hm⟩:=bh hm;refine A.lpI (l:=sa0) (j0:=0) (B:=B1) (K:=K1) hm (λj1=>λ()=>[(0,lf aj sa0),(1,i6 v),(7,i6 (sa0.length:Int)),(8,i6 (j1:Int))]) (λj1=>λ()=>[]) ?_ ?_ ?_
 ·exact qW
 ·rintro j1 e1 Z1 ⟨⟩ hj1 hx1 hm;rw[hB1]at hm;refine qDs [] [] [(9,.bool (decide ((j1:Int)<(sa0.length:Int))))]<|A.seq<|qT (ltT hx1)<|A.skip<|A.seq<|A.block<|qDs [] [9] [(5,i6 (j1:Int))]<|qDs [(3,hix (ix aj (bn hx1)))] [] [(16,.bool (decide (v=e1)))] ?_
  rcases aB hm with⟨c1,hm⟩|⟨c1,hm⟩
  ·refine qT c1<|qS [] [(4,i6 (j1:Int))] [] ?_
   cases hm;exact A.ret qE
  exact qF c1<|A.skip<|qGs [(0,hto (inc hx1 hb1))] [8,5,16] [(8,i6 ((j1+1:Nat):Int))]<|qX () hm
 rintro j1 ⟨⟩ hj1 hl1 hm;rw[hK1]at hm;refine qDs [] [] [(9,.bool (decide ((j1:Int)<(sa0.length:Int))))]<|A.seq<|qF (ltF hl1)<|A.exit<|qS [] [(4,i6 (-1))] [] ?_
 cases hm;exact A.ret qE
variable {f:aW→Option Bool}{f_c:List AV}{f_g:Nat}
theorem kZ{sa0:List aW}(f_k:aN prog f_g)(f_f:∀(y0:aW) (q:Bool),f y0=some q→RO prog f_g [] ([.agg (k0 y0)]++f_c) (.bool q)){r:Int}(hm:dW sa0 f=some r):RO prog 180 [] [lf aV sa0,.cfn f_g f_c] (i6 r):=by
 refine aY func180 rfl rfl ?_;unfold dW at hm;refine qS [] [(0,lf aV sa0),(1,.cfn f_g f_c)] []<|A.seq<|qDs [(1,hto (lnE aV sa0))] [] [(7,i6 (sa0.length:Int)),(8,i6 0)]<|A.block<|A.bS 0 rfl λhb1=>?_
 obtain⟨B1,K1,hB1,hK1,hm⟩:=bh hm;refine A.lpI (l:=sa0) (j0:=0) (B:=B1) (K:=K1) hm (λj1=>λ()=>[(0,lf aV sa0),(1,.cfn f_g f_c),(7,i6 (sa0.length:Int)),(8,i6 (j1:Int))]) (λj1=>λ()=>[]) ?_ ?_ ?_
 ·exact qW
 ·rintro j1 e1 Z1 ⟨⟩ hj1 hx1 hm;rw[hB1]at hm;refine qDs [] [] [(9,.bool (decide ((j1:Int)<(sa0.length:Int))))]<|A.seq<|qT (ltT hx1)<|A.skip<|A.seq<|A.block<|qDs [] [9] [(5,i6 (j1:Int))] ?_
  obtain⟨az,h1,hm⟩:=aa hm;refine qDs [(3,hix (ix aV (bn hx1))),(5,hrf (f_f _ _ h1) f_k)] [] [(16,.bool az)] ?_;rcases aB hm with⟨c1,hm⟩|⟨c1,hm⟩
  ·refine qT c1<|qS [] [(4,i6 (j1:Int))] [] ?_
   cases hm;exact A.ret qE
  exact qF c1<|A.skip<|qGs [(0,hto (inc hx1 hb1))] [8,5,16] [(8,i6 ((j1+1:Nat):Int))]<|qX () hm
 rintro j1 ⟨⟩ hj1 hl1 hm;rw[hK1]at hm;refine qDs [] [] [(9,.bool (decide ((j1:Int)<(sa0.length:Int))))]<|A.seq<|qF (ltF hl1)<|A.exit<|qS [] [(4,i6 (-1))] [] ?_
 cases hm;exact A.ret qE
theorem mc{sa0:List aU}{f:aU→Option Bool}(f_k:aN prog f_g)(f_f:∀(y0:aU) (q:Bool),f y0=some q→RO prog f_g [] ([.agg (k1 y0)]++f_c) (.bool q)){r:Int}(hm:er sa0 f=some r):RO prog 181 [] [lf bw sa0,.cfn f_g f_c] (i6 r):=by
 refine aY func181 rfl rfl ?_;unfold er at hm;refine qS [] [(0,lf bw sa0),(1,.cfn f_g f_c)] []<|A.seq<|qDs [(1,hto (lnE bw sa0))] [] [(7,i6 (sa0.length:Int)),(8,i6 0)]<|A.block<|A.bS 0 rfl λhb1=>?_
 obtain⟨B1,K1,hB1,hK1,hm⟩:=bh hm;refine A.lpI (l:=sa0) (j0:=0) (B:=B1) (K:=K1) hm (λj1=>λ()=>[(0,lf bw sa0),(1,.cfn f_g f_c),(7,i6 (sa0.length:Int)),(8,i6 (j1:Int))]) (λj1=>λ()=>[]) ?_ ?_ ?_
 ·exact qW
 ·rintro j1 e1 Z1 ⟨⟩ hj1 hx1 hm;rw[hB1]at hm;refine qDs [] [] [(9,.bool (decide ((j1:Int)<(sa0.length:Int))))]<|A.seq<|qT (ltT hx1)<|A.skip<|A.seq<|A.block<|qDs [] [9] [(5,i6 (j1:Int))] ?_
  obtain⟨az,h1,hm⟩:=aa hm;refine qDs [(3,hix (ix bw (bn hx1))),(5,hrf (f_f _ _ h1) f_k)] [] [(16,.bool az)] ?_;rcases aB hm with⟨c1,hm⟩|⟨c1,hm⟩
  ·refine qT c1<|qS [] [(4,i6 (j1:Int))] [] ?_
   cases hm;exact A.ret qE
  exact qF c1<|A.skip<|qGs [(0,hto (inc hx1 hb1))] [8,5,16] [(8,i6 ((j1+1:Nat):Int))]<|qX () hm
 rintro j1 ⟨⟩ hj1 hl1 hm;rw[hK1]at hm;refine qDs [] [] [(9,.bool (decide ((j1:Int)<(sa0.length:Int))))]<|A.seq<|qF (ltF hl1)<|A.exit<|qS [] [(4,i6 (-1))] [] ?_
 cases hm;exact A.ret qE
theorem lM{sa0:List ai}{f:ai→Option Bool}(f_k:aN prog f_g)(f_f:∀(y0:ai) (q:Bool),f y0=some q→RO prog f_g [] ([.agg (k4 y0)]++f_c) (.bool q)){r:Int}(hm:ei sa0 f=some r):RO prog 183 [] [lf aG sa0,.cfn f_g f_c] (i6 r):=by
 refine aY func183 rfl rfl ?_;unfold ei at hm;refine qS [] [(0,lf aG sa0),(1,.cfn f_g f_c)] []<|A.seq<|qDs [(1,hto (lnE aG sa0))] [] [(7,i6 (sa0.length:Int)),(8,i6 0)]<|A.block<|A.bS 0 rfl λhb1=>?_
 obtain⟨B1,K1,hB1,hK1,hm⟩:=bh hm;refine A.lpI (l:=sa0) (j0:=0) (B:=B1) (K:=K1) hm (λj1=>λ()=>[(0,lf aG sa0),(1,.cfn f_g f_c),(7,i6 (sa0.length:Int)),(8,i6 (j1:Int))]) (λj1=>λ()=>[]) ?_ ?_ ?_
 ·exact qW
 ·rintro j1 e1 Z1 ⟨⟩ hj1 hx1 hm;rw[hB1]at hm;refine qDs [] [] [(9,.bool (decide ((j1:Int)<(sa0.length:Int))))]<|A.seq<|qT (ltT hx1)<|A.skip<|A.seq<|A.block<|qDs [] [9] [(5,i6 (j1:Int))] ?_
  obtain⟨az,h1,hm⟩:=aa hm;refine qDs [(3,hix (ix aG (bn hx1))),(5,hrf (f_f _ _ h1) f_k)] [] [(16,.bool az)] ?_;rcases aB hm with⟨c1,hm⟩|⟨c1,hm⟩
  ·refine qT c1<|qS [] [(4,i6 (j1:Int))] [] ?_
   cases hm;exact A.ret qE
  exact qF c1<|A.skip<|qGs [(0,hto (inc hx1 hb1))] [8,5,16] [(8,i6 ((j1+1:Nat):Int))]<|qX () hm
 rintro j1 ⟨⟩ hj1 hl1 hm;rw[hK1]at hm;refine qDs [] [] [(9,.bool (decide ((j1:Int)<(sa0.length:Int))))]<|A.seq<|qF (ltF hl1)<|A.exit<|qS [] [(4,i6 (-1))] [] ?_
 cases hm;exact A.ret qE
theorem pU{v:Int}(hm:fq sa0 v=some r):RO prog 76 [] [lf aj sa0,i6 v] (.bool r):=by
 refine aY func76 rfl rfl ?_;unfold fq at hm;refine qS [] [(0,lf aj sa0),(1,i6 v)] [] ?_;obtain⟨az,h1,hm⟩:=aa hm;refine qS [(2,hro (qU h1) asj)] [(4,.bool (decide (0≤az)))] [] ?_;cases hm;exact A.ret qE
theorem jR{sa0:List aW}(f_k:aN prog f_g)(f_f:∀(y0:aW) (q:Bool),f y0=some q→RO prog f_g [] ([.agg (k0 y0)]++f_c) (.bool q))(hm:cN sa0 f=some r):RO prog 132 [] [lf aV sa0,.cfn f_g f_c] (.bool r):=by
 refine aY func132 rfl rfl ?_;unfold cN at hm;refine qS [] [(0,lf aV sa0),(1,.cfn f_g f_c)] [] ?_;obtain⟨az,h1,hm⟩:=aa hm;refine qS [(2,hro (kZ (f_k:=f_k) (f_f:=f_f) h1) ast)] [(4,.bool (decide (0≤az)))] [] ?_;cases hm;exact A.ret qE
theorem eO{sa0:List aU}{f:aU→Option Bool}(f_k:aN prog f_g)(f_f:∀(y0:aU) (q:Bool),f y0=some q→RO prog f_g [] ([.agg (k1 y0)]++f_c) (.bool q))(hm:cq sa0 f=some r):RO prog 138 [] [lf bw sa0,.cfn f_g f_c] (.bool r):=by
 refine aY func138 rfl rfl ?_;unfold cq at hm;refine qS [] [(0,lf bw sa0),(1,.cfn f_g f_c)] [] ?_;obtain⟨az,h1,hm⟩:=aa hm;refine qS [(2,hro (mc (f_k:=f_k) (f_f:=f_f) h1) asu)] [(4,.bool (decide (0≤az)))] [] ?_;cases hm;exact A.ret qE
theorem gv{n:Int}{least:Int}{most:Int}(hm:gY n least most=some r):RO prog 134 [] [i6 n,i6 least,i6 most] (.bool r):=by
 refine aY func134 rfl rfl ?_;unfold gY at hm;refine qS [] [(0,i6 n),(1,i6 least),(2,i6 most)] []<|A.mid [(6,.bool ((decide (least≤n))&&(decide (n≤most))))] [] (λhk=>?_) ?_
 ·rcases tf (decide (least≤n))with c1|c1
  ·exact qS [(3,hto (bE c1)),(8,hto (o9 (q:=decide (n≤most)) c1))] _ _ hk
  exact qS [(3,hto (bE c1)),(8,hto (qf (q:=decide (n≤most)) c1))] _ _ hk
 cases hm;exact A.ret qE
theorem oK{a:aU}{b:aU}{r:Int}(hm:gA a b=some r):RO prog 131 [] [.agg (k1 a),.agg (k1 b)] (i6 r):=by
 refine aY func131 rfl rfl ?_;unfold gA at hm;refine qS [(0,.al 131002),(1,.al 131003)] [(2,.ptr 131002 0),(3,.ptr 131003 0)] [(131002,.cells 62 (k1 a)),(131003,.cells 62 (k1 b))] ?_;obtain⟨az,h1,hm⟩:=aa hm;obtain⟨aH,h2,hm⟩:=aa hm;obtain⟨bA,h3,hm⟩:=aa hm;refine qS [(4,hro (dx h1) pz),(9,hro (dx h2) pz),(11,hro (kL h3) zM)] [(4,i6 bA)] [] ?_;cases hm;exact A.ret qE
variable {id:Int}{ra0:aW}
theorem qC{r:Int}(hm:jb ra0 id=some r):RO prog 137 [] [.agg (k0 ra0),i6 id] (i6 r):=by
 refine aY func137 rfl rfl ?_;unfold jb at hm;refine qS [(0,.al 137002)] [(1,i6 id),(2,.ptr 137002 0)] [(137002,.cells 31 (k0 ra0))] ?_;obtain⟨az,h1,hm⟩:=aa hm;refine qS [(3,hro (dx h1) pz)] [(4,i6 az)] [] ?_;cases hm;exact A.ret qE
theorem tQ(hm:kG ra0=some r):RO prog 133 [] [.agg (k0 ra0)] (.bool r):=by
 refine aY func133 rfl rfl ?_;unfold kG at hm;refine qS [(0,.al 133001)] [(1,.ptr 133001 0)] [(133001,.cells 31 (k0 ra0))] ?_;obtain⟨az,h1,hm⟩:=aa hm;refine qS [(2,hro (gv h1) uY)] [(2,.bool (!az))] [] ?_;cases hm;exact A.ret qE
variable {l:aU}
theorem tT(hm:iV l=some r):RO prog 139 [] [.agg (k1 l)] (.bool r):=by
 refine aY func139 rfl rfl ?_;unfold iV at hm;refine qS [(0,.al 139001)] [(1,.ptr 139001 0)] [(139001,.cells 62 (k1 l))] ?_;obtain⟨az,h1,hm⟩:=aa hm;rcases aB hm with⟨c1,hm⟩|⟨c1,hm⟩
 ·refine qS [(2,hro (gv h1) uY),(4,hto (bE c1))] [(2,.bool true)] [] ?_;cases hm;exact A.ret qE
 obtain⟨aH,h2,hm⟩:=aa hm;rcases aB hm with⟨c2,hm⟩|⟨c2,hm⟩
 ·refine qS [(2,hro (gv h1) uY),(4,hto (bE c1)),(7,hro (gv h2) uY),(10,hto (bE c2))] [(2,.bool true)] [] ?_;cases hm;exact A.ret qE
 obtain⟨bA,h3,hm⟩:=aa hm;refine qS [(2,hro (gv h1) uY),(4,hto (bE c1)),(7,hro (gv h2) uY),(10,hto (bE c2)),(13,hro (gv h3) uY)] [(2,.bool (!bA))] [] ?_;cases hm;exact A.ret qE
variable {c_0:af}
theorem lN(hm:gB id c_0=some r):RO prog 135 [] [i6 id,.cO (k2 c_0)] (.bool r):=by
 refine aY func135 rfl rfl ?_;unfold gB at hm;refine qS [] [(0,i6 id),(1,.cO (k2 c_0))] [] ?_;obtain⟨az,h1,hm⟩:=aa hm;refine qS [(3,hro (fe (mR:=137) (oe:=[]) (sZ:=ajM) (s4:=λ_ _ _ h=>qC h) h1) ajL)] [(5,.bool az.2)] []<|qS [] [(3,.bool (!az.2))] [] ?_
 cases hm;exact A.ret qE
theorem tU(hm:kH l c_0=some r):RO prog 140 [] [.agg (k1 l),.cO [.fn 135 [.cO (k2 c_0)]]] (.bool r):=by
 refine aY func140 rfl rfl ?_;unfold kH at hm;refine qS [(0,.al 140002)] [(1,.cO [.fn 135 [.cO (k2 c_0)]]),(2,.ptr 140002 0)] [(140002,.cells 62 (k1 l))] ?_;obtain⟨az,h1,hm⟩:=aa hm;rcases aB hm with⟨c1,hm⟩|⟨c1,hm⟩
 ·refine qS [(3,hle [] (lN h1) ae0),(4,hto (bE c1))] [(3,.bool true)] [] ?_;cases hm;exact A.ret qE
 obtain⟨aH,h2,hm⟩:=aa hm;refine qS [(3,hle [] (lN h1) ae0),(4,hto (bE c1)),(8,hle [] (lN h2) ae0)] [(3,.bool aH)] [] ?_;cases hm;exact A.ret qE
theorem tV(hm:kI l=some r):RO prog 141 [] [.agg (k1 l)] (.bool r):=by
 refine aY func141 rfl rfl ?_;unfold kI at hm;refine qS [(0,.al 141001)] [(1,.ptr 141001 0)] [(141001,.cells 62 (k1 l))]<|qS [] [(2,.bool (decide (l.B≤l.A)))] [] ?_
 cases hm;exact A.ret qE
variable {t:af}
theorem mK{r:Int}(hm:gu t=some r):RO prog 71 [] [.agg (k2 t)] (i6 r):=by
 refine aY func71 rfl rfl ?_;unfold gu at hm;refine qS [(0,.al 71001)] [(1,.ptr 71001 0)] [(71001,.cells 28 (k2 t))]<|A.seq<|A.block<|A.mid [(1,.ptr 71001 0),(6,.bool ((decide (24<(t.ay.length:Int)))||(decide (60<(t.Links.length:Int)))))] [(71001,.cells 28 (k2 t))] (λhk=>?_) ?_
 ·rcases tf (decide (24<(t.ay.length:Int)))with c1|c1
  ·exact qS [(2,hto (lnE aV t.ay)),(4,hto (bE c1)),(10,hto (orT (q:=decide (60<(t.Links.length:Int))) c1))] _ _ hk
  exact qS [(2,hto (lnE aV t.ay)),(4,hto (bE c1)),(7,hto (lnE bw t.Links)),(10,hto (orF (q:=decide (60<(t.Links.length:Int))) c1))] _ _ hk
 rcases aB hm with⟨c2,hm⟩|⟨c2,hm⟩
 ·refine qT c2<|qS [] [(2,i6 3)] [] ?_
  cases hm;exact A.ret qE
 refine qF c2 ?_;obtain⟨az,h1,hm⟩:=aa hm;refine qDs [(2,hro (jR (f_g:=133) (f_c:=[]) (f_k:=asd) (f_f:=λ_ _ h=>tQ h) h1) asb)] [6] [(17,.bool az)] ?_;rcases aB hm with⟨c3,hm⟩|⟨c3,hm⟩
 ·refine qT c3<|qS [] [(2,i6 2)] [] ?_
  cases hm;exact A.ret qE
 refine qF c3<|A.skip<|A.seq<|qDs [(2,hto (lnE aV t.ay))] [17] [(23,i6 (t.ay.length:Int)),(24,i6 0)]<|A.block<|A.bC 1 0 rfl rfl rfl λhb1=>?_
 obtain⟨B1,K1,hB1,hK1,hm⟩:=bh hm;refine A.lpI (l:=t.ay) (j0:=0) (B:=B1) (K:=K1) hm (λj1=>λ()=>[(1,.ptr 71001 0),(23,i6 (t.ay.length:Int)),(24,i6 (j1:Int))]) (λj1=>λ()=>[(71001,.cells 28 (k2 t))]) ?_ ?_ ?_
 ·exact qW
 ·rintro j1 e1 Z1 ⟨⟩ hj1 hx1 hm;rw[hB1]at hm;refine qDs [] [] [(25,.bool (decide ((j1:Int)<(t.ay.length:Int))))]<|A.seq<|qT (ltT hx1)<|A.skip<|A.seq<|A.block<|qDs [] [25] [(3,i6 (j1:Int))] ?_
  obtain⟨J1,hJ1,hm⟩:=dF hm;refine A.J (J:=J1) (r:=r) (λv_1=>[(1,.ptr 71001 0),(23,i6 (t.ay.length:Int)),(24,i6 (j1:Int)),(44,.bool v_1)]) (λv_1=>[(71001,.cells 28 (k2 t))]) ?_ ?_
  ·rcases aB hm with⟨c4,hm⟩|⟨c4,hm⟩
   ·obtain⟨e_1,h2,hm⟩:=aa hm;exact qGs [(2,hto (bE c4)),(7,hix (ix aV h2)),(13,hix (ix aV (bn hx1)))] [3] [(44,.bool (decide (e1.ID≤e_1.ID)))]<|qX (decide (e1.ID≤e_1.ID)) hm
   exact qGs [(2,hto (bE c4))] [3] [(44,.bool false)]<|qX false hm
  rintro v_1 hm;rw[hJ1]at hm;rcases aB hm with⟨c5,hm⟩|⟨c5,hm⟩
  ·refine qT c5<|qS [] [(2,i6 25)] [] ?_
   cases hm;exact A.ret qE
  exact qF c5<|A.skip<|qGs [(0,hto (inc hx1 hb1))] [24,44] [(24,i6 ((j1+1:Nat):Int))]<|qX () hm
 rintro j1 ⟨⟩ hj1 hl1 hm;rw[hK1]at hm;refine qDs [] [] [(25,.bool (decide ((j1:Int)<(t.ay.length:Int))))]<|A.seq<|qF (ltF hl1)<|A.exit<|qD [(1,.al 71004)] [23,24,25] [(4,.ptr 71004 0)] [] [(71004,.cells 188 [.fn 135 [.ptr 71001 0]])]<|A.seq<|A.block ?_
 obtain⟨aH,h3,hm⟩:=aa hm;refine qDs [(2,hro (eO (f_g:=139) (f_c:=[]) (f_k:=ase) (f_f:=λ_ _ h=>tT h) h3) ae1)] [] [(47,.bool aH)] ?_;rcases aB hm with⟨c6,hm⟩|⟨c6,hm⟩
 ·refine qT c6<|qS [] [(2,i6 2)] [] ?_
  cases hm;exact A.ret qE
 refine qF c6 ?_;obtain⟨bA,h4,hm⟩:=aa hm;refine qD [(3,hle [71004,71001] (eO (f_g:=140) (f_c:=[.cO [.fn 135 [.cO (k2 t)]]]) (f_k:=asf) (f_f:=λ_ _ h=>tU h) h4) ae1)] [4,47] [(51,.bool bA)] [71004] [] ?_;rcases aB hm with⟨c7,hm⟩|⟨c7,hm⟩
 ·refine qT c7<|qS [] [(2,i6 4)] [] ?_
  cases hm;exact A.ret qE
 refine qF c7 ?_;obtain⟨bU,h5,hm⟩:=aa hm;refine qDs [(2,hro (eO (f_g:=141) (f_c:=[]) (f_k:=asg) (f_f:=λ_ _ h=>tV h) h5) ae1)] [51] [(56,.bool bU)] ?_;rcases aB hm with⟨c8,hm⟩|⟨c8,hm⟩
 ·refine qT c8<|qS [] [(2,i6 8)] [] ?_
  cases hm;exact A.ret qE
 refine qF c8<|A.skip<|A.seq<|qDs [(2,hto (lnE bw t.Links))] [56] [(62,i6 (t.Links.length:Int)),(63,i6 0)]<|A.block<|A.bC 1 1 rfl rfl rfl λhb2=>?_
 obtain⟨B2,K2,hB2,hK2,hm⟩:=bh hm;refine A.lpI (l:=t.Links) (j0:=0) (B:=B2) (K:=K2) hm (λj2=>λ()=>[(1,.ptr 71001 0),(62,i6 (t.Links.length:Int)),(63,i6 (j2:Int))]) (λj2=>λ()=>[(71001,.cells 28 (k2 t))]) ?_ ?_ ?_
 ·exact qW
 ·rintro j2 e2 Z2 ⟨⟩ hj2 hx2 hm;rw[hB2]at hm;refine qDs [] [] [(64,.bool (decide ((j2:Int)<(t.Links.length:Int))))]<|A.seq<|qT (ltT hx2)<|A.skip<|A.seq<|A.block<|qDs [] [64] [(5,i6 (j2:Int))] ?_
  obtain⟨J2,hJ2,hm⟩:=dF hm;refine A.J (J:=J2) (r:=r) (λv_2=>[(1,.ptr 71001 0),(62,i6 (t.Links.length:Int)),(63,i6 (j2:Int)),(82,.bool v_2)]) (λv_2=>[(71001,.cells 28 (k2 t))]) ?_ ?_
  ·rcases aB hm with⟨c9,hm⟩|⟨c9,hm⟩
   ·obtain⟨e_2,h6,hm⟩:=aa hm;obtain⟨dP,h7,hm⟩:=aa hm;exact qGs [(2,hto (bE c9)),(7,hix (ix bw h6)),(12,hix (ix bw (bn hx2))),(14,hro (oK h7) ajK)] [5] [(82,.bool (decide (0≤dP)))]<|qX (decide (0≤dP)) hm
   exact qGs [(2,hto (bE c9))] [5] [(82,.bool false)]<|qX false hm
  rintro v_2 hm;rw[hJ2]at hm;rcases aB hm with⟨c10,hm⟩|⟨c10,hm⟩
  ·refine qT c10<|qS [] [(2,i6 25)] [] ?_
   cases hm;exact A.ret qE
  exact qF c10<|A.skip<|qGs [(0,hto (inc hx2 hb2))] [63,82] [(63,i6 ((j2+1:Nat):Int))]<|qX () hm
 rintro j2 ⟨⟩ hj2 hl2 hm;rw[hK2]at hm;refine qDs [] [] [(64,.bool (decide ((j2:Int)<(t.Links.length:Int))))]<|A.seq<|qF (ltF hl2)<|A.exit<|qS [] [(2,i6 0)] [] ?_
 cases hm;exact A.ret qE
theorem mL(hm:iG t=some r):RO prog 129 [] [.agg (k2 t)] (.bool r):=by
 refine aY func129 rfl rfl ?_;unfold iG at hm;refine qS [(0,.al 129001)] [(1,.ptr 129001 0)] [(129001,.cells 28 (k2 t))] ?_;obtain⟨az,h1,hm⟩:=aa hm;refine qS [(1,hro (mK h1) ah0)] [(2,.bool (decide (az=0)))] [] ?_;cases hm;exact A.ret qE
variable {iW:Int}
theorem wS{r:aW×Bool}(hm:kJ t iW=some r):RO prog 144 [] [.agg (k2 t),i6 iW] (.tup [.agg (k0 r.1),.bool r.2]):=by
 refine aY func144 rfl rfl ?_;unfold kJ at hm;refine qS [(0,.al 144002),(1,.al 144004)] [(1,i6 iW),(2,.ptr 144002 0),(4,.ptr 144004 0)] [(144002,.cells 28 (k2 t)),(144004,.cells 31 [i6 0,.bool false])] ?_;obtain⟨az,h1,hm⟩:=aa hm;refine qDs [(3,hro (fe (mR:=137) (oe:=[]) (sZ:=ajM) (s4:=λ_ _ _ h=>qC h) h1) ajL)] [1] [(6,i6 az.1),(7,.bool az.2)]<|A.seq<|qDs [] [7] [(16,.bool (!az.2))] ?_
 rcases aB hm with⟨c1,hm⟩|⟨c1,hm⟩
 ·refine qT c1<|qD [] [2,6,16] [(5,.bool false)] [144002] [] ?_
  cases hm;exact A.ret qE
 refine qF c1<|A.skip ?_
 obtain⟨e_1,h2,hm⟩:=aa hm;refine qS [(3,hix (ix aV h2))] [(4,.ptr 144004 0),(5,.bool true)] [(144004,.cells 31 (k0 e_1))] ?_;cases hm;exact A.ret qE
theorem ry(hm:jx t iW=some r):RO prog 73 [] [.agg (k2 t),i6 iW] (.bool r):=by
 refine aY func73 rfl rfl ?_;unfold jx at hm;refine qS [(0,.al 73002)] [(1,i6 iW),(2,.ptr 73002 0)] [(73002,.cells 28 (k2 t))] ?_;obtain⟨az,h1,hm⟩:=aa hm;refine qDs [(2,hro (wS h1) asi),(6,.al 73005)] [1] [(6,.bool az.2)] ?_;obtain⟨aH,h2,hm⟩:=aa hm;rcases aB hm with⟨c1,hm⟩|⟨c1,hm⟩
 ·refine qS [(1,hro (mL h2) aeZ),(2,hto (bE c1))] [(4,.bool az.2)] [] ?_;cases hm;exact A.ret qE
 refine qS [(1,hro (mL h2) aeZ),(2,hto (bE c1))] [(4,.bool false)] [] ?_;cases hm;exact A.ret qE
theorem wT{dA:Int}{ff:Int}{r:Int×Bool}(hm:kK t dA ff=some r):RO prog 70 [] [.agg (k2 t),i6 dA,i6 ff] (.tup [i6 r.1,.bool r.2]):=by
 refine aY func70 rfl rfl ?_;unfold kK at hm;refine qS [(0,.al 70003)] [(1,i6 dA),(2,i6 ff),(3,.ptr 70003 0)] [(70003,.cells 28 (k2 t))]<|A.seq ?_
 obtain⟨az,h1,hm⟩:=aa hm;refine qDs [(1,hro (mL h1) aeZ)] [] [(12,.bool (!az))] ?_;rcases aB hm with⟨c1,hm⟩|⟨c1,hm⟩
 ·refine qT c1<|qS [] [(6,i6 0),(7,.bool false)] [] ?_
  cases hm;exact A.ret qE
 refine qF c1<|A.skip ?_
 obtain⟨aH,h2,hm⟩:=aa hm;refine qDs [(9,hro (iH (mR:=131) (oe:=[]) (sZ:=ajK) (s4:=λ_ _ _ h=>oK h) h2) asa)] [12] [(8,i6 aH.1),(9,.bool aH.2)]<|A.seq<|A.block<|qDs [] [9] [(26,.bool (!aH.2))] ?_
 rcases aB hm with⟨c2,hm⟩|⟨c2,hm⟩
 ·refine qT c2<|qS [] [(6,i6 0),(7,.bool false)] [] ?_
  cases hm;exact A.ret qE
 refine qF c2<|qDs [] [1,2,26] [(29,.bool (decide (dA<ff)))] ?_
 rcases aB hm with⟨c3,hm⟩|⟨c3,hm⟩
 ·refine qT c3 ?_;obtain⟨e_1,h3,hm⟩:=aa hm;refine qS [(3,hix (ix bw h3))] [(6,i6 e_1.ec),(7,.bool true)] [] ?_;cases hm;exact A.ret qE
 refine qF c3<|A.skip ?_
 obtain⟨e_2,h4,hm⟩:=aa hm;refine qS [(3,hix (ix bw h4))] [(6,i6 e_2.eB),(7,.bool true)] [] ?_;cases hm;exact A.ret qE
end Go.Proofs.YtmnbolcmepihlaaGreat
