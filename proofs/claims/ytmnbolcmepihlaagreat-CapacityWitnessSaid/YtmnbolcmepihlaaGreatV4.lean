/- The walks of cv of the program. No condition but aT aH stand in each. -/
import Derived.Test.YtmnbolcmepihlaaGreatDA
namespace Go.Proofs.YtmnbolcmepihlaaGreat
open Go Go.Proofs.Tryz
set_option maxRecDepth 100000
set_option linter.all false
variable {r:Bool}{xa0:Int}
theorem fk(hm:eT xa0=some r):RO prog 164 [] [i6 xa0] (.bool r):=by
 refine bg func164 rfl rfl ?_
 unfold eT at hm
 refine qS [] [(0,i6 xa0)] []<|qS [] [(2,.bool (!decide (xa0=xa0)))] [] ?_
 cases hm
 exact A.ret qE
theorem cR{y:Int}{r:Int}(hm:b8 xa0 y=some r):RO prog 106 [] [i6 xa0,i6 y] (i6 r):=by
 refine bg func106 rfl rfl ?_
 unfold b8 at hm
 refine qS [] [(0,i6 xa0),(1,i6 y)] [] ?_
 obtain⟨ay,h1,hm⟩:=ah hm
 refine qDs [(1,hro (fk h1) sD)] [] [(5,.bool ay)] ?_
 obtain⟨aI,h2,hm⟩:=ah hm
 refine qDs [(1,hro (fk h2) sD)] [] [(6,.bool aI)]<|A.seq<|qDs [] [5] [(11,.bool ay)] ?_
 rcases aG hm with⟨c1,hm⟩|⟨c1,hm⟩
 ·refine qT c1<|A.seq<|qS [] [(12,.bool aI)] [] ?_
  rcases aG hm with⟨c2,hm⟩|⟨c2,hm⟩
  ·refine qT c2<|qS [] [(4,i6 0)] [] ?_
   cases hm
   exact A.ret qE
  refine qF c2<|A.skip<|qS [] [(4,i6 (-1))] [] ?_
  cases hm
  exact A.ret qE
 refine qF c1<|A.skip<|A.seq<|qDs [] [6,11] [(13,.bool aI)] ?_
 rcases aG hm with⟨c3,hm⟩|⟨c3,hm⟩
 ·refine qT c3<|qS [] [(4,i6 1)] [] ?_
  cases hm
  exact A.ret qE
 refine qF c3<|A.skip<|A.seq<|qDs [] [13] [(16,.bool (decide (xa0<y)))] ?_
 rcases aG hm with⟨c4,hm⟩|⟨c4,hm⟩
 ·refine qT c4<|qS [] [(4,i6 (-1))] [] ?_
  cases hm
  exact A.ret qE
 refine qF c4<|A.skip<|A.seq<|qS [] [(19,.bool (decide (y<xa0)))] [] ?_
 rcases aG hm with⟨c5,hm⟩|⟨c5,hm⟩
 ·refine qT c5<|qS [] [(4,i6 1)] [] ?_
  cases hm
  exact A.ret qE
 refine qF c5<|A.skip<|qS [] [(4,i6 0)] [] ?_
 cases hm
 exact A.ret qE
theorem je{vals:List Int}{r:Int}(hm:eE vals=some r):RO prog 126 [] [lf aB vals] (i6 r):=by
 refine bg func126 rfl rfl ?_
 unfold eE at hm
 refine qS [] [(0,lf aB vals)] []<|qDs [] [] [(3,i6 0)]<|A.seq<|qDs [(1,hto (lnE aB vals))] [0] [(6,lf aB vals),(7,i6 (vals.length:Int)),(8,i6 0)]<|A.block<|A.bS 6 rfl λhb1=>?_
 obtain⟨B1,K1,hB1,hK1,hm⟩:=cg hm
 refine A.lpI (l:=vals) (j0:=0) (B:=B1) (K:=K1) hm (λj1=>λ()=>[(3,i6 0),(6,lf aB vals),(7,i6 (vals.length:Int)),(8,i6 (j1:Int))]) (λj1=>λ()=>[]) ?_ ?_ ?_
 ·exact qW
 ·rintro j1 e1 Z1 ⟨⟩ hj1 hx1 hm
  rw[hB1]at hm
  refine qDs [] [] [(9,.bool (decide ((j1:Int)<(vals.length:Int))))]<|A.seq<|qT (ltT hx1)<|A.skip<|A.seq<|A.block<|qDs [(0,hix (ix aB (cw hx1)))] [9] [(5,i6 e1)]<|qDs [] [] [(14,.bool (!decide (e1=0)))] ?_
  rcases aG hm with⟨c1,hm⟩|⟨c1,hm⟩
  ·refine qT c1<|qS [] [(2,i6 e1)] [] ?_
   cases hm
   exact A.ret qE
  exact qF c1<|A.skip<|qGs [(0,hto (inc hx1 hb1))] [8,5,14] [(8,i6 ((j1+1:Nat):Int))]<|qX () hm
 rintro j1 ⟨⟩ hj1 hl1 hm
 rw[hK1]at hm
 refine qDs [] [] [(9,.bool (decide ((j1:Int)<(vals.length:Int))))]<|A.seq<|qF (ltF hl1)<|A.exit<|qS [] [(2,i6 0)] [] ?_
 cases hm
 exact A.ret qE
variable {kO:Nat}{l6:List AV}
theorem gC{xa0:List aY}{target:aY}{cmp:aY→aY→Option Int}(qk:aP prog kO)(ql:∀(y0:aY) (y1:aY) (q:Int),cmp y0 y1=some q→RO prog kO [] ([.agg (k1 y0),.agg (k1 y1)]++l6) (i6 q)){r:Int×Bool}(hm:bY xa0 target cmp=some r):RO prog 130 [] [lf bQ xa0,.agg (k1 target),.cfn kO l6] (.tup [i6 r.1,.bool r.2]):=by
 refine bg func130 rfl rfl ?_
 unfold bY at hm
 refine qS [(0,.al 130004)] [(0,lf bQ xa0),(2,.cfn kO l6),(4,.ptr 130004 0)] [(130004,.cells 62 (k1 target))]<|qDs [(1,hto (lnE bQ xa0))] [] [(8,i6 (xa0.length:Int))]<|qDs [] [] [(9,i6 0),(10,i6 (xa0.length:Int))]<|A.seq<|A.block ?_
 obtain⟨F1,n1,hF1,hm⟩:=gW hm
 refine A.lpW (F:=F1) hm (λ(i_1,j_1)=>[(0,lf bQ xa0),(2,.cfn kO l6),(4,.ptr 130004 0),(8,i6 (xa0.length:Int)),(9,i6 i_1),(10,i6 j_1)]) (λ(i_1,j_1)=>[(130004,.cells 62 (k1 target))]) ?_ ?_
 ·exact qW
 rintro Z1 ⟨i_1,j_1⟩ hm
 rw[hF1]at hm
 refine A.seq<|qDs [] [] [(17,.bool (decide (i_1<j_1)))] ?_
 rcases aG hm with⟨c1,hm⟩|⟨c1,hm⟩
 ·refine qT c1<|A.skip<|A.block<|qDs [(4,.sh (1:Int) (by decide))] [17] [(11,i6 (w64 (Int.fdiv (IntKind.wrap .u64 (w64 (i_1+j_1))) (2 ^ min (1:Int).toNat 64))))] ?_
  obtain⟨e_1,h1,hm⟩:=ah hm
  obtain⟨ay,h2,hm⟩:=ah hm
  refine qDs [(3,hix (ix bQ h1)),(6,hrf (ql _ _ _ h2) qk)] [] [(31,.bool (decide (ay<0)))] ?_
  rcases aG hm with⟨c2,hm⟩|⟨c2,hm⟩
  ·exact qT c2<|qGs [] [9,11,31] [(9,i6 (w64 ((w64 (Int.fdiv (IntKind.wrap .u64 (w64 (i_1+j_1))) (2 ^ min (1:Int).toNat 64)))+(1:Int))))]<|qX (w64 ((w64 (Int.fdiv (IntKind.wrap .u64 (w64 (i_1+j_1))) (2 ^ min (1:Int).toNat 64)))+(1:Int)),j_1) hm
  exact qF c2<|qGs [] [10,11,31] [(10,i6 (w64 (Int.fdiv (IntKind.wrap .u64 (w64 (i_1+j_1))) (2 ^ min (1:Int).toNat 64))))]<|qX (i_1,w64 (Int.fdiv (IntKind.wrap .u64 (w64 (i_1+j_1))) (2 ^ min (1:Int).toNat 64))) hm
 refine qF c1<|A.exit ?_
 rcases aG hm with⟨c3,hm⟩|⟨c3,hm⟩
 ·obtain⟨e_2,h3,hm⟩:=ah hm
  obtain⟨aI,h4,hm⟩:=ah hm
  refine qS [(4,hto (bE c3)),(8,hix (ix bQ h3)),(11,hrf (ql _ _ _ h4) qk)] [(6,i6 i_1),(7,.bool (decide (aI=0)))] [] ?_
  cases hm
  exact A.ret qE
 refine qS [(4,hto (bE c3))] [(6,i6 i_1),(7,.bool false)] [] ?_
 cases hm
 exact A.ret qE
theorem eB{xa0:List aW}{target:Int}{cmp:aW→Int→Option Int}(qk:aP prog kO)(ql:∀(y0:aW) (y1:Int) (q:Int),cmp y0 y1=some q→RO prog kO [] ([.agg (k0 y0),i6 y1]++l6) (i6 q)){r:Int×Bool}(hm:bL xa0 target cmp=some r):RO prog 136 [] [lf bn xa0,i6 target,.cfn kO l6] (.tup [i6 r.1,.bool r.2]):=by
 refine bg func136 rfl rfl ?_
 unfold bL at hm
 refine qS [] [(0,lf bn xa0),(1,i6 target),(2,.cfn kO l6)] []<|qDs [(1,hto (lnE bn xa0))] [] [(8,i6 (xa0.length:Int))]<|qDs [] [] [(9,i6 0),(10,i6 (xa0.length:Int))]<|A.seq<|A.block ?_
 obtain⟨F1,n1,hF1,hm⟩:=gW hm
 refine A.lpW (F:=F1) hm (λ(i_1,j_1)=>[(0,lf bn xa0),(1,i6 target),(2,.cfn kO l6),(8,i6 (xa0.length:Int)),(9,i6 i_1),(10,i6 j_1)]) (λ(i_1,j_1)=>[]) ?_ ?_
 ·exact qW
 rintro Z1 ⟨i_1,j_1⟩ hm
 rw[hF1]at hm
 refine A.seq<|qDs [] [] [(17,.bool (decide (i_1<j_1)))] ?_
 rcases aG hm with⟨c1,hm⟩|⟨c1,hm⟩
 ·refine qT c1<|A.skip<|A.block<|qDs [(4,.sh (1:Int) (by decide))] [17] [(11,i6 (w64 (Int.fdiv (IntKind.wrap .u64 (w64 (i_1+j_1))) (2 ^ min (1:Int).toNat 64))))] ?_
  obtain⟨e_1,h1,hm⟩:=ah hm
  obtain⟨ay,h2,hm⟩:=ah hm
  refine qDs [(3,hix (ix bn h1)),(6,hrf (ql _ _ _ h2) qk)] [] [(31,.bool (decide (ay<0)))] ?_
  rcases aG hm with⟨c2,hm⟩|⟨c2,hm⟩
  ·exact qT c2<|qGs [] [9,11,31] [(9,i6 (w64 ((w64 (Int.fdiv (IntKind.wrap .u64 (w64 (i_1+j_1))) (2 ^ min (1:Int).toNat 64)))+(1:Int))))]<|qX (w64 ((w64 (Int.fdiv (IntKind.wrap .u64 (w64 (i_1+j_1))) (2 ^ min (1:Int).toNat 64)))+(1:Int)),j_1) hm
  exact qF c2<|qGs [] [10,11,31] [(10,i6 (w64 (Int.fdiv (IntKind.wrap .u64 (w64 (i_1+j_1))) (2 ^ min (1:Int).toNat 64))))]<|qX (i_1,w64 (Int.fdiv (IntKind.wrap .u64 (w64 (i_1+j_1))) (2 ^ min (1:Int).toNat 64))) hm
 refine qF c1<|A.exit ?_
 rcases aG hm with⟨c3,hm⟩|⟨c3,hm⟩
 ·obtain⟨e_2,h3,hm⟩:=ah hm
  obtain⟨aI,h4,hm⟩:=ah hm
  refine qS [(4,hto (bE c3)),(8,hix (ix bn h3)),(11,hrf (ql _ _ _ h4) qk)] [(6,i6 i_1),(7,.bool (decide (aI=0)))] [] ?_
  cases hm
  exact A.ret qE
 refine qS [(4,hto (bE c3))] [(6,i6 i_1),(7,.bool false)] [] ?_
 cases hm
 exact A.ret qE
variable {sa0:List Int}
theorem oB{v:Int}{r:Int}(hm:gp sa0 v=some r):RO prog 146 [] [lf aB sa0,i6 v] (i6 r):=by
 refine bg func146 rfl rfl ?_
 unfold gp at hm
 refine qS [] [(0,lf aB sa0),(1,i6 v)] []<|A.seq<|qDs [(1,hto (lnE aB sa0))] [] [(7,i6 (sa0.length:Int)),(8,i6 0)]<|A.block<|A.bS 0 rfl λhb1=>?_
 obtain⟨B1,K1,hB1,hK1,hm⟩:=cg hm
 refine A.lpI (l:=sa0) (j0:=0) (B:=B1) (K:=K1) hm (λj1=>λ()=>[(0,lf aB sa0),(1,i6 v),(7,i6 (sa0.length:Int)),(8,i6 (j1:Int))]) (λj1=>λ()=>[]) ?_ ?_ ?_
 ·exact qW
 ·rintro j1 e1 Z1 ⟨⟩ hj1 hx1 hm
  rw[hB1]at hm
  refine qDs [] [] [(9,.bool (decide ((j1:Int)<(sa0.length:Int))))]<|A.seq<|qT (ltT hx1)<|A.skip<|A.seq<|A.block<|qDs [] [9] [(5,i6 (j1:Int))]<|qDs [(3,hix (ix aB (cw hx1)))] [] [(16,.bool (decide (v=e1)))] ?_
  rcases aG hm with⟨c1,hm⟩|⟨c1,hm⟩
  ·refine qT c1<|qS [] [(4,i6 (j1:Int))] [] ?_
   cases hm
   exact A.ret qE
  exact qF c1<|A.skip<|qGs [(0,hto (inc hx1 hb1))] [8,5,16] [(8,i6 ((j1+1:Nat):Int))]<|qX () hm
 rintro j1 ⟨⟩ hj1 hl1 hm
 rw[hK1]at hm
 refine qDs [] [] [(9,.bool (decide ((j1:Int)<(sa0.length:Int))))]<|A.seq<|qF (ltF hl1)<|A.exit<|qS [] [(4,i6 (-1))] [] ?_
 cases hm
 exact A.ret qE
variable {f:aW→Option Bool}{f_c:List AV}{f_g:Nat}
theorem jr{sa0:List aW}(f_k:aP prog f_g)(f_f:∀(y0:aW) (q:Bool),f y0=some q→RO prog f_g [] ([.agg (k0 y0)]++f_c) (.bool q)){r:Int}(hm:dJ sa0 f=some r):RO prog 180 [] [lf bn sa0,.cfn f_g f_c] (i6 r):=by
 refine bg func180 rfl rfl ?_
 unfold dJ at hm
 refine qS [] [(0,lf bn sa0),(1,.cfn f_g f_c)] []<|A.seq<|qDs [(1,hto (lnE bn sa0))] [] [(7,i6 (sa0.length:Int)),(8,i6 0)]<|A.block<|A.bS 0 rfl λhb1=>?_
 obtain⟨B1,K1,hB1,hK1,hm⟩:=cg hm
 refine A.lpI (l:=sa0) (j0:=0) (B:=B1) (K:=K1) hm (λj1=>λ()=>[(0,lf bn sa0),(1,.cfn f_g f_c),(7,i6 (sa0.length:Int)),(8,i6 (j1:Int))]) (λj1=>λ()=>[]) ?_ ?_ ?_
 ·exact qW
 ·rintro j1 e1 Z1 ⟨⟩ hj1 hx1 hm
  rw[hB1]at hm
  refine qDs [] [] [(9,.bool (decide ((j1:Int)<(sa0.length:Int))))]<|A.seq<|qT (ltT hx1)<|A.skip<|A.seq<|A.block<|qDs [] [9] [(5,i6 (j1:Int))] ?_
  obtain⟨ay,h1,hm⟩:=ah hm
  refine qDs [(3,hix (ix bn (cw hx1))),(5,hrf (f_f _ _ h1) f_k)] [] [(16,.bool ay)] ?_
  rcases aG hm with⟨c1,hm⟩|⟨c1,hm⟩
  ·refine qT c1<|qS [] [(4,i6 (j1:Int))] [] ?_
   cases hm
   exact A.ret qE
  exact qF c1<|A.skip<|qGs [(0,hto (inc hx1 hb1))] [8,5,16] [(8,i6 ((j1+1:Nat):Int))]<|qX () hm
 rintro j1 ⟨⟩ hj1 hl1 hm
 rw[hK1]at hm
 refine qDs [] [] [(9,.bool (decide ((j1:Int)<(sa0.length:Int))))]<|A.seq<|qF (ltF hl1)<|A.exit<|qS [] [(4,i6 (-1))] [] ?_
 cases hm
 exact A.ret qE
theorem jX{sa0:List aY}{f:aY→Option Bool}(f_k:aP prog f_g)(f_f:∀(y0:aY) (q:Bool),f y0=some q→RO prog f_g [] ([.agg (k1 y0)]++f_c) (.bool q)){r:Int}(hm:dU sa0 f=some r):RO prog 181 [] [lf bQ sa0,.cfn f_g f_c] (i6 r):=by
 refine bg func181 rfl rfl ?_
 unfold dU at hm
 refine qS [] [(0,lf bQ sa0),(1,.cfn f_g f_c)] []<|A.seq<|qDs [(1,hto (lnE bQ sa0))] [] [(7,i6 (sa0.length:Int)),(8,i6 0)]<|A.block<|A.bS 0 rfl λhb1=>?_
 obtain⟨B1,K1,hB1,hK1,hm⟩:=cg hm
 refine A.lpI (l:=sa0) (j0:=0) (B:=B1) (K:=K1) hm (λj1=>λ()=>[(0,lf bQ sa0),(1,.cfn f_g f_c),(7,i6 (sa0.length:Int)),(8,i6 (j1:Int))]) (λj1=>λ()=>[]) ?_ ?_ ?_
 ·exact qW
 ·rintro j1 e1 Z1 ⟨⟩ hj1 hx1 hm
  rw[hB1]at hm
  refine qDs [] [] [(9,.bool (decide ((j1:Int)<(sa0.length:Int))))]<|A.seq<|qT (ltT hx1)<|A.skip<|A.seq<|A.block<|qDs [] [9] [(5,i6 (j1:Int))] ?_
  obtain⟨ay,h1,hm⟩:=ah hm
  refine qDs [(3,hix (ix bQ (cw hx1))),(5,hrf (f_f _ _ h1) f_k)] [] [(16,.bool ay)] ?_
  rcases aG hm with⟨c1,hm⟩|⟨c1,hm⟩
  ·refine qT c1<|qS [] [(4,i6 (j1:Int))] [] ?_
   cases hm
   exact A.ret qE
  exact qF c1<|A.skip<|qGs [(0,hto (inc hx1 hb1))] [8,5,16] [(8,i6 ((j1+1:Nat):Int))]<|qX () hm
 rintro j1 ⟨⟩ hj1 hl1 hm
 rw[hK1]at hm
 refine qDs [] [] [(9,.bool (decide ((j1:Int)<(sa0.length:Int))))]<|A.seq<|qF (ltF hl1)<|A.exit<|qS [] [(4,i6 (-1))] [] ?_
 cases hm
 exact A.ret qE
theorem jJ{sa0:List af}{f:af→Option Bool}(f_k:aP prog f_g)(f_f:∀(y0:af) (q:Bool),f y0=some q→RO prog f_g [] ([.agg (k4 y0)]++f_c) (.bool q)){r:Int}(hm:dP sa0 f=some r):RO prog 183 [] [lf az sa0,.cfn f_g f_c] (i6 r):=by
 refine bg func183 rfl rfl ?_
 unfold dP at hm
 refine qS [] [(0,lf az sa0),(1,.cfn f_g f_c)] []<|A.seq<|qDs [(1,hto (lnE az sa0))] [] [(7,i6 (sa0.length:Int)),(8,i6 0)]<|A.block<|A.bS 0 rfl λhb1=>?_
 obtain⟨B1,K1,hB1,hK1,hm⟩:=cg hm
 refine A.lpI (l:=sa0) (j0:=0) (B:=B1) (K:=K1) hm (λj1=>λ()=>[(0,lf az sa0),(1,.cfn f_g f_c),(7,i6 (sa0.length:Int)),(8,i6 (j1:Int))]) (λj1=>λ()=>[]) ?_ ?_ ?_
 ·exact qW
 ·rintro j1 e1 Z1 ⟨⟩ hj1 hx1 hm
  rw[hB1]at hm
  refine qDs [] [] [(9,.bool (decide ((j1:Int)<(sa0.length:Int))))]<|A.seq<|qT (ltT hx1)<|A.skip<|A.seq<|A.block<|qDs [] [9] [(5,i6 (j1:Int))] ?_
  obtain⟨ay,h1,hm⟩:=ah hm
  refine qDs [(3,hix (ix az (cw hx1))),(5,hrf (f_f _ _ h1) f_k)] [] [(16,.bool ay)] ?_
  rcases aG hm with⟨c1,hm⟩|⟨c1,hm⟩
  ·refine qT c1<|qS [] [(4,i6 (j1:Int))] [] ?_
   cases hm
   exact A.ret qE
  exact qF c1<|A.skip<|qGs [(0,hto (inc hx1 hb1))] [8,5,16] [(8,i6 ((j1+1:Nat):Int))]<|qX () hm
 rintro j1 ⟨⟩ hj1 hl1 hm
 rw[hK1]at hm
 refine qDs [] [] [(9,.bool (decide ((j1:Int)<(sa0.length:Int))))]<|A.seq<|qF (ltF hl1)<|A.exit<|qS [] [(4,i6 (-1))] [] ?_
 cases hm
 exact A.ret qE
theorem nt{v:Int}(hm:eF sa0 v=some r):RO prog 76 [] [lf aB sa0,i6 v] (.bool r):=by
 refine bg func76 rfl rfl ?_
 unfold eF at hm
 refine qS [] [(0,lf aB sa0),(1,i6 v)] [] ?_
 obtain⟨ay,h1,hm⟩:=ah hm
 refine qS [(2,hro (oB h1) aoi)] [(4,.bool (decide (0≤ay)))] [] ?_
 cases hm
 exact A.ret qE
theorem iN{sa0:List aW}(f_k:aP prog f_g)(f_f:∀(y0:aW) (q:Bool),f y0=some q→RO prog f_g [] ([.agg (k0 y0)]++f_c) (.bool q))(hm:cB sa0 f=some r):RO prog 132 [] [lf bn sa0,.cfn f_g f_c] (.bool r):=by
 refine bg func132 rfl rfl ?_
 unfold cB at hm
 refine qS [] [(0,lf bn sa0),(1,.cfn f_g f_c)] [] ?_
 obtain⟨ay,h1,hm⟩:=ah hm
 refine qS [(2,hro (jr (f_k:=f_k) (f_f:=f_f) h1) aoq)] [(4,.bool (decide (0≤ay)))] [] ?_
 cases hm
 exact A.ret qE
theorem ef{sa0:List aY}{f:aY→Option Bool}(f_k:aP prog f_g)(f_f:∀(y0:aY) (q:Bool),f y0=some q→RO prog f_g [] ([.agg (k1 y0)]++f_c) (.bool q))(hm:bX sa0 f=some r):RO prog 138 [] [lf bQ sa0,.cfn f_g f_c] (.bool r):=by
 refine bg func138 rfl rfl ?_
 unfold bX at hm
 refine qS [] [(0,lf bQ sa0),(1,.cfn f_g f_c)] [] ?_
 obtain⟨ay,h1,hm⟩:=ah hm
 refine qS [(2,hro (jX (f_k:=f_k) (f_f:=f_f) h1) aor)] [(4,.bool (decide (0≤ay)))] [] ?_
 cases hm
 exact A.ret qE
theorem fK{n:Int}{least:Int}{most:Int}(hm:gi n least most=some r):RO prog 134 [] [i6 n,i6 least,i6 most] (.bool r):=by
 refine bg func134 rfl rfl ?_
 unfold gi at hm
 refine qS [] [(0,i6 n),(1,i6 least),(2,i6 most)] []<|A.mid [(6,.bool ((decide (least≤n))&&(decide (n≤most))))] [] (λhk=>?_) ?_
 ·rcases tf (decide (least≤n))with c1|c1
  ·exact qS [(3,hto (bE c1)),(8,hto (zC (q:=decide (n≤most)) c1))] _ _ hk
  exact qS [(3,hto (bE c1)),(8,hto (zD (q:=decide (n≤most)) c1))] _ _ hk
 cases hm
 exact A.ret qE
theorem mH{a:aY}{b:aY}{r:Int}(hm:fN a b=some r):RO prog 131 [] [.agg (k1 a),.agg (k1 b)] (i6 r):=by
 refine bg func131 rfl rfl ?_
 unfold fN at hm
 refine qS [(0,.al 131002),(1,.al 131003)] [(2,.ptr 131002 0),(3,.ptr 131003 0)] [(131002,.cells 62 (k1 a)),(131003,.cells 62 (k1 b))] ?_
 obtain⟨ay,h1,hm⟩:=ah hm
 obtain⟨aI,h2,hm⟩:=ah hm
 obtain⟨bk,h3,hm⟩:=ah hm
 refine qS [(4,hro (cR h1) mX),(9,hro (cR h2) mX),(11,hro (je h3) wV)] [(4,i6 bk)] [] ?_
 cases hm
 exact A.ret qE
variable {id:Int}{ra0:aW}
theorem n9{r:Int}(hm:gP ra0 id=some r):RO prog 137 [] [.agg (k0 ra0),i6 id] (i6 r):=by
 refine bg func137 rfl rfl ?_
 unfold gP at hm
 refine qS [(0,.al 137002)] [(1,i6 id),(2,.ptr 137002 0)] [(137002,.cells 31 (k0 ra0))] ?_
 obtain⟨ay,h1,hm⟩:=ah hm
 refine qS [(3,hro (cR h1) mX)] [(4,i6 ay)] [] ?_
 cases hm
 exact A.ret qE
theorem qQ(hm:iZ ra0=some r):RO prog 133 [] [.agg (k0 ra0)] (.bool r):=by
 refine bg func133 rfl rfl ?_
 unfold iZ at hm
 refine qS [(0,.al 133001)] [(1,.ptr 133001 0)] [(133001,.cells 31 (k0 ra0))] ?_
 obtain⟨ay,h1,hm⟩:=ah hm
 refine qS [(2,hro (fK h1) sC)] [(2,.bool (!ay))] [] ?_
 cases hm
 exact A.ret qE
variable {l:aY}
theorem qU(hm:gK l=some r):RO prog 139 [] [.agg (k1 l)] (.bool r):=by
 refine bg func139 rfl rfl ?_
 unfold gK at hm
 refine qS [(0,.al 139001)] [(1,.ptr 139001 0)] [(139001,.cells 62 (k1 l))] ?_
 obtain⟨ay,h1,hm⟩:=ah hm
 rcases aG hm with⟨c1,hm⟩|⟨c1,hm⟩
 ·refine qS [(2,hro (fK h1) sC),(4,hto (bE c1))] [(2,.bool true)] [] ?_
  cases hm
  exact A.ret qE
 obtain⟨aI,h2,hm⟩:=ah hm
 rcases aG hm with⟨c2,hm⟩|⟨c2,hm⟩
 ·refine qS [(2,hro (fK h1) sC),(4,hto (bE c1)),(7,hro (fK h2) sC),(10,hto (bE c2))] [(2,.bool true)] [] ?_
  cases hm
  exact A.ret qE
 obtain⟨bk,h3,hm⟩:=ah hm
 refine qS [(2,hro (fK h1) sC),(4,hto (bE c1)),(7,hro (fK h2) sC),(10,hto (bE c2)),(13,hro (fK h3) sC)] [(2,.bool (!bk))] [] ?_
 cases hm
 exact A.ret qE
variable {c_0:aq}
theorem jK(hm:fO id c_0=some r):RO prog 135 [] [i6 id,.cH (k2 c_0)] (.bool r):=by
 refine bg func135 rfl rfl ?_
 unfold fO at hm
 refine qS [] [(0,i6 id),(1,.cH (k2 c_0))] [] ?_
 obtain⟨ay,h1,hm⟩:=ah hm
 refine qS [(3,hro (eB (kO:=137) (l6:=[]) (qk:=agu) (ql:=λ_ _ _ h=>n9 h) h1) agt)] [(5,.bool ay.2)] []<|qS [] [(3,.bool (!ay.2))] [] ?_
 cases hm
 exact A.ret qE
theorem qV(hm:ja l c_0=some r):RO prog 140 [] [.agg (k1 l),.cH [.fn 135 [.cH (k2 c_0)]]] (.bool r):=by
 refine bg func140 rfl rfl ?_
 unfold ja at hm
 refine qS [(0,.al 140002)] [(1,.cH [.fn 135 [.cH (k2 c_0)]]),(2,.ptr 140002 0)] [(140002,.cells 62 (k1 l))] ?_
 obtain⟨ay,h1,hm⟩:=ah hm
 rcases aG hm with⟨c1,hm⟩|⟨c1,hm⟩
 ·refine qS [(3,hle [] (jK h1) ab5),(4,hto (bE c1))] [(3,.bool true)] [] ?_
  cases hm
  exact A.ret qE
 obtain⟨aI,h2,hm⟩:=ah hm
 refine qS [(3,hle [] (jK h1) ab5),(4,hto (bE c1)),(8,hle [] (jK h2) ab5)] [(3,.bool aI)] [] ?_
 cases hm
 exact A.ret qE
theorem qY(hm:jb l=some r):RO prog 141 [] [.agg (k1 l)] (.bool r):=by
 refine bg func141 rfl rfl ?_
 unfold jb at hm
 refine qS [(0,.al 141001)] [(1,.ptr 141001 0)] [(141001,.cells 62 (k1 l))]<|qS [] [(2,.bool (decide (l.B≤l.A)))] [] ?_
 cases hm
 exact A.ret qE
variable {t:aq}
theorem kK{r:Int}(hm:fJ t=some r):RO prog 71 [] [.agg (k2 t)] (i6 r):=by
 refine bg func71 rfl rfl ?_
 unfold fJ at hm
 refine qS [(0,.al 71001)] [(1,.ptr 71001 0)] [(71001,.cells 28 (k2 t))]<|A.seq<|A.block<|A.mid [(1,.ptr 71001 0),(6,.bool ((decide (24<(t.aS.length:Int)))||(decide (60<(t.Links.length:Int)))))] [(71001,.cells 28 (k2 t))] (λhk=>?_) ?_
 ·rcases tf (decide (24<(t.aS.length:Int)))with c1|c1
  ·exact qS [(2,hto (lnE bn t.aS)),(4,hto (bE c1)),(10,hto (orT (q:=decide (60<(t.Links.length:Int))) c1))] _ _ hk
  exact qS [(2,hto (lnE bn t.aS)),(4,hto (bE c1)),(7,hto (lnE bQ t.Links)),(10,hto (orF (q:=decide (60<(t.Links.length:Int))) c1))] _ _ hk
 rcases aG hm with⟨c2,hm⟩|⟨c2,hm⟩
 ·refine qT c2<|qS [] [(2,i6 3)] [] ?_
  cases hm
  exact A.ret qE
 refine qF c2 ?_
 obtain⟨ay,h1,hm⟩:=ah hm
 refine qDs [(2,hro (iN (f_g:=133) (f_c:=[]) (f_k:=aoc) (f_f:=λ_ _ h=>qQ h) h1) aob)] [6] [(17,.bool ay)] ?_
 rcases aG hm with⟨c3,hm⟩|⟨c3,hm⟩
 ·refine qT c3<|qS [] [(2,i6 2)] [] ?_
  cases hm
  exact A.ret qE
 refine qF c3<|A.skip<|A.seq<|qDs [(2,hto (lnE bn t.aS))] [17] [(23,i6 (t.aS.length:Int)),(24,i6 0)]<|A.block<|A.bC 1 0 rfl rfl rfl λhb1=>?_
 obtain⟨B1,K1,hB1,hK1,hm⟩:=cg hm
 refine A.lpI (l:=t.aS) (j0:=0) (B:=B1) (K:=K1) hm (λj1=>λ()=>[(1,.ptr 71001 0),(23,i6 (t.aS.length:Int)),(24,i6 (j1:Int))]) (λj1=>λ()=>[(71001,.cells 28 (k2 t))]) ?_ ?_ ?_
 ·exact qW
 ·rintro j1 e1 Z1 ⟨⟩ hj1 hx1 hm
  rw[hB1]at hm
  refine qDs [] [] [(25,.bool (decide ((j1:Int)<(t.aS.length:Int))))]<|A.seq<|qT (ltT hx1)<|A.skip<|A.seq<|A.block<|qDs [] [25] [(3,i6 (j1:Int))] ?_
  obtain⟨J1,hJ1,hm⟩:=eC hm
  refine A.J (J:=J1) (r:=r) (λv_1=>[(1,.ptr 71001 0),(23,i6 (t.aS.length:Int)),(24,i6 (j1:Int)),(44,.bool v_1)]) (λv_1=>[(71001,.cells 28 (k2 t))]) ?_ ?_
  ·rcases aG hm with⟨c4,hm⟩|⟨c4,hm⟩
   ·obtain⟨e_1,h2,hm⟩:=ah hm
    exact qGs [(2,hto (bE c4)),(7,hix (ix bn h2)),(13,hix (ix bn (cw hx1)))] [3] [(44,.bool (decide (e1.ID≤e_1.ID)))]<|qX (decide (e1.ID≤e_1.ID)) hm
   exact qGs [(2,hto (bE c4))] [3] [(44,.bool false)]<|qX false hm
  rintro v_1 hm
  rw[hJ1]at hm
  rcases aG hm with⟨c5,hm⟩|⟨c5,hm⟩
  ·refine qT c5<|qS [] [(2,i6 25)] [] ?_
   cases hm
   exact A.ret qE
  exact qF c5<|A.skip<|qGs [(0,hto (inc hx1 hb1))] [24,44] [(24,i6 ((j1+1:Nat):Int))]<|qX () hm
 rintro j1 ⟨⟩ hj1 hl1 hm
 rw[hK1]at hm
 refine qDs [] [] [(25,.bool (decide ((j1:Int)<(t.aS.length:Int))))]<|A.seq<|qF (ltF hl1)<|A.exit<|qD [(1,.al 71004)] [23,24,25] [(4,.ptr 71004 0)] [] [(71004,.cells 188 [.fn 135 [.ptr 71001 0]])]<|A.seq<|A.block ?_
 obtain⟨aI,h3,hm⟩:=ah hm
 refine qDs [(2,hro (ef (f_g:=139) (f_c:=[]) (f_k:=aod) (f_f:=λ_ _ h=>qU h) h3) ab6)] [] [(47,.bool aI)] ?_
 rcases aG hm with⟨c6,hm⟩|⟨c6,hm⟩
 ·refine qT c6<|qS [] [(2,i6 2)] [] ?_
  cases hm
  exact A.ret qE
 refine qF c6 ?_
 obtain⟨bk,h4,hm⟩:=ah hm
 refine qD [(3,hle [71004,71001] (ef (f_g:=140) (f_c:=[.cH [.fn 135 [.cH (k2 t)]]]) (f_k:=aoe) (f_f:=λ_ _ h=>qV h) h4) ab6)] [4,47] [(51,.bool bk)] [71004] [] ?_
 rcases aG hm with⟨c7,hm⟩|⟨c7,hm⟩
 ·refine qT c7<|qS [] [(2,i6 4)] [] ?_
  cases hm
  exact A.ret qE
 refine qF c7 ?_
 obtain⟨ck,h5,hm⟩:=ah hm
 refine qDs [(2,hro (ef (f_g:=141) (f_c:=[]) (f_k:=aof) (f_f:=λ_ _ h=>qY h) h5) ab6)] [51] [(56,.bool ck)] ?_
 rcases aG hm with⟨c8,hm⟩|⟨c8,hm⟩
 ·refine qT c8<|qS [] [(2,i6 8)] [] ?_
  cases hm
  exact A.ret qE
 refine qF c8<|A.skip<|A.seq<|qDs [(2,hto (lnE bQ t.Links))] [56] [(62,i6 (t.Links.length:Int)),(63,i6 0)]<|A.block<|A.bC 1 1 rfl rfl rfl λhb2=>?_
 obtain⟨B2,K2,hB2,hK2,hm⟩:=cg hm
 refine A.lpI (l:=t.Links) (j0:=0) (B:=B2) (K:=K2) hm (λj2=>λ()=>[(1,.ptr 71001 0),(62,i6 (t.Links.length:Int)),(63,i6 (j2:Int))]) (λj2=>λ()=>[(71001,.cells 28 (k2 t))]) ?_ ?_ ?_
 ·exact qW
 ·rintro j2 e2 Z2 ⟨⟩ hj2 hx2 hm
  rw[hB2]at hm
  refine qDs [] [] [(64,.bool (decide ((j2:Int)<(t.Links.length:Int))))]<|A.seq<|qT (ltT hx2)<|A.skip<|A.seq<|A.block<|qDs [] [64] [(5,i6 (j2:Int))] ?_
  obtain⟨J2,hJ2,hm⟩:=eC hm
  refine A.J (J:=J2) (r:=r) (λv_2=>[(1,.ptr 71001 0),(62,i6 (t.Links.length:Int)),(63,i6 (j2:Int)),(82,.bool v_2)]) (λv_2=>[(71001,.cells 28 (k2 t))]) ?_ ?_
  ·rcases aG hm with⟨c9,hm⟩|⟨c9,hm⟩
   ·obtain⟨e_2,h6,hm⟩:=ah hm
    obtain⟨dA,h7,hm⟩:=ah hm
    exact qGs [(2,hto (bE c9)),(7,hix (ix bQ h6)),(12,hix (ix bQ (cw hx2))),(14,hro (mH h7) agr)] [5] [(82,.bool (decide (0≤dA)))]<|qX (decide (0≤dA)) hm
   exact qGs [(2,hto (bE c9))] [5] [(82,.bool false)]<|qX false hm
  rintro v_2 hm
  rw[hJ2]at hm
  rcases aG hm with⟨c10,hm⟩|⟨c10,hm⟩
  ·refine qT c10<|qS [] [(2,i6 25)] [] ?_
   cases hm
   exact A.ret qE
  exact qF c10<|A.skip<|qGs [(0,hto (inc hx2 hb2))] [63,82] [(63,i6 ((j2+1:Nat):Int))]<|qX () hm
 rintro j2 ⟨⟩ hj2 hl2 hm
 rw[hK2]at hm
 refine qDs [] [] [(64,.bool (decide ((j2:Int)<(t.Links.length:Int))))]<|A.seq<|qF (ltF hl2)<|A.exit<|qS [] [(2,i6 0)] [] ?_
 cases hm
 exact A.ret qE
theorem kL(hm:gB t=some r):RO prog 129 [] [.agg (k2 t)] (.bool r):=by
 refine bg func129 rfl rfl ?_
 unfold gB at hm
 refine qS [(0,.al 129001)] [(1,.ptr 129001 0)] [(129001,.cells 28 (k2 t))] ?_
 obtain⟨ay,h1,hm⟩:=ah hm
 refine qS [(1,hro (kK h1) aeW)] [(2,.bool (decide (ay=0)))] [] ?_
 cases hm
 exact A.ret qE
variable {iG:Int}
theorem tY{r:aW×Bool}(hm:jc t iG=some r):RO prog 144 [] [.agg (k2 t),i6 iG] (.tup [.agg (k0 r.1),.bool r.2]):=by
 refine bg func144 rfl rfl ?_
 unfold jc at hm
 refine qS [(0,.al 144002),(1,.al 144004)] [(1,i6 iG),(2,.ptr 144002 0),(4,.ptr 144004 0)] [(144002,.cells 28 (k2 t)),(144004,.cells 31 [i6 0,.bool false])] ?_
 obtain⟨ay,h1,hm⟩:=ah hm
 refine qDs [(3,hro (eB (kO:=137) (l6:=[]) (qk:=agu) (ql:=λ_ _ _ h=>n9 h) h1) agt)] [1] [(6,i6 ay.1),(7,.bool ay.2)]<|A.seq<|qDs [] [7] [(16,.bool (!ay.2))] ?_
 rcases aG hm with⟨c1,hm⟩|⟨c1,hm⟩
 ·refine qT c1<|qD [] [2,6,16] [(5,.bool false)] [144002] [] ?_
  cases hm
  exact A.ret qE
 refine qF c1<|A.skip ?_
 obtain⟨e_1,h2,hm⟩:=ah hm
 refine qS [(3,hix (ix bn h2))] [(4,.ptr 144004 0),(5,.bool true)] [(144004,.cells 31 (k0 e_1))] ?_
 cases hm
 exact A.ret qE
theorem oH(hm:iz t iG=some r):RO prog 73 [] [.agg (k2 t),i6 iG] (.bool r):=by
 refine bg func73 rfl rfl ?_
 unfold iz at hm
 refine qS [(0,.al 73002)] [(1,i6 iG),(2,.ptr 73002 0)] [(73002,.cells 28 (k2 t))] ?_
 obtain⟨ay,h1,hm⟩:=ah hm
 refine qDs [(2,hro (tY h1) aoh),(6,.al 73005)] [1] [(6,.bool ay.2)] ?_
 obtain⟨aI,h2,hm⟩:=ah hm
 rcases aG hm with⟨c1,hm⟩|⟨c1,hm⟩
 ·refine qS [(1,hro (kL h2) ab4),(2,hto (bE c1))] [(4,.bool ay.2)] [] ?_
  cases hm
  exact A.ret qE
 refine qS [(1,hro (kL h2) ab4),(2,hto (bE c1))] [(4,.bool false)] [] ?_
 cases hm
 exact A.ret qE
theorem tZ{lR:Int}{qv:Int}{r:Int×Bool}(hm:jd t lR qv=some r):RO prog 70 [] [.agg (k2 t),i6 lR,i6 qv] (.tup [i6 r.1,.bool r.2]):=by
 refine bg func70 rfl rfl ?_
 unfold jd at hm
 refine qS [(0,.al 70003)] [(1,i6 lR),(2,i6 qv),(3,.ptr 70003 0)] [(70003,.cells 28 (k2 t))]<|A.seq ?_
 obtain⟨ay,h1,hm⟩:=ah hm
 refine qDs [(1,hro (kL h1) ab4)] [] [(12,.bool (!ay))] ?_
 rcases aG hm with⟨c1,hm⟩|⟨c1,hm⟩
 ·refine qT c1<|qS [] [(6,i6 0),(7,.bool false)] [] ?_
  cases hm
  exact A.ret qE
 refine qF c1<|A.skip ?_
 obtain⟨aI,h2,hm⟩:=ah hm
 refine qDs [(9,hro (gC (kO:=131) (l6:=[]) (qk:=agr) (ql:=λ_ _ _ h=>mH h) h2) aoa)] [12] [(8,i6 aI.1),(9,.bool aI.2)]<|A.seq<|A.block<|qDs [] [9] [(26,.bool (!aI.2))] ?_
 rcases aG hm with⟨c2,hm⟩|⟨c2,hm⟩
 ·refine qT c2<|qS [] [(6,i6 0),(7,.bool false)] [] ?_
  cases hm
  exact A.ret qE
 refine qF c2<|qDs [] [1,2,26] [(29,.bool (decide (lR<qv)))] ?_
 rcases aG hm with⟨c3,hm⟩|⟨c3,hm⟩
 ·refine qT c3 ?_
  obtain⟨e_1,h3,hm⟩:=ah hm
  refine qS [(3,hix (ix bQ h3))] [(6,i6 e_1.lZ),(7,.bool true)] [] ?_
  cases hm
  exact A.ret qE
 refine qF c3<|A.skip ?_
 obtain⟨e_2,h4,hm⟩:=ah hm
 refine qS [(3,hix (ix bQ h4))] [(6,i6 e_2.l5),(7,.bool true)] [] ?_
 cases hm
 exact A.ret qE
end Go.Proofs.YtmnbolcmepihlaaGreat
