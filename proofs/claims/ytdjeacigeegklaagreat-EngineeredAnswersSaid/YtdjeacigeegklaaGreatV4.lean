/- The iy of ec of the program. No condition but bU bx stand in each. -/
import Derived.Test.YtdjeacigeegklaaGreatDA
namespace Go.Proofs.YtdjeacigeegklaaGreat
open Go Go.Proofs.Tryz
set_option maxRecDepth 100000
set_option linter.all false
variable {r:Bool}{xa0:Int}
theorem gO(hm:gH xa0=some r):RO prog 158 [] [i6 xa0] (.bool r):=by
 refine bh func158 rfl rfl ?_
 unfold gH at hm
 refine qS [] [(0,i6 xa0)] []<|qS [] [(2,.bool (!decide (xa0=xa0)))] [] ?_
 cases hm
 exact A.ret qE
theorem gT{y:Int}{r:Int}(hm:eE xa0 y=some r):RO prog 136 [] [i6 xa0,i6 y] (i6 r):=by
 refine bh func136 rfl rfl ?_
 unfold eE at hm
 refine qS [] [(0,i6 xa0),(1,i6 y)] [] ?_
 obtain⟨ai,h1,hm⟩:=aa hm
 refine qDs [(1,hro (gO h1) xC)] [] [(5,.bool ai)] ?_
 obtain⟨aI,h2,hm⟩:=aa hm
 refine qDs [(1,hro (gO h2) xC)] [] [(6,.bool aI)]<|A.seq<|qDs [] [5] [(11,.bool ai)] ?_
 rcases aj hm with⟨c1,hm⟩|⟨c1,hm⟩
 ·refine qT c1<|A.seq<|qS [] [(12,.bool aI)] [] ?_
  rcases aj hm with⟨c2,hm⟩|⟨c2,hm⟩
  ·refine qT c2<|qS [] [(4,i6 0)] [] ?_
   cases hm
   exact A.ret qE
  refine qF c2<|A.skip ?_
  show ah _ _ _ _ _
  refine qS [] [(4,i6 (-1))] [] ?_
  cases hm
  exact A.ret qE
 refine qF c1<|A.skip ?_
 show ah _ _ _ _ _
 refine A.seq<|qDs [] [6,11] [(13,.bool aI)] ?_
 rcases aj hm with⟨c3,hm⟩|⟨c3,hm⟩
 ·refine qT c3<|qS [] [(4,i6 1)] [] ?_
  cases hm
  exact A.ret qE
 refine qF c3<|A.skip ?_
 show ah _ _ _ _ _
 refine A.seq<|qDs [] [13] [(16,.bool (decide (xa0<y)))] ?_
 rcases aj hm with⟨c4,hm⟩|⟨c4,hm⟩
 ·refine qT c4<|qS [] [(4,i6 (-1))] [] ?_
  cases hm
  exact A.ret qE
 refine qF c4<|A.skip ?_
 show ah _ _ _ _ _
 refine A.seq<|qS [] [(19,.bool (decide (y<xa0)))] [] ?_
 rcases aj hm with⟨c5,hm⟩|⟨c5,hm⟩
 ·refine qT c5<|qS [] [(4,i6 1)] [] ?_
  cases hm
  exact A.ret qE
 refine qF c5<|A.skip ?_
 show ah _ _ _ _ _
 refine qS [] [(4,i6 0)] [] ?_
 cases hm
 exact A.ret qE
theorem vD{vals:List Int}{r:Int}(hm:lR vals=some r):RO prog 138 [] [lf aB vals] (i6 r):=by
 refine bh func138 rfl rfl ?_
 unfold lR at hm
 refine qS [] [(0,lf aB vals)] []<|qDs [] [] [(3,i6 0)]<|A.seq<|qDs [(1,hto (lnE aB vals))] [0] [(6,lf aB vals),(7,i6 (vals.length:Int)),(8,i6 0)]<|A.block<|A.bS 6 rfl λhb1=>?_
 obtain⟨B1,K1,hB1,hK1,hm⟩:=aX hm
 refine A.lpI (l:=vals) (j0:=0) (B:=B1) (K:=K1) hm (λj1=>λ()=>[(3,i6 0),(6,lf aB vals),(7,i6 (vals.length:Int)),(8,i6 (j1:Int))]) (λj1=>λ()=>[]) ?_ ?_ ?_
 ·exact qW
 ·rintro j1 e1 Z1 ⟨⟩ hj1 hx1 hm
  rw[hB1]at hm
  refine qDs [] [] [(9,.bool (decide ((j1:Int)<(vals.length:Int))))]<|A.seq<|qT (ltT hx1)<|A.skip ?_
  show ah _ _ _ _ _
  refine A.seq<|A.block ?_
  refine qDs [(0,hix (ix aB (bq hx1)))] [9] [(5,i6 e1)]<|qDs [] [] [(14,.bool (!decide (e1=0)))] ?_
  rcases aj hm with⟨c1,hm⟩|⟨c1,hm⟩
  ·refine qT c1<|qS [] [(2,i6 e1)] [] ?_
   cases hm
   exact A.ret qE
  refine qF c1<|A.skip ?_
  show ah _ _ _ _ _
  exact qGs [(0,hto (inc hx1 hb1))] [8,5,14] [(8,i6 ((j1+1:Nat):Int))]<|qX () hm
 rintro j1 ⟨⟩ hj1 hl1 hm
 rw[hK1]at hm
 refine qDs [] [] [(9,.bool (decide ((j1:Int)<(vals.length:Int))))]<|A.seq<|qF (ltF hl1)<|A.exit ?_
 show ah _ _ _ _ _
 refine qS [] [(2,i6 0)] [] ?_
 cases hm
 exact A.ret qE
variable {oN:Nat}{qt:List AV}
theorem gd{xa0:List aY}{target:Int}{cmp:aY→Int→Option Int}(vE:aT prog oN)(vF:∀(y0:aY) (y1:Int) (q:Int),cmp y0 y1=some q→RO prog oN [] ([.agg (k0 y0),i6 y1]++qt) (i6 q)){r:Int×Bool}(hm:cI xa0 target cmp=some r):RO prog 97 [] [lf aJ xa0,i6 target,.cfn oN qt] (.tup [i6 r.1,.bool r.2]):=by
 refine bh func97 rfl rfl ?_
 unfold cI at hm
 refine qS [] [(0,lf aJ xa0),(1,i6 target),(2,.cfn oN qt)] []<|qDs [(1,hto (lnE aJ xa0))] [] [(8,i6 (xa0.length:Int))]<|qDs [] [] [(9,i6 0),(10,i6 (xa0.length:Int))]<|A.seq<|A.block ?_
 obtain⟨F1,n1,hF1,hm⟩:=gr hm
 refine A.lpW (F:=F1) hm (λ(i_1,j_1)=>[(0,lf aJ xa0),(1,i6 target),(2,.cfn oN qt),(8,i6 (xa0.length:Int)),(9,i6 i_1),(10,i6 j_1)]) (λ(i_1,j_1)=>[]) ?_ ?_
 ·exact qW
 rintro Z1 ⟨i_1,j_1⟩ hm
 rw[hF1]at hm
 refine A.seq<|qDs [] [] [(17,.bool (decide (i_1<j_1)))] ?_
 rcases aj hm with⟨c1,hm⟩|⟨c1,hm⟩
 ·refine qT c1<|A.skip ?_
  show ah _ _ _ _ _
  refine A.block<|qDs [(4,.sh (1:Int) (by decide))] [17] [(11,i6 (w64 (Int.fdiv (IntKind.wrap .u64 (w64 (i_1+j_1))) (2 ^ min (1:Int).toNat 64))))] ?_
  obtain⟨e_1,h1,hm⟩:=aa hm
  obtain⟨ai,h2,hm⟩:=aa hm
  refine qDs [(3,hix (ix aJ h1)),(6,hrf (vF _ _ _ h2) vE)] [] [(31,.bool (decide (ai<0)))] ?_
  rcases aj hm with⟨c2,hm⟩|⟨c2,hm⟩
  ·exact qT c2<|qGs [] [9,11,31] [(9,i6 (w64 ((w64 (Int.fdiv (IntKind.wrap .u64 (w64 (i_1+j_1))) (2 ^ min (1:Int).toNat 64)))+(1:Int))))]<|qX (w64 ((w64 (Int.fdiv (IntKind.wrap .u64 (w64 (i_1+j_1))) (2 ^ min (1:Int).toNat 64)))+(1:Int)),j_1) hm
  exact qF c2<|qGs [] [10,11,31] [(10,i6 (w64 (Int.fdiv (IntKind.wrap .u64 (w64 (i_1+j_1))) (2 ^ min (1:Int).toNat 64))))]<|qX (i_1,w64 (Int.fdiv (IntKind.wrap .u64 (w64 (i_1+j_1))) (2 ^ min (1:Int).toNat 64))) hm
 refine qF c1<|A.exit ?_
 show ah _ _ _ _ _
 rcases aj hm with⟨c3,hm⟩|⟨c3,hm⟩
 ·obtain⟨e_2,h3,hm⟩:=aa hm
  obtain⟨aI,h4,hm⟩:=aa hm
  refine qS [(4,hto (bE c3)),(8,hix (ix aJ h3)),(11,hrf (vF _ _ _ h4) vE)] [(6,i6 i_1),(7,.bool (decide (aI=0)))] [] ?_
  cases hm
  exact A.ret qE
 refine qS [(4,hto (bE c3))] [(6,i6 i_1),(7,.bool false)] [] ?_
 cases hm
 exact A.ret qE
variable {f_c:List AV}{f_g:Nat}
theorem lE{sa0:List ak}{f:ak→Option Bool}(f_k:aT prog f_g)(f_f:∀(y0:ak) (q:Bool),f y0=some q→RO prog f_g [] ([.agg (k4 y0)]++f_c) (.bool q)){r:Int}(hm:eo sa0 f=some r):RO prog 127 [] [lf ay sa0,.cfn f_g f_c] (i6 r):=by
 refine bh func127 rfl rfl ?_
 unfold eo at hm
 refine qS [] [(0,lf ay sa0),(1,.cfn f_g f_c)] []<|A.seq<|qDs [(1,hto (lnE ay sa0))] [] [(7,i6 (sa0.length:Int)),(8,i6 0)]<|A.block<|A.bS 0 rfl λhb1=>?_
 obtain⟨B1,K1,hB1,hK1,hm⟩:=aX hm
 refine A.lpI (l:=sa0) (j0:=0) (B:=B1) (K:=K1) hm (λj1=>λ()=>[(0,lf ay sa0),(1,.cfn f_g f_c),(7,i6 (sa0.length:Int)),(8,i6 (j1:Int))]) (λj1=>λ()=>[]) ?_ ?_ ?_
 ·exact qW
 ·rintro j1 e1 Z1 ⟨⟩ hj1 hx1 hm
  rw[hB1]at hm
  refine qDs [] [] [(9,.bool (decide ((j1:Int)<(sa0.length:Int))))]<|A.seq<|qT (ltT hx1)<|A.skip ?_
  show ah _ _ _ _ _
  refine A.seq<|A.block ?_
  refine qDs [] [9] [(5,i6 (j1:Int))] ?_
  obtain⟨ai,h1,hm⟩:=aa hm
  refine qDs [(3,hix (ix ay (bq hx1))),(5,hrf (f_f _ _ h1) f_k)] [] [(16,.bool ai)] ?_
  rcases aj hm with⟨c1,hm⟩|⟨c1,hm⟩
  ·refine qT c1<|qS [] [(4,i6 (j1:Int))] [] ?_
   cases hm
   exact A.ret qE
  refine qF c1<|A.skip ?_
  show ah _ _ _ _ _
  exact qGs [(0,hto (inc hx1 hb1))] [8,5,16] [(8,i6 ((j1+1:Nat):Int))]<|qX () hm
 rintro j1 ⟨⟩ hj1 hl1 hm
 rw[hK1]at hm
 refine qDs [] [] [(9,.bool (decide ((j1:Int)<(sa0.length:Int))))]<|A.seq<|qF (ltF hl1)<|A.exit ?_
 show ah _ _ _ _ _
 refine qS [] [(4,i6 (-1))] [] ?_
 cases hm
 exact A.ret qE
variable {f:aY→Option Bool}{sa0:List aY}
theorem mT(f_k:aT prog f_g)(f_f:∀(y0:aY) (q:Bool),f y0=some q→RO prog f_g [] ([.agg (k0 y0)]++f_c) (.bool q)){r:Int}(hm:eX sa0 f=some r):RO prog 135 [] [lf aJ sa0,.cfn f_g f_c] (i6 r):=by
 refine bh func135 rfl rfl ?_
 unfold eX at hm
 refine qS [] [(0,lf aJ sa0),(1,.cfn f_g f_c)] []<|A.seq<|qDs [(1,hto (lnE aJ sa0))] [] [(7,i6 (sa0.length:Int)),(8,i6 0)]<|A.block<|A.bS 0 rfl λhb1=>?_
 obtain⟨B1,K1,hB1,hK1,hm⟩:=aX hm
 refine A.lpI (l:=sa0) (j0:=0) (B:=B1) (K:=K1) hm (λj1=>λ()=>[(0,lf aJ sa0),(1,.cfn f_g f_c),(7,i6 (sa0.length:Int)),(8,i6 (j1:Int))]) (λj1=>λ()=>[]) ?_ ?_ ?_
 ·exact qW
 ·rintro j1 e1 Z1 ⟨⟩ hj1 hx1 hm
  rw[hB1]at hm
  refine qDs [] [] [(9,.bool (decide ((j1:Int)<(sa0.length:Int))))]<|A.seq<|qT (ltT hx1)<|A.skip ?_
  show ah _ _ _ _ _
  refine A.seq<|A.block ?_
  refine qDs [] [9] [(5,i6 (j1:Int))] ?_
  obtain⟨ai,h1,hm⟩:=aa hm
  refine qDs [(3,hix (ix aJ (bq hx1))),(5,hrf (f_f _ _ h1) f_k)] [] [(16,.bool ai)] ?_
  rcases aj hm with⟨c1,hm⟩|⟨c1,hm⟩
  ·refine qT c1<|qS [] [(4,i6 (j1:Int))] [] ?_
   cases hm
   exact A.ret qE
  refine qF c1<|A.skip ?_
  show ah _ _ _ _ _
  exact qGs [(0,hto (inc hx1 hb1))] [8,5,16] [(8,i6 ((j1+1:Nat):Int))]<|qX () hm
 rintro j1 ⟨⟩ hj1 hl1 hm
 rw[hK1]at hm
 refine qDs [] [] [(9,.bool (decide ((j1:Int)<(sa0.length:Int))))]<|A.seq<|qF (ltF hl1)<|A.exit ?_
 show ah _ _ _ _ _
 refine qS [] [(4,i6 (-1))] [] ?_
 cases hm
 exact A.ret qE
theorem nY{sa0:List bt}{f:bt→Option Bool}(f_k:aT prog f_g)(f_f:∀(y0:bt) (q:Bool),f y0=some q→RO prog f_g [] ([.agg (k1 y0)]++f_c) (.bool q)){r:Int}(hm:fD sa0 f=some r):RO prog 137 [] [lf bJ sa0,.cfn f_g f_c] (i6 r):=by
 refine bh func137 rfl rfl ?_
 unfold fD at hm
 refine qS [] [(0,lf bJ sa0),(1,.cfn f_g f_c)] []<|A.seq<|qDs [(1,hto (lnE bJ sa0))] [] [(7,i6 (sa0.length:Int)),(8,i6 0)]<|A.block<|A.bS 0 rfl λhb1=>?_
 obtain⟨B1,K1,hB1,hK1,hm⟩:=aX hm
 refine A.lpI (l:=sa0) (j0:=0) (B:=B1) (K:=K1) hm (λj1=>λ()=>[(0,lf bJ sa0),(1,.cfn f_g f_c),(7,i6 (sa0.length:Int)),(8,i6 (j1:Int))]) (λj1=>λ()=>[]) ?_ ?_ ?_
 ·exact qW
 ·rintro j1 e1 Z1 ⟨⟩ hj1 hx1 hm
  rw[hB1]at hm
  refine qDs [] [] [(9,.bool (decide ((j1:Int)<(sa0.length:Int))))]<|A.seq<|qT (ltT hx1)<|A.skip ?_
  show ah _ _ _ _ _
  refine A.seq<|A.block ?_
  refine qDs [] [9] [(5,i6 (j1:Int))] ?_
  obtain⟨ai,h1,hm⟩:=aa hm
  refine qDs [(3,hix (ix bJ (bq hx1))),(5,hrf (f_f _ _ h1) f_k)] [] [(16,.bool ai)] ?_
  rcases aj hm with⟨c1,hm⟩|⟨c1,hm⟩
  ·refine qT c1<|qS [] [(4,i6 (j1:Int))] [] ?_
   cases hm
   exact A.ret qE
  refine qF c1<|A.skip ?_
  show ah _ _ _ _ _
  exact qGs [(0,hto (inc hx1 hb1))] [8,5,16] [(8,i6 ((j1+1:Nat):Int))]<|qX () hm
 rintro j1 ⟨⟩ hj1 hl1 hm
 rw[hK1]at hm
 refine qDs [] [] [(9,.bool (decide ((j1:Int)<(sa0.length:Int))))]<|A.seq<|qF (ltF hl1)<|A.exit ?_
 show ah _ _ _ _ _
 refine qS [] [(4,i6 (-1))] [] ?_
 cases hm
 exact A.ret qE
theorem jO{xa0:List bt}{target:bt}{cmp:bt→bt→Option Int}(vE:aT prog oN)(vF:∀(y0:bt) (y1:bt) (q:Int),cmp y0 y1=some q→RO prog oN [] ([.agg (k1 y0),.agg (k1 y1)]++qt) (i6 q)){r:Int×Bool}(hm:de xa0 target cmp=some r):RO prog 151 [] [lf bJ xa0,.agg (k1 target),.cfn oN qt] (.tup [i6 r.1,.bool r.2]):=by
 refine bh func151 rfl rfl ?_
 unfold de at hm
 refine qS [(0,.al 151004)] [(0,lf bJ xa0),(2,.cfn oN qt),(4,.ptr 151004 0)] [(151004,.cells 89 (k1 target))]<|qDs [(1,hto (lnE bJ xa0))] [] [(8,i6 (xa0.length:Int))]<|qDs [] [] [(9,i6 0),(10,i6 (xa0.length:Int))]<|A.seq<|A.block ?_
 obtain⟨F1,n1,hF1,hm⟩:=gr hm
 refine A.lpW (F:=F1) hm (λ(i_1,j_1)=>[(0,lf bJ xa0),(2,.cfn oN qt),(4,.ptr 151004 0),(8,i6 (xa0.length:Int)),(9,i6 i_1),(10,i6 j_1)]) (λ(i_1,j_1)=>[(151004,.cells 89 (k1 target))]) ?_ ?_
 ·exact qW
 rintro Z1 ⟨i_1,j_1⟩ hm
 rw[hF1]at hm
 refine A.seq<|qDs [] [] [(17,.bool (decide (i_1<j_1)))] ?_
 rcases aj hm with⟨c1,hm⟩|⟨c1,hm⟩
 ·refine qT c1<|A.skip ?_
  show ah _ _ _ _ _
  refine A.block<|qDs [(4,.sh (1:Int) (by decide))] [17] [(11,i6 (w64 (Int.fdiv (IntKind.wrap .u64 (w64 (i_1+j_1))) (2 ^ min (1:Int).toNat 64))))] ?_
  obtain⟨e_1,h1,hm⟩:=aa hm
  obtain⟨ai,h2,hm⟩:=aa hm
  refine qDs [(3,hix (ix bJ h1)),(6,hrf (vF _ _ _ h2) vE)] [] [(31,.bool (decide (ai<0)))] ?_
  rcases aj hm with⟨c2,hm⟩|⟨c2,hm⟩
  ·exact qT c2<|qGs [] [9,11,31] [(9,i6 (w64 ((w64 (Int.fdiv (IntKind.wrap .u64 (w64 (i_1+j_1))) (2 ^ min (1:Int).toNat 64)))+(1:Int))))]<|qX (w64 ((w64 (Int.fdiv (IntKind.wrap .u64 (w64 (i_1+j_1))) (2 ^ min (1:Int).toNat 64)))+(1:Int)),j_1) hm
  exact qF c2<|qGs [] [10,11,31] [(10,i6 (w64 (Int.fdiv (IntKind.wrap .u64 (w64 (i_1+j_1))) (2 ^ min (1:Int).toNat 64))))]<|qX (i_1,w64 (Int.fdiv (IntKind.wrap .u64 (w64 (i_1+j_1))) (2 ^ min (1:Int).toNat 64))) hm
 refine qF c1<|A.exit ?_
 show ah _ _ _ _ _
 rcases aj hm with⟨c3,hm⟩|⟨c3,hm⟩
 ·obtain⟨e_2,h3,hm⟩:=aa hm
  obtain⟨aI,h4,hm⟩:=aa hm
  refine qS [(4,hto (bE c3)),(8,hix (ix bJ h3)),(11,hrf (vF _ _ _ h4) vE)] [(6,i6 i_1),(7,.bool (decide (aI=0)))] [] ?_
  cases hm
  exact A.ret qE
 refine qS [(4,hto (bE c3))] [(6,i6 i_1),(7,.bool false)] [] ?_
 cases hm
 exact A.ret qE
theorem l9(f_k:aT prog f_g)(f_f:∀(y0:aY) (q:Bool),f y0=some q→RO prog f_g [] ([.agg (k0 y0)]++f_c) (.bool q))(hm:dU sa0 f=some r):RO prog 93 [] [lf aJ sa0,.cfn f_g f_c] (.bool r):=by
 refine bh func93 rfl rfl ?_
 unfold dU at hm
 refine qS [] [(0,lf aJ sa0),(1,.cfn f_g f_c)] [] ?_
 obtain⟨ai,h1,hm⟩:=aa hm
 refine qS [(2,hro (mT (f_k:=f_k) (f_f:=f_f) h1) aAR)] [(4,.bool (decide (0≤ai)))] [] ?_
 cases hm
 exact A.ret qE
theorem fQ{sa0:List bt}{f:bt→Option Bool}(f_k:aT prog f_g)(f_f:∀(y0:bt) (q:Bool),f y0=some q→RO prog f_g [] ([.agg (k1 y0)]++f_c) (.bool q))(hm:cZ sa0 f=some r):RO prog 99 [] [lf bJ sa0,.cfn f_g f_c] (.bool r):=by
 refine bh func99 rfl rfl ?_
 unfold cZ at hm
 refine qS [] [(0,lf bJ sa0),(1,.cfn f_g f_c)] [] ?_
 obtain⟨ai,h1,hm⟩:=aa hm
 refine qS [(2,hro (nY (f_k:=f_k) (f_f:=f_f) h1) aAS)] [(4,.bool (decide (0≤ai)))] [] ?_
 cases hm
 exact A.ret qE
theorem iO{n:Int}{least:Int}{most:Int}(hm:jC n least most=some r):RO prog 95 [] [i6 n,i6 least,i6 most] (.bool r):=by
 refine bh func95 rfl rfl ?_
 unfold jC at hm
 refine qS [] [(0,i6 n),(1,i6 least),(2,i6 most)] []<|A.mid [(6,.bool ((decide (least≤n))&&(decide (n≤most))))] [] (λhk=>?_) ?_
 ·rcases tf (decide (least≤n))with c1|c1
  ·exact qS [(3,hto (bE c1)),(8,hto (gR (q:=decide (n≤most)) c1))] _ _ hk
  exact qS [(3,hto (bE c1)),(8,hto (mc (q:=decide (n≤most)) c1))] _ _ hk
 cases hm
 exact A.ret qE
theorem rz{a:bt}{b:bt}{r:Int}(hm:iS a b=some r):RO prog 103 [] [.agg (k1 a),.agg (k1 b)] (i6 r):=by
 refine bh func103 rfl rfl ?_
 unfold iS at hm
 refine qS [(0,.al 103002),(1,.al 103003)] [(2,.ptr 103002 0),(3,.ptr 103003 0)] [(103002,.cells 89 (k1 a)),(103003,.cells 89 (k1 b))] ?_
 obtain⟨ai,h1,hm⟩:=aa hm
 obtain⟨aI,h2,hm⟩:=aa hm
 obtain⟨bn,h3,hm⟩:=aa hm
 refine qS [(4,hro (gT h1) zQ),(9,hro (gT h2) zQ),(11,hro (vD h3) anP)] [(4,i6 bn)] [] ?_
 cases hm
 exact A.ret qE
variable {id:Int}{ra0:aY}
theorem tw{r:Int}(hm:kP ra0 id=some r):RO prog 98 [] [.agg (k0 ra0),i6 id] (i6 r):=by
 refine bh func98 rfl rfl ?_
 unfold kP at hm
 refine qS [(0,.al 98002)] [(1,i6 id),(2,.ptr 98002 0)] [(98002,.cells 42 (k0 ra0))] ?_
 obtain⟨ai,h1,hm⟩:=aa hm
 refine qS [(3,hro (gT h1) zQ)] [(4,i6 ai)] [] ?_
 cases hm
 exact A.ret qE
theorem wN(hm:mz ra0=some r):RO prog 94 [] [.agg (k0 ra0)] (.bool r):=by
 refine bh func94 rfl rfl ?_
 unfold mz at hm
 refine qS [(0,.al 94001)] [(1,.ptr 94001 0)] [(94001,.cells 42 (k0 ra0))] ?_
 obtain⟨ai,h1,hm⟩:=aa hm
 refine qS [(2,hro (iO h1) aaZ)] [(2,.bool (!ai))] [] ?_
 cases hm
 exact A.ret qE
variable {l:bt}
theorem wO(hm:kI l=some r):RO prog 100 [] [.agg (k1 l)] (.bool r):=by
 refine bh func100 rfl rfl ?_
 unfold kI at hm
 refine qS [(0,.al 100001)] [(1,.ptr 100001 0)] [(100001,.cells 89 (k1 l))] ?_
 obtain⟨ai,h1,hm⟩:=aa hm
 rcases aj hm with⟨c1,hm⟩|⟨c1,hm⟩
 ·refine qS [(2,hro (iO h1) aaZ),(4,hto (bE c1))] [(2,.bool true)] [] ?_
  cases hm
  exact A.ret qE
 obtain⟨aI,h2,hm⟩:=aa hm
 rcases aj hm with⟨c2,hm⟩|⟨c2,hm⟩
 ·refine qS [(2,hro (iO h1) aaZ),(4,hto (bE c1)),(7,hro (iO h2) aaZ),(10,hto (bE c2))] [(2,.bool true)] [] ?_
  cases hm
  exact A.ret qE
 obtain⟨bn,h3,hm⟩:=aa hm
 refine qS [(2,hro (iO h1) aaZ),(4,hto (bE c1)),(7,hro (iO h2) aaZ),(10,hto (bE c2)),(13,hro (iO h3) aaZ)] [(2,.bool (!bn))] [] ?_
 cases hm
 exact A.ret qE
variable {c_0:af}
theorem nB(hm:iT id c_0=some r):RO prog 96 [] [i6 id,.fF (k2 c_0)] (.bool r):=by
 refine bh func96 rfl rfl ?_
 unfold iT at hm
 refine qS [] [(0,i6 id),(1,.fF (k2 c_0))] [] ?_
 obtain⟨ai,h1,hm⟩:=aa hm
 refine qS [(3,hro (gd (oN:=98) (qt:=[]) (vE:=av6) (vF:=λ_ _ _ h=>tw h) h1) av5)] [(5,.bool ai.2)] []<|qS [] [(3,.bool (!ai.2))] [] ?_
 cases hm
 exact A.ret qE
theorem wP(hm:mA l c_0=some r):RO prog 101 [] [.agg (k1 l),.fF [.fn 96 [.fF (k2 c_0)]]] (.bool r):=by
 refine bh func101 rfl rfl ?_
 unfold mA at hm
 refine qS [(0,.al 101002)] [(1,.fF [.fn 96 [.fF (k2 c_0)]]),(2,.ptr 101002 0)] [(101002,.cells 89 (k1 l))] ?_
 obtain⟨ai,h1,hm⟩:=aa hm
 rcases aj hm with⟨c1,hm⟩|⟨c1,hm⟩
 ·refine qS [(3,hle [] (nB h1) alG),(4,hto (bE c1))] [(3,.bool true)] [] ?_
  cases hm
  exact A.ret qE
 obtain⟨aI,h2,hm⟩:=aa hm
 refine qS [(3,hle [] (nB h1) alG),(4,hto (bE c1)),(8,hle [] (nB h2) alG)] [(3,.bool aI)] [] ?_
 cases hm
 exact A.ret qE
theorem wQ(hm:mB l=some r):RO prog 102 [] [.agg (k1 l)] (.bool r):=by
 refine bh func102 rfl rfl ?_
 unfold mB at hm
 refine qS [(0,.al 102001)] [(1,.ptr 102001 0)] [(102001,.cells 89 (k1 l))]<|qS [] [(2,.bool (decide (l.B≤l.A)))] [] ?_
 cases hm
 exact A.ret qE
variable {t:af}
theorem l6{r:Int}(hm:iN t=some r):RO prog 58 [] [.agg (k2 t)] (i6 r):=by
 refine bh func58 rfl rfl ?_
 unfold iN at hm
 refine qS [(0,.al 58001)] [(1,.ptr 58001 0)] [(58001,.cells 28 (k2 t))]<|A.seq<|A.block<|A.mid [(1,.ptr 58001 0),(6,.bool ((decide (24<(t.aq.length:Int)))||(decide (60<(t.Links.length:Int)))))] [(58001,.cells 28 (k2 t))] (λhk=>?_) ?_
 ·rcases tf (decide (24<(t.aq.length:Int)))with c1|c1
  ·exact qS [(2,hto (lnE aJ t.aq)),(4,hto (bE c1)),(10,hto (orT (q:=decide (60<(t.Links.length:Int))) c1))] _ _ hk
  exact qS [(2,hto (lnE aJ t.aq)),(4,hto (bE c1)),(7,hto (lnE bJ t.Links)),(10,hto (orF (q:=decide (60<(t.Links.length:Int))) c1))] _ _ hk
 rcases aj hm with⟨c2,hm⟩|⟨c2,hm⟩
 ·refine qT c2<|qS [] [(2,i6 3)] [] ?_
  cases hm
  exact A.ret qE
 refine qF c2 ?_
 obtain⟨ai,h1,hm⟩:=aa hm
 refine qDs [(2,hro (l9 (f_g:=94) (f_c:=[]) (f_k:=ck94) (f_f:=λ_ _ h=>wN h) h1) ck93)] [6] [(17,.bool ai)] ?_
 rcases aj hm with⟨c3,hm⟩|⟨c3,hm⟩
 ·refine qT c3<|qS [] [(2,i6 2)] [] ?_
  cases hm
  exact A.ret qE
 refine qF c3<|A.skip ?_
 show ah _ _ _ _ _
 refine A.seq<|qDs [(2,hto (lnE aJ t.aq))] [17] [(23,i6 (t.aq.length:Int)),(24,i6 0)] ?_
 refine A.block<|A.bC 1 0 rfl rfl rfl λhb1=>?_
 obtain⟨B1,K1,hB1,hK1,hm⟩:=aX hm
 refine A.lpI (l:=t.aq) (j0:=0) (B:=B1) (K:=K1) hm (λj1=>λ()=>[(1,.ptr 58001 0),(23,i6 (t.aq.length:Int)),(24,i6 (j1:Int))]) (λj1=>λ()=>[(58001,.cells 28 (k2 t))]) ?_ ?_ ?_
 ·exact qW
 ·rintro j1 e1 Z1 ⟨⟩ hj1 hx1 hm
  rw[hB1]at hm
  refine qDs [] [] [(25,.bool (decide ((j1:Int)<(t.aq.length:Int))))]<|A.seq<|qT (ltT hx1)<|A.skip ?_
  show ah _ _ _ _ _
  refine A.seq<|A.block ?_
  refine qDs [] [25] [(3,i6 (j1:Int))] ?_
  obtain⟨J1,hJ1,hm⟩:=bQ hm
  refine A.J (J:=J1) (r:=r) (λv_1=>[(1,.ptr 58001 0),(23,i6 (t.aq.length:Int)),(24,i6 (j1:Int)),(44,.bool v_1)]) (λv_1=>[(58001,.cells 28 (k2 t))]) ?_ ?_
  ·rcases aj hm with⟨c4,hm⟩|⟨c4,hm⟩
   ·obtain⟨e_1,h2,hm⟩:=aa hm
    exact qGs [(2,hto (bE c4)),(7,hix (ix aJ h2)),(13,hix (ix aJ (bq hx1)))] [3] [(44,.bool (decide (e1.ID≤e_1.ID)))]<|qX (decide (e1.ID≤e_1.ID)) hm
   exact qGs [(2,hto (bE c4))] [3] [(44,.bool false)]<|qX false hm
  rintro v_1 hm
  rw[hJ1]at hm
  rcases aj hm with⟨c5,hm⟩|⟨c5,hm⟩
  ·refine qT c5<|qS [] [(2,i6 25)] [] ?_
   cases hm
   exact A.ret qE
  refine qF c5<|A.skip ?_
  show ah _ _ _ _ _
  exact qGs [(0,hto (inc hx1 hb1))] [24,44] [(24,i6 ((j1+1:Nat):Int))]<|qX () hm
 rintro j1 ⟨⟩ hj1 hl1 hm
 rw[hK1]at hm
 refine qDs [] [] [(25,.bool (decide ((j1:Int)<(t.aq.length:Int))))]<|A.seq<|qF (ltF hl1)<|A.exit ?_
 show ah _ _ _ _ _
 refine qD [(1,.al 58004)] [23,24,25] [(4,.ptr 58004 0)] [] [(58004,.cells 130 [.fn 96 [.ptr 58001 0]])]<|A.seq<|A.block ?_
 obtain⟨aI,h3,hm⟩:=aa hm
 refine qDs [(2,hro (fQ (f_g:=100) (f_c:=[]) (f_k:=aAC) (f_f:=λ_ _ h=>wO h) h3) alH)] [] [(47,.bool aI)] ?_
 rcases aj hm with⟨c6,hm⟩|⟨c6,hm⟩
 ·refine qT c6<|qS [] [(2,i6 2)] [] ?_
  cases hm
  exact A.ret qE
 refine qF c6 ?_
 obtain⟨bn,h4,hm⟩:=aa hm
 refine qD [(3,hle [58004,58001] (fQ (f_g:=101) (f_c:=[.fF [.fn 96 [.fF (k2 t)]]]) (f_k:=aAD) (f_f:=λ_ _ h=>wP h) h4) alH)] [4,47] [(51,.bool bn)] [58004] [] ?_
 rcases aj hm with⟨c7,hm⟩|⟨c7,hm⟩
 ·refine qT c7<|qS [] [(2,i6 4)] [] ?_
  cases hm
  exact A.ret qE
 refine qF c7 ?_
 obtain⟨bf,h5,hm⟩:=aa hm
 refine qDs [(2,hro (fQ (f_g:=102) (f_c:=[]) (f_k:=aAE) (f_f:=λ_ _ h=>wQ h) h5) alH)] [51] [(56,.bool bf)] ?_
 rcases aj hm with⟨c8,hm⟩|⟨c8,hm⟩
 ·refine qT c8<|qS [] [(2,i6 8)] [] ?_
  cases hm
  exact A.ret qE
 refine qF c8<|A.skip ?_
 show ah _ _ _ _ _
 refine A.seq<|qDs [(2,hto (lnE bJ t.Links))] [56] [(62,i6 (t.Links.length:Int)),(63,i6 0)] ?_
 refine A.block<|A.bC 1 1 rfl rfl rfl λhb2=>?_
 obtain⟨B2,K2,hB2,hK2,hm⟩:=aX hm
 refine A.lpI (l:=t.Links) (j0:=0) (B:=B2) (K:=K2) hm (λj2=>λ()=>[(1,.ptr 58001 0),(62,i6 (t.Links.length:Int)),(63,i6 (j2:Int))]) (λj2=>λ()=>[(58001,.cells 28 (k2 t))]) ?_ ?_ ?_
 ·exact qW
 ·rintro j2 e2 Z2 ⟨⟩ hj2 hx2 hm
  rw[hB2]at hm
  refine qDs [] [] [(64,.bool (decide ((j2:Int)<(t.Links.length:Int))))]<|A.seq<|qT (ltT hx2)<|A.skip ?_
  show ah _ _ _ _ _
  refine A.seq<|A.block ?_
  refine qDs [] [64] [(5,i6 (j2:Int))] ?_
  obtain⟨J2,hJ2,hm⟩:=bQ hm
  refine A.J (J:=J2) (r:=r) (λv_2=>[(1,.ptr 58001 0),(62,i6 (t.Links.length:Int)),(63,i6 (j2:Int)),(82,.bool v_2)]) (λv_2=>[(58001,.cells 28 (k2 t))]) ?_ ?_
  ·rcases aj hm with⟨c9,hm⟩|⟨c9,hm⟩
   ·obtain⟨e_2,h6,hm⟩:=aa hm
    obtain⟨bO,h7,hm⟩:=aa hm
    exact qGs [(2,hto (bE c9)),(7,hix (ix bJ h6)),(12,hix (ix bJ (bq hx2))),(14,hro (rz h7) anN)] [5] [(82,.bool (decide (0≤bO)))]<|qX (decide (0≤bO)) hm
   exact qGs [(2,hto (bE c9))] [5] [(82,.bool false)]<|qX false hm
  rintro v_2 hm
  rw[hJ2]at hm
  rcases aj hm with⟨c10,hm⟩|⟨c10,hm⟩
  ·refine qT c10<|qS [] [(2,i6 25)] [] ?_
   cases hm
   exact A.ret qE
  refine qF c10<|A.skip ?_
  show ah _ _ _ _ _
  exact qGs [(0,hto (inc hx2 hb2))] [63,82] [(63,i6 ((j2+1:Nat):Int))]<|qX () hm
 rintro j2 ⟨⟩ hj2 hl2 hm
 rw[hK2]at hm
 refine qDs [] [] [(64,.bool (decide ((j2:Int)<(t.Links.length:Int))))]<|A.seq<|qF (ltF hl2)<|A.exit ?_
 show ah _ _ _ _ _
 refine qS [] [(2,i6 0)] [] ?_
 cases hm
 exact A.ret qE
theorem oI(hm:jN t=some r):RO prog 124 [] [.agg (k2 t)] (.bool r):=by
 refine bh func124 rfl rfl ?_
 unfold jN at hm
 refine qS [(0,.al 124001)] [(1,.ptr 124001 0)] [(124001,.cells 28 (k2 t))] ?_
 obtain⟨ai,h1,hm⟩:=aa hm
 refine qS [(1,hro (l6 h1) agm)] [(2,.bool (decide (ai=0)))] [] ?_
 cases hm
 exact A.ret qE
variable {aK:Int}
theorem yX{r:aY×Bool}(hm:mC t aK=some r):RO prog 123 [] [.agg (k2 t),i6 aK] (.tup [.agg (k0 r.1),.bool r.2]):=by
 refine bh func123 rfl rfl ?_
 unfold mC at hm
 refine qS [(0,.al 123002),(1,.al 123004)] [(1,i6 aK),(2,.ptr 123002 0),(4,.ptr 123004 0)] [(123002,.cells 28 (k2 t)),(123004,.cells 42 [i6 0,.bool false])] ?_
 obtain⟨ai,h1,hm⟩:=aa hm
 refine qDs [(3,hro (gd (oN:=98) (qt:=[]) (vE:=av6) (vF:=λ_ _ _ h=>tw h) h1) av5)] [1] [(6,i6 ai.1),(7,.bool ai.2)]<|A.seq<|qDs [] [7] [(16,.bool (!ai.2))] ?_
 rcases aj hm with⟨c1,hm⟩|⟨c1,hm⟩
 ·refine qT c1<|qD [] [2,6,16] [(5,.bool false)] [123002] [] ?_
  cases hm
  exact A.ret qE
 refine qF c1<|A.skip ?_
 show ah _ _ _ _ _
 obtain⟨e_1,h2,hm⟩:=aa hm
 refine qS [(3,hix (ix aJ h2))] [(4,.ptr 123004 0),(5,.bool true)] [(123004,.cells 42 (k0 e_1))] ?_
 cases hm
 exact A.ret qE
theorem aab(hm:nA t aK=some r):RO prog 70 [] [.agg (k2 t),i6 aK] (.bool r):=by
 refine bh func70 rfl rfl ?_
 unfold nA at hm
 refine qS [(0,.al 70002)] [(1,i6 aK),(2,.ptr 70002 0)] [(70002,.cells 28 (k2 t))] ?_
 obtain⟨ai,h1,hm⟩:=aa hm
 refine qDs [(2,hro (yX h1) aAM),(6,.al 70005)] [1] [(6,.bool ai.2)] ?_
 obtain⟨aI,h2,hm⟩:=aa hm
 rcases aj hm with⟨c1,hm⟩|⟨c1,hm⟩
 ·refine qS [(1,hro (oI h2) agq),(2,hto (bE c1))] [(4,.bool ai.2)] [] ?_
  cases hm
  exact A.ret qE
 refine qS [(1,hro (oI h2) agq),(2,hto (bE c1))] [(4,.bool false)] [] ?_
 cases hm
 exact A.ret qE
theorem yY{cG:Int}{eA:Int}{r:Int×Bool}(hm:mD t cG eA=some r):RO prog 125 [] [.agg (k2 t),i6 cG,i6 eA] (.tup [i6 r.1,.bool r.2]):=by
 refine bh func125 rfl rfl ?_
 unfold mD at hm
 refine qS [(0,.al 125003)] [(1,i6 cG),(2,i6 eA),(3,.ptr 125003 0)] [(125003,.cells 28 (k2 t))]<|A.seq ?_
 obtain⟨ai,h1,hm⟩:=aa hm
 refine qDs [(1,hro (oI h1) agq)] [] [(12,.bool (!ai))] ?_
 rcases aj hm with⟨c1,hm⟩|⟨c1,hm⟩
 ·refine qT c1<|qS [] [(6,i6 0),(7,.bool false)] [] ?_
  cases hm
  exact A.ret qE
 refine qF c1<|A.skip ?_
 show ah _ _ _ _ _
 obtain⟨aI,h2,hm⟩:=aa hm
 refine qDs [(9,hro (jO (oN:=103) (qt:=[]) (vE:=anN) (vF:=λ_ _ _ h=>rz h) h2) aA1)] [12] [(8,i6 aI.1),(9,.bool aI.2)]<|A.seq<|A.block<|qDs [] [9] [(26,.bool (!aI.2))] ?_
 rcases aj hm with⟨c2,hm⟩|⟨c2,hm⟩
 ·refine qT c2<|qS [] [(6,i6 0),(7,.bool false)] [] ?_
  cases hm
  exact A.ret qE
 refine qF c2<|qDs [] [1,2,26] [(29,.bool (decide (cG<eA)))] ?_
 rcases aj hm with⟨c3,hm⟩|⟨c3,hm⟩
 ·refine qT c3 ?_
  obtain⟨e_1,h3,hm⟩:=aa hm
  refine qS [(3,hix (ix bJ h3))] [(6,i6 e_1.iz),(7,.bool true)] [] ?_
  cases hm
  exact A.ret qE
 refine qF c3<|A.skip ?_
 show ah _ _ _ _ _
 obtain⟨e_2,h4,hm⟩:=aa hm
 refine qS [(3,hix (ix bJ h4))] [(6,i6 e_2.iA),(7,.bool true)] [] ?_
 cases hm
 exact A.ret qE
end Go.Proofs.YtdjeacigeegklaaGreat
