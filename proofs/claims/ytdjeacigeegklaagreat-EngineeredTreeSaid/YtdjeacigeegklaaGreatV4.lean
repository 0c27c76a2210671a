/- The gq of dx of the program. No condition but br aM stand in each. -/
import Derived.Test.YtdjeacigeegklaaGreatDA
namespace Go.Proofs.YtdjeacigeegklaaGreat
open Go Go.Proofs.Tryz
set_option maxRecDepth 100000
set_option linter.all false
variable {r:Bool}{xa0:Int}
theorem fZ(hm:fS xa0=some r):RO prog 158 [] [i6 xa0] (.bool r):=by
 refine bu func158 rfl rfl ?_
 unfold fS at hm
 refine qS [] [(0,i6 xa0)] []<|qS [] [(2,.bool (!decide (xa0=xa0)))] [] ?_
 cases hm
 exact A.ret qE
theorem gb{y:Int}{r:Int}(hm:dL xa0 y=some r):RO prog 136 [] [i6 xa0,i6 y] (i6 r):=by
 refine bu func136 rfl rfl ?_
 unfold dL at hm
 refine qS [] [(0,i6 xa0),(1,i6 y)] [] ?_
 obtain⟨ak,h1,hm⟩:=aa hm
 refine qDs [(1,hro (fZ h1) uD)] [] [(5,.bool ak)] ?_
 obtain⟨aO,h2,hm⟩:=aa hm
 refine qDs [(1,hro (fZ h2) uD)] [] [(6,.bool aO)]<|A.seq<|qDs [] [5] [(11,.bool ak)] ?_
 rcases aq hm with⟨c1,hm⟩|⟨c1,hm⟩
 ·refine qT c1<|A.seq<|qS [] [(12,.bool aO)] [] ?_
  rcases aq hm with⟨c2,hm⟩|⟨c2,hm⟩
  ·refine qT c2<|qS [] [(4,i6 0)] [] ?_
   cases hm
   exact A.ret qE
  refine qF c2<|A.skip<|qS [] [(4,i6 (-1))] [] ?_
  cases hm
  exact A.ret qE
 refine qF c1<|A.skip<|A.seq<|qDs [] [6,11] [(13,.bool aO)] ?_
 rcases aq hm with⟨c3,hm⟩|⟨c3,hm⟩
 ·refine qT c3<|qS [] [(4,i6 1)] [] ?_
  cases hm
  exact A.ret qE
 refine qF c3<|A.skip<|A.seq<|qDs [] [13] [(16,.bool (decide (xa0<y)))] ?_
 rcases aq hm with⟨c4,hm⟩|⟨c4,hm⟩
 ·refine qT c4<|qS [] [(4,i6 (-1))] [] ?_
  cases hm
  exact A.ret qE
 refine qF c4<|A.skip<|A.seq<|qS [] [(19,.bool (decide (y<xa0)))] [] ?_
 rcases aq hm with⟨c5,hm⟩|⟨c5,hm⟩
 ·refine qT c5<|qS [] [(4,i6 1)] [] ?_
  cases hm
  exact A.ret qE
 refine qF c5<|A.skip<|qS [] [(4,i6 0)] [] ?_
 cases hm
 exact A.ret qE
theorem sP{vals:List Int}{r:Int}(hm:jO vals=some r):RO prog 138 [] [lf aG vals] (i6 r):=by
 refine bu func138 rfl rfl ?_
 unfold jO at hm
 refine qS [] [(0,lf aG vals)] []<|qDs [] [] [(3,i6 0)]<|A.seq<|qDs [(1,hto (lnE aG vals))] [0] [(6,lf aG vals),(7,i6 (vals.length:Int)),(8,i6 0)]<|A.block<|A.bS 6 rfl λhb1=>?_
 obtain⟨B1,K1,hB1,hK1,hm⟩:=bA hm
 refine A.lpI (l:=vals) (j0:=0) (B:=B1) (K:=K1) hm (λj1=>λ()=>[(3,i6 0),(6,lf aG vals),(7,i6 (vals.length:Int)),(8,i6 (j1:Int))]) (λj1=>λ()=>[]) ?_ ?_ ?_
 ·exact qW
 ·rintro j1 e1 Z1 ⟨⟩ hj1 hx1 hm
  rw[hB1]at hm
  refine qDs [] [] [(9,.bool (decide ((j1:Int)<(vals.length:Int))))]<|A.seq<|qT (ltT hx1)<|A.skip<|A.seq<|A.block<|qDs [(0,hix (ix aG (bK hx1)))] [9] [(5,i6 e1)]<|qDs [] [] [(14,.bool (!decide (e1=0)))] ?_
  rcases aq hm with⟨c1,hm⟩|⟨c1,hm⟩
  ·refine qT c1<|qS [] [(2,i6 e1)] [] ?_
   cases hm
   exact A.ret qE
  exact qF c1<|A.skip<|qGs [(0,hto (inc hx1 hb1))] [8,5,14] [(8,i6 ((j1+1:Nat):Int))]<|qX () hm
 rintro j1 ⟨⟩ hj1 hl1 hm
 rw[hK1]at hm
 refine qDs [] [] [(9,.bool (decide ((j1:Int)<(vals.length:Int))))]<|A.seq<|qF (ltF hl1)<|A.exit<|qS [] [(2,i6 0)] [] ?_
 cases hm
 exact A.ret qE
variable {mN:Nat}{nX:List AV}
theorem fm{xa0:List aP}{target:Int}{cmp:aP→Int→Option Int}(sQ:aN prog mN)(sR:∀(y0:aP) (y1:Int) (q:Int),cmp y0 y1=some q→RO prog mN [] ([.agg (k0 y0),i6 y1]++nX) (i6 q)){r:Int×Bool}(hm:bZ xa0 target cmp=some r):RO prog 97 [] [lf bg xa0,i6 target,.cfn mN nX] (.tup [i6 r.1,.bool r.2]):=by
 refine bu func97 rfl rfl ?_
 unfold bZ at hm
 refine qS [] [(0,lf bg xa0),(1,i6 target),(2,.cfn mN nX)] []<|qDs [(1,hto (lnE bg xa0))] [] [(8,i6 (xa0.length:Int))]<|qDs [] [] [(9,i6 0),(10,i6 (xa0.length:Int))]<|A.seq<|A.block ?_
 obtain⟨F1,n1,hF1,hm⟩:=gU hm
 refine A.lpW (F:=F1) hm (λ(i_1,j_1)=>[(0,lf bg xa0),(1,i6 target),(2,.cfn mN nX),(8,i6 (xa0.length:Int)),(9,i6 i_1),(10,i6 j_1)]) (λ(i_1,j_1)=>[]) ?_ ?_
 ·exact qW
 rintro Z1 ⟨i_1,j_1⟩ hm
 rw[hF1]at hm
 refine A.seq<|qDs [] [] [(17,.bool (decide (i_1<j_1)))] ?_
 rcases aq hm with⟨c1,hm⟩|⟨c1,hm⟩
 ·refine qT c1<|A.skip<|A.block<|qDs [(4,.sh (1:Int) (by decide))] [17] [(11,i6 (w64 (Int.fdiv (IntKind.wrap .u64 (w64 (i_1+j_1))) (2 ^ min (1:Int).toNat 64))))] ?_
  obtain⟨e_1,h1,hm⟩:=aa hm
  obtain⟨ak,h2,hm⟩:=aa hm
  refine qDs [(3,hix (ix bg h1)),(6,hrf (sR _ _ _ h2) sQ)] [] [(31,.bool (decide (ak<0)))] ?_
  rcases aq hm with⟨c2,hm⟩|⟨c2,hm⟩
  ·exact qT c2<|qGs [] [9,11,31] [(9,i6 (w64 ((w64 (Int.fdiv (IntKind.wrap .u64 (w64 (i_1+j_1))) (2 ^ min (1:Int).toNat 64)))+(1:Int))))]<|qX (w64 ((w64 (Int.fdiv (IntKind.wrap .u64 (w64 (i_1+j_1))) (2 ^ min (1:Int).toNat 64)))+(1:Int)),j_1) hm
  exact qF c2<|qGs [] [10,11,31] [(10,i6 (w64 (Int.fdiv (IntKind.wrap .u64 (w64 (i_1+j_1))) (2 ^ min (1:Int).toNat 64))))]<|qX (i_1,w64 (Int.fdiv (IntKind.wrap .u64 (w64 (i_1+j_1))) (2 ^ min (1:Int).toNat 64))) hm
 refine qF c1<|A.exit ?_
 rcases aq hm with⟨c3,hm⟩|⟨c3,hm⟩
 ·obtain⟨e_2,h3,hm⟩:=aa hm
  obtain⟨aO,h4,hm⟩:=aa hm
  refine qS [(4,hto (bE c3)),(8,hix (ix bg h3)),(11,hrf (sR _ _ _ h4) sQ)] [(6,i6 i_1),(7,.bool (decide (aO=0)))] [] ?_
  cases hm
  exact A.ret qE
 refine qS [(4,hto (bE c3))] [(6,i6 i_1),(7,.bool false)] [] ?_
 cases hm
 exact A.ret qE
variable {f_c:List AV}{f_g:Nat}
theorem jB{sa0:List az}{f:az→Option Bool}(f_k:aN prog f_g)(f_f:∀(y0:az) (q:Bool),f y0=some q→RO prog f_g [] ([.agg (k4 y0)]++f_c) (.bool q)){r:Int}(hm:dB sa0 f=some r):RO prog 127 [] [lf aQ sa0,.cfn f_g f_c] (i6 r):=by
 refine bu func127 rfl rfl ?_
 unfold dB at hm
 refine qS [] [(0,lf aQ sa0),(1,.cfn f_g f_c)] []<|A.seq<|qDs [(1,hto (lnE aQ sa0))] [] [(7,i6 (sa0.length:Int)),(8,i6 0)]<|A.block<|A.bS 0 rfl λhb1=>?_
 obtain⟨B1,K1,hB1,hK1,hm⟩:=bA hm
 refine A.lpI (l:=sa0) (j0:=0) (B:=B1) (K:=K1) hm (λj1=>λ()=>[(0,lf aQ sa0),(1,.cfn f_g f_c),(7,i6 (sa0.length:Int)),(8,i6 (j1:Int))]) (λj1=>λ()=>[]) ?_ ?_ ?_
 ·exact qW
 ·rintro j1 e1 Z1 ⟨⟩ hj1 hx1 hm
  rw[hB1]at hm
  refine qDs [] [] [(9,.bool (decide ((j1:Int)<(sa0.length:Int))))]<|A.seq<|qT (ltT hx1)<|A.skip<|A.seq<|A.block<|qDs [] [9] [(5,i6 (j1:Int))] ?_
  obtain⟨ak,h1,hm⟩:=aa hm
  refine qDs [(3,hix (ix aQ (bK hx1))),(5,hrf (f_f _ _ h1) f_k)] [] [(16,.bool ak)] ?_
  rcases aq hm with⟨c1,hm⟩|⟨c1,hm⟩
  ·refine qT c1<|qS [] [(4,i6 (j1:Int))] [] ?_
   cases hm
   exact A.ret qE
  exact qF c1<|A.skip<|qGs [(0,hto (inc hx1 hb1))] [8,5,16] [(8,i6 ((j1+1:Nat):Int))]<|qX () hm
 rintro j1 ⟨⟩ hj1 hl1 hm
 rw[hK1]at hm
 refine qDs [] [] [(9,.bool (decide ((j1:Int)<(sa0.length:Int))))]<|A.seq<|qF (ltF hl1)<|A.exit<|qS [] [(4,i6 (-1))] [] ?_
 cases hm
 exact A.ret qE
variable {f:aP→Option Bool}{sa0:List aP}
theorem lg(f_k:aN prog f_g)(f_f:∀(y0:aP) (q:Bool),f y0=some q→RO prog f_g [] ([.agg (k0 y0)]++f_c) (.bool q)){r:Int}(hm:dV sa0 f=some r):RO prog 135 [] [lf bg sa0,.cfn f_g f_c] (i6 r):=by
 refine bu func135 rfl rfl ?_
 unfold dV at hm
 refine qS [] [(0,lf bg sa0),(1,.cfn f_g f_c)] []<|A.seq<|qDs [(1,hto (lnE bg sa0))] [] [(7,i6 (sa0.length:Int)),(8,i6 0)]<|A.block<|A.bS 0 rfl λhb1=>?_
 obtain⟨B1,K1,hB1,hK1,hm⟩:=bA hm
 refine A.lpI (l:=sa0) (j0:=0) (B:=B1) (K:=K1) hm (λj1=>λ()=>[(0,lf bg sa0),(1,.cfn f_g f_c),(7,i6 (sa0.length:Int)),(8,i6 (j1:Int))]) (λj1=>λ()=>[]) ?_ ?_ ?_
 ·exact qW
 ·rintro j1 e1 Z1 ⟨⟩ hj1 hx1 hm
  rw[hB1]at hm
  refine qDs [] [] [(9,.bool (decide ((j1:Int)<(sa0.length:Int))))]<|A.seq<|qT (ltT hx1)<|A.skip<|A.seq<|A.block<|qDs [] [9] [(5,i6 (j1:Int))] ?_
  obtain⟨ak,h1,hm⟩:=aa hm
  refine qDs [(3,hix (ix bg (bK hx1))),(5,hrf (f_f _ _ h1) f_k)] [] [(16,.bool ak)] ?_
  rcases aq hm with⟨c1,hm⟩|⟨c1,hm⟩
  ·refine qT c1<|qS [] [(4,i6 (j1:Int))] [] ?_
   cases hm
   exact A.ret qE
  exact qF c1<|A.skip<|qGs [(0,hto (inc hx1 hb1))] [8,5,16] [(8,i6 ((j1+1:Nat):Int))]<|qX () hm
 rintro j1 ⟨⟩ hj1 hl1 hm
 rw[hK1]at hm
 refine qDs [] [] [(9,.bool (decide ((j1:Int)<(sa0.length:Int))))]<|A.seq<|qF (ltF hl1)<|A.exit<|qS [] [(4,i6 (-1))] [] ?_
 cases hm
 exact A.ret qE
theorem l9{sa0:List aZ}{f:aZ→Option Bool}(f_k:aN prog f_g)(f_f:∀(y0:aZ) (q:Bool),f y0=some q→RO prog f_g [] ([.agg (k1 y0)]++f_c) (.bool q)){r:Int}(hm:eA sa0 f=some r):RO prog 137 [] [lf cq sa0,.cfn f_g f_c] (i6 r):=by
 refine bu func137 rfl rfl ?_
 unfold eA at hm
 refine qS [] [(0,lf cq sa0),(1,.cfn f_g f_c)] []<|A.seq<|qDs [(1,hto (lnE cq sa0))] [] [(7,i6 (sa0.length:Int)),(8,i6 0)]<|A.block<|A.bS 0 rfl λhb1=>?_
 obtain⟨B1,K1,hB1,hK1,hm⟩:=bA hm
 refine A.lpI (l:=sa0) (j0:=0) (B:=B1) (K:=K1) hm (λj1=>λ()=>[(0,lf cq sa0),(1,.cfn f_g f_c),(7,i6 (sa0.length:Int)),(8,i6 (j1:Int))]) (λj1=>λ()=>[]) ?_ ?_ ?_
 ·exact qW
 ·rintro j1 e1 Z1 ⟨⟩ hj1 hx1 hm
  rw[hB1]at hm
  refine qDs [] [] [(9,.bool (decide ((j1:Int)<(sa0.length:Int))))]<|A.seq<|qT (ltT hx1)<|A.skip<|A.seq<|A.block<|qDs [] [9] [(5,i6 (j1:Int))] ?_
  obtain⟨ak,h1,hm⟩:=aa hm
  refine qDs [(3,hix (ix cq (bK hx1))),(5,hrf (f_f _ _ h1) f_k)] [] [(16,.bool ak)] ?_
  rcases aq hm with⟨c1,hm⟩|⟨c1,hm⟩
  ·refine qT c1<|qS [] [(4,i6 (j1:Int))] [] ?_
   cases hm
   exact A.ret qE
  exact qF c1<|A.skip<|qGs [(0,hto (inc hx1 hb1))] [8,5,16] [(8,i6 ((j1+1:Nat):Int))]<|qX () hm
 rintro j1 ⟨⟩ hj1 hl1 hm
 rw[hK1]at hm
 refine qDs [] [] [(9,.bool (decide ((j1:Int)<(sa0.length:Int))))]<|A.seq<|qF (ltF hl1)<|A.exit<|qS [] [(4,i6 (-1))] [] ?_
 cases hm
 exact A.ret qE
theorem iE{xa0:List aZ}{target:aZ}{cmp:aZ→aZ→Option Int}(sQ:aN prog mN)(sR:∀(y0:aZ) (y1:aZ) (q:Int),cmp y0 y1=some q→RO prog mN [] ([.agg (k1 y0),.agg (k1 y1)]++nX) (i6 q)){r:Int×Bool}(hm:cA xa0 target cmp=some r):RO prog 151 [] [lf cq xa0,.agg (k1 target),.cfn mN nX] (.tup [i6 r.1,.bool r.2]):=by
 refine bu func151 rfl rfl ?_
 unfold cA at hm
 refine qS [(0,.al 151004)] [(0,lf cq xa0),(2,.cfn mN nX),(4,.ptr 151004 0)] [(151004,.cells 89 (k1 target))]<|qDs [(1,hto (lnE cq xa0))] [] [(8,i6 (xa0.length:Int))]<|qDs [] [] [(9,i6 0),(10,i6 (xa0.length:Int))]<|A.seq<|A.block ?_
 obtain⟨F1,n1,hF1,hm⟩:=gU hm
 refine A.lpW (F:=F1) hm (λ(i_1,j_1)=>[(0,lf cq xa0),(2,.cfn mN nX),(4,.ptr 151004 0),(8,i6 (xa0.length:Int)),(9,i6 i_1),(10,i6 j_1)]) (λ(i_1,j_1)=>[(151004,.cells 89 (k1 target))]) ?_ ?_
 ·exact qW
 rintro Z1 ⟨i_1,j_1⟩ hm
 rw[hF1]at hm
 refine A.seq<|qDs [] [] [(17,.bool (decide (i_1<j_1)))] ?_
 rcases aq hm with⟨c1,hm⟩|⟨c1,hm⟩
 ·refine qT c1<|A.skip<|A.block<|qDs [(4,.sh (1:Int) (by decide))] [17] [(11,i6 (w64 (Int.fdiv (IntKind.wrap .u64 (w64 (i_1+j_1))) (2 ^ min (1:Int).toNat 64))))] ?_
  obtain⟨e_1,h1,hm⟩:=aa hm
  obtain⟨ak,h2,hm⟩:=aa hm
  refine qDs [(3,hix (ix cq h1)),(6,hrf (sR _ _ _ h2) sQ)] [] [(31,.bool (decide (ak<0)))] ?_
  rcases aq hm with⟨c2,hm⟩|⟨c2,hm⟩
  ·exact qT c2<|qGs [] [9,11,31] [(9,i6 (w64 ((w64 (Int.fdiv (IntKind.wrap .u64 (w64 (i_1+j_1))) (2 ^ min (1:Int).toNat 64)))+(1:Int))))]<|qX (w64 ((w64 (Int.fdiv (IntKind.wrap .u64 (w64 (i_1+j_1))) (2 ^ min (1:Int).toNat 64)))+(1:Int)),j_1) hm
  exact qF c2<|qGs [] [10,11,31] [(10,i6 (w64 (Int.fdiv (IntKind.wrap .u64 (w64 (i_1+j_1))) (2 ^ min (1:Int).toNat 64))))]<|qX (i_1,w64 (Int.fdiv (IntKind.wrap .u64 (w64 (i_1+j_1))) (2 ^ min (1:Int).toNat 64))) hm
 refine qF c1<|A.exit ?_
 rcases aq hm with⟨c3,hm⟩|⟨c3,hm⟩
 ·obtain⟨e_2,h3,hm⟩:=aa hm
  obtain⟨aO,h4,hm⟩:=aa hm
  refine qS [(4,hto (bE c3)),(8,hix (ix cq h3)),(11,hrf (sR _ _ _ h4) sQ)] [(6,i6 i_1),(7,.bool (decide (aO=0)))] [] ?_
  cases hm
  exact A.ret qE
 refine qS [(4,hto (bE c3))] [(6,i6 i_1),(7,.bool false)] [] ?_
 cases hm
 exact A.ret qE
theorem jZ(f_k:aN prog f_g)(f_f:∀(y0:aP) (q:Bool),f y0=some q→RO prog f_g [] ([.agg (k0 y0)]++f_c) (.bool q))(hm:cZ sa0 f=some r):RO prog 93 [] [lf bg sa0,.cfn f_g f_c] (.bool r):=by
 refine bu func93 rfl rfl ?_
 unfold cZ at hm
 refine qS [] [(0,lf bg sa0),(1,.cfn f_g f_c)] [] ?_
 obtain⟨ak,h1,hm⟩:=aa hm
 refine qS [(2,hro (lg (f_k:=f_k) (f_f:=f_f) h1) arv)] [(4,.bool (decide (0≤ak)))] [] ?_
 cases hm
 exact A.ret qE
theorem eT{sa0:List aZ}{f:aZ→Option Bool}(f_k:aN prog f_g)(f_f:∀(y0:aZ) (q:Bool),f y0=some q→RO prog f_g [] ([.agg (k1 y0)]++f_c) (.bool q))(hm:cz sa0 f=some r):RO prog 99 [] [lf cq sa0,.cfn f_g f_c] (.bool r):=by
 refine bu func99 rfl rfl ?_
 unfold cz at hm
 refine qS [] [(0,lf cq sa0),(1,.cfn f_g f_c)] [] ?_
 obtain⟨ak,h1,hm⟩:=aa hm
 refine qS [(2,hro (l9 (f_k:=f_k) (f_f:=f_f) h1) arw)] [(4,.bool (decide (0≤ak)))] [] ?_
 cases hm
 exact A.ret qE
theorem gD{n:Int}{least:Int}{most:Int}(hm:ic n least most=some r):RO prog 95 [] [i6 n,i6 least,i6 most] (.bool r):=by
 refine bu func95 rfl rfl ?_
 unfold ic at hm
 refine qS [] [(0,i6 n),(1,i6 least),(2,i6 most)] []<|A.mid [(6,.bool ((decide (least≤n))&&(decide (n≤most))))] [] (λhk=>?_) ?_
 ·rcases tf (decide (least≤n))with c1|c1
  ·exact qS [(3,hto (bE c1)),(8,hto (qz (q:=decide (n≤most)) c1))] _ _ hk
  exact qS [(3,hto (bE c1)),(8,hto (qA (q:=decide (n≤most)) c1))] _ _ hk
 cases hm
 exact A.ret qE
theorem oE{a:aZ}{b:aZ}{r:Int}(hm:gH a b=some r):RO prog 103 [] [.agg (k1 a),.agg (k1 b)] (i6 r):=by
 refine bu func103 rfl rfl ?_
 unfold gH at hm
 refine qS [(0,.al 103002),(1,.al 103003)] [(2,.ptr 103002 0),(3,.ptr 103003 0)] [(103002,.cells 89 (k1 a)),(103003,.cells 89 (k1 b))] ?_
 obtain⟨ak,h1,hm⟩:=aa hm
 obtain⟨aO,h2,hm⟩:=aa hm
 obtain⟨bT,h3,hm⟩:=aa hm
 refine qS [(4,hro (gb h1) wW),(9,hro (gb h2) wW),(11,hro (sP h3) ahS)] [(4,i6 bT)] [] ?_
 cases hm
 exact A.ret qE
variable {id:Int}{ra0:aP}
theorem qp{r:Int}(hm:jg ra0 id=some r):RO prog 98 [] [.agg (k0 ra0),i6 id] (i6 r):=by
 refine bu func98 rfl rfl ?_
 unfold jg at hm
 refine qS [(0,.al 98002)] [(1,i6 id),(2,.ptr 98002 0)] [(98002,.cells 42 (k0 ra0))] ?_
 obtain⟨ak,h1,hm⟩:=aa hm
 refine qS [(3,hro (gb h1) wW)] [(4,i6 ak)] [] ?_
 cases hm
 exact A.ret qE
theorem tT(hm:kL ra0=some r):RO prog 94 [] [.agg (k0 ra0)] (.bool r):=by
 refine bu func94 rfl rfl ?_
 unfold kL at hm
 refine qS [(0,.al 94001)] [(1,.ptr 94001 0)] [(94001,.cells 42 (k0 ra0))] ?_
 obtain⟨ak,h1,hm⟩:=aa hm
 refine qS [(2,hro (gD h1) x6)] [(2,.bool (!ak))] [] ?_
 cases hm
 exact A.ret qE
variable {l:aZ}
theorem tU(hm:iX l=some r):RO prog 100 [] [.agg (k1 l)] (.bool r):=by
 refine bu func100 rfl rfl ?_
 unfold iX at hm
 refine qS [(0,.al 100001)] [(1,.ptr 100001 0)] [(100001,.cells 89 (k1 l))] ?_
 obtain⟨ak,h1,hm⟩:=aa hm
 rcases aq hm with⟨c1,hm⟩|⟨c1,hm⟩
 ·refine qS [(2,hro (gD h1) x6),(4,hto (bE c1))] [(2,.bool true)] [] ?_
  cases hm
  exact A.ret qE
 obtain⟨aO,h2,hm⟩:=aa hm
 rcases aq hm with⟨c2,hm⟩|⟨c2,hm⟩
 ·refine qS [(2,hro (gD h1) x6),(4,hto (bE c1)),(7,hro (gD h2) x6),(10,hto (bE c2))] [(2,.bool true)] [] ?_
  cases hm
  exact A.ret qE
 obtain⟨bT,h3,hm⟩:=aa hm
 refine qS [(2,hro (gD h1) x6),(4,hto (bE c1)),(7,hro (gD h2) x6),(10,hto (bE c2)),(13,hro (gD h3) x6)] [(2,.bool (!bT))] [] ?_
 cases hm
 exact A.ret qE
variable {c_0:af}
theorem lJ(hm:gI id c_0=some r):RO prog 96 [] [i6 id,.eB (k2 c_0)] (.bool r):=by
 refine bu func96 rfl rfl ?_
 unfold gI at hm
 refine qS [] [(0,i6 id),(1,.eB (k2 c_0))] [] ?_
 obtain⟨ak,h1,hm⟩:=aa hm
 refine qS [(3,hro (fm (mN:=98) (nX:=[]) (sQ:=aoy) (sR:=λ_ _ _ h=>qp h) h1) aox)] [(5,.bool ak.2)] []<|qS [] [(3,.bool (!ak.2))] [] ?_
 cases hm
 exact A.ret qE
theorem tV(hm:kM l c_0=some r):RO prog 101 [] [.agg (k1 l),.eB [.fn 96 [.eB (k2 c_0)]]] (.bool r):=by
 refine bu func101 rfl rfl ?_
 unfold kM at hm
 refine qS [(0,.al 101002)] [(1,.eB [.fn 96 [.eB (k2 c_0)]]),(2,.ptr 101002 0)] [(101002,.cells 89 (k1 l))] ?_
 obtain⟨ak,h1,hm⟩:=aa hm
 rcases aq hm with⟨c1,hm⟩|⟨c1,hm⟩
 ·refine qS [(3,hle [] (lJ h1) agp),(4,hto (bE c1))] [(3,.bool true)] [] ?_
  cases hm
  exact A.ret qE
 obtain⟨aO,h2,hm⟩:=aa hm
 refine qS [(3,hle [] (lJ h1) agp),(4,hto (bE c1)),(8,hle [] (lJ h2) agp)] [(3,.bool aO)] [] ?_
 cases hm
 exact A.ret qE
theorem tW(hm:kN l=some r):RO prog 102 [] [.agg (k1 l)] (.bool r):=by
 refine bu func102 rfl rfl ?_
 unfold kN at hm
 refine qS [(0,.al 102001)] [(1,.ptr 102001 0)] [(102001,.cells 89 (k1 l))]<|qS [] [(2,.bool (decide (l.B≤l.A)))] [] ?_
 cases hm
 exact A.ret qE
variable {t:af}
theorem jY{r:Int}(hm:gC t=some r):RO prog 58 [] [.agg (k2 t)] (i6 r):=by
 refine bu func58 rfl rfl ?_
 unfold gC at hm
 refine qS [(0,.al 58001)] [(1,.ptr 58001 0)] [(58001,.cells 28 (k2 t))]<|A.seq<|A.block<|A.mid [(1,.ptr 58001 0),(6,.bool ((decide (24<(t.aF.length:Int)))||(decide (60<(t.Links.length:Int)))))] [(58001,.cells 28 (k2 t))] (λhk=>?_) ?_
 ·rcases tf (decide (24<(t.aF.length:Int)))with c1|c1
  ·exact qS [(2,hto (lnE bg t.aF)),(4,hto (bE c1)),(10,hto (orT (q:=decide (60<(t.Links.length:Int))) c1))] _ _ hk
  exact qS [(2,hto (lnE bg t.aF)),(4,hto (bE c1)),(7,hto (lnE cq t.Links)),(10,hto (orF (q:=decide (60<(t.Links.length:Int))) c1))] _ _ hk
 rcases aq hm with⟨c2,hm⟩|⟨c2,hm⟩
 ·refine qT c2<|qS [] [(2,i6 3)] [] ?_
  cases hm
  exact A.ret qE
 refine qF c2 ?_
 obtain⟨ak,h1,hm⟩:=aa hm
 refine qDs [(2,hro (jZ (f_g:=94) (f_c:=[]) (f_k:=ck94) (f_f:=λ_ _ h=>tT h) h1) ck93)] [6] [(17,.bool ak)] ?_
 rcases aq hm with⟨c3,hm⟩|⟨c3,hm⟩
 ·refine qT c3<|qS [] [(2,i6 2)] [] ?_
  cases hm
  exact A.ret qE
 refine qF c3<|A.skip<|A.seq<|qDs [(2,hto (lnE bg t.aF))] [17] [(23,i6 (t.aF.length:Int)),(24,i6 0)]<|A.block<|A.bC 1 0 rfl rfl rfl λhb1=>?_
 obtain⟨B1,K1,hB1,hK1,hm⟩:=bA hm
 refine A.lpI (l:=t.aF) (j0:=0) (B:=B1) (K:=K1) hm (λj1=>λ()=>[(1,.ptr 58001 0),(23,i6 (t.aF.length:Int)),(24,i6 (j1:Int))]) (λj1=>λ()=>[(58001,.cells 28 (k2 t))]) ?_ ?_ ?_
 ·exact qW
 ·rintro j1 e1 Z1 ⟨⟩ hj1 hx1 hm
  rw[hB1]at hm
  refine qDs [] [] [(25,.bool (decide ((j1:Int)<(t.aF.length:Int))))]<|A.seq<|qT (ltT hx1)<|A.skip<|A.seq<|A.block<|qDs [] [25] [(3,i6 (j1:Int))] ?_
  obtain⟨J1,hJ1,hm⟩:=cR hm
  refine A.J (J:=J1) (r:=r) (λv_1=>[(1,.ptr 58001 0),(23,i6 (t.aF.length:Int)),(24,i6 (j1:Int)),(44,.bool v_1)]) (λv_1=>[(58001,.cells 28 (k2 t))]) ?_ ?_
  ·rcases aq hm with⟨c4,hm⟩|⟨c4,hm⟩
   ·obtain⟨e_1,h2,hm⟩:=aa hm
    exact qGs [(2,hto (bE c4)),(7,hix (ix bg h2)),(13,hix (ix bg (bK hx1)))] [3] [(44,.bool (decide (e1.ID≤e_1.ID)))]<|qX (decide (e1.ID≤e_1.ID)) hm
   exact qGs [(2,hto (bE c4))] [3] [(44,.bool false)]<|qX false hm
  rintro v_1 hm
  rw[hJ1]at hm
  rcases aq hm with⟨c5,hm⟩|⟨c5,hm⟩
  ·refine qT c5<|qS [] [(2,i6 25)] [] ?_
   cases hm
   exact A.ret qE
  exact qF c5<|A.skip<|qGs [(0,hto (inc hx1 hb1))] [24,44] [(24,i6 ((j1+1:Nat):Int))]<|qX () hm
 rintro j1 ⟨⟩ hj1 hl1 hm
 rw[hK1]at hm
 refine qDs [] [] [(25,.bool (decide ((j1:Int)<(t.aF.length:Int))))]<|A.seq<|qF (ltF hl1)<|A.exit<|qD [(1,.al 58004)] [23,24,25] [(4,.ptr 58004 0)] [] [(58004,.cells 130 [.fn 96 [.ptr 58001 0]])]<|A.seq<|A.block ?_
 obtain⟨aO,h3,hm⟩:=aa hm
 refine qDs [(2,hro (eT (f_g:=100) (f_c:=[]) (f_k:=arh) (f_f:=λ_ _ h=>tU h) h3) agq)] [] [(47,.bool aO)] ?_
 rcases aq hm with⟨c6,hm⟩|⟨c6,hm⟩
 ·refine qT c6<|qS [] [(2,i6 2)] [] ?_
  cases hm
  exact A.ret qE
 refine qF c6 ?_
 obtain⟨bT,h4,hm⟩:=aa hm
 refine qD [(3,hle [58004,58001] (eT (f_g:=101) (f_c:=[.eB [.fn 96 [.eB (k2 t)]]]) (f_k:=ari) (f_f:=λ_ _ h=>tV h) h4) agq)] [4,47] [(51,.bool bT)] [58004] [] ?_
 rcases aq hm with⟨c7,hm⟩|⟨c7,hm⟩
 ·refine qT c7<|qS [] [(2,i6 4)] [] ?_
  cases hm
  exact A.ret qE
 refine qF c7 ?_
 obtain⟨cI,h5,hm⟩:=aa hm
 refine qDs [(2,hro (eT (f_g:=102) (f_c:=[]) (f_k:=arj) (f_f:=λ_ _ h=>tW h) h5) agq)] [51] [(56,.bool cI)] ?_
 rcases aq hm with⟨c8,hm⟩|⟨c8,hm⟩
 ·refine qT c8<|qS [] [(2,i6 8)] [] ?_
  cases hm
  exact A.ret qE
 refine qF c8<|A.skip<|A.seq<|qDs [(2,hto (lnE cq t.Links))] [56] [(62,i6 (t.Links.length:Int)),(63,i6 0)]<|A.block<|A.bC 1 1 rfl rfl rfl λhb2=>?_
 obtain⟨B2,K2,hB2,hK2,hm⟩:=bA hm
 refine A.lpI (l:=t.Links) (j0:=0) (B:=B2) (K:=K2) hm (λj2=>λ()=>[(1,.ptr 58001 0),(62,i6 (t.Links.length:Int)),(63,i6 (j2:Int))]) (λj2=>λ()=>[(58001,.cells 28 (k2 t))]) ?_ ?_ ?_
 ·exact qW
 ·rintro j2 e2 Z2 ⟨⟩ hj2 hx2 hm
  rw[hB2]at hm
  refine qDs [] [] [(64,.bool (decide ((j2:Int)<(t.Links.length:Int))))]<|A.seq<|qT (ltT hx2)<|A.skip<|A.seq<|A.block<|qDs [] [64] [(5,i6 (j2:Int))] ?_
  obtain⟨J2,hJ2,hm⟩:=cR hm
  refine A.J (J:=J2) (r:=r) (λv_2=>[(1,.ptr 58001 0),(62,i6 (t.Links.length:Int)),(63,i6 (j2:Int)),(82,.bool v_2)]) (λv_2=>[(58001,.cells 28 (k2 t))]) ?_ ?_
  ·rcases aq hm with⟨c9,hm⟩|⟨c9,hm⟩
   ·obtain⟨e_2,h6,hm⟩:=aa hm
    obtain⟨dY,h7,hm⟩:=aa hm
    exact qGs [(2,hto (bE c9)),(7,hix (ix cq h6)),(12,hix (ix cq (bK hx2))),(14,hro (oE h7) ahQ)] [5] [(82,.bool (decide (0≤dY)))]<|qX (decide (0≤dY)) hm
   exact qGs [(2,hto (bE c9))] [5] [(82,.bool false)]<|qX false hm
  rintro v_2 hm
  rw[hJ2]at hm
  rcases aq hm with⟨c10,hm⟩|⟨c10,hm⟩
  ·refine qT c10<|qS [] [(2,i6 25)] [] ?_
   cases hm
   exact A.ret qE
  exact qF c10<|A.skip<|qGs [(0,hto (inc hx2 hb2))] [63,82] [(63,i6 ((j2+1:Nat):Int))]<|qX () hm
 rintro j2 ⟨⟩ hj2 hl2 hm
 rw[hK2]at hm
 refine qDs [] [] [(64,.bool (decide ((j2:Int)<(t.Links.length:Int))))]<|A.seq<|qF (ltF hl2)<|A.exit<|qS [] [(2,i6 0)] [] ?_
 cases hm
 exact A.ret qE
theorem mI(hm:iD t=some r):RO prog 124 [] [.agg (k2 t)] (.bool r):=by
 refine bu func124 rfl rfl ?_
 unfold iD at hm
 refine qS [(0,.al 124001)] [(1,.ptr 124001 0)] [(124001,.cells 28 (k2 t))] ?_
 obtain⟨ak,h1,hm⟩:=aa hm
 refine qS [(1,hro (jY h1) adG)] [(2,.bool (decide (ak=0)))] [] ?_
 cases hm
 exact A.ret qE
variable {cg:Int}
theorem vX{r:aP×Bool}(hm:kO t cg=some r):RO prog 123 [] [.agg (k2 t),i6 cg] (.tup [.agg (k0 r.1),.bool r.2]):=by
 refine bu func123 rfl rfl ?_
 unfold kO at hm
 refine qS [(0,.al 123002),(1,.al 123004)] [(1,i6 cg),(2,.ptr 123002 0),(4,.ptr 123004 0)] [(123002,.cells 28 (k2 t)),(123004,.cells 42 [i6 0,.bool false])] ?_
 obtain⟨ak,h1,hm⟩:=aa hm
 refine qDs [(3,hro (fm (mN:=98) (nX:=[]) (sQ:=aoy) (sR:=λ_ _ _ h=>qp h) h1) aox)] [1] [(6,i6 ak.1),(7,.bool ak.2)]<|A.seq<|qDs [] [7] [(16,.bool (!ak.2))] ?_
 rcases aq hm with⟨c1,hm⟩|⟨c1,hm⟩
 ·refine qT c1<|qD [] [2,6,16] [(5,.bool false)] [123002] [] ?_
  cases hm
  exact A.ret qE
 refine qF c1<|A.skip ?_
 obtain⟨e_1,h2,hm⟩:=aa hm
 refine qS [(3,hix (ix bg h2))] [(4,.ptr 123004 0),(5,.bool true)] [(123004,.cells 42 (k0 e_1))] ?_
 cases hm
 exact A.ret qE
theorem xd(hm:lI t cg=some r):RO prog 70 [] [.agg (k2 t),i6 cg] (.bool r):=by
 refine bu func70 rfl rfl ?_
 unfold lI at hm
 refine qS [(0,.al 70002)] [(1,i6 cg),(2,.ptr 70002 0)] [(70002,.cells 28 (k2 t))] ?_
 obtain⟨ak,h1,hm⟩:=aa hm
 refine qDs [(2,hro (vX h1) ars),(6,.al 70005)] [1] [(6,.bool ak.2)] ?_
 obtain⟨aO,h2,hm⟩:=aa hm
 rcases aq hm with⟨c1,hm⟩|⟨c1,hm⟩
 ·refine qS [(1,hro (mI h2) adK),(2,hto (bE c1))] [(4,.bool ak.2)] [] ?_
  cases hm
  exact A.ret qE
 refine qS [(1,hro (mI h2) adK),(2,hto (bE c1))] [(4,.bool false)] [] ?_
 cases hm
 exact A.ret qE
theorem vY{cM:Int}{fK:Int}{r:Int×Bool}(hm:kP t cM fK=some r):RO prog 125 [] [.agg (k2 t),i6 cM,i6 fK] (.tup [i6 r.1,.bool r.2]):=by
 refine bu func125 rfl rfl ?_
 unfold kP at hm
 refine qS [(0,.al 125003)] [(1,i6 cM),(2,i6 fK),(3,.ptr 125003 0)] [(125003,.cells 28 (k2 t))]<|A.seq ?_
 obtain⟨ak,h1,hm⟩:=aa hm
 refine qDs [(1,hro (mI h1) adK)] [] [(12,.bool (!ak))] ?_
 rcases aq hm with⟨c1,hm⟩|⟨c1,hm⟩
 ·refine qT c1<|qS [] [(6,i6 0),(7,.bool false)] [] ?_
  cases hm
  exact A.ret qE
 refine qF c1<|A.skip ?_
 obtain⟨aO,h2,hm⟩:=aa hm
 refine qDs [(9,hro (iE (mN:=103) (nX:=[]) (sQ:=ahQ) (sR:=λ_ _ _ h=>oE h) h2) arF)] [12] [(8,i6 aO.1),(9,.bool aO.2)]<|A.seq<|A.block<|qDs [] [9] [(26,.bool (!aO.2))] ?_
 rcases aq hm with⟨c2,hm⟩|⟨c2,hm⟩
 ·refine qT c2<|qS [] [(6,i6 0),(7,.bool false)] [] ?_
  cases hm
  exact A.ret qE
 refine qF c2<|qDs [] [1,2,26] [(29,.bool (decide (cM<fK)))] ?_
 rcases aq hm with⟨c3,hm⟩|⟨c3,hm⟩
 ·refine qT c3 ?_
  obtain⟨e_1,h3,hm⟩:=aa hm
  refine qS [(3,hix (ix cq h3))] [(6,i6 e_1.kI),(7,.bool true)] [] ?_
  cases hm
  exact A.ret qE
 refine qF c3<|A.skip ?_
 obtain⟨e_2,h4,hm⟩:=aa hm
 refine qS [(3,hix (ix cq h4))] [(6,i6 e_2.kJ),(7,.bool true)] [] ?_
 cases hm
 exact A.ret qE
end Go.Proofs.YtdjeacigeegklaaGreat
