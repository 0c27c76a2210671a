/- The walks of cE of the program. No condition but bf aM stand in each. -/
import Derived.Test.YtmnbolcmepihlaaGreatDA
namespace Go.Proofs.YtmnbolcmepihlaaGreat
open Go Go.Proofs.Tryz
set_option maxRecDepth 100000
set_option linter.all false
variable {r:Bool}{xa0:Int}
theorem fZ(hm:fN xa0=some r):RO prog 164 [] [i6 xa0] (.bool r):=by
 refine aZ func164 rfl rfl ?_;unfold fN at hm;refine qS [] [(0,i6 xa0)] []<|qS [] [(2,.bool (!decide (xa0=xa0)))] [] ?_
 cases hm;exact A.ret qE
theorem dD{y:Int}{r:Int}(hm:cA xa0 y=some r):RO prog 106 [] [i6 xa0,i6 y] (i6 r):=by
 refine aZ func106 rfl rfl ?_;unfold cA at hm;refine qS [] [(0,i6 xa0),(1,i6 y)] [] ?_;obtain⟨aq,h1,hm⟩:=aa hm;refine qDs [(1,hro (fZ h1) vq)] [] [(5,.bool aq)] ?_;obtain⟨aF,h2,hm⟩:=aa hm;refine qDs [(1,hro (fZ h2) vq)] [] [(6,.bool aF)]<|A.seq<|qDs [] [5] [(11,.bool aq)] ?_
 rcases aA hm with⟨c1,hm⟩|⟨c1,hm⟩
 ·refine qT c1<|A.seq<|qS [] [(12,.bool aF)] [] ?_
  rcases aA hm with⟨c2,hm⟩|⟨c2,hm⟩
  ·refine qT c2<|qS [] [(4,i6 0)] [] ?_
   cases hm;exact A.ret qE
  refine qF c2<|A.skip<|qS [] [(4,i6 (-1))] [] ?_
  cases hm;exact A.ret qE
 refine qF c1<|A.skip<|A.seq<|qDs [] [6,11] [(13,.bool aF)] ?_
 rcases aA hm with⟨c3,hm⟩|⟨c3,hm⟩
 ·refine qT c3<|qS [] [(4,i6 1)] [] ?_
  cases hm;exact A.ret qE
 refine qF c3<|A.skip<|A.seq<|qDs [] [13] [(16,.bool (decide (xa0<y)))] ?_
 rcases aA hm with⟨c4,hm⟩|⟨c4,hm⟩
 ·refine qT c4<|qS [] [(4,i6 (-1))] [] ?_
  cases hm;exact A.ret qE
 refine qF c4<|A.skip<|A.seq<|qS [] [(19,.bool (decide (y<xa0)))] [] ?_
 rcases aA hm with⟨c5,hm⟩|⟨c5,hm⟩
 ·refine qT c5<|qS [] [(4,i6 1)] [] ?_
  cases hm;exact A.ret qE
 refine qF c5<|A.skip<|qS [] [(4,i6 0)] [] ?_
 cases hm;exact A.ret qE
theorem ku{vals:List Int}{r:Int}(hm:fE vals=some r):RO prog 126 [] [lf ak vals] (i6 r):=by
 refine aZ func126 rfl rfl ?_;unfold fE at hm;refine qS [] [(0,lf ak vals)] []<|qDs [] [] [(3,i6 0)]<|A.seq<|qDs [(1,hto (lnE ak vals))] [0] [(6,lf ak vals),(7,i6 (vals.length:Int)),(8,i6 0)]<|A.block<|A.bS 6 rfl λhb1=>?_
 obtain⟨B1,K1,hB1,hK1,hm⟩:=bh hm;refine A.lpI (l:=vals) (j0:=0) (B:=B1) (K:=K1) hm (λj1=>λ()=>[(3,i6 0),(6,lf ak vals),(7,i6 (vals.length:Int)),(8,i6 (j1:Int))]) (λj1=>λ()=>[]) ?_ ?_ ?_
 ·exact qW
 ·rintro j1 e1 Z1 ⟨⟩ hj1 hx1 hm;rw[hB1]at hm;refine qDs [] [] [(9,.bool (decide ((j1:Int)<(vals.length:Int))))]<|A.seq<|qT (ltT hx1)<|A.skip<|A.seq<|A.block<|qDs [(0,hix (ix ak (bu hx1)))] [9] [(5,i6 e1)]<|qDs [] [] [(14,.bool (!decide (e1=0)))] ?_
  rcases aA hm with⟨c1,hm⟩|⟨c1,hm⟩
  ·refine qT c1<|qS [] [(2,i6 e1)] [] ?_
   cases hm;exact A.ret qE
  exact qF c1<|A.skip<|qGs [(0,hto (inc hx1 hb1))] [8,5,14] [(8,i6 ((j1+1:Nat):Int))]<|qX () hm
 rintro j1 ⟨⟩ hj1 hl1 hm;rw[hK1]at hm;refine qDs [] [] [(9,.bool (decide ((j1:Int)<(vals.length:Int))))]<|A.seq<|qF (ltF hl1)<|A.exit<|qS [] [(2,i6 0)] [] ?_
 cases hm;exact A.ret qE
variable {nc:Nat}{ot:List AV}
theorem iF{xa0:List bk}{target:bk}{cmp:bk→bk→Option Int}(th:aO prog nc)(tj:∀(y0:bk) (y1:bk) (q:Int),cmp y0 y1=some q→RO prog nc [] ([.agg (k1 y0),.agg (k1 y1)]++ot) (i6 q)){r:Int×Bool}(hm:cw xa0 target cmp=some r):RO prog 130 [] [lf bD xa0,.agg (k1 target),.cfn nc ot] (.tup [i6 r.1,.bool r.2]):=by
 refine aZ func130 rfl rfl ?_;unfold cw at hm;refine qS [(0,.al 130004)] [(0,lf bD xa0),(2,.cfn nc ot),(4,.ptr 130004 0)] [(130004,.cells 62 (k1 target))]<|qDs [(1,hto (lnE bD xa0))] [] [(8,i6 (xa0.length:Int))]<|qDs [] [] [(9,i6 0),(10,i6 (xa0.length:Int))]<|A.seq<|A.block ?_
 obtain⟨F1,n1,hF1,hm⟩:=fW hm;refine A.lpW (F:=F1) hm (λ(i_1,j_1)=>[(0,lf bD xa0),(2,.cfn nc ot),(4,.ptr 130004 0),(8,i6 (xa0.length:Int)),(9,i6 i_1),(10,i6 j_1)]) (λ(i_1,j_1)=>[(130004,.cells 62 (k1 target))]) ?_ ?_
 ·exact qW
 rintro Z1 ⟨i_1,j_1⟩ hm;rw[hF1]at hm;refine A.seq<|qDs [] [] [(17,.bool (decide (i_1<j_1)))] ?_
 rcases aA hm with⟨c1,hm⟩|⟨c1,hm⟩
 ·refine qT c1<|A.skip<|A.block<|qDs [(4,.sh (1:Int) (by decide))] [17] [(11,i6 (w64 (Int.fdiv (IntKind.wrap .u64 (w64 (i_1+j_1))) (2 ^ min (1:Int).toNat 64))))] ?_
  obtain⟨e_1,h1,hm⟩:=aa hm;obtain⟨aq,h2,hm⟩:=aa hm;refine qDs [(3,hix (ix bD h1)),(6,hrf (tj _ _ _ h2) th)] [] [(31,.bool (decide (aq<0)))] ?_;rcases aA hm with⟨c2,hm⟩|⟨c2,hm⟩
  ·exact qT c2<|qGs [] [9,11,31] [(9,i6 (w64 ((w64 (Int.fdiv (IntKind.wrap .u64 (w64 (i_1+j_1))) (2 ^ min (1:Int).toNat 64)))+(1:Int))))]<|qX (w64 ((w64 (Int.fdiv (IntKind.wrap .u64 (w64 (i_1+j_1))) (2 ^ min (1:Int).toNat 64)))+(1:Int)),j_1) hm
  exact qF c2<|qGs [] [10,11,31] [(10,i6 (w64 (Int.fdiv (IntKind.wrap .u64 (w64 (i_1+j_1))) (2 ^ min (1:Int).toNat 64))))]<|qX (i_1,w64 (Int.fdiv (IntKind.wrap .u64 (w64 (i_1+j_1))) (2 ^ min (1:Int).toNat 64))) hm
 refine qF c1<|A.exit ?_
 rcases aA hm with⟨c3,hm⟩|⟨c3,hm⟩
 ·obtain⟨e_2,h3,hm⟩:=aa hm;obtain⟨aF,h4,hm⟩:=aa hm;refine qS [(4,hto (bE c3)),(8,hix (ix bD h3)),(11,hrf (tj _ _ _ h4) th)] [(6,i6 i_1),(7,.bool (decide (aF=0)))] [] ?_;cases hm;exact A.ret qE
 refine qS [(4,hto (bE c3))] [(6,i6 i_1),(7,.bool false)] [] ?_;cases hm;exact A.ret qE
theorem fq{xa0:List bg}{target:Int}{cmp:bg→Int→Option Int}(th:aO prog nc)(tj:∀(y0:bg) (y1:Int) (q:Int),cmp y0 y1=some q→RO prog nc [] ([.agg (k0 y0),i6 y1]++ot) (i6 q)){r:Int×Bool}(hm:cg xa0 target cmp=some r):RO prog 136 [] [lf bt xa0,i6 target,.cfn nc ot] (.tup [i6 r.1,.bool r.2]):=by
 refine aZ func136 rfl rfl ?_;unfold cg at hm;refine qS [] [(0,lf bt xa0),(1,i6 target),(2,.cfn nc ot)] []<|qDs [(1,hto (lnE bt xa0))] [] [(8,i6 (xa0.length:Int))]<|qDs [] [] [(9,i6 0),(10,i6 (xa0.length:Int))]<|A.seq<|A.block ?_
 obtain⟨F1,n1,hF1,hm⟩:=fW hm;refine A.lpW (F:=F1) hm (λ(i_1,j_1)=>[(0,lf bt xa0),(1,i6 target),(2,.cfn nc ot),(8,i6 (xa0.length:Int)),(9,i6 i_1),(10,i6 j_1)]) (λ(i_1,j_1)=>[]) ?_ ?_
 ·exact qW
 rintro Z1 ⟨i_1,j_1⟩ hm;rw[hF1]at hm;refine A.seq<|qDs [] [] [(17,.bool (decide (i_1<j_1)))] ?_
 rcases aA hm with⟨c1,hm⟩|⟨c1,hm⟩
 ·refine qT c1<|A.skip<|A.block<|qDs [(4,.sh (1:Int) (by decide))] [17] [(11,i6 (w64 (Int.fdiv (IntKind.wrap .u64 (w64 (i_1+j_1))) (2 ^ min (1:Int).toNat 64))))] ?_
  obtain⟨e_1,h1,hm⟩:=aa hm;obtain⟨aq,h2,hm⟩:=aa hm;refine qDs [(3,hix (ix bt h1)),(6,hrf (tj _ _ _ h2) th)] [] [(31,.bool (decide (aq<0)))] ?_;rcases aA hm with⟨c2,hm⟩|⟨c2,hm⟩
  ·exact qT c2<|qGs [] [9,11,31] [(9,i6 (w64 ((w64 (Int.fdiv (IntKind.wrap .u64 (w64 (i_1+j_1))) (2 ^ min (1:Int).toNat 64)))+(1:Int))))]<|qX (w64 ((w64 (Int.fdiv (IntKind.wrap .u64 (w64 (i_1+j_1))) (2 ^ min (1:Int).toNat 64)))+(1:Int)),j_1) hm
  exact qF c2<|qGs [] [10,11,31] [(10,i6 (w64 (Int.fdiv (IntKind.wrap .u64 (w64 (i_1+j_1))) (2 ^ min (1:Int).toNat 64))))]<|qX (i_1,w64 (Int.fdiv (IntKind.wrap .u64 (w64 (i_1+j_1))) (2 ^ min (1:Int).toNat 64))) hm
 refine qF c1<|A.exit ?_
 rcases aA hm with⟨c3,hm⟩|⟨c3,hm⟩
 ·obtain⟨e_2,h3,hm⟩:=aa hm;obtain⟨aF,h4,hm⟩:=aa hm;refine qS [(4,hto (bE c3)),(8,hix (ix bt h3)),(11,hrf (tj _ _ _ h4) th)] [(6,i6 i_1),(7,.bool (decide (aF=0)))] [] ?_;cases hm;exact A.ret qE
 refine qS [(4,hto (bE c3))] [(6,i6 i_1),(7,.bool false)] [] ?_;cases hm;exact A.ret qE
variable {sa0:List Int}
theorem rB{v:Int}{r:Int}(hm:ij sa0 v=some r):RO prog 146 [] [lf ak sa0,i6 v] (i6 r):=by
 refine aZ func146 rfl rfl ?_;unfold ij at hm;refine qS [] [(0,lf ak sa0),(1,i6 v)] []<|A.seq<|qDs [(1,hto (lnE ak sa0))] [] [(7,i6 (sa0.length:Int)),(8,i6 0)]<|A.block<|A.bS 0 rfl λhb1=>?_
 obtain⟨B1,K1,hB1,hK1,hm⟩:=bh hm;refine A.lpI (l:=sa0) (j0:=0) (B:=B1) (K:=K1) hm (λj1=>λ()=>[(0,lf ak sa0),(1,i6 v),(7,i6 (sa0.length:Int)),(8,i6 (j1:Int))]) (λj1=>λ()=>[]) ?_ ?_ ?_
 ·exact qW
 ·rintro j1 e1 Z1 ⟨⟩ hj1 hx1 hm;rw[hB1]at hm;refine qDs [] [] [(9,.bool (decide ((j1:Int)<(sa0.length:Int))))]<|A.seq<|qT (ltT hx1)<|A.skip<|A.seq<|A.block<|qDs [] [9] [(5,i6 (j1:Int))]<|qDs [(3,hix (ix ak (bu hx1)))] [] [(16,.bool (decide (v=e1)))] ?_
  rcases aA hm with⟨c1,hm⟩|⟨c1,hm⟩
  ·refine qT c1<|qS [] [(4,i6 (j1:Int))] [] ?_
   cases hm;exact A.ret qE
  exact qF c1<|A.skip<|qGs [(0,hto (inc hx1 hb1))] [8,5,16] [(8,i6 ((j1+1:Nat):Int))]<|qX () hm
 rintro j1 ⟨⟩ hj1 hl1 hm;rw[hK1]at hm;refine qDs [] [] [(9,.bool (decide ((j1:Int)<(sa0.length:Int))))]<|A.seq<|qF (ltF hl1)<|A.exit<|qS [] [(4,i6 (-1))] [] ?_
 cases hm;exact A.ret qE
variable {f:bg→Option Bool}{f_c:List AV}{f_g:Nat}
theorem kY{sa0:List bg}(f_k:aO prog f_g)(f_f:∀(y0:bg) (q:Bool),f y0=some q→RO prog f_g [] ([.agg (k0 y0)]++f_c) (.bool q)){r:Int}(hm:ec sa0 f=some r):RO prog 180 [] [lf bt sa0,.cfn f_g f_c] (i6 r):=by
 refine aZ func180 rfl rfl ?_;unfold ec at hm;refine qS [] [(0,lf bt sa0),(1,.cfn f_g f_c)] []<|A.seq<|qDs [(1,hto (lnE bt sa0))] [] [(7,i6 (sa0.length:Int)),(8,i6 0)]<|A.block<|A.bS 0 rfl λhb1=>?_
 obtain⟨B1,K1,hB1,hK1,hm⟩:=bh hm;refine A.lpI (l:=sa0) (j0:=0) (B:=B1) (K:=K1) hm (λj1=>λ()=>[(0,lf bt sa0),(1,.cfn f_g f_c),(7,i6 (sa0.length:Int)),(8,i6 (j1:Int))]) (λj1=>λ()=>[]) ?_ ?_ ?_
 ·exact qW
 ·rintro j1 e1 Z1 ⟨⟩ hj1 hx1 hm;rw[hB1]at hm;refine qDs [] [] [(9,.bool (decide ((j1:Int)<(sa0.length:Int))))]<|A.seq<|qT (ltT hx1)<|A.skip<|A.seq<|A.block<|qDs [] [9] [(5,i6 (j1:Int))] ?_
  obtain⟨aq,h1,hm⟩:=aa hm;refine qDs [(3,hix (ix bt (bu hx1))),(5,hrf (f_f _ _ h1) f_k)] [] [(16,.bool aq)] ?_;rcases aA hm with⟨c1,hm⟩|⟨c1,hm⟩
  ·refine qT c1<|qS [] [(4,i6 (j1:Int))] [] ?_
   cases hm;exact A.ret qE
  exact qF c1<|A.skip<|qGs [(0,hto (inc hx1 hb1))] [8,5,16] [(8,i6 ((j1+1:Nat):Int))]<|qX () hm
 rintro j1 ⟨⟩ hj1 hl1 hm;rw[hK1]at hm;refine qDs [] [] [(9,.bool (decide ((j1:Int)<(sa0.length:Int))))]<|A.seq<|qF (ltF hl1)<|A.exit<|qS [] [(4,i6 (-1))] [] ?_
 cases hm;exact A.ret qE
theorem mj{sa0:List bk}{f:bk→Option Bool}(f_k:aO prog f_g)(f_f:∀(y0:bk) (q:Bool),f y0=some q→RO prog f_g [] ([.agg (k1 y0)]++f_c) (.bool q)){r:Int}(hm:eC sa0 f=some r):RO prog 181 [] [lf bD sa0,.cfn f_g f_c] (i6 r):=by
 refine aZ func181 rfl rfl ?_;unfold eC at hm;refine qS [] [(0,lf bD sa0),(1,.cfn f_g f_c)] []<|A.seq<|qDs [(1,hto (lnE bD sa0))] [] [(7,i6 (sa0.length:Int)),(8,i6 0)]<|A.block<|A.bS 0 rfl λhb1=>?_
 obtain⟨B1,K1,hB1,hK1,hm⟩:=bh hm;refine A.lpI (l:=sa0) (j0:=0) (B:=B1) (K:=K1) hm (λj1=>λ()=>[(0,lf bD sa0),(1,.cfn f_g f_c),(7,i6 (sa0.length:Int)),(8,i6 (j1:Int))]) (λj1=>λ()=>[]) ?_ ?_ ?_
 ·exact qW
 ·rintro j1 e1 Z1 ⟨⟩ hj1 hx1 hm;rw[hB1]at hm;refine qDs [] [] [(9,.bool (decide ((j1:Int)<(sa0.length:Int))))]<|A.seq<|qT (ltT hx1)<|A.skip<|A.seq<|A.block<|qDs [] [9] [(5,i6 (j1:Int))] ?_
  obtain⟨aq,h1,hm⟩:=aa hm;refine qDs [(3,hix (ix bD (bu hx1))),(5,hrf (f_f _ _ h1) f_k)] [] [(16,.bool aq)] ?_;rcases aA hm with⟨c1,hm⟩|⟨c1,hm⟩
  ·refine qT c1<|qS [] [(4,i6 (j1:Int))] [] ?_
   cases hm;exact A.ret qE
  exact qF c1<|A.skip<|qGs [(0,hto (inc hx1 hb1))] [8,5,16] [(8,i6 ((j1+1:Nat):Int))]<|qX () hm
 rintro j1 ⟨⟩ hj1 hl1 hm;rw[hK1]at hm;refine qDs [] [] [(9,.bool (decide ((j1:Int)<(sa0.length:Int))))]<|A.seq<|qF (ltF hl1)<|A.exit<|qS [] [(4,i6 (-1))] [] ?_
 cases hm;exact A.ret qE
theorem lN{sa0:List ah}{f:ah→Option Bool}(f_k:aO prog f_g)(f_f:∀(y0:ah) (q:Bool),f y0=some q→RO prog f_g [] ([.agg (k4 y0)]++f_c) (.bool q)){r:Int}(hm:ez sa0 f=some r):RO prog 183 [] [lf aH sa0,.cfn f_g f_c] (i6 r):=by
 refine aZ func183 rfl rfl ?_;unfold ez at hm;refine qS [] [(0,lf aH sa0),(1,.cfn f_g f_c)] []<|A.seq<|qDs [(1,hto (lnE aH sa0))] [] [(7,i6 (sa0.length:Int)),(8,i6 0)]<|A.block<|A.bS 0 rfl λhb1=>?_
 obtain⟨B1,K1,hB1,hK1,hm⟩:=bh hm;refine A.lpI (l:=sa0) (j0:=0) (B:=B1) (K:=K1) hm (λj1=>λ()=>[(0,lf aH sa0),(1,.cfn f_g f_c),(7,i6 (sa0.length:Int)),(8,i6 (j1:Int))]) (λj1=>λ()=>[]) ?_ ?_ ?_
 ·exact qW
 ·rintro j1 e1 Z1 ⟨⟩ hj1 hx1 hm;rw[hB1]at hm;refine qDs [] [] [(9,.bool (decide ((j1:Int)<(sa0.length:Int))))]<|A.seq<|qT (ltT hx1)<|A.skip<|A.seq<|A.block<|qDs [] [9] [(5,i6 (j1:Int))] ?_
  obtain⟨aq,h1,hm⟩:=aa hm;refine qDs [(3,hix (ix aH (bu hx1))),(5,hrf (f_f _ _ h1) f_k)] [] [(16,.bool aq)] ?_;rcases aA hm with⟨c1,hm⟩|⟨c1,hm⟩
  ·refine qT c1<|qS [] [(4,i6 (j1:Int))] [] ?_
   cases hm;exact A.ret qE
  exact qF c1<|A.skip<|qGs [(0,hto (inc hx1 hb1))] [8,5,16] [(8,i6 ((j1+1:Nat):Int))]<|qX () hm
 rintro j1 ⟨⟩ hj1 hl1 hm;rw[hK1]at hm;refine qDs [] [] [(9,.bool (decide ((j1:Int)<(sa0.length:Int))))]<|A.seq<|qF (ltF hl1)<|A.exit<|qS [] [(4,i6 (-1))] [] ?_
 cases hm;exact A.ret qE
theorem qa{v:Int}(hm:fF sa0 v=some r):RO prog 76 [] [lf ak sa0,i6 v] (.bool r):=by
 refine aZ func76 rfl rfl ?_;unfold fF at hm;refine qS [] [(0,lf ak sa0),(1,i6 v)] [] ?_;obtain⟨aq,h1,hm⟩:=aa hm;refine qS [(2,hro (rB h1) ash)] [(4,.bool (decide (0≤aq)))] [] ?_;cases hm;exact A.ret qE
theorem jR{sa0:List bg}(f_k:aO prog f_g)(f_f:∀(y0:bg) (q:Bool),f y0=some q→RO prog f_g [] ([.agg (k0 y0)]++f_c) (.bool q))(hm:cU sa0 f=some r):RO prog 132 [] [lf bt sa0,.cfn f_g f_c] (.bool r):=by
 refine aZ func132 rfl rfl ?_;unfold cU at hm;refine qS [] [(0,lf bt sa0),(1,.cfn f_g f_c)] [] ?_;obtain⟨aq,h1,hm⟩:=aa hm;refine qS [(2,hro (kY (f_k:=f_k) (f_f:=f_f) h1) asr)] [(4,.bool (decide (0≤aq)))] [] ?_;cases hm;exact A.ret qE
theorem eU{sa0:List bk}{f:bk→Option Bool}(f_k:aO prog f_g)(f_f:∀(y0:bk) (q:Bool),f y0=some q→RO prog f_g [] ([.agg (k1 y0)]++f_c) (.bool q))(hm:cu sa0 f=some r):RO prog 138 [] [lf bD sa0,.cfn f_g f_c] (.bool r):=by
 refine aZ func138 rfl rfl ?_;unfold cu at hm;refine qS [] [(0,lf bD sa0),(1,.cfn f_g f_c)] [] ?_;obtain⟨aq,h1,hm⟩:=aa hm;refine qS [(2,hro (mj (f_k:=f_k) (f_f:=f_f) h1) ass)] [(4,.bool (decide (0≤aq)))] [] ?_;cases hm;exact A.ret qE
theorem gz{n:Int}{least:Int}{most:Int}(hm:hU n least most=some r):RO prog 134 [] [i6 n,i6 least,i6 most] (.bool r):=by
 refine aZ func134 rfl rfl ?_;unfold hU at hm;refine qS [] [(0,i6 n),(1,i6 least),(2,i6 most)] []<|A.mid [(6,.bool ((decide (least≤n))&&(decide (n≤most))))] [] (λhk=>?_) ?_
 ·rcases tf (decide (least≤n))with c1|c1
  ·exact qS [(3,hto (bE c1)),(8,hto (oF (q:=decide (n≤most)) c1))] _ _ hk
  exact qS [(3,hto (bE c1)),(8,hto (oG (q:=decide (n≤most)) c1))] _ _ hk
 cases hm;exact A.ret qE
theorem oW{a:bk}{b:bk}{r:Int}(hm:gE a b=some r):RO prog 131 [] [.agg (k1 a),.agg (k1 b)] (i6 r):=by
 refine aZ func131 rfl rfl ?_;unfold gE at hm;refine qS [(0,.al 131002),(1,.al 131003)] [(2,.ptr 131002 0),(3,.ptr 131003 0)] [(131002,.cells 62 (k1 a)),(131003,.cells 62 (k1 b))] ?_;obtain⟨aq,h1,hm⟩:=aa hm;obtain⟨aF,h2,hm⟩:=aa hm;obtain⟨bx,h3,hm⟩:=aa hm;refine qS [(4,hro (dD h1) pO),(9,hro (dD h2) pO),(11,hro (ku h3) zX)] [(4,i6 bx)] [] ?_;cases hm;exact A.ret qE
variable {id:Int}{ra0:bg}
theorem qN{r:Int}(hm:iX ra0 id=some r):RO prog 137 [] [.agg (k0 ra0),i6 id] (i6 r):=by
 refine aZ func137 rfl rfl ?_;unfold iX at hm;refine qS [(0,.al 137002)] [(1,i6 id),(2,.ptr 137002 0)] [(137002,.cells 31 (k0 ra0))] ?_;obtain⟨aq,h1,hm⟩:=aa hm;refine qS [(3,hro (dD h1) pO)] [(4,i6 aq)] [] ?_;cases hm;exact A.ret qE
theorem uh(hm:ki ra0=some r):RO prog 133 [] [.agg (k0 ra0)] (.bool r):=by
 refine aZ func133 rfl rfl ?_;unfold ki at hm;refine qS [(0,.al 133001)] [(1,.ptr 133001 0)] [(133001,.cells 31 (k0 ra0))] ?_;obtain⟨aq,h1,hm⟩:=aa hm;refine qS [(2,hro (gz h1) vo)] [(2,.bool (!aq))] [] ?_;cases hm;exact A.ret qE
variable {l:bk}
theorem uj(hm:iS l=some r):RO prog 139 [] [.agg (k1 l)] (.bool r):=by
 refine aZ func139 rfl rfl ?_;unfold iS at hm;refine qS [(0,.al 139001)] [(1,.ptr 139001 0)] [(139001,.cells 62 (k1 l))] ?_;obtain⟨aq,h1,hm⟩:=aa hm;rcases aA hm with⟨c1,hm⟩|⟨c1,hm⟩
 ·refine qS [(2,hro (gz h1) vo),(4,hto (bE c1))] [(2,.bool true)] [] ?_;cases hm;exact A.ret qE
 obtain⟨aF,h2,hm⟩:=aa hm;rcases aA hm with⟨c2,hm⟩|⟨c2,hm⟩
 ·refine qS [(2,hro (gz h1) vo),(4,hto (bE c1)),(7,hro (gz h2) vo),(10,hto (bE c2))] [(2,.bool true)] [] ?_;cases hm;exact A.ret qE
 obtain⟨bx,h3,hm⟩:=aa hm;refine qS [(2,hro (gz h1) vo),(4,hto (bE c1)),(7,hro (gz h2) vo),(10,hto (bE c2)),(13,hro (gz h3) vo)] [(2,.bool (!bx))] [] ?_;cases hm;exact A.ret qE
variable {c_0:ai}
theorem lP(hm:gF id c_0=some r):RO prog 135 [] [i6 id,.cV (k2 c_0)] (.bool r):=by
 refine aZ func135 rfl rfl ?_;unfold gF at hm;refine qS [] [(0,i6 id),(1,.cV (k2 c_0))] [] ?_;obtain⟨aq,h1,hm⟩:=aa hm;refine qS [(3,hro (fq (nc:=137) (ot:=[]) (th:=ajZ) (tj:=λ_ _ _ h=>qN h) h1) ajY)] [(5,.bool aq.2)] []<|qS [] [(3,.bool (!aq.2))] [] ?_
 cases hm;exact A.ret qE
theorem uk(hm:kj l c_0=some r):RO prog 140 [] [.agg (k1 l),.cV [.fn 135 [.cV (k2 c_0)]]] (.bool r):=by
 refine aZ func140 rfl rfl ?_;unfold kj at hm;refine qS [(0,.al 140002)] [(1,.cV [.fn 135 [.cV (k2 c_0)]]),(2,.ptr 140002 0)] [(140002,.cells 62 (k1 l))] ?_;obtain⟨aq,h1,hm⟩:=aa hm;rcases aA hm with⟨c1,hm⟩|⟨c1,hm⟩
 ·refine qS [(3,hle [] (lP h1) afb),(4,hto (bE c1))] [(3,.bool true)] [] ?_;cases hm;exact A.ret qE
 obtain⟨aF,h2,hm⟩:=aa hm;refine qS [(3,hle [] (lP h1) afb),(4,hto (bE c1)),(8,hle [] (lP h2) afb)] [(3,.bool aF)] [] ?_;cases hm;exact A.ret qE
theorem um(hm:ko l=some r):RO prog 141 [] [.agg (k1 l)] (.bool r):=by
 refine aZ func141 rfl rfl ?_;unfold ko at hm;refine qS [(0,.al 141001)] [(1,.ptr 141001 0)] [(141001,.cells 62 (k1 l))]<|qS [] [(2,.bool (decide (l.B≤l.A)))] [] ?_
 cases hm;exact A.ret qE
variable {t:ai}
theorem mU{r:Int}(hm:gy t=some r):RO prog 71 [] [.agg (k2 t)] (i6 r):=by
 refine aZ func71 rfl rfl ?_;unfold gy at hm;refine qS [(0,.al 71001)] [(1,.ptr 71001 0)] [(71001,.cells 28 (k2 t))]<|A.seq<|A.block<|A.mid [(1,.ptr 71001 0),(6,.bool ((decide (24<(t.aC.length:Int)))||(decide (60<(t.Links.length:Int)))))] [(71001,.cells 28 (k2 t))] (λhk=>?_) ?_
 ·rcases tf (decide (24<(t.aC.length:Int)))with c1|c1
  ·exact qS [(2,hto (lnE bt t.aC)),(4,hto (bE c1)),(10,hto (orT (q:=decide (60<(t.Links.length:Int))) c1))] _ _ hk
  exact qS [(2,hto (lnE bt t.aC)),(4,hto (bE c1)),(7,hto (lnE bD t.Links)),(10,hto (orF (q:=decide (60<(t.Links.length:Int))) c1))] _ _ hk
 rcases aA hm with⟨c2,hm⟩|⟨c2,hm⟩
 ·refine qT c2<|qS [] [(2,i6 3)] [] ?_
  cases hm;exact A.ret qE
 refine qF c2 ?_;obtain⟨aq,h1,hm⟩:=aa hm;refine qDs [(2,hro (jR (f_g:=133) (f_c:=[]) (f_k:=asa) (f_f:=λ_ _ h=>uh h) h1) ar9)] [6] [(17,.bool aq)] ?_;rcases aA hm with⟨c3,hm⟩|⟨c3,hm⟩
 ·refine qT c3<|qS [] [(2,i6 2)] [] ?_
  cases hm;exact A.ret qE
 refine qF c3<|A.skip<|A.seq<|qDs [(2,hto (lnE bt t.aC))] [17] [(23,i6 (t.aC.length:Int)),(24,i6 0)]<|A.block<|A.bC 1 0 rfl rfl rfl λhb1=>?_
 obtain⟨B1,K1,hB1,hK1,hm⟩:=bh hm;refine A.lpI (l:=t.aC) (j0:=0) (B:=B1) (K:=K1) hm (λj1=>λ()=>[(1,.ptr 71001 0),(23,i6 (t.aC.length:Int)),(24,i6 (j1:Int))]) (λj1=>λ()=>[(71001,.cells 28 (k2 t))]) ?_ ?_ ?_
 ·exact qW
 ·rintro j1 e1 Z1 ⟨⟩ hj1 hx1 hm;rw[hB1]at hm;refine qDs [] [] [(25,.bool (decide ((j1:Int)<(t.aC.length:Int))))]<|A.seq<|qT (ltT hx1)<|A.skip<|A.seq<|A.block<|qDs [] [25] [(3,i6 (j1:Int))] ?_
  obtain⟨J1,hJ1,hm⟩:=cO hm;refine A.J (J:=J1) (r:=r) (λv_1=>[(1,.ptr 71001 0),(23,i6 (t.aC.length:Int)),(24,i6 (j1:Int)),(44,.bool v_1)]) (λv_1=>[(71001,.cells 28 (k2 t))]) ?_ ?_
  ·rcases aA hm with⟨c4,hm⟩|⟨c4,hm⟩
   ·obtain⟨e_1,h2,hm⟩:=aa hm;exact qGs [(2,hto (bE c4)),(7,hix (ix bt h2)),(13,hix (ix bt (bu hx1)))] [3] [(44,.bool (decide (e1.ID≤e_1.ID)))]<|qX (decide (e1.ID≤e_1.ID)) hm
   exact qGs [(2,hto (bE c4))] [3] [(44,.bool false)]<|qX false hm
  rintro v_1 hm;rw[hJ1]at hm;rcases aA hm with⟨c5,hm⟩|⟨c5,hm⟩
  ·refine qT c5<|qS [] [(2,i6 25)] [] ?_
   cases hm;exact A.ret qE
  exact qF c5<|A.skip<|qGs [(0,hto (inc hx1 hb1))] [24,44] [(24,i6 ((j1+1:Nat):Int))]<|qX () hm
 rintro j1 ⟨⟩ hj1 hl1 hm;rw[hK1]at hm;refine qDs [] [] [(25,.bool (decide ((j1:Int)<(t.aC.length:Int))))]<|A.seq<|qF (ltF hl1)<|A.exit<|qD [(1,.al 71004)] [23,24,25] [(4,.ptr 71004 0)] [] [(71004,.cells 188 [.fn 135 [.ptr 71001 0]])]<|A.seq<|A.block ?_
 obtain⟨aF,h3,hm⟩:=aa hm;refine qDs [(2,hro (eU (f_g:=139) (f_c:=[]) (f_k:=asb) (f_f:=λ_ _ h=>uj h) h3) afc)] [] [(47,.bool aF)] ?_;rcases aA hm with⟨c6,hm⟩|⟨c6,hm⟩
 ·refine qT c6<|qS [] [(2,i6 2)] [] ?_
  cases hm;exact A.ret qE
 refine qF c6 ?_;obtain⟨bx,h4,hm⟩:=aa hm;refine qD [(3,hle [71004,71001] (eU (f_g:=140) (f_c:=[.cV [.fn 135 [.cV (k2 t)]]]) (f_k:=asd) (f_f:=λ_ _ h=>uk h) h4) afc)] [4,47] [(51,.bool bx)] [71004] [] ?_;rcases aA hm with⟨c7,hm⟩|⟨c7,hm⟩
 ·refine qT c7<|qS [] [(2,i6 4)] [] ?_
  cases hm;exact A.ret qE
 refine qF c7 ?_;obtain⟨bV,h5,hm⟩:=aa hm;refine qDs [(2,hro (eU (f_g:=141) (f_c:=[]) (f_k:=ase) (f_f:=λ_ _ h=>um h) h5) afc)] [51] [(56,.bool bV)] ?_;rcases aA hm with⟨c8,hm⟩|⟨c8,hm⟩
 ·refine qT c8<|qS [] [(2,i6 8)] [] ?_
  cases hm;exact A.ret qE
 refine qF c8<|A.skip<|A.seq<|qDs [(2,hto (lnE bD t.Links))] [56] [(62,i6 (t.Links.length:Int)),(63,i6 0)]<|A.block<|A.bC 1 1 rfl rfl rfl λhb2=>?_
 obtain⟨B2,K2,hB2,hK2,hm⟩:=bh hm;refine A.lpI (l:=t.Links) (j0:=0) (B:=B2) (K:=K2) hm (λj2=>λ()=>[(1,.ptr 71001 0),(62,i6 (t.Links.length:Int)),(63,i6 (j2:Int))]) (λj2=>λ()=>[(71001,.cells 28 (k2 t))]) ?_ ?_ ?_
 ·exact qW
 ·rintro j2 e2 Z2 ⟨⟩ hj2 hx2 hm;rw[hB2]at hm;refine qDs [] [] [(64,.bool (decide ((j2:Int)<(t.Links.length:Int))))]<|A.seq<|qT (ltT hx2)<|A.skip<|A.seq<|A.block<|qDs [] [64] [(5,i6 (j2:Int))] ?_
  obtain⟨J2,hJ2,hm⟩:=cO hm;refine A.J (J:=J2) (r:=r) (λv_2=>[(1,.ptr 71001 0),(62,i6 (t.Links.length:Int)),(63,i6 (j2:Int)),(82,.bool v_2)]) (λv_2=>[(71001,.cells 28 (k2 t))]) ?_ ?_
  ·rcases aA hm with⟨c9,hm⟩|⟨c9,hm⟩
   ·obtain⟨e_2,h6,hm⟩:=aa hm;obtain⟨cK,h7,hm⟩:=aa hm;exact qGs [(2,hto (bE c9)),(7,hix (ix bD h6)),(12,hix (ix bD (bu hx2))),(14,hro (oW h7) ajX)] [5] [(82,.bool (decide (0≤cK)))]<|qX (decide (0≤cK)) hm
   exact qGs [(2,hto (bE c9))] [5] [(82,.bool false)]<|qX false hm
  rintro v_2 hm;rw[hJ2]at hm;rcases aA hm with⟨c10,hm⟩|⟨c10,hm⟩
  ·refine qT c10<|qS [] [(2,i6 25)] [] ?_
   cases hm;exact A.ret qE
  exact qF c10<|A.skip<|qGs [(0,hto (inc hx2 hb2))] [63,82] [(63,i6 ((j2+1:Nat):Int))]<|qX () hm
 rintro j2 ⟨⟩ hj2 hl2 hm;rw[hK2]at hm;refine qDs [] [] [(64,.bool (decide ((j2:Int)<(t.Links.length:Int))))]<|A.seq<|qF (ltF hl2)<|A.exit<|qS [] [(2,i6 0)] [] ?_
 cases hm;exact A.ret qE
theorem mV(hm:iE t=some r):RO prog 129 [] [.agg (k2 t)] (.bool r):=by
 refine aZ func129 rfl rfl ?_;unfold iE at hm;refine qS [(0,.al 129001)] [(1,.ptr 129001 0)] [(129001,.cells 28 (k2 t))] ?_;obtain⟨aq,h1,hm⟩:=aa hm;refine qS [(1,hro (mU h1) aie)] [(2,.bool (decide (aq=0)))] [] ?_;cases hm;exact A.ret qE
variable {jG:Int}
theorem wY{r:bg×Bool}(hm:kr t jG=some r):RO prog 144 [] [.agg (k2 t),i6 jG] (.tup [.agg (k0 r.1),.bool r.2]):=by
 refine aZ func144 rfl rfl ?_;unfold kr at hm;refine qS [(0,.al 144002),(1,.al 144004)] [(1,i6 jG),(2,.ptr 144002 0),(4,.ptr 144004 0)] [(144002,.cells 28 (k2 t)),(144004,.cells 31 [i6 0,.bool false])] ?_;obtain⟨aq,h1,hm⟩:=aa hm;refine qDs [(3,hro (fq (nc:=137) (ot:=[]) (th:=ajZ) (tj:=λ_ _ _ h=>qN h) h1) ajY)] [1] [(6,i6 aq.1),(7,.bool aq.2)]<|A.seq<|qDs [] [7] [(16,.bool (!aq.2))] ?_
 rcases aA hm with⟨c1,hm⟩|⟨c1,hm⟩
 ·refine qT c1<|qD [] [2,6,16] [(5,.bool false)] [144002] [] ?_
  cases hm;exact A.ret qE
 refine qF c1<|A.skip ?_
 obtain⟨e_1,h2,hm⟩:=aa hm;refine qS [(3,hix (ix bt h2))] [(4,.ptr 144004 0),(5,.bool true)] [(144004,.cells 31 (k0 e_1))] ?_;cases hm;exact A.ret qE
theorem rJ(hm:jr t jG=some r):RO prog 73 [] [.agg (k2 t),i6 jG] (.bool r):=by
 refine aZ func73 rfl rfl ?_;unfold jr at hm;refine qS [(0,.al 73002)] [(1,i6 jG),(2,.ptr 73002 0)] [(73002,.cells 28 (k2 t))] ?_;obtain⟨aq,h1,hm⟩:=aa hm;refine qDs [(2,hro (wY h1) asg),(6,.al 73005)] [1] [(6,.bool aq.2)] ?_;obtain⟨aF,h2,hm⟩:=aa hm;rcases aA hm with⟨c1,hm⟩|⟨c1,hm⟩
 ·refine qS [(1,hro (mV h2) afa),(2,hto (bE c1))] [(4,.bool aq.2)] [] ?_;cases hm;exact A.ret qE
 refine qS [(1,hro (mV h2) afa),(2,hto (bE c1))] [(4,.bool false)] [] ?_;cases hm;exact A.ret qE
theorem qO{cv:Int}{dJ:Int}{r:Int×Bool}(hm:iY t cv dJ=some r):RO prog 70 [] [.agg (k2 t),i6 cv,i6 dJ] (.tup [i6 r.1,.bool r.2]):=by
 refine aZ func70 rfl rfl ?_;unfold iY at hm;refine qS [(0,.al 70003)] [(1,i6 cv),(2,i6 dJ),(3,.ptr 70003 0)] [(70003,.cells 28 (k2 t))]<|A.seq ?_
 obtain⟨aq,h1,hm⟩:=aa hm;refine qDs [(1,hro (mV h1) afa)] [] [(12,.bool (!aq))] ?_;rcases aA hm with⟨c1,hm⟩|⟨c1,hm⟩
 ·refine qT c1<|qS [] [(6,i6 0),(7,.bool false)] [] ?_
  cases hm;exact A.ret qE
 refine qF c1<|A.skip ?_
 obtain⟨aF,h2,hm⟩:=aa hm;refine qDs [(9,hro (iF (nc:=131) (ot:=[]) (th:=ajX) (tj:=λ_ _ _ h=>oW h) h2) ar8)] [12] [(8,i6 aF.1),(9,.bool aF.2)]<|A.seq<|A.block<|qDs [] [9] [(26,.bool (!aF.2))] ?_
 rcases aA hm with⟨c2,hm⟩|⟨c2,hm⟩
 ·refine qT c2<|qS [] [(6,i6 0),(7,.bool false)] [] ?_
  cases hm;exact A.ret qE
 refine qF c2<|qDs [] [1,2,26] [(29,.bool (decide (cv<dJ)))] ?_
 rcases aA hm with⟨c3,hm⟩|⟨c3,hm⟩
 ·refine qT c3 ?_;obtain⟨e_1,h3,hm⟩:=aa hm;refine qS [(3,hix (ix bD h3))] [(6,i6 e_1.eZ),(7,.bool true)] [] ?_;cases hm;exact A.ret qE
 refine qF c3<|A.skip ?_
 obtain⟨e_2,h4,hm⟩:=aa hm;refine qS [(3,hix (ix bD h4))] [(6,i6 e_2.gj),(7,.bool true)] [] ?_;cases hm;exact A.ret qE
end Go.Proofs.YtmnbolcmepihlaaGreat
