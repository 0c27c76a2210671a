/- The gn of dg of the program. No condition but bB aX stand in each. -/
import Derived.Test.YtdjeacigeegklaaGreatDA
namespace Go.Proofs.YtdjeacigeegklaaGreat
open Go Go.Proofs.Tryz
set_option maxRecDepth 100000
set_option linter.all false
variable {r:Bool}{xa0:Int}
theorem qQ(hm:jm xa0=some r):RO prog 158 [] [i6 xa0] (.bool r):=by
 refine bf func158 rfl rfl ?_
 unfold jm at hm
 refine qS [] [(0,i6 xa0)] []<|qS [] [(2,.bool (!decide (xa0=xa0)))] [] ?_
 cases hm
 exact A.ret qE
theorem jK{y:Int}{r:Int}(hm:eD xa0 y=some r):RO prog 136 [] [i6 xa0,i6 y] (i6 r):=by
 refine bf func136 rfl rfl ?_
 unfold eD at hm
 refine qS [] [(0,i6 xa0),(1,i6 y)] [] ?_
 obtain⟨ai,h1,hm⟩:=af hm
 refine qDs [(1,hro (qQ h1) alV)] [] [(5,.bool ai)] ?_
 obtain⟨aL,h2,hm⟩:=af hm
 refine qDs [(1,hro (qQ h2) alV)] [] [(6,.bool aL)]<|A.seq<|qDs [] [5] [(11,.bool ai)] ?_
 rcases az hm with⟨c1,hm⟩|⟨c1,hm⟩
 ·refine qT c1<|A.seq<|qS [] [(12,.bool aL)] [] ?_
  rcases az hm with⟨c2,hm⟩|⟨c2,hm⟩
  ·refine qT c2<|qS [] [(4,i6 0)] [] ?_
   cases hm
   exact A.ret qE
  refine qF c2<|A.skip ?_
  show ah _ _ _ _ _
  refine qS [] [(4,i6 (-1))] [] ?_
  cases hm
  exact A.ret qE
 refine qF c1<|A.skip ?_
 show ah _ _ _ _ _
 refine A.seq<|qDs [] [6,11] [(13,.bool aL)] ?_
 rcases az hm with⟨c3,hm⟩|⟨c3,hm⟩
 ·refine qT c3<|qS [] [(4,i6 1)] [] ?_
  cases hm
  exact A.ret qE
 refine qF c3<|A.skip ?_
 show ah _ _ _ _ _
 refine A.seq<|qDs [] [13] [(16,.bool (decide (xa0<y)))] ?_
 rcases az hm with⟨c4,hm⟩|⟨c4,hm⟩
 ·refine qT c4<|qS [] [(4,i6 (-1))] [] ?_
  cases hm
  exact A.ret qE
 refine qF c4<|A.skip ?_
 show ah _ _ _ _ _
 refine A.seq<|qS [] [(19,.bool (decide (y<xa0)))] [] ?_
 rcases az hm with⟨c5,hm⟩|⟨c5,hm⟩
 ·refine qT c5<|qS [] [(4,i6 1)] [] ?_
  cases hm
  exact A.ret qE
 refine qF c5<|A.skip ?_
 show ah _ _ _ _ _
 refine qS [] [(4,i6 0)] [] ?_
 cases hm
 exact A.ret qE
theorem z6{vals:List Int}{r:Int}(hm:nu vals=some r):RO prog 138 [] [lf aF vals] (i6 r):=by
 refine bf func138 rfl rfl ?_
 unfold nu at hm
 refine qS [] [(0,lf aF vals)] []<|qDs [] [] [(3,i6 0)]<|A.seq<|qDs [(1,hto (lnE aF vals))] [0] [(6,lf aF vals),(7,i6 (vals.length:Int)),(8,i6 0)]<|A.block<|A.bS 6 rfl λhb1=>?_
 obtain⟨B1,K1,hB1,hK1,hm⟩:=bn hm
 refine A.lpI (l:=vals) (j0:=0) (B:=B1) (K:=K1) hm (λj1=>λ()=>[(3,i6 0),(6,lf aF vals),(7,i6 (vals.length:Int)),(8,i6 (j1:Int))]) (λj1=>λ()=>[]) ?_ ?_ ?_
 ·exact qW
 ·rintro j1 e1 Z1 ⟨⟩ hj1 hx1 hm
  rw[hB1]at hm
  refine qDs [] [] [(9,.bool (decide ((j1:Int)<(vals.length:Int))))]<|A.seq<|qT (ltT hx1)<|A.skip ?_
  show ah _ _ _ _ _
  refine A.seq<|A.block ?_
  refine qDs [(0,hix (ix aF (bH hx1)))] [9] [(5,i6 e1)]<|qDs [] [] [(14,.bool (!decide (e1=0)))] ?_
  rcases az hm with⟨c1,hm⟩|⟨c1,hm⟩
  ·refine qT c1<|qS [] [(2,i6 e1)] [] ?_
   cases hm
   exact A.ret qE
  refine qF c1<|A.skip ?_
  show ah _ _ _ _ _
  exact qGs [(0,hto (inc hx1 hb1))] [8,5,14] [(8,i6 ((j1+1:Nat):Int))]<|qX () hm
 rintro j1 ⟨⟩ hj1 hl1 hm
 rw[hK1]at hm
 refine qDs [] [] [(9,.bool (decide ((j1:Int)<(vals.length:Int))))]<|A.seq<|qF (ltF hl1)<|A.exit ?_
 show ah _ _ _ _ _
 refine qS [] [(2,i6 0)] [] ?_
 cases hm
 exact A.ret qE
theorem ff{xa0:List aM}{target:Int}{cmp:aM→Int→Option Int}{vG:Nat}{x6:List AV}(abR:aQ prog vG)(abS:∀(y0:aM) (y1:Int) (q:Int),cmp y0 y1=some q→RO prog vG [] ([.agg (k0 y0),i6 y1]++x6) (i6 q)){r:Int×Bool}(hm:ct xa0 target cmp=some r):RO prog 97 [] [lf aJ xa0,i6 target,.cfn vG x6] (.tup [i6 r.1,.bool r.2]):=by
 refine bf func97 rfl rfl ?_
 unfold ct at hm
 refine qS [] [(0,lf aJ xa0),(1,i6 target),(2,.cfn vG x6)] []<|qDs [(1,hto (lnE aJ xa0))] [] [(8,i6 (xa0.length:Int))]<|qDs [] [] [(9,i6 0),(10,i6 (xa0.length:Int))]<|A.seq<|A.block ?_
 obtain⟨F1,n1,hF1,hm⟩:=lu hm
 refine A.lpW (F:=F1) hm (λ(i_1,j_1)=>[(0,lf aJ xa0),(1,i6 target),(2,.cfn vG x6),(8,i6 (xa0.length:Int)),(9,i6 i_1),(10,i6 j_1)]) (λ(i_1,j_1)=>[]) ?_ ?_
 ·exact qW
 rintro Z1 ⟨i_1,j_1⟩ hm
 rw[hF1]at hm
 refine A.seq<|qDs [] [] [(17,.bool (decide (i_1<j_1)))] ?_
 rcases az hm with⟨c1,hm⟩|⟨c1,hm⟩
 ·refine qT c1<|A.skip ?_
  show ah _ _ _ _ _
  refine A.block<|qDs [(4,.sh (1:Int) (by decide))] [17] [(11,i6 (w64 (Int.fdiv (IntKind.wrap .u64 (w64 (i_1+j_1))) (2 ^ min (1:Int).toNat 64))))] ?_
  obtain⟨e_1,h1,hm⟩:=af hm
  obtain⟨ai,h2,hm⟩:=af hm
  refine qDs [(3,hix (ix aJ h1)),(6,hrf (abS _ _ _ h2) abR)] [] [(31,.bool (decide (ai<0)))] ?_
  rcases az hm with⟨c2,hm⟩|⟨c2,hm⟩
  ·exact qT c2<|qGs [] [9,11,31] [(9,i6 (w64 ((w64 (Int.fdiv (IntKind.wrap .u64 (w64 (i_1+j_1))) (2 ^ min (1:Int).toNat 64)))+(1:Int))))]<|qX (w64 ((w64 (Int.fdiv (IntKind.wrap .u64 (w64 (i_1+j_1))) (2 ^ min (1:Int).toNat 64)))+(1:Int)),j_1) hm
  exact qF c2<|qGs [] [10,11,31] [(10,i6 (w64 (Int.fdiv (IntKind.wrap .u64 (w64 (i_1+j_1))) (2 ^ min (1:Int).toNat 64))))]<|qX (i_1,w64 (Int.fdiv (IntKind.wrap .u64 (w64 (i_1+j_1))) (2 ^ min (1:Int).toNat 64))) hm
 refine qF c1<|A.exit ?_
 show ah _ _ _ _ _
 rcases az hm with⟨c3,hm⟩|⟨c3,hm⟩
 ·obtain⟨e_2,h3,hm⟩:=af hm
  obtain⟨aL,h4,hm⟩:=af hm
  refine qS [(4,hto (bE c3)),(8,hix (ix aJ h3)),(11,hrf (abS _ _ _ h4) abR)] [(6,i6 i_1),(7,.bool (decide (aL=0)))] [] ?_
  cases hm
  exact A.ret qE
 refine qS [(4,hto (bE c3))] [(6,i6 i_1),(7,.bool false)] [] ?_
 cases hm
 exact A.ret qE
variable {sa0:List Int}
theorem rE{v:Int}{r:Int}(hm:iE sa0 v=some r):RO prog 104 [] [lf aF sa0,i6 v] (i6 r):=by
 refine bf func104 rfl rfl ?_
 unfold iE at hm
 refine qS [] [(0,lf aF sa0),(1,i6 v)] []<|A.seq<|qDs [(1,hto (lnE aF sa0))] [] [(7,i6 (sa0.length:Int)),(8,i6 0)]<|A.block<|A.bS 0 rfl λhb1=>?_
 obtain⟨B1,K1,hB1,hK1,hm⟩:=bn hm
 refine A.lpI (l:=sa0) (j0:=0) (B:=B1) (K:=K1) hm (λj1=>λ()=>[(0,lf aF sa0),(1,i6 v),(7,i6 (sa0.length:Int)),(8,i6 (j1:Int))]) (λj1=>λ()=>[]) ?_ ?_ ?_
 ·exact qW
 ·rintro j1 e1 Z1 ⟨⟩ hj1 hx1 hm
  rw[hB1]at hm
  refine qDs [] [] [(9,.bool (decide ((j1:Int)<(sa0.length:Int))))]<|A.seq<|qT (ltT hx1)<|A.skip ?_
  show ah _ _ _ _ _
  refine A.seq<|A.block ?_
  refine qDs [] [9] [(5,i6 (j1:Int))]<|qDs [(3,hix (ix aF (bH hx1)))] [] [(16,.bool (decide (v=e1)))] ?_
  rcases az hm with⟨c1,hm⟩|⟨c1,hm⟩
  ·refine qT c1<|qS [] [(4,i6 (j1:Int))] [] ?_
   cases hm
   exact A.ret qE
  refine qF c1<|A.skip ?_
  show ah _ _ _ _ _
  exact qGs [(0,hto (inc hx1 hb1))] [8,5,16] [(8,i6 ((j1+1:Nat):Int))]<|qX () hm
 rintro j1 ⟨⟩ hj1 hl1 hm
 rw[hK1]at hm
 refine qDs [] [] [(9,.bool (decide ((j1:Int)<(sa0.length:Int))))]<|A.seq<|qF (ltF hl1)<|A.exit ?_
 show ah _ _ _ _ _
 refine qS [] [(4,i6 (-1))] [] ?_
 cases hm
 exact A.ret qE
variable {f:aj→Option Bool}{f_c:List AV}{f_g:Nat}
theorem jL{sa0:List aj}(f_k:aQ prog f_g)(f_f:∀(y0:aj) (q:Bool),f y0=some q→RO prog f_g [] ([.agg (k5 y0)]++f_c) (.bool q)){r:Int}(hm:dF sa0 f=some r):RO prog 127 [] [lf ak sa0,.cfn f_g f_c] (i6 r):=by
 refine bf func127 rfl rfl ?_
 unfold dF at hm
 refine qS [] [(0,lf ak sa0),(1,.cfn f_g f_c)] []<|A.seq<|qDs [(1,hto (lnE ak sa0))] [] [(7,i6 (sa0.length:Int)),(8,i6 0)]<|A.block<|A.bS 0 rfl λhb1=>?_
 obtain⟨B1,K1,hB1,hK1,hm⟩:=bn hm
 refine A.lpI (l:=sa0) (j0:=0) (B:=B1) (K:=K1) hm (λj1=>λ()=>[(0,lf ak sa0),(1,.cfn f_g f_c),(7,i6 (sa0.length:Int)),(8,i6 (j1:Int))]) (λj1=>λ()=>[]) ?_ ?_ ?_
 ·exact qW
 ·rintro j1 e1 Z1 ⟨⟩ hj1 hx1 hm
  rw[hB1]at hm
  refine qDs [] [] [(9,.bool (decide ((j1:Int)<(sa0.length:Int))))]<|A.seq<|qT (ltT hx1)<|A.skip ?_
  show ah _ _ _ _ _
  refine A.seq<|A.block ?_
  refine qDs [] [9] [(5,i6 (j1:Int))] ?_
  obtain⟨ai,h1,hm⟩:=af hm
  refine qDs [(3,hix (ix ak (bH hx1))),(5,hrf (f_f _ _ h1) f_k)] [] [(16,.bool ai)] ?_
  rcases az hm with⟨c1,hm⟩|⟨c1,hm⟩
  ·refine qT c1<|qS [] [(4,i6 (j1:Int))] [] ?_
   cases hm
   exact A.ret qE
  refine qF c1<|A.skip ?_
  show ah _ _ _ _ _
  exact qGs [(0,hto (inc hx1 hb1))] [8,5,16] [(8,i6 ((j1+1:Nat):Int))]<|qX () hm
 rintro j1 ⟨⟩ hj1 hl1 hm
 rw[hK1]at hm
 refine qDs [] [] [(9,.bool (decide ((j1:Int)<(sa0.length:Int))))]<|A.seq<|qF (ltF hl1)<|A.exit ?_
 show ah _ _ _ _ _
 refine qS [] [(4,i6 (-1))] [] ?_
 cases hm
 exact A.ret qE
theorem lD{sa0:List aM}{f:aM→Option Bool}(f_k:aQ prog f_g)(f_f:∀(y0:aM) (q:Bool),f y0=some q→RO prog f_g [] ([.agg (k0 y0)]++f_c) (.bool q)){r:Int}(hm:dY sa0 f=some r):RO prog 135 [] [lf aJ sa0,.cfn f_g f_c] (i6 r):=by
 refine bf func135 rfl rfl ?_
 unfold dY at hm
 refine qS [] [(0,lf aJ sa0),(1,.cfn f_g f_c)] []<|A.seq<|qDs [(1,hto (lnE aJ sa0))] [] [(7,i6 (sa0.length:Int)),(8,i6 0)]<|A.block<|A.bS 0 rfl λhb1=>?_
 obtain⟨B1,K1,hB1,hK1,hm⟩:=bn hm
 refine A.lpI (l:=sa0) (j0:=0) (B:=B1) (K:=K1) hm (λj1=>λ()=>[(0,lf aJ sa0),(1,.cfn f_g f_c),(7,i6 (sa0.length:Int)),(8,i6 (j1:Int))]) (λj1=>λ()=>[]) ?_ ?_ ?_
 ·exact qW
 ·rintro j1 e1 Z1 ⟨⟩ hj1 hx1 hm
  rw[hB1]at hm
  refine qDs [] [] [(9,.bool (decide ((j1:Int)<(sa0.length:Int))))]<|A.seq<|qT (ltT hx1)<|A.skip ?_
  show ah _ _ _ _ _
  refine A.seq<|A.block ?_
  refine qDs [] [9] [(5,i6 (j1:Int))] ?_
  obtain⟨ai,h1,hm⟩:=af hm
  refine qDs [(3,hix (ix aJ (bH hx1))),(5,hrf (f_f _ _ h1) f_k)] [] [(16,.bool ai)] ?_
  rcases az hm with⟨c1,hm⟩|⟨c1,hm⟩
  ·refine qT c1<|qS [] [(4,i6 (j1:Int))] [] ?_
   cases hm
   exact A.ret qE
  refine qF c1<|A.skip ?_
  show ah _ _ _ _ _
  exact qGs [(0,hto (inc hx1 hb1))] [8,5,16] [(8,i6 ((j1+1:Nat):Int))]<|qX () hm
 rintro j1 ⟨⟩ hj1 hl1 hm
 rw[hK1]at hm
 refine qDs [] [] [(9,.bool (decide ((j1:Int)<(sa0.length:Int))))]<|A.seq<|qF (ltF hl1)<|A.exit ?_
 show ah _ _ _ _ _
 refine qS [] [(4,i6 (-1))] [] ?_
 cases hm
 exact A.ret qE
theorem mq{sa0:List bA}{f:bA→Option Bool}(f_k:aQ prog f_g)(f_f:∀(y0:bA) (q:Bool),f y0=some q→RO prog f_g [] ([.agg (k1 y0)]++f_c) (.bool q)){r:Int}(hm:eG sa0 f=some r):RO prog 137 [] [lf bR sa0,.cfn f_g f_c] (i6 r):=by
 refine bf func137 rfl rfl ?_
 unfold eG at hm
 refine qS [] [(0,lf bR sa0),(1,.cfn f_g f_c)] []<|A.seq<|qDs [(1,hto (lnE bR sa0))] [] [(7,i6 (sa0.length:Int)),(8,i6 0)]<|A.block<|A.bS 0 rfl λhb1=>?_
 obtain⟨B1,K1,hB1,hK1,hm⟩:=bn hm
 refine A.lpI (l:=sa0) (j0:=0) (B:=B1) (K:=K1) hm (λj1=>λ()=>[(0,lf bR sa0),(1,.cfn f_g f_c),(7,i6 (sa0.length:Int)),(8,i6 (j1:Int))]) (λj1=>λ()=>[]) ?_ ?_ ?_
 ·exact qW
 ·rintro j1 e1 Z1 ⟨⟩ hj1 hx1 hm
  rw[hB1]at hm
  refine qDs [] [] [(9,.bool (decide ((j1:Int)<(sa0.length:Int))))]<|A.seq<|qT (ltT hx1)<|A.skip ?_
  show ah _ _ _ _ _
  refine A.seq<|A.block ?_
  refine qDs [] [9] [(5,i6 (j1:Int))] ?_
  obtain⟨ai,h1,hm⟩:=af hm
  refine qDs [(3,hix (ix bR (bH hx1))),(5,hrf (f_f _ _ h1) f_k)] [] [(16,.bool ai)] ?_
  rcases az hm with⟨c1,hm⟩|⟨c1,hm⟩
  ·refine qT c1<|qS [] [(4,i6 (j1:Int))] [] ?_
   cases hm
   exact A.ret qE
  refine qF c1<|A.skip ?_
  show ah _ _ _ _ _
  exact qGs [(0,hto (inc hx1 hb1))] [8,5,16] [(8,i6 ((j1+1:Nat):Int))]<|qX () hm
 rintro j1 ⟨⟩ hj1 hl1 hm
 rw[hK1]at hm
 refine qDs [] [] [(9,.bool (decide ((j1:Int)<(sa0.length:Int))))]<|A.seq<|qF (ltF hl1)<|A.exit ?_
 show ah _ _ _ _ _
 refine qS [] [(4,i6 (-1))] [] ?_
 cases hm
 exact A.ret qE
theorem nN{sa0:List cw}{v:cw}{r:Int}(hm:fJ sa0 v=some r):RO prog 154 [] [lf dH sa0,.agg (k3 v)] (i6 r):=by
 refine bf func154 rfl rfl ?_
 unfold fJ at hm
 refine qS [(0,.al 154003)] [(0,lf dH sa0),(3,.ptr 154003 0)] [(154003,.cells 67 (k3 v))]<|A.seq<|qDs [(1,hto (lnE dH sa0))] [] [(7,i6 (sa0.length:Int)),(8,i6 0)]<|A.block<|A.bS 0 rfl λhb1=>?_
 obtain⟨B1,K1,hB1,hK1,hm⟩:=bn hm
 refine A.lpI (l:=sa0) (j0:=0) (B:=B1) (K:=K1) hm (λj1=>λ()=>[(0,lf dH sa0),(3,.ptr 154003 0),(7,i6 (sa0.length:Int)),(8,i6 (j1:Int))]) (λj1=>λ()=>[(154003,.cells 67 (k3 v))]) ?_ ?_ ?_
 ·exact qW
 ·rintro j1 e1 Z1 ⟨⟩ hj1 hx1 hm
  rw[hB1]at hm
  refine qDs [] [] [(9,.bool (decide ((j1:Int)<(sa0.length:Int))))]<|A.seq<|qT (ltT hx1)<|A.skip ?_
  show ah _ _ _ _ _
  refine A.seq<|A.block ?_
  refine qDs [] [9] [(5,i6 (j1:Int))]<|qDs [(3,hix (ix dH (bH hx1))),(5,.sq false 67 (.agg (k3 v)) (.agg (k3 e1)) (kO v e1) (λx y w=>agI x y _ _ _ _ w))] [] [(16,.bool (kO v e1))] ?_
  rcases az hm with⟨c1,hm⟩|⟨c1,hm⟩
  ·refine qT c1<|qS [] [(4,i6 (j1:Int))] [] ?_
   cases hm
   exact A.ret qE
  refine qF c1<|A.skip ?_
  show ah _ _ _ _ _
  exact qGs [(0,hto (inc hx1 hb1))] [8,5,16] [(8,i6 ((j1+1:Nat):Int))]<|qX () hm
 rintro j1 ⟨⟩ hj1 hl1 hm
 rw[hK1]at hm
 refine qDs [] [] [(9,.bool (decide ((j1:Int)<(sa0.length:Int))))]<|A.seq<|qF (ltF hl1)<|A.exit ?_
 show ah _ _ _ _ _
 refine qS [] [(4,i6 (-1))] [] ?_
 cases hm
 exact A.ret qE
theorem bY{v:Int}(hm:cE sa0 v=some r):RO prog 59 [] [lf aF sa0,i6 v] (.bool r):=by
 refine bf func59 rfl rfl ?_
 unfold cE at hm
 refine qS [] [(0,lf aF sa0),(1,i6 v)] [] ?_
 obtain⟨ai,h1,hm⟩:=af hm
 refine qS [(2,hro (rE h1) ayO)] [(4,.bool (decide (0≤ai)))] [] ?_
 cases hm
 exact A.ret qE
theorem jk{sa0:List aj}(f_k:aQ prog f_g)(f_f:∀(y0:aj) (q:Bool),f y0=some q→RO prog f_g [] ([.agg (k5 y0)]++f_c) (.bool q))(hm:cI sa0 f=some r):RO prog 79 [] [lf ak sa0,.cfn f_g f_c] (.bool r):=by
 refine bf func79 rfl rfl ?_
 unfold cI at hm
 refine qS [] [(0,lf ak sa0),(1,.cfn f_g f_c)] [] ?_
 obtain⟨ai,h1,hm⟩:=af hm
 refine qS [(2,hro (jL (f_k:=f_k) (f_f:=f_f) h1) ayS)] [(4,.bool (decide (0≤ai)))] [] ?_
 cases hm
 exact A.ret qE
theorem ku{sa0:List aM}{f:aM→Option Bool}(f_k:aQ prog f_g)(f_f:∀(y0:aM) (q:Bool),f y0=some q→RO prog f_g [] ([.agg (k0 y0)]++f_c) (.bool q))(hm:cU sa0 f=some r):RO prog 93 [] [lf aJ sa0,.cfn f_g f_c] (.bool r):=by
 refine bf func93 rfl rfl ?_
 unfold cU at hm
 refine qS [] [(0,lf aJ sa0),(1,.cfn f_g f_c)] [] ?_
 obtain⟨ai,h1,hm⟩:=af hm
 refine qS [(2,hro (lD (f_k:=f_k) (f_f:=f_f) h1) ayU)] [(4,.bool (decide (0≤ai)))] [] ?_
 cases hm
 exact A.ret qE
theorem eW{sa0:List bA}{f:bA→Option Bool}(f_k:aQ prog f_g)(f_f:∀(y0:bA) (q:Bool),f y0=some q→RO prog f_g [] ([.agg (k1 y0)]++f_c) (.bool q))(hm:cD sa0 f=some r):RO prog 99 [] [lf bR sa0,.cfn f_g f_c] (.bool r):=by
 refine bf func99 rfl rfl ?_
 unfold cD at hm
 refine qS [] [(0,lf bR sa0),(1,.cfn f_g f_c)] [] ?_
 obtain⟨ai,h1,hm⟩:=af hm
 refine qS [(2,hro (mq (f_k:=f_k) (f_f:=f_f) h1) ayV)] [(4,.bool (decide (0≤ai)))] [] ?_
 cases hm
 exact A.ret qE
theorem fQ{sa0:List cw}{v:cw}(hm:dB sa0 v=some r):RO prog 129 [] [lf dH sa0,.agg (k3 v)] (.bool r):=by
 refine bf func129 rfl rfl ?_
 unfold dB at hm
 refine qS [(0,.al 129003)] [(0,lf dH sa0),(3,.ptr 129003 0)] [(129003,.cells 67 (k3 v))] ?_
 obtain⟨ai,h1,hm⟩:=af hm
 refine qS [(2,hro (nN h1) ay3)] [(4,.bool (decide (0≤ai)))] [] ?_
 cases hm
 exact A.ret qE
theorem gz{n:Int}{least:Int}{most:Int}(hm:iy n least most=some r):RO prog 95 [] [i6 n,i6 least,i6 most] (.bool r):=by
 refine bf func95 rfl rfl ?_
 unfold iy at hm
 refine qS [] [(0,i6 n),(1,i6 least),(2,i6 most)] []<|A.mid [(6,.bool ((decide (least≤n))&&(decide (n≤most))))] [] (λhk=>?_) ?_
 ·rcases tf (decide (least≤n))with c1|c1
  ·exact qS [(3,hto (bE c1)),(8,hto (mh (q:=decide (n≤most)) c1))] _ _ hk
  exact qS [(3,hto (bE c1)),(8,hto (nk (q:=decide (n≤most)) c1))] _ _ hk
 cases hm
 exact A.ret qE
theorem uS{a:bA}{b:bA}{r:Int}(hm:jc a b=some r):RO prog 103 [] [.agg (k1 a),.agg (k1 b)] (i6 r):=by
 refine bf func103 rfl rfl ?_
 unfold jc at hm
 refine qS [(0,.al 103002),(1,.al 103003)] [(2,.ptr 103002 0),(3,.ptr 103003 0)] [(103002,.cells 89 (k1 a)),(103003,.cells 89 (k1 b))] ?_
 obtain⟨ai,h1,hm⟩:=af hm
 obtain⟨aL,h2,hm⟩:=af hm
 obtain⟨aV,h3,hm⟩:=af hm
 refine qS [(4,hro (jK h1) abQ),(9,hro (jK h2) abQ),(11,hro (z6 h3) ayW)] [(4,i6 aV)] [] ?_
 cases hm
 exact A.ret qE
variable {id:Int}{ra0:aM}
theorem qU{r:Int}(hm:jo ra0 id=some r):RO prog 98 [] [.agg (k0 ra0),i6 id] (i6 r):=by
 refine bf func98 rfl rfl ?_
 unfold jo at hm
 refine qS [(0,.al 98002)] [(1,i6 id),(2,.ptr 98002 0)] [(98002,.cells 42 (k0 ra0))] ?_
 obtain⟨ai,h1,hm⟩:=af hm
 refine qS [(3,hro (jK h1) abQ)] [(4,i6 ai)] [] ?_
 cases hm
 exact A.ret qE
theorem uT(hm:kP ra0=some r):RO prog 94 [] [.agg (k0 ra0)] (.bool r):=by
 refine bf func94 rfl rfl ?_
 unfold kP at hm
 refine qS [(0,.al 94001)] [(1,.ptr 94001 0)] [(94001,.cells 42 (k0 ra0))] ?_
 obtain⟨ai,h1,hm⟩:=af hm
 refine qS [(2,hro (gz h1) za)] [(2,.bool (!ai))] [] ?_
 cases hm
 exact A.ret qE
variable {l:bA}
theorem uU(hm:jd l=some r):RO prog 100 [] [.agg (k1 l)] (.bool r):=by
 refine bf func100 rfl rfl ?_
 unfold jd at hm
 refine qS [(0,.al 100001)] [(1,.ptr 100001 0)] [(100001,.cells 89 (k1 l))] ?_
 obtain⟨ai,h1,hm⟩:=af hm
 rcases az hm with⟨c1,hm⟩|⟨c1,hm⟩
 ·refine qS [(2,hro (gz h1) za),(4,hto (bE c1))] [(2,.bool true)] [] ?_
  cases hm
  exact A.ret qE
 obtain⟨aL,h2,hm⟩:=af hm
 rcases az hm with⟨c2,hm⟩|⟨c2,hm⟩
 ·refine qS [(2,hro (gz h1) za),(4,hto (bE c1)),(7,hro (gz h2) za),(10,hto (bE c2))] [(2,.bool true)] [] ?_
  cases hm
  exact A.ret qE
 obtain⟨aV,h3,hm⟩:=af hm
 refine qS [(2,hro (gz h1) za),(4,hto (bE c1)),(7,hro (gz h2) za),(10,hto (bE c2)),(13,hro (gz h3) za)] [(2,.bool (!aV))] [] ?_
 cases hm
 exact A.ret qE
variable {c_0:aa}
theorem lT(hm:gH id c_0=some r):RO prog 96 [] [i6 id,.eV (k2 c_0)] (.bool r):=by
 refine bf func96 rfl rfl ?_
 unfold gH at hm
 refine qS [] [(0,i6 id),(1,.eV (k2 c_0))] [] ?_
 obtain⟨ai,h1,hm⟩:=af hm
 refine qS [(3,hro (ff (vG:=98) (x6:=[]) (abR:=at5) (abS:=λ_ _ _ h=>qU h) h1) at4)] [(5,.bool ai.2)] []<|qS [] [(3,.bool (!ai.2))] [] ?_
 cases hm
 exact A.ret qE
theorem uV(hm:kQ l c_0=some r):RO prog 101 [] [.agg (k1 l),.eV [.fn 96 [.eV (k2 c_0)]]] (.bool r):=by
 refine bf func101 rfl rfl ?_
 unfold kQ at hm
 refine qS [(0,.al 101002)] [(1,.eV [.fn 96 [.eV (k2 c_0)]]),(2,.ptr 101002 0)] [(101002,.cells 89 (k1 l))] ?_
 obtain⟨ai,h1,hm⟩:=af hm
 rcases az hm with⟨c1,hm⟩|⟨c1,hm⟩
 ·refine qS [(3,hle [] (lT h1) ajO),(4,hto (bE c1))] [(3,.bool true)] [] ?_
  cases hm
  exact A.ret qE
 obtain⟨aL,h2,hm⟩:=af hm
 refine qS [(3,hle [] (lT h1) ajO),(4,hto (bE c1)),(8,hle [] (lT h2) ajO)] [(3,.bool aL)] [] ?_
 cases hm
 exact A.ret qE
theorem uW(hm:kR l=some r):RO prog 102 [] [.agg (k1 l)] (.bool r):=by
 refine bf func102 rfl rfl ?_
 unfold kR at hm
 refine qS [(0,.al 102001)] [(1,.ptr 102001 0)] [(102001,.cells 89 (k1 l))]<|qS [] [(2,.bool (decide (l.B≤l.A)))] [] ?_
 cases hm
 exact A.ret qE
variable {t:aa}
theorem mP{r:Int}(hm:gy t=some r):RO prog 58 [] [.agg (k2 t)] (i6 r):=by
 refine bf func58 rfl rfl ?_
 unfold gy at hm
 refine qS [(0,.al 58001)] [(1,.ptr 58001 0)] [(58001,.cells 28 (k2 t))]<|A.seq<|A.block<|A.mid [(1,.ptr 58001 0),(6,.bool ((decide (24<(t.aq.length:Int)))||(decide (60<(t.Links.length:Int)))))] [(58001,.cells 28 (k2 t))] (λhk=>?_) ?_
 ·rcases tf (decide (24<(t.aq.length:Int)))with c1|c1
  ·exact qS [(2,hto (lnE aJ t.aq)),(4,hto (bE c1)),(10,hto (orT (q:=decide (60<(t.Links.length:Int))) c1))] _ _ hk
  exact qS [(2,hto (lnE aJ t.aq)),(4,hto (bE c1)),(7,hto (lnE bR t.Links)),(10,hto (orF (q:=decide (60<(t.Links.length:Int))) c1))] _ _ hk
 rcases az hm with⟨c2,hm⟩|⟨c2,hm⟩
 ·refine qT c2<|qS [] [(2,i6 3)] [] ?_
  cases hm
  exact A.ret qE
 refine qF c2 ?_
 obtain⟨ai,h1,hm⟩:=af hm
 refine qDs [(2,hro (ku (f_g:=94) (f_c:=[]) (f_k:=ck94) (f_f:=λ_ _ h=>uT h) h1) ck93)] [6] [(17,.bool ai)] ?_
 rcases az hm with⟨c3,hm⟩|⟨c3,hm⟩
 ·refine qT c3<|qS [] [(2,i6 2)] [] ?_
  cases hm
  exact A.ret qE
 refine qF c3<|A.skip ?_
 show ah _ _ _ _ _
 refine A.seq<|qDs [(2,hto (lnE aJ t.aq))] [17] [(23,i6 (t.aq.length:Int)),(24,i6 0)] ?_
 refine A.block<|A.bC 1 0 rfl rfl rfl λhb1=>?_
 obtain⟨B1,K1,hB1,hK1,hm⟩:=bn hm
 refine A.lpI (l:=t.aq) (j0:=0) (B:=B1) (K:=K1) hm (λj1=>λ()=>[(1,.ptr 58001 0),(23,i6 (t.aq.length:Int)),(24,i6 (j1:Int))]) (λj1=>λ()=>[(58001,.cells 28 (k2 t))]) ?_ ?_ ?_
 ·exact qW
 ·rintro j1 e1 Z1 ⟨⟩ hj1 hx1 hm
  rw[hB1]at hm
  refine qDs [] [] [(25,.bool (decide ((j1:Int)<(t.aq.length:Int))))]<|A.seq<|qT (ltT hx1)<|A.skip ?_
  show ah _ _ _ _ _
  refine A.seq<|A.block ?_
  refine qDs [] [25] [(3,i6 (j1:Int))] ?_
  obtain⟨J1,hJ1,hm⟩:=cg hm
  refine A.J (J:=J1) (r:=r) (λv_1=>[(1,.ptr 58001 0),(23,i6 (t.aq.length:Int)),(24,i6 (j1:Int)),(44,.bool v_1)]) (λv_1=>[(58001,.cells 28 (k2 t))]) ?_ ?_
  ·rcases az hm with⟨c4,hm⟩|⟨c4,hm⟩
   ·obtain⟨e_1,h2,hm⟩:=af hm
    exact qGs [(2,hto (bE c4)),(7,hix (ix aJ h2)),(13,hix (ix aJ (bH hx1)))] [3] [(44,.bool (decide (e1.ID≤e_1.ID)))]<|qX (decide (e1.ID≤e_1.ID)) hm
   exact qGs [(2,hto (bE c4))] [3] [(44,.bool false)]<|qX false hm
  rintro v_1 hm
  rw[hJ1]at hm
  rcases az hm with⟨c5,hm⟩|⟨c5,hm⟩
  ·refine qT c5<|qS [] [(2,i6 25)] [] ?_
   cases hm
   exact A.ret qE
  refine qF c5<|A.skip ?_
  show ah _ _ _ _ _
  exact qGs [(0,hto (inc hx1 hb1))] [24,44] [(24,i6 ((j1+1:Nat):Int))]<|qX () hm
 rintro j1 ⟨⟩ hj1 hl1 hm
 rw[hK1]at hm
 refine qDs [] [] [(25,.bool (decide ((j1:Int)<(t.aq.length:Int))))]<|A.seq<|qF (ltF hl1)<|A.exit ?_
 show ah _ _ _ _ _
 refine qD [(1,.al 58004)] [23,24,25] [(4,.ptr 58004 0)] [] [(58004,.cells 130 [.fn 96 [.ptr 58001 0]])]<|A.seq<|A.block ?_
 obtain⟨aL,h3,hm⟩:=af hm
 refine qDs [(2,hro (eW (f_g:=100) (f_c:=[]) (f_k:=ayK) (f_f:=λ_ _ h=>uU h) h3) ajP)] [] [(47,.bool aL)] ?_
 rcases az hm with⟨c6,hm⟩|⟨c6,hm⟩
 ·refine qT c6<|qS [] [(2,i6 2)] [] ?_
  cases hm
  exact A.ret qE
 refine qF c6 ?_
 obtain⟨aV,h4,hm⟩:=af hm
 refine qD [(3,hle [58004,58001] (eW (f_g:=101) (f_c:=[.eV [.fn 96 [.eV (k2 t)]]]) (f_k:=ayL) (f_f:=λ_ _ h=>uV h) h4) ajP)] [4,47] [(51,.bool aV)] [58004] [] ?_
 rcases az hm with⟨c7,hm⟩|⟨c7,hm⟩
 ·refine qT c7<|qS [] [(2,i6 4)] [] ?_
  cases hm
  exact A.ret qE
 refine qF c7 ?_
 obtain⟨bz,h5,hm⟩:=af hm
 refine qDs [(2,hro (eW (f_g:=102) (f_c:=[]) (f_k:=ayM) (f_f:=λ_ _ h=>uW h) h5) ajP)] [51] [(56,.bool bz)] ?_
 rcases az hm with⟨c8,hm⟩|⟨c8,hm⟩
 ·refine qT c8<|qS [] [(2,i6 8)] [] ?_
  cases hm
  exact A.ret qE
 refine qF c8<|A.skip ?_
 show ah _ _ _ _ _
 refine A.seq<|qDs [(2,hto (lnE bR t.Links))] [56] [(62,i6 (t.Links.length:Int)),(63,i6 0)] ?_
 refine A.block<|A.bC 1 1 rfl rfl rfl λhb2=>?_
 obtain⟨B2,K2,hB2,hK2,hm⟩:=bn hm
 refine A.lpI (l:=t.Links) (j0:=0) (B:=B2) (K:=K2) hm (λj2=>λ()=>[(1,.ptr 58001 0),(62,i6 (t.Links.length:Int)),(63,i6 (j2:Int))]) (λj2=>λ()=>[(58001,.cells 28 (k2 t))]) ?_ ?_ ?_
 ·exact qW
 ·rintro j2 e2 Z2 ⟨⟩ hj2 hx2 hm
  rw[hB2]at hm
  refine qDs [] [] [(64,.bool (decide ((j2:Int)<(t.Links.length:Int))))]<|A.seq<|qT (ltT hx2)<|A.skip ?_
  show ah _ _ _ _ _
  refine A.seq<|A.block ?_
  refine qDs [] [64] [(5,i6 (j2:Int))] ?_
  obtain⟨J2,hJ2,hm⟩:=cg hm
  refine A.J (J:=J2) (r:=r) (λv_2=>[(1,.ptr 58001 0),(62,i6 (t.Links.length:Int)),(63,i6 (j2:Int)),(82,.bool v_2)]) (λv_2=>[(58001,.cells 28 (k2 t))]) ?_ ?_
  ·rcases az hm with⟨c9,hm⟩|⟨c9,hm⟩
   ·obtain⟨e_2,h6,hm⟩:=af hm
    obtain⟨cq,h7,hm⟩:=af hm
    exact qGs [(2,hto (bE c9)),(7,hix (ix bR h6)),(12,hix (ix bR (bH hx2))),(14,hro (uS h7) ayN)] [5] [(82,.bool (decide (0≤cq)))]<|qX (decide (0≤cq)) hm
   exact qGs [(2,hto (bE c9))] [5] [(82,.bool false)]<|qX false hm
  rintro v_2 hm
  rw[hJ2]at hm
  rcases az hm with⟨c10,hm⟩|⟨c10,hm⟩
  ·refine qT c10<|qS [] [(2,i6 25)] [] ?_
   cases hm
   exact A.ret qE
  refine qF c10<|A.skip ?_
  show ah _ _ _ _ _
  exact qGs [(0,hto (inc hx2 hb2))] [63,82] [(63,i6 ((j2+1:Nat):Int))]<|qX () hm
 rintro j2 ⟨⟩ hj2 hl2 hm
 rw[hK2]at hm
 refine qDs [] [] [(64,.bool (decide ((j2:Int)<(t.Links.length:Int))))]<|A.seq<|qF (ltF hl2)<|A.exit ?_
 show ah _ _ _ _ _
 refine qS [] [(2,i6 0)] [] ?_
 cases hm
 exact A.ret qE
theorem mQ(hm:iL t=some r):RO prog 124 [] [.agg (k2 t)] (.bool r):=by
 refine bf func124 rfl rfl ?_
 unfold iL at hm
 refine qS [(0,.al 124001)] [(1,.ptr 124001 0)] [(124001,.cells 28 (k2 t))] ?_
 obtain⟨ai,h1,hm⟩:=af hm
 refine qS [(1,hro (mP h1) ajN)] [(2,.bool (decide (ai=0)))] [] ?_
 cases hm
 exact A.ret qE
variable {aY:Int}
theorem xh{r:aM×Bool}(hm:kS t aY=some r):RO prog 123 [] [.agg (k2 t),i6 aY] (.tup [.agg (k0 r.1),.bool r.2]):=by
 refine bf func123 rfl rfl ?_
 unfold kS at hm
 refine qS [(0,.al 123002),(1,.al 123004)] [(1,i6 aY),(2,.ptr 123002 0),(4,.ptr 123004 0)] [(123002,.cells 28 (k2 t)),(123004,.cells 42 [i6 0,.bool false])] ?_
 obtain⟨ai,h1,hm⟩:=af hm
 refine qDs [(3,hro (ff (vG:=98) (x6:=[]) (abR:=at5) (abS:=λ_ _ _ h=>qU h) h1) at4)] [1] [(6,i6 ai.1),(7,.bool ai.2)]<|A.seq<|qDs [] [7] [(16,.bool (!ai.2))] ?_
 rcases az hm with⟨c1,hm⟩|⟨c1,hm⟩
 ·refine qT c1<|qD [] [2,6,16] [(5,.bool false)] [123002] [] ?_
  cases hm
  exact A.ret qE
 refine qF c1<|A.skip ?_
 show ah _ _ _ _ _
 obtain⟨e_1,h2,hm⟩:=af hm
 refine qS [(3,hix (ix aJ h2))] [(4,.ptr 123004 0),(5,.bool true)] [(123004,.cells 42 (k0 e_1))] ?_
 cases hm
 exact A.ret qE
theorem jB(hm:jQ t aY=some r):RO prog 70 [] [.agg (k2 t),i6 aY] (.bool r):=by
 refine bf func70 rfl rfl ?_
 unfold jQ at hm
 refine qS [(0,.al 70002)] [(1,i6 aY),(2,.ptr 70002 0)] [(70002,.cells 28 (k2 t))] ?_
 obtain⟨ai,h1,hm⟩:=af hm
 refine qDs [(2,hro (xh h1) ayR),(6,.al 70005)] [1] [(6,.bool ai.2)] ?_
 obtain⟨aL,h2,hm⟩:=af hm
 rcases az hm with⟨c1,hm⟩|⟨c1,hm⟩
 ·refine qS [(1,hro (mQ h2) aeU),(2,hto (bE c1))] [(4,.bool ai.2)] [] ?_
  cases hm
  exact A.ret qE
 refine qS [(1,hro (mQ h2) aeU),(2,hto (bE c1))] [(4,.bool false)] [] ?_
 cases hm
 exact A.ret qE
theorem oM{f:dO}{r:aa}(hm:gI t f=some r):RO prog 83 [] [.agg (k2 t),.agg (k4 f)] (.agg (k2 r)):=by
 refine bf func83 rfl rfl ?_
 unfold gI at hm
 refine qS [(0,.al 83002),(1,.al 83003),(2,.al 83004)] [(2,.ptr 83002 0),(3,.ptr 83003 0),(4,.ptr 83004 0)] [(83002,.cells 28 (k2 t)),(83003,.cells 100 (k4 f)),(83004,.cells 28 [.aU,.aU])]<|qD [(0,.al 83005)] [] [(5,.ptr 83005 0)] [] [(83005,.cells 28 [.aU,.aU])]<|A.seq ?_
 obtain⟨ai,h1,hm⟩:=af hm
 refine qDs [(1,hro (mQ h1) aeU)] [] [(13,.bool (!ai))] ?_
 rcases az hm with⟨c1,hm⟩|⟨c1,hm⟩
 ·refine qT c1<|qD [] [2,3,5,13] [] [83002,83003,83005] [] ?_
  cases hm
  exact A.ret qE
 refine qF c1<|A.skip ?_
 show ah _ _ _ _ _
 refine A.seq<|qDs [(2,hto (lnE aJ t.aq))] [13] [(16,lf aJ t.aq),(17,i6 (t.aq.length:Int)),(18,i6 0)] ?_
 refine A.block<|A.bS 16 rfl λhb1=>?_
 obtain⟨B1,K1,hB1,hK1,hm⟩:=bn hm
 refine A.lpI (l:=t.aq) (j0:=0) (B:=B1) (K:=K1) hm (λj1=>λm_1=>[(2,.ptr 83002 0),(3,.ptr 83003 0),(4,.ptr 83004 0),(5,.ptr 83005 0),(16,lf aJ t.aq),(17,i6 (t.aq.length:Int)),(18,i6 (j1:Int))]) (λj1=>λm_1=>[(83002,.cells 28 (k2 t)),(83003,.cells 100 (k4 f)),(83004,.cells 28 [.aU,.aU]),(83005,.cells 28 [.own 708300500,.aU]),(708300500,.slice 42 2 (ml aJ m_1) 0 false)]) ?_ ?_ ?_
 ·exact bq.go [.ac 83005 708300500 42 2 0] [] (by kernel_rfl)
 ·rintro j1 e1 Z1 m_1 hj1 hx1 hm
  rw[hB1]at hm
  refine qDs [] [] [(19,.bool (decide ((j1:Int)<(t.aq.length:Int))))]<|A.seq<|qT (ltT hx1)<|A.skip ?_
  show ah _ _ _ _ _
  obtain⟨J1,hJ1,hm⟩:=cg hm
  refine A.J (J:=J1) (r:=r) (λm_2=>[(2,.ptr 83002 0),(3,.ptr 83003 0),(4,.ptr 83004 0),(5,.ptr 83005 0),(16,lf aJ t.aq),(17,i6 (t.aq.length:Int)),(18,i6 (j1:Int))]) (λm_2=>[(83002,.cells 28 (k2 t)),(83003,.cells 100 (k4 f)),(83004,.cells 28 [.aU,.aU]),(83005,.cells 28 [.own 708300500,.aU]),(708300500,.slice 42 2 (ml aJ m_2) 0 false)]) ?_ ?_
  ·refine A.block<|qD [(0,hix (ix aJ (bH hx1))),(2,.al 83007)] [19] [(7,.ptr 83007 0)] [] [(83007,.cells 42 (k0 e1))] ?_
   obtain⟨aL,h2,hm⟩:=af hm
   refine qDs [(4,hro (bY h2) qn)] [] [(27,.bool (!aL))] ?_
   rcases az hm with⟨c2,hm⟩|⟨c2,hm⟩
   ·refine qT c2 ?_
    obtain⟨l_1,h3,hm⟩:=af hm
    exact qG [(4,hap 83532 (ap aJ (bytes:=16) (by decide) h3))] [7,27] [] [83005,708300500,83007] [(83005,.cells 28 [.own 83532,.aU]),(83532,.slice 42 2 (ml aJ l_1) 0 false)]<|Exists.intro l_1 (And.intro hm (bq.go [.sw 83532 708300500] [] (by kernel_rfl)))
   exact qF c2<|A.skip<|qX m_1 hm
  rintro m_2 hm
  rw[hJ1]at hm
  exact qGs [(0,hto (inc hx1 hb1))] [18] [(18,i6 ((j1+1:Nat):Int))]<|qX m_2 hm
 rintro j1 m_1 hj1 hl1 hm
 rw[hK1]at hm
 refine qDs [] [] [(19,.bool (decide ((j1:Int)<(t.aq.length:Int))))]<|A.seq<|qF (ltF hl1)<|A.exit ?_
 show ah _ _ _ _ _
 refine A.seq<|qD [(2,hto (lnE bR t.Links))] [2,16,17,18,19] [(36,lf bR t.Links),(37,i6 (t.Links.length:Int)),(38,i6 0)] [83002] [] ?_
 refine A.block<|A.bS 36 rfl λhb2=>?_
 obtain⟨B2,K2,hB2,hK2,hm⟩:=bn hm
 refine A.lpI (l:=t.Links) (j0:=0) (B:=B2) (K:=K2) hm (λj2=>λm_3=>[(3,.ptr 83003 0),(4,.ptr 83004 0),(5,.ptr 83005 0),(36,lf bR t.Links),(37,i6 (t.Links.length:Int)),(38,i6 (j2:Int))]) (λj2=>λm_3=>[(83003,.cells 100 (k4 f)),(83004,.cells 28 [.aU,.aU]),(83005,.cells 28 [.own 708300500,.own 708300501]),(708300500,.slice 42 2 (ml aJ m_1) 0 false),(708300501,.slice 89 5 (ml bR m_3) 0 false)]) ?_ ?_ ?_
 ·exact bq.go [.ac 83005 708300501 89 5 1] [] (by kernel_rfl)
 ·rintro j2 e2 Z2 m_3 hj2 hx2 hm
  rw[hB2]at hm
  refine qDs [] [] [(39,.bool (decide ((j2:Int)<(t.Links.length:Int))))]<|A.seq<|qT (ltT hx2)<|A.skip ?_
  show ah _ _ _ _ _
  obtain⟨J2,hJ2,hm⟩:=cg hm
  refine A.J (J:=J2) (r:=r) (λm_4=>[(3,.ptr 83003 0),(4,.ptr 83004 0),(5,.ptr 83005 0),(36,lf bR t.Links),(37,i6 (t.Links.length:Int)),(38,i6 (j2:Int))]) (λm_4=>[(83003,.cells 100 (k4 f)),(83004,.cells 28 [.aU,.aU]),(83005,.cells 28 [.own 708300500,.own 708300501]),(708300500,.slice 42 2 (ml aJ m_1) 0 false),(708300501,.slice 89 5 (ml bR m_4) 0 false)]) ?_ ?_
  ·refine A.block<|qD [(0,hix (ix bR (bH hx2))),(2,.al 83009)] [39] [(9,.ptr 83009 0)] [] [(83009,.cells 89 (k1 e2))] ?_
   obtain⟨J3,hJ3,hm⟩:=cg hm
   refine A.J (J:=J3) (r:=r) (λuR=>[(3,.ptr 83003 0),(4,.ptr 83004 0),(5,.ptr 83005 0),(9,.ptr 83009 0),(10,.bool uR),(36,lf bR t.Links),(37,i6 (t.Links.length:Int)),(38,i6 (j2:Int))]) (λuR=>[(83003,.cells 100 (k4 f)),(83004,.cells 28 [.aU,.aU]),(83005,.cells 28 [.own 708300500,.own 708300501]),(708300500,.slice 42 2 (ml aJ m_1) 0 false),(708300501,.slice 89 5 (ml bR m_3) 0 false),(83009,.cells 89 (k1 e2))]) ?_ ?_
   ·obtain⟨aV,h4,hm⟩:=af hm
    rcases az hm with⟨c3,hm⟩|⟨c3,hm⟩
    ·exact qGs [(4,hro (bY h4) qn),(5,hto (bE c3))] [] [(10,.bool true)]<|qX true hm
    obtain⟨bz,h5,hm⟩:=af hm
    rcases az hm with⟨c4,hm⟩|⟨c4,hm⟩
    ·exact qGs [(4,hro (bY h4) qn),(5,hto (bE c3)),(10,hro (bY h5) qn),(12,hto (bE c4))] [] [(10,.bool true)]<|qX true hm
    obtain⟨cq,h6,hm⟩:=af hm
    rcases az hm with⟨c5,hm⟩|⟨c5,hm⟩
    ·exact qGs [(4,hro (bY h4) qn),(5,hto (bE c3)),(10,hro (bY h5) qn),(12,hto (bE c4)),(20,hro (fQ h6) aeV),(22,hto (bE c5))] [] [(10,.bool true)]<|qX true hm
    obtain⟨cH,h7,hm⟩:=af hm
    exact qGs [(4,hro (bY h4) qn),(5,hto (bE c3)),(10,hro (bY h5) qn),(12,hto (bE c4)),(20,hro (fQ h6) aeV),(22,hto (bE c5)),(30,hro (fQ h7) aeV)] [] [(10,.bool cH)]<|qX cH hm
   rintro uR hm
   rw[hJ3]at hm
   refine qDs [] [10] [(75,.bool (!uR))] ?_
   rcases az hm with⟨c6,hm⟩|⟨c6,hm⟩
   ·refine qT c6 ?_
    obtain⟨l_2,h8,hm⟩:=af hm
    exact qG [(4,hap 83580 (ap bR (bytes:=40) (by decide) h8))] [9,75] [] [83005,708300501,83009] [(83005,.cells 28 [.own 708300500,.own 83580]),(83580,.slice 89 5 (ml bR l_2) 0 false)]<|Exists.intro l_2 (And.intro hm (bq.go [.sw 83580 708300501] [] (by kernel_rfl)))
   exact qF c6<|A.skip<|qX m_3 hm
  rintro m_4 hm
  rw[hJ2]at hm
  exact qGs [(0,hto (inc hx2 hb2))] [38] [(38,i6 ((j2+1:Nat):Int))]<|qX m_4 hm
 rintro j2 m_3 hj2 hl2 hm
 rw[hK2]at hm
 refine qDs [] [] [(39,.bool (decide ((j2:Int)<(t.Links.length:Int))))]<|A.seq<|qF (ltF hl2)<|A.exit ?_
 show ah _ _ _ _ _
 refine qD [] [3,5,36,37,38,39] [] [83003,83004,83005] [(83004,.cells 28 [.own 708300500,.own 708300501])]<|A.ret ?_
 obtain rfl:=some_inj hm
 exact A.fin W0 [.fz [708300500,708300501]] rfl (by kernel_rfl)
end Go.Proofs.YtdjeacigeegklaaGreat
