/- The ew of cA of the program. No condition but bM bw stand in each. -/
import Derived.Test.YtjdopimopgpagaaGreatDA
namespace Go.Proofs.YtjdopimopgpagaaGreat
open Go Go.Proofs.Tryz
set_option maxRecDepth 100000
set_option linter.all false
variable {r:Bool}{xa0:Int}
theorem tP(hm:mC xa0=some r):RO prog 171 [] [i6 xa0] (.bool r):=by
 refine aZ func171 rfl rfl ?_
 unfold mC at hm
 refine qS [] [(0,i6 xa0)] []<|qS [] [(2,.bool (!decide (xa0=xa0)))] [] ?_
 cases hm
 exact A.ret qE
theorem gI{y:Int}{r:Int}(hm:eF xa0 y=some r):RO prog 148 [] [i6 xa0,i6 y] (i6 r):=by
 refine aZ func148 rfl rfl ?_
 unfold eF at hm
 refine qS [] [(0,i6 xa0),(1,i6 y)] [] ?_
 obtain⟨af,h1,hm⟩:=aa hm
 refine qDs [(1,hro (tP h1) aka)] [] [(5,.bool af)] ?_
 obtain⟨aD,h2,hm⟩:=aa hm
 refine qDs [(1,hro (tP h2) aka)] [] [(6,.bool aD)]<|A.seq<|qDs [] [5] [(11,.bool af)] ?_
 rcases aq hm with⟨c1,hm⟩|⟨c1,hm⟩
 ·refine qT c1<|A.seq<|qS [] [(12,.bool aD)] [] ?_
  rcases aq hm with⟨c2,hm⟩|⟨c2,hm⟩
  ·refine qT c2<|qS [] [(4,i6 0)] [] ?_
   cases hm
   exact A.ret qE
  refine qF c2<|A.skip<|qS [] [(4,i6 (-1))] [] ?_
  cases hm
  exact A.ret qE
 refine qF c1<|A.skip<|A.seq<|qDs [] [6,11] [(13,.bool aD)] ?_
 rcases aq hm with⟨c3,hm⟩|⟨c3,hm⟩
 ·refine qT c3<|qS [] [(4,i6 1)] [] ?_
  cases hm
  exact A.ret qE
 refine qF c3<|A.skip<|A.seq<|qDs [] [13] [(16,.bool (decide (xa0<y)))] ?_
 rcases aq hm with⟨c4,hm⟩|⟨c4,hm⟩
 ·refine qT c4<|qS [] [(4,i6 (-1))] [] ?_
  cases hm
  exact A.ret qE
 refine qF c4<|A.skip<|A.seq<|qS [] [(19,.bool (decide (y<xa0)))] [] ?_
 rcases aq hm with⟨c5,hm⟩|⟨c5,hm⟩
 ·refine qT c5<|qS [] [(4,i6 1)] [] ?_
  cases hm
  exact A.ret qE
 refine qF c5<|A.skip<|qS [] [(4,i6 0)] [] ?_
 cases hm
 exact A.ret qE
theorem vY{vals:List Int}{r:Int}(hm:nB vals=some r):RO prog 147 [] [lf bO vals] (i6 r):=by
 refine aZ func147 rfl rfl ?_
 unfold nB at hm
 refine qS [] [(0,lf bO vals)] []<|qDs [] [] [(3,i6 0)]<|A.seq<|qDs [(1,hto (lnE bO vals))] [0] [(6,lf bO vals),(7,i6 (vals.length:Int)),(8,i6 0)]<|A.block<|A.bS 6 rfl λhb1=>?_
 obtain⟨B1,K1,hB1,hK1,hm⟩:=bu hm
 refine A.lpI (l:=vals) (j0:=0) (B:=B1) (K:=K1) hm (λj1=>λ()=>[(3,i6 0),(6,lf bO vals),(7,i6 (vals.length:Int)),(8,i6 (j1:Int))]) (λj1=>λ()=>[]) ?_ ?_ ?_
 ·exact qW
 ·rintro j1 e1 Z1 ⟨⟩ hj1 hx1 hm
  rw[hB1]at hm
  refine qDs [] [] [(9,.bool (decide ((j1:Int)<(vals.length:Int))))]<|A.seq<|qT (ltT hx1)<|A.skip<|A.seq<|A.block<|qDs [(0,hix (ix bO (bf hx1)))] [9] [(5,i6 e1)]<|qDs [] [] [(14,.bool (!decide (e1=0)))] ?_
  rcases aq hm with⟨c1,hm⟩|⟨c1,hm⟩
  ·refine qT c1<|qS [] [(2,i6 e1)] [] ?_
   cases hm
   exact A.ret qE
  exact qF c1<|A.skip<|qGs [(0,hto (inc hx1 hb1))] [8,5,14] [(8,i6 ((j1+1:Nat):Int))]<|qX () hm
 rintro j1 ⟨⟩ hj1 hl1 hm
 rw[hK1]at hm
 refine qDs [] [] [(9,.bool (decide ((j1:Int)<(vals.length:Int))))]<|A.seq<|qF (ltF hl1)<|A.exit<|qS [] [(2,i6 0)] [] ?_
 cases hm
 exact A.ret qE
variable {jQ:Nat}{lT:List AV}{target:Int}
theorem fD{xa0:List bh}{cmp:bh→Int→Option Int}(qQ:aQ prog jQ)(qU:∀(y0:bh) (y1:Int) (q:Int),cmp y0 y1=some q→RO prog jQ [] ([.agg (k0 y0),i6 y1]++lT) (i6 q)){r:Int×Bool}(hm:cz xa0 target cmp=some r):RO prog 128 [] [lf aU xa0,i6 target,.cfn jQ lT] (.tup [i6 r.1,.bool r.2]):=by
 refine aZ func128 rfl rfl ?_
 unfold cz at hm
 refine qS [] [(0,lf aU xa0),(1,i6 target),(2,.cfn jQ lT)] []<|qDs [(1,hto (lnE aU xa0))] [] [(8,i6 (xa0.length:Int))]<|qDs [] [] [(9,i6 0),(10,i6 (xa0.length:Int))]<|A.seq<|A.block ?_
 obtain⟨F1,n1,hF1,hm⟩:=gw hm
 refine A.lpW (F:=F1) hm (λ(i_1,j_1)=>[(0,lf aU xa0),(1,i6 target),(2,.cfn jQ lT),(8,i6 (xa0.length:Int)),(9,i6 i_1),(10,i6 j_1)]) (λ(i_1,j_1)=>[]) ?_ ?_
 ·exact qW
 rintro Z1 ⟨i_1,j_1⟩ hm
 rw[hF1]at hm
 refine A.seq<|qDs [] [] [(17,.bool (decide (i_1<j_1)))] ?_
 rcases aq hm with⟨c1,hm⟩|⟨c1,hm⟩
 ·refine qT c1<|A.skip<|A.block<|qDs [(4,.sh (1:Int) (by decide))] [17] [(11,i6 (w64 (Int.fdiv (IntKind.wrap .u64 (w64 (i_1+j_1))) (2 ^ min (1:Int).toNat 64))))] ?_
  obtain⟨e_1,h1,hm⟩:=aa hm
  obtain⟨af,h2,hm⟩:=aa hm
  refine qDs [(3,hix (ix aU h1)),(6,hrf (qU _ _ _ h2) qQ)] [] [(31,.bool (decide (af<0)))] ?_
  rcases aq hm with⟨c2,hm⟩|⟨c2,hm⟩
  ·exact qT c2<|qGs [] [9,11,31] [(9,i6 (w64 ((w64 (Int.fdiv (IntKind.wrap .u64 (w64 (i_1+j_1))) (2 ^ min (1:Int).toNat 64)))+(1:Int))))]<|qX (w64 ((w64 (Int.fdiv (IntKind.wrap .u64 (w64 (i_1+j_1))) (2 ^ min (1:Int).toNat 64)))+(1:Int)),j_1) hm
  exact qF c2<|qGs [] [10,11,31] [(10,i6 (w64 (Int.fdiv (IntKind.wrap .u64 (w64 (i_1+j_1))) (2 ^ min (1:Int).toNat 64))))]<|qX (i_1,w64 (Int.fdiv (IntKind.wrap .u64 (w64 (i_1+j_1))) (2 ^ min (1:Int).toNat 64))) hm
 refine qF c1<|A.exit ?_
 rcases aq hm with⟨c3,hm⟩|⟨c3,hm⟩
 ·obtain⟨e_2,h3,hm⟩:=aa hm
  obtain⟨aD,h4,hm⟩:=aa hm
  refine qS [(4,hto (bE c3)),(8,hix (ix aU h3)),(11,hrf (qU _ _ _ h4) qQ)] [(6,i6 i_1),(7,.bool (decide (aD=0)))] [] ?_
  cases hm
  exact A.ret qE
 refine qS [(4,hto (bE c3))] [(6,i6 i_1),(7,.bool false)] [] ?_
 cases hm
 exact A.ret qE
variable {f_c:List AV}{f_g:Nat}
theorem n5{sa0:List aW}{f:aW→Option Bool}(f_k:aQ prog f_g)(f_f:∀(y0:aW) (q:Bool),f y0=some q→RO prog f_g [] ([.agg (k9 y0)]++f_c) (.bool q)){r:Int}(hm:eM sa0 f=some r):RO prog 139 [] [lf aL sa0,.cfn f_g f_c] (i6 r):=by
 refine aZ func139 rfl rfl ?_
 unfold eM at hm
 refine qS [] [(0,lf aL sa0),(1,.cfn f_g f_c)] []<|A.seq<|qDs [(1,hto (lnE aL sa0))] [] [(7,i6 (sa0.length:Int)),(8,i6 0)]<|A.block<|A.bS 0 rfl λhb1=>?_
 obtain⟨B1,K1,hB1,hK1,hm⟩:=bu hm
 refine A.lpI (l:=sa0) (j0:=0) (B:=B1) (K:=K1) hm (λj1=>λ()=>[(0,lf aL sa0),(1,.cfn f_g f_c),(7,i6 (sa0.length:Int)),(8,i6 (j1:Int))]) (λj1=>λ()=>[]) ?_ ?_ ?_
 ·exact qW
 ·rintro j1 e1 Z1 ⟨⟩ hj1 hx1 hm
  rw[hB1]at hm
  refine qDs [] [] [(9,.bool (decide ((j1:Int)<(sa0.length:Int))))]<|A.seq<|qT (ltT hx1)<|A.skip<|A.seq<|A.block<|qDs [] [9] [(5,i6 (j1:Int))] ?_
  obtain⟨af,h1,hm⟩:=aa hm
  refine qDs [(3,hix (ix aL (bf hx1))),(5,hrf (f_f _ _ h1) f_k)] [] [(16,.bool af)] ?_
  rcases aq hm with⟨c1,hm⟩|⟨c1,hm⟩
  ·refine qT c1<|qS [] [(4,i6 (j1:Int))] [] ?_
   cases hm
   exact A.ret qE
  exact qF c1<|A.skip<|qGs [(0,hto (inc hx1 hb1))] [8,5,16] [(8,i6 ((j1+1:Nat):Int))]<|qX () hm
 rintro j1 ⟨⟩ hj1 hl1 hm
 rw[hK1]at hm
 refine qDs [] [] [(9,.bool (decide ((j1:Int)<(sa0.length:Int))))]<|A.seq<|qF (ltF hl1)<|A.exit<|qS [] [(4,i6 (-1))] [] ?_
 cases hm
 exact A.ret qE
theorem l7{sa0:List aR}{f:aR→Option Bool}(f_k:aQ prog f_g)(f_f:∀(y0:aR) (q:Bool),f y0=some q→RO prog f_g [] ([.agg (k10 y0)]++f_c) (.bool q)){r:Int}(hm:dS sa0 f=some r):RO prog 150 [] [lf aJ sa0,.cfn f_g f_c] (i6 r):=by
 refine aZ func150 rfl rfl ?_
 unfold dS at hm
 refine qS [] [(0,lf aJ sa0),(1,.cfn f_g f_c)] []<|A.seq<|qDs [(1,hto (lnE aJ sa0))] [] [(7,i6 (sa0.length:Int)),(8,i6 0)]<|A.block<|A.bS 0 rfl λhb1=>?_
 obtain⟨B1,K1,hB1,hK1,hm⟩:=bu hm
 refine A.lpI (l:=sa0) (j0:=0) (B:=B1) (K:=K1) hm (λj1=>λ()=>[(0,lf aJ sa0),(1,.cfn f_g f_c),(7,i6 (sa0.length:Int)),(8,i6 (j1:Int))]) (λj1=>λ()=>[]) ?_ ?_ ?_
 ·exact qW
 ·rintro j1 e1 Z1 ⟨⟩ hj1 hx1 hm
  rw[hB1]at hm
  refine qDs [] [] [(9,.bool (decide ((j1:Int)<(sa0.length:Int))))]<|A.seq<|qT (ltT hx1)<|A.skip<|A.seq<|A.block<|qDs [] [9] [(5,i6 (j1:Int))] ?_
  obtain⟨af,h1,hm⟩:=aa hm
  refine qDs [(3,hix (ix aJ (bf hx1))),(5,hrf (f_f _ _ h1) f_k)] [] [(16,.bool af)] ?_
  rcases aq hm with⟨c1,hm⟩|⟨c1,hm⟩
  ·refine qT c1<|qS [] [(4,i6 (j1:Int))] [] ?_
   cases hm
   exact A.ret qE
  exact qF c1<|A.skip<|qGs [(0,hto (inc hx1 hb1))] [8,5,16] [(8,i6 ((j1+1:Nat):Int))]<|qX () hm
 rintro j1 ⟨⟩ hj1 hl1 hm
 rw[hK1]at hm
 refine qDs [] [] [(9,.bool (decide ((j1:Int)<(sa0.length:Int))))]<|A.seq<|qF (ltF hl1)<|A.exit<|qS [] [(4,i6 (-1))] [] ?_
 cases hm
 exact A.ret qE
theorem jH{xa0:List aK}{target:aK}{cmp:aK→aK→Option Int}(qQ:aQ prog jQ)(qU:∀(y0:aK) (y1:aK) (q:Int),cmp y0 y1=some q→RO prog jQ [] ([.agg (k1 y0),.agg (k1 y1)]++lT) (i6 q)){r:Int×Bool}(hm:cL xa0 target cmp=some r):RO prog 152 [] [lf az xa0,.agg (k1 target),.cfn jQ lT] (.tup [i6 r.1,.bool r.2]):=by
 refine aZ func152 rfl rfl ?_
 unfold cL at hm
 refine qS [(0,.al 152004)] [(0,lf az xa0),(2,.cfn jQ lT),(4,.ptr 152004 0)] [(152004,.cells 86 (k1 target))]<|qDs [(1,hto (lnE az xa0))] [] [(8,i6 (xa0.length:Int))]<|qDs [] [] [(9,i6 0),(10,i6 (xa0.length:Int))]<|A.seq<|A.block ?_
 obtain⟨F1,n1,hF1,hm⟩:=gw hm
 refine A.lpW (F:=F1) hm (λ(i_1,j_1)=>[(0,lf az xa0),(2,.cfn jQ lT),(4,.ptr 152004 0),(8,i6 (xa0.length:Int)),(9,i6 i_1),(10,i6 j_1)]) (λ(i_1,j_1)=>[(152004,.cells 86 (k1 target))]) ?_ ?_
 ·exact qW
 rintro Z1 ⟨i_1,j_1⟩ hm
 rw[hF1]at hm
 refine A.seq<|qDs [] [] [(17,.bool (decide (i_1<j_1)))] ?_
 rcases aq hm with⟨c1,hm⟩|⟨c1,hm⟩
 ·refine qT c1<|A.skip<|A.block<|qDs [(4,.sh (1:Int) (by decide))] [17] [(11,i6 (w64 (Int.fdiv (IntKind.wrap .u64 (w64 (i_1+j_1))) (2 ^ min (1:Int).toNat 64))))] ?_
  obtain⟨e_1,h1,hm⟩:=aa hm
  obtain⟨af,h2,hm⟩:=aa hm
  refine qDs [(3,hix (ix az h1)),(6,hrf (qU _ _ _ h2) qQ)] [] [(31,.bool (decide (af<0)))] ?_
  rcases aq hm with⟨c2,hm⟩|⟨c2,hm⟩
  ·exact qT c2<|qGs [] [9,11,31] [(9,i6 (w64 ((w64 (Int.fdiv (IntKind.wrap .u64 (w64 (i_1+j_1))) (2 ^ min (1:Int).toNat 64)))+(1:Int))))]<|qX (w64 ((w64 (Int.fdiv (IntKind.wrap .u64 (w64 (i_1+j_1))) (2 ^ min (1:Int).toNat 64)))+(1:Int)),j_1) hm
  exact qF c2<|qGs [] [10,11,31] [(10,i6 (w64 (Int.fdiv (IntKind.wrap .u64 (w64 (i_1+j_1))) (2 ^ min (1:Int).toNat 64))))]<|qX (i_1,w64 (Int.fdiv (IntKind.wrap .u64 (w64 (i_1+j_1))) (2 ^ min (1:Int).toNat 64))) hm
 refine qF c1<|A.exit ?_
 rcases aq hm with⟨c3,hm⟩|⟨c3,hm⟩
 ·obtain⟨e_2,h3,hm⟩:=aa hm
  obtain⟨aD,h4,hm⟩:=aa hm
  refine qS [(4,hto (bE c3)),(8,hix (ix az h3)),(11,hrf (qU _ _ _ h4) qQ)] [(6,i6 i_1),(7,.bool (decide (aD=0)))] [] ?_
  cases hm
  exact A.ret qE
 refine qS [(4,hto (bE c3))] [(6,i6 i_1),(7,.bool false)] [] ?_
 cases hm
 exact A.ret qE
variable {sa0:List Int}
theorem uv{v:Int}{r:Int}(hm:l6 sa0 v=some r):RO prog 159 [] [lf bO sa0,i6 v] (i6 r):=by
 refine aZ func159 rfl rfl ?_
 unfold l6 at hm
 refine qS [] [(0,lf bO sa0),(1,i6 v)] []<|A.seq<|qDs [(1,hto (lnE bO sa0))] [] [(7,i6 (sa0.length:Int)),(8,i6 0)]<|A.block<|A.bS 0 rfl λhb1=>?_
 obtain⟨B1,K1,hB1,hK1,hm⟩:=bu hm
 refine A.lpI (l:=sa0) (j0:=0) (B:=B1) (K:=K1) hm (λj1=>λ()=>[(0,lf bO sa0),(1,i6 v),(7,i6 (sa0.length:Int)),(8,i6 (j1:Int))]) (λj1=>λ()=>[]) ?_ ?_ ?_
 ·exact qW
 ·rintro j1 e1 Z1 ⟨⟩ hj1 hx1 hm
  rw[hB1]at hm
  refine qDs [] [] [(9,.bool (decide ((j1:Int)<(sa0.length:Int))))]<|A.seq<|qT (ltT hx1)<|A.skip<|A.seq<|A.block<|qDs [] [9] [(5,i6 (j1:Int))]<|qDs [(3,hix (ix bO (bf hx1)))] [] [(16,.bool (decide (v=e1)))] ?_
  rcases aq hm with⟨c1,hm⟩|⟨c1,hm⟩
  ·refine qT c1<|qS [] [(4,i6 (j1:Int))] [] ?_
   cases hm
   exact A.ret qE
  exact qF c1<|A.skip<|qGs [(0,hto (inc hx1 hb1))] [8,5,16] [(8,i6 ((j1+1:Nat):Int))]<|qX () hm
 rintro j1 ⟨⟩ hj1 hl1 hm
 rw[hK1]at hm
 refine qDs [] [] [(9,.bool (decide ((j1:Int)<(sa0.length:Int))))]<|A.seq<|qF (ltF hl1)<|A.exit<|qS [] [(4,i6 (-1))] [] ?_
 cases hm
 exact A.ret qE
variable {f:bh→Option Bool}
theorem mT{sa0:List bh}(f_k:aQ prog f_g)(f_f:∀(y0:bh) (q:Bool),f y0=some q→RO prog f_g [] ([.agg (k0 y0)]++f_c) (.bool q)){r:Int}(hm:dZ sa0 f=some r):RO prog 163 [] [lf aU sa0,.cfn f_g f_c] (i6 r):=by
 refine aZ func163 rfl rfl ?_
 unfold dZ at hm
 refine qS [] [(0,lf aU sa0),(1,.cfn f_g f_c)] []<|A.seq<|qDs [(1,hto (lnE aU sa0))] [] [(7,i6 (sa0.length:Int)),(8,i6 0)]<|A.block<|A.bS 0 rfl λhb1=>?_
 obtain⟨B1,K1,hB1,hK1,hm⟩:=bu hm
 refine A.lpI (l:=sa0) (j0:=0) (B:=B1) (K:=K1) hm (λj1=>λ()=>[(0,lf aU sa0),(1,.cfn f_g f_c),(7,i6 (sa0.length:Int)),(8,i6 (j1:Int))]) (λj1=>λ()=>[]) ?_ ?_ ?_
 ·exact qW
 ·rintro j1 e1 Z1 ⟨⟩ hj1 hx1 hm
  rw[hB1]at hm
  refine qDs [] [] [(9,.bool (decide ((j1:Int)<(sa0.length:Int))))]<|A.seq<|qT (ltT hx1)<|A.skip<|A.seq<|A.block<|qDs [] [9] [(5,i6 (j1:Int))] ?_
  obtain⟨af,h1,hm⟩:=aa hm
  refine qDs [(3,hix (ix aU (bf hx1))),(5,hrf (f_f _ _ h1) f_k)] [] [(16,.bool af)] ?_
  rcases aq hm with⟨c1,hm⟩|⟨c1,hm⟩
  ·refine qT c1<|qS [] [(4,i6 (j1:Int))] [] ?_
   cases hm
   exact A.ret qE
  exact qF c1<|A.skip<|qGs [(0,hto (inc hx1 hb1))] [8,5,16] [(8,i6 ((j1+1:Nat):Int))]<|qX () hm
 rintro j1 ⟨⟩ hj1 hl1 hm
 rw[hK1]at hm
 refine qDs [] [] [(9,.bool (decide ((j1:Int)<(sa0.length:Int))))]<|A.seq<|qF (ltF hl1)<|A.exit<|qS [] [(4,i6 (-1))] [] ?_
 cases hm
 exact A.ret qE
theorem n9{sa0:List aK}{f:aK→Option Bool}(f_k:aQ prog f_g)(f_f:∀(y0:aK) (q:Bool),f y0=some q→RO prog f_g [] ([.agg (k1 y0)]++f_c) (.bool q)){r:Int}(hm:eN sa0 f=some r):RO prog 164 [] [lf az sa0,.cfn f_g f_c] (i6 r):=by
 refine aZ func164 rfl rfl ?_
 unfold eN at hm
 refine qS [] [(0,lf az sa0),(1,.cfn f_g f_c)] []<|A.seq<|qDs [(1,hto (lnE az sa0))] [] [(7,i6 (sa0.length:Int)),(8,i6 0)]<|A.block<|A.bS 0 rfl λhb1=>?_
 obtain⟨B1,K1,hB1,hK1,hm⟩:=bu hm
 refine A.lpI (l:=sa0) (j0:=0) (B:=B1) (K:=K1) hm (λj1=>λ()=>[(0,lf az sa0),(1,.cfn f_g f_c),(7,i6 (sa0.length:Int)),(8,i6 (j1:Int))]) (λj1=>λ()=>[]) ?_ ?_ ?_
 ·exact qW
 ·rintro j1 e1 Z1 ⟨⟩ hj1 hx1 hm
  rw[hB1]at hm
  refine qDs [] [] [(9,.bool (decide ((j1:Int)<(sa0.length:Int))))]<|A.seq<|qT (ltT hx1)<|A.skip<|A.seq<|A.block<|qDs [] [9] [(5,i6 (j1:Int))] ?_
  obtain⟨af,h1,hm⟩:=aa hm
  refine qDs [(3,hix (ix az (bf hx1))),(5,hrf (f_f _ _ h1) f_k)] [] [(16,.bool af)] ?_
  rcases aq hm with⟨c1,hm⟩|⟨c1,hm⟩
  ·refine qT c1<|qS [] [(4,i6 (j1:Int))] [] ?_
   cases hm
   exact A.ret qE
  exact qF c1<|A.skip<|qGs [(0,hto (inc hx1 hb1))] [8,5,16] [(8,i6 ((j1+1:Nat):Int))]<|qX () hm
 rintro j1 ⟨⟩ hj1 hl1 hm
 rw[hK1]at hm
 refine qDs [] [] [(9,.bool (decide ((j1:Int)<(sa0.length:Int))))]<|A.seq<|qF (ltF hl1)<|A.exit<|qS [] [(4,i6 (-1))] [] ?_
 cases hm
 exact A.ret qE
theorem mU{sa0:List ai}{f:ai→Option Bool}(f_k:aQ prog f_g)(f_f:∀(y0:ai) (q:Bool),f y0=some q→RO prog f_g [] ([.agg (k7 y0)]++f_c) (.bool q)){r:Int}(hm:ec sa0 f=some r):RO prog 165 [] [lf aM sa0,.cfn f_g f_c] (i6 r):=by
 refine aZ func165 rfl rfl ?_
 unfold ec at hm
 refine qS [] [(0,lf aM sa0),(1,.cfn f_g f_c)] []<|A.seq<|qDs [(1,hto (lnE aM sa0))] [] [(7,i6 (sa0.length:Int)),(8,i6 0)]<|A.block<|A.bS 0 rfl λhb1=>?_
 obtain⟨B1,K1,hB1,hK1,hm⟩:=bu hm
 refine A.lpI (l:=sa0) (j0:=0) (B:=B1) (K:=K1) hm (λj1=>λ()=>[(0,lf aM sa0),(1,.cfn f_g f_c),(7,i6 (sa0.length:Int)),(8,i6 (j1:Int))]) (λj1=>λ()=>[]) ?_ ?_ ?_
 ·exact qW
 ·rintro j1 e1 Z1 ⟨⟩ hj1 hx1 hm
  rw[hB1]at hm
  refine qDs [] [] [(9,.bool (decide ((j1:Int)<(sa0.length:Int))))]<|A.seq<|qT (ltT hx1)<|A.skip<|A.seq<|A.block<|qDs [] [9] [(5,i6 (j1:Int))] ?_
  obtain⟨af,h1,hm⟩:=aa hm
  refine qDs [(3,hix (ix aM (bf hx1))),(5,hrf (f_f _ _ h1) f_k)] [] [(16,.bool af)] ?_
  rcases aq hm with⟨c1,hm⟩|⟨c1,hm⟩
  ·refine qT c1<|qS [] [(4,i6 (j1:Int))] [] ?_
   cases hm
   exact A.ret qE
  exact qF c1<|A.skip<|qGs [(0,hto (inc hx1 hb1))] [8,5,16] [(8,i6 ((j1+1:Nat):Int))]<|qX () hm
 rintro j1 ⟨⟩ hj1 hl1 hm
 rw[hK1]at hm
 refine qDs [] [] [(9,.bool (decide ((j1:Int)<(sa0.length:Int))))]<|A.seq<|qF (ltF hl1)<|A.exit<|qS [] [(4,i6 (-1))] [] ?_
 cases hm
 exact A.ret qE
theorem nC{sa0:List gy}{f:gy→Option Bool}(f_k:aQ prog f_g)(f_f:∀(y0:gy) (q:Bool),f y0=some q→RO prog f_g [] ([.agg (k11 y0)]++f_c) (.bool q)){r:Int}(hm:fO sa0 f=some r):RO prog 170 [] [lf eD sa0,.cfn f_g f_c] (i6 r):=by
 refine aZ func170 rfl rfl ?_
 unfold fO at hm
 refine qS [] [(0,lf eD sa0),(1,.cfn f_g f_c)] []<|A.seq<|qDs [(1,hto (lnE eD sa0))] [] [(7,i6 (sa0.length:Int)),(8,i6 0)]<|A.block<|A.bS 0 rfl λhb1=>?_
 obtain⟨B1,K1,hB1,hK1,hm⟩:=bu hm
 refine A.lpI (l:=sa0) (j0:=0) (B:=B1) (K:=K1) hm (λj1=>λ()=>[(0,lf eD sa0),(1,.cfn f_g f_c),(7,i6 (sa0.length:Int)),(8,i6 (j1:Int))]) (λj1=>λ()=>[]) ?_ ?_ ?_
 ·exact qW
 ·rintro j1 e1 Z1 ⟨⟩ hj1 hx1 hm
  rw[hB1]at hm
  refine qDs [] [] [(9,.bool (decide ((j1:Int)<(sa0.length:Int))))]<|A.seq<|qT (ltT hx1)<|A.skip<|A.seq<|A.block<|qDs [] [9] [(5,i6 (j1:Int))] ?_
  obtain⟨af,h1,hm⟩:=aa hm
  refine qDs [(3,hix (ix eD (bf hx1))),(5,hrf (f_f _ _ h1) f_k)] [] [(16,.bool af)] ?_
  rcases aq hm with⟨c1,hm⟩|⟨c1,hm⟩
  ·refine qT c1<|qS [] [(4,i6 (j1:Int))] [] ?_
   cases hm
   exact A.ret qE
  exact qF c1<|A.skip<|qGs [(0,hto (inc hx1 hb1))] [8,5,16] [(8,i6 ((j1+1:Nat):Int))]<|qX () hm
 rintro j1 ⟨⟩ hj1 hl1 hm
 rw[hK1]at hm
 refine qDs [] [] [(9,.bool (decide ((j1:Int)<(sa0.length:Int))))]<|A.seq<|qF (ltF hl1)<|A.exit<|qS [] [(4,i6 (-1))] [] ?_
 cases hm
 exact A.ret qE
theorem jR{xa0:List ai}{cmp:ai→Int→Option Int}(qQ:aQ prog jQ)(qU:∀(y0:ai) (y1:Int) (q:Int),cmp y0 y1=some q→RO prog jQ [] ([.agg (k7 y0),i6 y1]++lT) (i6 q)){r:Int×Bool}(hm:cR xa0 target cmp=some r):RO prog 174 [] [lf aM xa0,i6 target,.cfn jQ lT] (.tup [i6 r.1,.bool r.2]):=by
 refine aZ func174 rfl rfl ?_
 unfold cR at hm
 refine qS [] [(0,lf aM xa0),(1,i6 target),(2,.cfn jQ lT)] []<|qDs [(1,hto (lnE aM xa0))] [] [(8,i6 (xa0.length:Int))]<|qDs [] [] [(9,i6 0),(10,i6 (xa0.length:Int))]<|A.seq<|A.block ?_
 obtain⟨F1,n1,hF1,hm⟩:=gw hm
 refine A.lpW (F:=F1) hm (λ(i_1,j_1)=>[(0,lf aM xa0),(1,i6 target),(2,.cfn jQ lT),(8,i6 (xa0.length:Int)),(9,i6 i_1),(10,i6 j_1)]) (λ(i_1,j_1)=>[]) ?_ ?_
 ·exact qW
 rintro Z1 ⟨i_1,j_1⟩ hm
 rw[hF1]at hm
 refine A.seq<|qDs [] [] [(17,.bool (decide (i_1<j_1)))] ?_
 rcases aq hm with⟨c1,hm⟩|⟨c1,hm⟩
 ·refine qT c1<|A.skip<|A.block<|qDs [(4,.sh (1:Int) (by decide))] [17] [(11,i6 (w64 (Int.fdiv (IntKind.wrap .u64 (w64 (i_1+j_1))) (2 ^ min (1:Int).toNat 64))))] ?_
  obtain⟨e_1,h1,hm⟩:=aa hm
  obtain⟨af,h2,hm⟩:=aa hm
  refine qDs [(3,hix (ix aM h1)),(6,hrf (qU _ _ _ h2) qQ)] [] [(31,.bool (decide (af<0)))] ?_
  rcases aq hm with⟨c2,hm⟩|⟨c2,hm⟩
  ·exact qT c2<|qGs [] [9,11,31] [(9,i6 (w64 ((w64 (Int.fdiv (IntKind.wrap .u64 (w64 (i_1+j_1))) (2 ^ min (1:Int).toNat 64)))+(1:Int))))]<|qX (w64 ((w64 (Int.fdiv (IntKind.wrap .u64 (w64 (i_1+j_1))) (2 ^ min (1:Int).toNat 64)))+(1:Int)),j_1) hm
  exact qF c2<|qGs [] [10,11,31] [(10,i6 (w64 (Int.fdiv (IntKind.wrap .u64 (w64 (i_1+j_1))) (2 ^ min (1:Int).toNat 64))))]<|qX (i_1,w64 (Int.fdiv (IntKind.wrap .u64 (w64 (i_1+j_1))) (2 ^ min (1:Int).toNat 64))) hm
 refine qF c1<|A.exit ?_
 rcases aq hm with⟨c3,hm⟩|⟨c3,hm⟩
 ·obtain⟨e_2,h3,hm⟩:=aa hm
  obtain⟨aD,h4,hm⟩:=aa hm
  refine qS [(4,hto (bE c3)),(8,hix (ix aM h3)),(11,hrf (qU _ _ _ h4) qQ)] [(6,i6 i_1),(7,.bool (decide (aD=0)))] [] ?_
  cases hm
  exact A.ret qE
 refine qS [(4,hto (bE c3))] [(6,i6 i_1),(7,.bool false)] [] ?_
 cases hm
 exact A.ret qE
theorem gu{v:Int}(hm:fP sa0 v=some r):RO prog 117 [] [lf bO sa0,i6 v] (.bool r):=by
 refine aZ func117 rfl rfl ?_
 unfold fP at hm
 refine qS [] [(0,lf bO sa0),(1,i6 v)] [] ?_
 obtain⟨af,h1,hm⟩:=aa hm
 refine qS [(2,hro (uv h1) asO)] [(4,.bool (decide (0≤af)))] [] ?_
 cases hm
 exact A.ret qE
theorem lW{sa0:List bh}(f_k:aQ prog f_g)(f_f:∀(y0:bh) (q:Bool),f y0=some q→RO prog f_g [] ([.agg (k0 y0)]++f_c) (.bool q))(hm:dy sa0 f=some r):RO prog 124 [] [lf aU sa0,.cfn f_g f_c] (.bool r):=by
 refine aZ func124 rfl rfl ?_
 unfold dy at hm
 refine qS [] [(0,lf aU sa0),(1,.cfn f_g f_c)] [] ?_
 obtain⟨af,h1,hm⟩:=aa hm
 refine qS [(2,hro (mT (f_k:=f_k) (f_f:=f_f) h1) asP)] [(4,.bool (decide (0≤af)))] [] ?_
 cases hm
 exact A.ret qE
theorem fq{sa0:List aK}{f:aK→Option Bool}(f_k:aQ prog f_g)(f_f:∀(y0:aK) (q:Bool),f y0=some q→RO prog f_g [] ([.agg (k1 y0)]++f_c) (.bool q))(hm:cK sa0 f=some r):RO prog 130 [] [lf az sa0,.cfn f_g f_c] (.bool r):=by
 refine aZ func130 rfl rfl ?_
 unfold cK at hm
 refine qS [] [(0,lf az sa0),(1,.cfn f_g f_c)] [] ?_
 obtain⟨af,h1,hm⟩:=aa hm
 refine qS [(2,hro (n9 (f_k:=f_k) (f_f:=f_f) h1) asQ)] [(4,.bool (decide (0≤af)))] [] ?_
 cases hm
 exact A.ret qE
theorem lX{sa0:List ai}{f:ai→Option Bool}(f_k:aQ prog f_g)(f_f:∀(y0:ai) (q:Bool),f y0=some q→RO prog f_g [] ([.agg (k7 y0)]++f_c) (.bool q))(hm:dz sa0 f=some r):RO prog 137 [] [lf aM sa0,.cfn f_g f_c] (.bool r):=by
 refine aZ func137 rfl rfl ?_
 unfold dz at hm
 refine qS [] [(0,lf aM sa0),(1,.cfn f_g f_c)] [] ?_
 obtain⟨af,h1,hm⟩:=aa hm
 refine qS [(2,hro (mU (f_k:=f_k) (f_f:=f_f) h1) asR)] [(4,.bool (decide (0≤af)))] [] ?_
 cases hm
 exact A.ret qE
theorem mG{sa0:List gy}{f:gy→Option Bool}(f_k:aQ prog f_g)(f_f:∀(y0:gy) (q:Bool),f y0=some q→RO prog f_g [] ([.agg (k11 y0)]++f_c) (.bool q))(hm:fB sa0 f=some r):RO prog 145 [] [lf eD sa0,.cfn f_g f_c] (.bool r):=by
 refine aZ func145 rfl rfl ?_
 unfold fB at hm
 refine qS [] [(0,lf eD sa0),(1,.cfn f_g f_c)] [] ?_
 obtain⟨af,h1,hm⟩:=aa hm
 refine qS [(2,hro (nC (f_k:=f_k) (f_f:=f_f) h1) asU)] [(4,.bool (decide (0≤af)))] [] ?_
 cases hm
 exact A.ret qE
theorem iB{n:Int}{least:Int}{most:Int}(hm:jj n least most=some r):RO prog 126 [] [i6 n,i6 least,i6 most] (.bool r):=by
 refine aZ func126 rfl rfl ?_
 unfold jj at hm
 refine qS [] [(0,i6 n),(1,i6 least),(2,i6 most)] []<|A.mid [(6,.bool ((decide (least≤n))&&(decide (n≤most))))] [] (λhk=>?_) ?_
 ·rcases tf (decide (least≤n))with c1|c1
  ·exact qS [(3,hto (bE c1)),(8,hto (pE (q:=decide (n≤most)) c1))] _ _ hk
  exact qS [(3,hto (bE c1)),(8,hto (qn (q:=decide (n≤most)) c1))] _ _ hk
 cases hm
 exact A.ret qE
theorem rK{a:aK}{b:aK}{r:Int}(hm:iF a b=some r):RO prog 134 [] [.agg (k1 a),.agg (k1 b)] (i6 r):=by
 refine aZ func134 rfl rfl ?_
 unfold iF at hm
 refine qS [(0,.al 134002),(1,.al 134003)] [(2,.ptr 134002 0),(3,.ptr 134003 0)] [(134002,.cells 86 (k1 a)),(134003,.cells 86 (k1 b))] ?_
 obtain⟨af,h1,hm⟩:=aa hm
 obtain⟨aD,h2,hm⟩:=aa hm
 obtain⟨aP,h3,hm⟩:=aa hm
 refine qS [(4,hro (gI h1) zM),(9,hro (gI h2) zM),(11,hro (vY h3) aj2)] [(4,i6 aP)] [] ?_
 cases hm
 exact A.ret qE
variable {id:Int}{ra0:bh}
theorem tQ{r:Int}(hm:ko ra0 id=some r):RO prog 129 [] [.agg (k0 ra0),i6 id] (i6 r):=by
 refine aZ func129 rfl rfl ?_
 unfold ko at hm
 refine qS [(0,.al 129002)] [(1,i6 id),(2,.ptr 129002 0)] [(129002,.cells 93 (k0 ra0))] ?_
 obtain⟨af,h1,hm⟩:=aa hm
 refine qS [(3,hro (gI h1) zM)] [(4,i6 af)] [] ?_
 cases hm
 exact A.ret qE
theorem wO(hm:mD ra0=some r):RO prog 125 [] [.agg (k0 ra0)] (.bool r):=by
 refine aZ func125 rfl rfl ?_
 unfold mD at hm
 refine qS [(0,.al 125001)] [(1,.ptr 125001 0)] [(125001,.cells 93 (k0 ra0))] ?_
 obtain⟨af,h1,hm⟩:=aa hm
 refine qS [(2,hro (iB h1) xK)] [(2,.bool (!af))] [] ?_
 cases hm
 exact A.ret qE
variable {l:aK}
theorem wP(hm:jZ l=some r):RO prog 131 [] [.agg (k1 l)] (.bool r):=by
 refine aZ func131 rfl rfl ?_
 unfold jZ at hm
 refine qS [(0,.al 131001)] [(1,.ptr 131001 0)] [(131001,.cells 86 (k1 l))] ?_
 obtain⟨af,h1,hm⟩:=aa hm
 rcases aq hm with⟨c1,hm⟩|⟨c1,hm⟩
 ·refine qS [(2,hro (iB h1) xK),(4,hto (bE c1))] [(2,.bool true)] [] ?_
  cases hm
  exact A.ret qE
 obtain⟨aD,h2,hm⟩:=aa hm
 rcases aq hm with⟨c2,hm⟩|⟨c2,hm⟩
 ·refine qS [(2,hro (iB h1) xK),(4,hto (bE c1)),(7,hro (iB h2) xK),(10,hto (bE c2))] [(2,.bool true)] [] ?_
  cases hm
  exact A.ret qE
 obtain⟨aP,h3,hm⟩:=aa hm
 refine qS [(2,hro (iB h1) xK),(4,hto (bE c1)),(7,hro (iB h2) xK),(10,hto (bE c2)),(13,hro (iB h3) xK)] [(2,.bool (!aP))] [] ?_
 cases hm
 exact A.ret qE
variable {c_0:aA}
theorem nD(hm:iG id c_0=some r):RO prog 127 [] [i6 id,.dU (k2 c_0)] (.bool r):=by
 refine aZ func127 rfl rfl ?_
 unfold iG at hm
 refine qS [] [(0,i6 id),(1,.dU (k2 c_0))] [] ?_
 obtain⟨af,h1,hm⟩:=aa hm
 refine qS [(3,hro (fD (jQ:=129) (lT:=[]) (qQ:=aj0) (qU:=λ_ _ _ h=>tQ h) h1) ajZ)] [(5,.bool af.2)] []<|qS [] [(3,.bool (!af.2))] [] ?_
 cases hm
 exact A.ret qE
theorem wQ(hm:mE l c_0=some r):RO prog 132 [] [.agg (k1 l),.dU [.fn 127 [.dU (k2 c_0)]]] (.bool r):=by
 refine aZ func132 rfl rfl ?_
 unfold mE at hm
 refine qS [(0,.al 132002)] [(1,.dU [.fn 127 [.dU (k2 c_0)]]),(2,.ptr 132002 0)] [(132002,.cells 86 (k1 l))] ?_
 obtain⟨af,h1,hm⟩:=aa hm
 rcases aq hm with⟨c1,hm⟩|⟨c1,hm⟩
 ·refine qS [(3,hle [] (nD h1) age),(4,hto (bE c1))] [(3,.bool true)] [] ?_
  cases hm
  exact A.ret qE
 obtain⟨aD,h2,hm⟩:=aa hm
 refine qS [(3,hle [] (nD h1) age),(4,hto (bE c1)),(8,hle [] (nD h2) age)] [(3,.bool aD)] [] ?_
 cases hm
 exact A.ret qE
theorem wR(hm:mF l=some r):RO prog 133 [] [.agg (k1 l)] (.bool r):=by
 refine aZ func133 rfl rfl ?_
 unfold mF at hm
 refine qS [(0,.al 133001)] [(1,.ptr 133001 0)] [(133001,.cells 86 (k1 l))]<|qS [] [(2,.bool (decide (l.B≤l.A)))] [] ?_
 cases hm
 exact A.ret qE
variable {t:aA}
theorem jx{r:Int}(hm:gz t=some r):RO prog 84 [] [.agg (k2 t)] (i6 r):=by
 refine aZ func84 rfl rfl ?_
 unfold gz at hm
 refine qS [(0,.al 84001)] [(1,.ptr 84001 0)] [(84001,.cells 45 (k2 t))]<|A.seq<|A.block<|A.mid [(1,.ptr 84001 0),(6,.bool ((decide (24<(t.aH.length:Int)))||(decide (60<(t.Links.length:Int)))))] [(84001,.cells 45 (k2 t))] (λhk=>?_) ?_
 ·rcases tf (decide (24<(t.aH.length:Int)))with c1|c1
  ·exact qS [(2,hto (lnE aU t.aH)),(4,hto (bE c1)),(10,hto (orT (q:=decide (60<(t.Links.length:Int))) c1))] _ _ hk
  exact qS [(2,hto (lnE aU t.aH)),(4,hto (bE c1)),(7,hto (lnE az t.Links)),(10,hto (orF (q:=decide (60<(t.Links.length:Int))) c1))] _ _ hk
 rcases aq hm with⟨c2,hm⟩|⟨c2,hm⟩
 ·refine qT c2<|qS [] [(2,i6 3)] [] ?_
  cases hm
  exact A.ret qE
 refine qF c2 ?_
 obtain⟨af,h1,hm⟩:=aa hm
 refine qDs [(2,hro (lW (f_g:=125) (f_c:=[]) (f_k:=asw) (f_f:=λ_ _ h=>wO h) h1) asv)] [6] [(17,.bool af)] ?_
 rcases aq hm with⟨c3,hm⟩|⟨c3,hm⟩
 ·refine qT c3<|qS [] [(2,i6 2)] [] ?_
  cases hm
  exact A.ret qE
 refine qF c3<|A.skip<|A.seq<|qDs [(2,hto (lnE aU t.aH))] [17] [(23,i6 (t.aH.length:Int)),(24,i6 0)]<|A.block<|A.bC 1 0 rfl rfl rfl λhb1=>?_
 obtain⟨B1,K1,hB1,hK1,hm⟩:=bu hm
 refine A.lpI (l:=t.aH) (j0:=0) (B:=B1) (K:=K1) hm (λj1=>λ()=>[(1,.ptr 84001 0),(23,i6 (t.aH.length:Int)),(24,i6 (j1:Int))]) (λj1=>λ()=>[(84001,.cells 45 (k2 t))]) ?_ ?_ ?_
 ·exact qW
 ·rintro j1 e1 Z1 ⟨⟩ hj1 hx1 hm
  rw[hB1]at hm
  refine qDs [] [] [(25,.bool (decide ((j1:Int)<(t.aH.length:Int))))]<|A.seq<|qT (ltT hx1)<|A.skip<|A.seq<|A.block<|qDs [] [25] [(3,i6 (j1:Int))] ?_
  obtain⟨J1,hJ1,hm⟩:=bI hm
  refine A.J (J:=J1) (r:=r) (λv_1=>[(1,.ptr 84001 0),(23,i6 (t.aH.length:Int)),(24,i6 (j1:Int)),(44,.bool v_1)]) (λv_1=>[(84001,.cells 45 (k2 t))]) ?_ ?_
  ·rcases aq hm with⟨c4,hm⟩|⟨c4,hm⟩
   ·obtain⟨e_1,h2,hm⟩:=aa hm
    exact qGs [(2,hto (bE c4)),(7,hix (ix aU h2)),(13,hix (ix aU (bf hx1)))] [3] [(44,.bool (decide (e1.ID≤e_1.ID)))]<|qX (decide (e1.ID≤e_1.ID)) hm
   exact qGs [(2,hto (bE c4))] [3] [(44,.bool false)]<|qX false hm
  rintro v_1 hm
  rw[hJ1]at hm
  rcases aq hm with⟨c5,hm⟩|⟨c5,hm⟩
  ·refine qT c5<|qS [] [(2,i6 25)] [] ?_
   cases hm
   exact A.ret qE
  exact qF c5<|A.skip<|qGs [(0,hto (inc hx1 hb1))] [24,44] [(24,i6 ((j1+1:Nat):Int))]<|qX () hm
 rintro j1 ⟨⟩ hj1 hl1 hm
 rw[hK1]at hm
 refine qDs [] [] [(25,.bool (decide ((j1:Int)<(t.aH.length:Int))))]<|A.seq<|qF (ltF hl1)<|A.exit<|qD [(1,.al 84004)] [23,24,25] [(4,.ptr 84004 0)] [] [(84004,.cells 84 [.fn 127 [.ptr 84001 0]])]<|A.seq<|A.block ?_
 obtain⟨aD,h3,hm⟩:=aa hm
 refine qDs [(2,hro (fq (f_g:=131) (f_c:=[]) (f_k:=asx) (f_f:=λ_ _ h=>wP h) h3) agf)] [] [(47,.bool aD)] ?_
 rcases aq hm with⟨c6,hm⟩|⟨c6,hm⟩
 ·refine qT c6<|qS [] [(2,i6 2)] [] ?_
  cases hm
  exact A.ret qE
 refine qF c6 ?_
 obtain⟨aP,h4,hm⟩:=aa hm
 refine qD [(3,hle [84004,84001] (fq (f_g:=132) (f_c:=[.dU [.fn 127 [.dU (k2 t)]]]) (f_k:=asy) (f_f:=λ_ _ h=>wQ h) h4) agf)] [4,47] [(51,.bool aP)] [84004] [] ?_
 rcases aq hm with⟨c7,hm⟩|⟨c7,hm⟩
 ·refine qT c7<|qS [] [(2,i6 4)] [] ?_
  cases hm
  exact A.ret qE
 refine qF c7 ?_
 obtain⟨bt,h5,hm⟩:=aa hm
 refine qDs [(2,hro (fq (f_g:=133) (f_c:=[]) (f_k:=asz) (f_f:=λ_ _ h=>wR h) h5) agf)] [51] [(56,.bool bt)] ?_
 rcases aq hm with⟨c8,hm⟩|⟨c8,hm⟩
 ·refine qT c8<|qS [] [(2,i6 8)] [] ?_
  cases hm
  exact A.ret qE
 refine qF c8<|A.skip<|A.seq<|qDs [(2,hto (lnE az t.Links))] [56] [(62,i6 (t.Links.length:Int)),(63,i6 0)]<|A.block<|A.bC 1 1 rfl rfl rfl λhb2=>?_
 obtain⟨B2,K2,hB2,hK2,hm⟩:=bu hm
 refine A.lpI (l:=t.Links) (j0:=0) (B:=B2) (K:=K2) hm (λj2=>λ()=>[(1,.ptr 84001 0),(62,i6 (t.Links.length:Int)),(63,i6 (j2:Int))]) (λj2=>λ()=>[(84001,.cells 45 (k2 t))]) ?_ ?_ ?_
 ·exact qW
 ·rintro j2 e2 Z2 ⟨⟩ hj2 hx2 hm
  rw[hB2]at hm
  refine qDs [] [] [(64,.bool (decide ((j2:Int)<(t.Links.length:Int))))]<|A.seq<|qT (ltT hx2)<|A.skip<|A.seq<|A.block<|qDs [] [64] [(5,i6 (j2:Int))] ?_
  obtain⟨J2,hJ2,hm⟩:=bI hm
  refine A.J (J:=J2) (r:=r) (λv_2=>[(1,.ptr 84001 0),(62,i6 (t.Links.length:Int)),(63,i6 (j2:Int)),(82,.bool v_2)]) (λv_2=>[(84001,.cells 45 (k2 t))]) ?_ ?_
  ·rcases aq hm with⟨c9,hm⟩|⟨c9,hm⟩
   ·obtain⟨e_2,h6,hm⟩:=aa hm
    obtain⟨bF,h7,hm⟩:=aa hm
    exact qGs [(2,hto (bE c9)),(7,hix (ix az h6)),(12,hix (ix az (bf hx2))),(14,hro (rK h7) aj1)] [5] [(82,.bool (decide (0≤bF)))]<|qX (decide (0≤bF)) hm
   exact qGs [(2,hto (bE c9))] [5] [(82,.bool false)]<|qX false hm
  rintro v_2 hm
  rw[hJ2]at hm
  rcases aq hm with⟨c10,hm⟩|⟨c10,hm⟩
  ·refine qT c10<|qS [] [(2,i6 25)] [] ?_
   cases hm
   exact A.ret qE
  exact qF c10<|A.skip<|qGs [(0,hto (inc hx2 hb2))] [63,82] [(63,i6 ((j2+1:Nat):Int))]<|qX () hm
 rintro j2 ⟨⟩ hj2 hl2 hm
 rw[hK2]at hm
 refine qDs [] [] [(64,.bool (decide ((j2:Int)<(t.Links.length:Int))))]<|A.seq<|qF (ltF hl2)<|A.exit<|qS [] [(2,i6 0)] [] ?_
 cases hm
 exact A.ret qE
theorem hU(hm:gA t=some r):RO prog 151 [] [.agg (k2 t)] (.bool r):=by
 refine aZ func151 rfl rfl ?_
 unfold gA at hm
 refine qS [(0,.al 151001)] [(1,.ptr 151001 0)] [(151001,.cells 45 (k2 t))] ?_
 obtain⟨af,h1,hm⟩:=aa hm
 refine qS [(1,hro (jx h1) ad5)] [(2,.bool (decide (af=0)))] [] ?_
 cases hm
 exact A.ret qE
variable {aN:Int}
theorem tT{r:bh×Bool}(hm:kr t aN=some r):RO prog 158 [] [.agg (k2 t),i6 aN] (.tup [.agg (k0 r.1),.bool r.2]):=by
 refine aZ func158 rfl rfl ?_
 unfold kr at hm
 refine qS [(0,.al 158002),(1,.al 158004)] [(1,i6 aN),(2,.ptr 158002 0),(4,.ptr 158004 0)] [(158002,.cells 45 (k2 t)),(158004,.cells 93 [i6 0,.bool false])] ?_
 obtain⟨af,h1,hm⟩:=aa hm
 refine qDs [(3,hro (fD (jQ:=129) (lT:=[]) (qQ:=aj0) (qU:=λ_ _ _ h=>tQ h) h1) ajZ)] [1] [(6,i6 af.1),(7,.bool af.2)]<|A.seq<|qDs [] [7] [(16,.bool (!af.2))] ?_
 rcases aq hm with⟨c1,hm⟩|⟨c1,hm⟩
 ·refine qT c1<|qD [] [2,6,16] [(5,.bool false)] [158002] [] ?_
  cases hm
  exact A.ret qE
 refine qF c1<|A.skip ?_
 obtain⟨e_1,h2,hm⟩:=aa hm
 refine qS [(3,hix (ix aU h2))] [(4,.ptr 158004 0),(5,.bool true)] [(158004,.cells 93 (k0 e_1))] ?_
 cases hm
 exact A.ret qE
theorem gV(hm:iH t aN=some r):RO prog 116 [] [.agg (k2 t),i6 aN] (.bool r):=by
 refine aZ func116 rfl rfl ?_
 unfold iH at hm
 refine qS [(0,.al 116002)] [(1,i6 aN),(2,.ptr 116002 0)] [(116002,.cells 45 (k2 t))] ?_
 obtain⟨af,h1,hm⟩:=aa hm
 refine qDs [(2,hro (tT h1) aj4),(6,.al 116005)] [1] [(6,.bool af.2)] ?_
 obtain⟨aD,h2,hm⟩:=aa hm
 rcases aq hm with⟨c1,hm⟩|⟨c1,hm⟩
 ·refine qS [(1,hro (hU h2) zN),(2,hto (bE c1))] [(4,.bool af.2)] [] ?_
  cases hm
  exact A.ret qE
 refine qS [(1,hro (hU h2) zN),(2,hto (bE c1))] [(4,.bool false)] [] ?_
 cases hm
 exact A.ret qE
theorem wS(hm:j7 t aN=some r):RO prog 157 [] [.agg (k2 t),i6 aN] (.bool r):=by
 refine aZ func157 rfl rfl ?_
 unfold j7 at hm
 refine qS [(0,.al 157002)] [(1,i6 aN),(2,.ptr 157002 0)] [(157002,.cells 45 (k2 t))] ?_
 obtain⟨af,h1,hm⟩:=aa hm
 refine qD [(2,hro (tT h1) aj4),(6,.al 157005)] [1] [(5,.ptr 157005 0)] [] [(157005,.cells 93 (k0 af.1))] ?_
 obtain⟨aD,h2,hm⟩:=aa hm
 rcases aq hm with⟨c1,hm⟩|⟨c1,hm⟩
 ·refine qS [(1,hro (hU h2) zN),(2,hto (bE c1))] [(4,.bool af.1.aX)] [] ?_
  cases hm
  exact A.ret qE
 refine qS [(1,hro (hU h2) zN),(2,hto (bE c1))] [(4,.bool false)] [] ?_
 cases hm
 exact A.ret qE
theorem tU{eG:Int}{jY:Int}{r:Int×Bool}(hm:ja t eG jY=some r):RO prog 102 [] [.agg (k2 t),i6 eG,i6 jY] (.tup [i6 r.1,.bool r.2]):=by
 refine aZ func102 rfl rfl ?_
 unfold ja at hm
 refine qS [(0,.al 102003)] [(1,i6 eG),(2,i6 jY),(3,.ptr 102003 0)] [(102003,.cells 45 (k2 t))]<|A.seq ?_
 obtain⟨af,h1,hm⟩:=aa hm
 refine qDs [(1,hro (hU h1) zN)] [] [(12,.bool (!af))] ?_
 rcases aq hm with⟨c1,hm⟩|⟨c1,hm⟩
 ·refine qT c1<|qS [] [(6,i6 0),(7,.bool false)] [] ?_
  cases hm
  exact A.ret qE
 refine qF c1<|A.skip ?_
 obtain⟨aD,h2,hm⟩:=aa hm
 refine qDs [(9,hro (jH (jQ:=134) (lT:=[]) (qQ:=aj1) (qU:=λ_ _ _ h=>rK h) h2) asL)] [12] [(8,i6 aD.1),(9,.bool aD.2)]<|A.seq<|A.block<|qDs [] [9] [(26,.bool (!aD.2))] ?_
 rcases aq hm with⟨c2,hm⟩|⟨c2,hm⟩
 ·refine qT c2<|qS [] [(6,i6 0),(7,.bool false)] [] ?_
  cases hm
  exact A.ret qE
 refine qF c2<|qDs [] [1,2,26] [(29,.bool (decide (eG<jY)))] ?_
 rcases aq hm with⟨c3,hm⟩|⟨c3,hm⟩
 ·refine qT c3 ?_
  obtain⟨e_1,h3,hm⟩:=aa hm
  refine qS [(3,hix (ix az h3))] [(6,i6 e_1.iX),(7,.bool true)] [] ?_
  cases hm
  exact A.ret qE
 refine qF c3<|A.skip ?_
 obtain⟨e_2,h4,hm⟩:=aa hm
 refine qS [(3,hix (ix az h4))] [(6,i6 e_2.iL),(7,.bool true)] [] ?_
 cases hm
 exact A.ret qE
end Go.Proofs.YtjdopimopgpagaaGreat
