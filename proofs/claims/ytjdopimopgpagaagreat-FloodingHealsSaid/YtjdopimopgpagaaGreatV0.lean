/- The eN of cu of the program. No condition but bH bq stand in each. -/
import Derived.Test.YtjdopimopgpagaaGreatDA
namespace Go.Proofs.YtjdopimopgpagaaGreat
open Go Go.Proofs.Tryz
set_option maxRecDepth 100000
set_option linter.all false
theorem lT{l:List Int}{n:Int}{r:Bool}(hm:nw l n=some r):RO prog 78 [] [lf bK l,i6 n] (.bool r):=by
 refine aZ func78 rfl rfl ?_
 unfold nw at hm
 refine qS [] [(0,lf bK l),(1,i6 n)] []<|A.seq<|qDs [] [] [(5,i6 0)]<|A.block<|A.bS 0 rfl λhb1=>?_
 obtain⟨B1,K1,hB1,hK1,hm⟩:=bF hm
 refine A.lpI (l:=l) (j0:=0) (B:=B1) (K:=K1) hm (λj1=>λ()=>[(0,lf bK l),(1,i6 n),(5,i6 (j1:Int))]) (λj1=>λ()=>[]) ?_ ?_ ?_
 ·exact qW
 ·rintro j1 e1 Z1 ⟨⟩ hj1 hx1 hm
  rw[hB1]at hm
  refine A.seq<|qDs [(2,hto (lnE bK l))] [] [(9,.bool (decide ((j1:Int)<(l.length:Int))))] ?_
  refine qT (ltT hx1)<|A.skip<|A.seq<|A.block<|qDs [(2,hix (ix bK (bh hx1)))] [9] [(17,.bool (decide (e1=n)))] ?_
  rcases az hm with⟨c1,hm⟩|⟨c1,hm⟩
  ·refine qT c1<|qS [] [(4,.bool true)] [] ?_
   cases hm
   exact A.ret qE
  exact qF c1<|A.skip<|qGs [(1,hto (inc hx1 hb1))] [5,17] [(5,i6 ((j1+1:Nat):Int))]<|qX () hm
 rintro j1 ⟨⟩ hj1 hl1 hm
 rw[hK1]at hm
 refine A.seq<|qDs [(2,hto (lnE bK l))] [] [(9,.bool (decide ((j1:Int)<(l.length:Int))))] ?_
 refine qF (ltF hl1)<|A.exit<|qS [] [(4,.bool false)] [] ?_
 cases hm
 exact A.ret qE
end Go.Proofs.YtjdopimopgpagaaGreat
