/- The eD of cw of the program. No condition but bK bu stand in each. -/
import Derived.Test.YtjdopimopgpagaaGreatDA
namespace Go.Proofs.YtjdopimopgpagaaGreat
open Go Go.Proofs.Tryz
set_option maxRecDepth 100000
set_option linter.all false
variable {l:List Int}
theorem fU{n:Int}{r:Bool}(hm:iz l n=some r):RO prog 78 [] [lf bg l,i6 n] (.bool r):=by
 refine aY func78 rfl rfl ?_
 unfold iz at hm
 refine qS [] [(0,lf bg l),(1,i6 n)] []<|A.seq<|qDs [] [] [(5,i6 0)]<|A.block<|A.bS 0 rfl λhb1=>?_
 obtain⟨B1,K1,hB1,hK1,hm⟩:=bw hm
 refine A.lpI (l:=l) (j0:=0) (B:=B1) (K:=K1) hm (λj1=>λ()=>[(0,lf bg l),(1,i6 n),(5,i6 (j1:Int))]) (λj1=>λ()=>[]) ?_ ?_ ?_
 ·exact qW
 ·rintro j1 e1 Z1 ⟨⟩ hj1 hx1 hm
  rw[hB1]at hm
  refine A.seq<|qDs [(2,hto (lnE bg l))] [] [(9,.bool (decide ((j1:Int)<(l.length:Int))))] ?_
  refine qT (ltT hx1)<|A.skip<|A.seq<|A.block<|qDs [(2,hix (ix bg (aV hx1)))] [9] [(17,.bool (decide (e1=n)))] ?_
  rcases aq hm with⟨c1,hm⟩|⟨c1,hm⟩
  ·refine qT c1<|qS [] [(4,.bool true)] [] ?_
   cases hm
   exact A.ret qE
  exact qF c1<|A.skip<|qGs [(1,hto (inc hx1 hb1))] [5,17] [(5,i6 ((j1+1:Nat):Int))]<|qX () hm
 rintro j1 ⟨⟩ hj1 hl1 hm
 rw[hK1]at hm
 refine A.seq<|qDs [(2,hto (lnE bg l))] [] [(9,.bool (decide ((j1:Int)<(l.length:Int))))] ?_
 refine qF (ltF hl1)<|A.exit<|qS [] [(4,.bool false)] [] ?_
 cases hm
 exact A.ret qE
theorem aaa{n:Int}{r:(List Int)}(hm:nB l n=some r):RO prog 81 [] [lf bg l,i6 n] (lf bg r):=by
 refine aY func81 rfl rfl ?_
 unfold nB at hm
 refine qS [] [(0,lf bg l),(1,i6 n)] []<|qDs [] [] [(5,i6 0)]<|A.seq<|A.block ?_
 obtain⟨F1,n1,hF1,hm⟩:=gZ hm
 refine A.lpW (F:=F1) hm (λfR=>[(0,lf bg l),(1,i6 n),(5,i6 fR)]) (λfR=>[]) ?_ ?_
 ·exact qW
 rintro Z1 fR hm
 rw[hF1]at hm
 refine A.seq ?_
 obtain⟨J1,hJ1,hm⟩:=bN hm
 refine A.J (J:=J1) (r:=r) (λv_1=>[(0,lf bg l),(1,i6 n),(5,i6 fR),(18,.bool v_1)]) (λv_1=>[]) ?_ ?_
 ·rcases aq hm with⟨c1,hm⟩|⟨c1,hm⟩
  ·obtain⟨e_1,h1,hm⟩:=aa hm
   exact qGs [(2,hto (lnE bg l)),(4,hto (bE c1)),(7,hix (ix bg h1))] [] [(18,.bool (decide (e_1<n)))]<|qX (decide (e_1<n)) hm
  exact qGs [(2,hto (lnE bg l)),(4,hto (bE c1))] [] [(18,.bool false)]<|qX false hm
 rintro v_1 hm
 rw[hJ1]at hm
 rcases aq hm with⟨c2,hm⟩|⟨c2,hm⟩
 ·exact qT c2<|A.skip<|A.block<|qGs [] [5,18] [(5,i6 (w64 (fR+1)))]<|qX (w64 (fR+1)) hm
 refine qF c2<|A.exit<|A.seq ?_
 obtain⟨J2,hJ2,hm⟩:=bN hm
 refine A.J (J:=J2) (r:=r) (λv_2=>[(0,lf bg l),(1,i6 n),(5,i6 fR),(32,.bool v_2)]) (λv_2=>[]) ?_ ?_
 ·rcases aq hm with⟨c3,hm⟩|⟨c3,hm⟩
  ·obtain⟨e_2,h2,hm⟩:=aa hm
   exact qGs [(2,hto (lnE bg l)),(4,hto (bE c3)),(7,hix (ix bg h2))] [18] [(32,.bool (decide (e_2=n)))]<|qX (decide (e_2=n)) hm
  exact qGs [(2,hto (lnE bg l)),(4,hto (bE c3))] [18] [(32,.bool false)]<|qX false hm
 rintro v_2 hm
 rw[hJ2]at hm
 rcases aq hm with⟨c4,hm⟩|⟨c4,hm⟩
 ·refine qT c4<|qS [] [(4,lf bg l)] [] ?_
  cases hm
  exact A.ret qE
 refine qF c4<|A.skip<|qDs [] [32] [(6,.aI)] ?_
 obtain⟨l_1,h3,hm⟩:=aa hm
 obtain⟨l_2,h4,hm⟩:=aa hm
 refine qD [(3,hsl (sl bg h3)),(4,hap 81538 (ap bg (bytes:=8) (by decide) h4))] [6] [(6,.own 81538)] [] [(81538,.slice 3 1 (ml bg l_2) 0 false)] ?_
 obtain⟨l_3,h5,hm⟩:=aa hm
 refine qD [(3,hap 81542 (ap bg (bytes:=8) (by decide) h5))] [1,6] [(6,.own 81542)] [81538] [(81542,.slice 3 1 (ml bg l_3) 0 false)] ?_
 obtain⟨l_4,h6,hm⟩:=aa hm
 obtain⟨l_5,h7,hm⟩:=aa hm
 refine qS [(3,hsl (aog bg h6)),(4,hap 81547 (ap bg (bytes:=8) (by decide) h7))] [(4,.own 81547)] [(81547,.slice 3 1 (ml bg l_5) 0 false)]<|A.ret ?_
 obtain rfl:=some_inj hm
 exact A.fin W0 [.fz [81547]] rfl (by kernel_rfl)
end Go.Proofs.YtjdopimopgpagaaGreat
