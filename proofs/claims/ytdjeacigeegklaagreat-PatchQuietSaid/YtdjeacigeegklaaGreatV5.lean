/- The iJ of ez of the program. No condition but bK bn stand in each. -/
import Derived.Test.YtdjeacigeegklaaGreatV4
import Derived.Test.YtdjeacigeegklaaGreatSO
namespace Go.Proofs.YtdjeacigeegklaaGreat
open Go Go.Proofs.Tryz
set_option maxRecDepth 100000
set_option linter.all false
variable {aN:Int}{r:(List Int)}{t:aa}
theorem qe(hm:gY t aN=some r):RO prog 160 [] [.agg (k2 t),i6 aN] (lf aA r):=by
 refine aY func160 rfl rfl ?_
 unfold gY at hm
 refine qS [(0,.al 160002)] [(1,i6 aN),(2,.ptr 160002 0)] [(160002,.cells 28 (k2 t))]<|qDs [] [] [(5,.aO)]<|A.seq<|qD [(2,hto (lnE aT t.Links))] [2] [(9,lf aT t.Links),(10,i6 (t.Links.length:Int)),(11,i6 0)] [160002] []<|A.block<|A.bS 9 rfl λhb1=>?_
 obtain⟨B1,K1,hB1,hK1,hm⟩:=bq hm
 refine A.lpI (l:=t.Links) (j0:=0) (B:=B1) (K:=K1) hm (λj1=>λaZ=>[(1,i6 aN),(5,.own 600160005),(9,lf aT t.Links),(10,i6 (t.Links.length:Int)),(11,i6 (j1:Int))]) (λj1=>λaZ=>[(600160005,.slice 3 1 (ml aA aZ) 0 false)]) ?_ ?_ ?_
 ·exact bt.go [.ad 5 600160005 3 1] [] (by kernel_rfl)
 ·rintro j1 e1 Z1 aZ hj1 hx1 hm
  rw[hB1]at hm
  refine qDs [] [] [(12,.bool (decide ((j1:Int)<(t.Links.length:Int))))]<|A.seq<|qT (ltT hx1)<|A.skip ?_
  obtain⟨J1,hJ1,hm⟩:=bZ hm
  refine A.J (J:=J1) (r:=r) (λcQ=>[(1,i6 aN),(5,.own 600160005),(9,lf aT t.Links),(10,i6 (t.Links.length:Int)),(11,i6 (j1:Int))]) (λcQ=>[(600160005,.slice 3 1 (ml aA cQ) 0 false)]) ?_ ?_
  ·refine A.block<|qD [(0,hix (ix aT (bA hx1))),(2,.al 160007)] [12] [(7,.ptr 160007 0)] [] [(160007,.cells 89 (k1 e1))] ?_
   refine qDs [] [] [(15,i6 aN)]<|A.block<|qDs [] [] [(16,.bool (decide (aN=e1.A)))] ?_
   rcases ak hm with⟨c1,hm⟩|⟨c1,hm⟩
   ·refine qT c1 ?_
    obtain⟨l_1,h1,hm⟩:=af hm
    exact qG [(4,hap 160524 (ap aA (bytes:=8) (by decide) h1))] [5,7,15,16] [(5,.own 160524)] [600160005,160007] [(160524,.slice 3 1 (ml aA l_1) 0 false)]<|Exists.intro l_1 (And.intro hm (bt.go [.sw 160524 600160005] [] (by kernel_rfl)))
   refine qF c1<|qDs [] [15,16] [(25,.bool (decide (aN=e1.B)))] ?_
   rcases ak hm with⟨c2,hm⟩|⟨c2,hm⟩
   ·refine qT c2 ?_
    obtain⟨l_2,h2,hm⟩:=af hm
    exact qG [(4,hap 160533 (ap aA (bytes:=8) (by decide) h2))] [5,7,25] [(5,.own 160533)] [600160005,160007] [(160533,.slice 3 1 (ml aA l_2) 0 false)]<|Exists.intro l_2 (And.intro hm (bt.go [.sw 160533 600160005] [] (by kernel_rfl)))
   exact qF c2<|A.skip<|qX aZ hm
  rintro cQ hm
  rw[hJ1]at hm
  exact qGs [(0,hto (inc hx1 hb1))] [11] [(11,i6 ((j1+1:Nat):Int))]<|qX cQ hm
 rintro j1 aZ hj1 hl1 hm
 rw[hK1]at hm
 refine qDs [] [] [(12,.bool (decide ((j1:Int)<(t.Links.length:Int))))]<|A.seq<|qF (ltF hl1)<|A.exit ?_
 obtain⟨h3,hm⟩:=eE hm
 refine qS [(1,hdc [] (afX (d:=600160005) (T:=3) aZ (of_decide_eq_true h3)) ano)] [(5,.own 600160005)] [(600160005,.slice 3 1 (ml aA (jC aZ)) 0 false)]<|qDs [] [5] [(4,.own 600160005)]<|A.ret ?_
 obtain rfl:=some_inj hm
 exact A.fin W0 [.fz [600160005]] rfl (by kernel_rfl)
theorem wL:∀(n_:Nat) {ra0:Int} {xD:List Int} {vY:List Int} {vZ:List aQ} {v7:List aW} {r:(List Int)} (hm:iq n_ ra0 xD vY vZ v7=some r),dN prog 159 [(800159000,.cells 22 [.own 800159500]),(800159001,.cells 22 [lf aA vY]),(800159002,.cells 28 [lf aI vZ,lf aT v7]),(800159003,.cells 215 [.fn 159 [.ptr 800159000 0,.ptr 800159001 0,.ptr 800159002 0,.ptr 800159003 0]]),(800159500,.slice 3 1 (ml aA xD) 0 false)] [i6 ra0,.ptr 800159000 0,.ptr 800159001 0,.ptr 800159002 0,.ptr 800159003 0] (λa σ'=>a=.tup []∧σ'=[(800159000,.cells 22 [.own 800159501]),(800159001,.cells 22 [lf aA vY]),(800159002,.cells 28 [lf aI vZ,lf aT v7]),(800159003,.cells 215 [.fn 159 [.ptr 800159000 0,.ptr 800159001 0,.ptr 800159002 0,.ptr 800159003 0]]),(800159501,.slice 3 1 (ml aA r) 0 false)]):=by
 intro n_
 induction n_ with
 |zero=>intros;rename_i hm;cases hm
 |succ n_ ih=>
 intro ra0 xD vY vZ v7 r hm
 refine aY func159 rfl rfl ?_
 rw[iq]at hm
 refine A.seq ?_
 obtain⟨J1,hJ1,hm⟩:=bZ hm
 refine A.J (J:=J1) (r:=r) (λv_1=>[(0,i6 ra0),(1,.ptr 800159000 0),(3,.ptr 800159002 0),(4,.ptr 800159003 0),(15,.bool v_1)]) (λv_1=>[(800159000,.cells 22 [.own 800159500]),(800159001,.cells 22 [lf aA vY]),(800159002,.cells 28 [lf aI vZ,lf aT v7]),(800159003,.cells 215 [.fn 159 [.ptr 800159000 0,.ptr 800159001 0,.ptr 800159002 0,.ptr 800159003 0]]),(800159500,.slice 3 1 (ml aA xD) 0 false)]) ?_ ?_
 ·obtain⟨ai,h1,hm⟩:=af hm
  rcases ak hm with⟨c1,hm⟩|⟨c1,hm⟩
  ·exact qR [(2,hle [800159500] (bR h1) qC),(3,hto (bE c1))] [(0,i6 ra0),(1,.ptr 800159000 0),(3,.ptr 800159002 0),(4,.ptr 800159003 0),(15,.bool true)] [(800159000,.cells 22 [.own 800159500]),(800159001,.cells 22 [lf aA vY]),(800159002,.cells 28 [lf aI vZ,lf aT v7]),(800159003,.cells 215 [.fn 159 [.ptr 800159000 0,.ptr 800159001 0,.ptr 800159002 0,.ptr 800159003 0]]),(800159500,.slice 3 1 (ml aA xD) 0 false)]<|qX true hm
  obtain⟨aD,h2,hm⟩:=af hm
  exact qR [(2,hle [800159500] (bR h1) qC),(3,hto (bE c1)),(6,hro (bR h2) qC)] [(0,i6 ra0),(1,.ptr 800159000 0),(3,.ptr 800159002 0),(4,.ptr 800159003 0),(15,.bool aD)] [(800159000,.cells 22 [.own 800159500]),(800159001,.cells 22 [lf aA vY]),(800159002,.cells 28 [lf aI vZ,lf aT v7]),(800159003,.cells 215 [.fn 159 [.ptr 800159000 0,.ptr 800159001 0,.ptr 800159002 0,.ptr 800159003 0]]),(800159500,.slice 3 1 (ml aA xD) 0 false)]<|qX aD hm
 rintro v_1 hm
 rw[hJ1]at hm
 rcases ak hm with⟨c2,hm⟩|⟨c2,hm⟩
 ·refine qT c2<|A.ret ?_
  obtain rfl:=some_inj hm
  exact A.fin W0 [.rn 800159500 800159501] rfl (by kernel_rfl)
 refine qF c2<|A.skip ?_
 obtain⟨l_1,h3,hm⟩:=af hm
 refine qD [(3,hap 159519 (ap aA (bytes:=8) (by decide) h3))] [1,15] [] [800159000,800159500] [(800159000,.cells 22 [.own 159519]),(159519,.slice 3 1 (ml aA l_1) 0 false)] ?_
 obtain⟨aX,h4,hm⟩:=af hm
 refine qDs [(2,hro (qe h4) anr),(3,hto (lnE aA aX))] [0,3] [(22,lf aA aX),(23,i6 (aX.length:Int)),(24,i6 0)]<|A.block<|A.bS 22 rfl λhb1=>?_
 obtain⟨B1,K1,hB1,hK1,hm⟩:=bq hm
 refine A.lpI (l:=aX) (j0:=0) (B:=B1) (K:=K1) hm (λj1=>λm_1=>[(4,.ptr 800159003 0),(22,lf aA aX),(23,i6 (aX.length:Int)),(24,i6 (j1:Int))]) (λj1=>λm_1=>[(800159000,.cells 22 [.own 715900000]),(800159001,.cells 22 [lf aA vY]),(800159002,.cells 28 [lf aI vZ,lf aT v7]),(800159003,.cells 215 [.fn 159 [.ptr 800159000 0,.ptr 800159001 0,.ptr 800159002 0,.ptr 800159003 0]]),(715900000,.slice 3 1 (ml aA m_1) 0 false)]) ?_ ?_ ?_
 ·exact bt.go [.sw 159519 715900000] [] (by kernel_rfl)
 ·rintro j1 e1 Z1 m_1 hj1 hx1 hm
  rw[hB1]at hm
  refine qDs [] [] [(25,.bool (decide ((j1:Int)<(aX.length:Int))))]<|A.seq<|qT (ltT hx1)<|A.skip<|A.seq<|A.block<|qDs [(0,hix (ix aA (bA hx1)))] [25] [(7,i6 e1)] ?_
  obtain⟨bu,h5,hm⟩:=af hm
  exact qG [(2,hdc [520159001] (SC.at [(800159500,715900000),(800159501,520159001)] (ih h5)) anq)] [7] [] [800159000,715900000] [(800159000,.cells 22 [.own 520159001]),(520159001,.slice 3 1 (ml aA bu) 0 false)]<|qGs [(0,hto (inc hx1 hb1))] [24] [(24,i6 ((j1+1:Nat):Int))]<|Exists.intro bu (And.intro hm (bt.go [.sw 520159001 715900000] [] (by kernel_rfl)))
 rintro j1 m_1 hj1 hl1 hm
 rw[hK1]at hm
 refine qDs [] [] [(25,.bool (decide ((j1:Int)<(aX.length:Int))))]<|A.seq<|qF (ltF hl1)<|A.exit ?_
 obtain rfl:=some_inj hm
 exact A.fin W0 [.sw 715900000 800159501] rfl (by kernel_rfl)
theorem yb{cE:Int}{closed:List Int}(hm:lE t cE closed=some r):RO prog 139 [] [.agg (k2 t),i6 cE,lf aA closed] (lf aA r):=by
 refine aY func139 rfl rfl ?_
 unfold lE at hm
 refine qS [(0,.al 139003),(1,.al 139005)] [(1,i6 cE),(3,.ptr 139003 0),(5,.ptr 139005 0)] [(139003,.cells 28 (k2 t)),(139005,.cells 22 [lf aA closed])]<|qD [(0,.al 139007)] [] [(7,.ptr 139007 0)] [] [(139007,.cells 22 [.aO])]<|qD [(0,.al 139008)] [] [(8,.ptr 139008 0)] [] [(139008,.cells 215 [.eG])]<|qD [] [3,5] [] [139008] [(139008,.cells 215 [.fn 159 [.ptr 139007 0,.ptr 139005 0,.ptr 139003 0,.ptr 139008 0]])] ?_
 obtain⟨ai,h1,hm⟩:=af hm
 refine A.RS W0 [.ac 139007 800159500 3 1 0] [(2,hdc [520139001] (SC.at [(800159000,139007),(800159001,139005),(800159002,139003),(800159003,139008),(800159501,520139001)] (wL fuel h1)) anq)] [(7,.ptr 139007 0)] [(139007,.cells 22 [.own 520139001]),(520139001,.slice 3 1 (ml aA ai) 0 false)] (by kernel_rfl) ?_
 obtain⟨h2,hm⟩:=eE hm
 refine qS [(1,hdc [] (afX (d:=520139001) (T:=3) ai (of_decide_eq_true h2)) ano)] [(7,.ptr 139007 0)] [(139007,.cells 22 [.own 520139001]),(520139001,.slice 3 1 (ml aA (jC ai)) 0 false)]<|qD [] [7] [(6,.own 520139001)] [139007] []<|A.ret ?_
 obtain rfl:=some_inj hm
 exact A.fin W0 [.fz [520139001]] rfl (by kernel_rfl)
theorem v8(hm:jh t aN=some r):RO prog 155 [] [.agg (k2 t),i6 aN] (lf aA r):=by
 refine aY func155 rfl rfl ?_
 unfold jh at hm
 refine qS [(0,.al 155002)] [(1,i6 aN),(2,.ptr 155002 0)] [(155002,.cells 28 (k2 t))]<|A.seq ?_
 obtain⟨ai,h1,hm⟩:=af hm
 refine qDs [(1,hro (kJ h1) acY)] [] [(7,.bool (!ai))] ?_
 rcases ak hm with⟨c1,hm⟩|⟨c1,hm⟩
 ·refine qT c1<|qS [] [(4,.aO)] [] ?_
  cases hm
  exact A.ret qE
 refine qF c1<|A.skip ?_
 obtain⟨aD,h2,hm⟩:=af hm
 refine qS [(2,hro (qe h2) anr)] [(4,lf aA aD)] [] ?_
 cases hm
 exact A.ret qE
theorem wM{a:Int}{b:Int}{r:Bool}(hm:jJ t a b=some r):RO prog 106 [] [.agg (k2 t),i6 a,i6 b] (.bool r):=by
 refine aY func106 rfl rfl ?_
 unfold jJ at hm
 refine qS [(0,.al 106003)] [(1,i6 a),(2,i6 b),(3,.ptr 106003 0)] [(106003,.cells 28 (k2 t))] ?_
 obtain⟨ai,h1,hm⟩:=af hm
 rcases ak hm with⟨c1,hm⟩|⟨c1,hm⟩
 ·obtain⟨aD,h2,hm⟩:=af hm
  rcases ak hm with⟨c2,hm⟩|⟨c2,hm⟩
  ·obtain⟨aX,h3,hm⟩:=af hm
   obtain⟨bu,h4,hm⟩:=af hm
   refine qS [(2,hro (jS h1) adJ),(3,hto (bE c1)),(6,hro (jS h2) adJ),(8,hto (bE c2)),(11,hro (yb h3) axD),(13,hro (bR h4) qC)] [(6,.bool bu)] [] ?_
   cases hm
   exact A.ret qE
  refine qS [(2,hro (jS h1) adJ),(3,hto (bE c1)),(6,hro (jS h2) adJ),(8,hto (bE c2))] [(6,.bool false)] [] ?_
  cases hm
  exact A.ret qE
 refine qS [(2,hro (jS h1) adJ),(3,hto (bE c1))] [(6,.bool false)] [] ?_
 cases hm
 exact A.ret qE
end Go.Proofs.YtdjeacigeegklaaGreat
