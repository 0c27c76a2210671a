/- The iJ of ee of the program. No condition but bJ aY stand in each. -/
import Derived.Test.YtdjeacigeegklaaGreatV4
import Derived.Test.YtdjeacigeegklaaGreatSO
namespace Go.Proofs.YtdjeacigeegklaaGreat
open Go Go.Proofs.Tryz
set_option maxRecDepth 100000
set_option linter.all false
variable {aS:Int}{r:(List Int)}{t:aa}
theorem pX(hm:gX t aS=some r):RO prog 160 [] [.agg (k2 t),i6 aS] (lf aA r):=by
 refine bh func160 rfl rfl ?_
 unfold gX at hm
 refine qS [(0,.al 160002)] [(1,i6 aS),(2,.ptr 160002 0)] [(160002,.cells 28 (k2 t))]<|qDs [] [] [(5,.aQ)]<|A.seq<|qD [(2,hto (lnE aV t.Links))] [2] [(9,lf aV t.Links),(10,i6 (t.Links.length:Int)),(11,i6 0)] [160002] []<|A.block<|A.bS 9 rfl λhb1=>?_
 obtain⟨B1,K1,hB1,hK1,hm⟩:=bu hm
 refine A.lpI (l:=t.Links) (j0:=0) (B:=B1) (K:=K1) hm (λj1=>λbp=>[(1,i6 aS),(5,.own 600160005),(9,lf aV t.Links),(10,i6 (t.Links.length:Int)),(11,i6 (j1:Int))]) (λj1=>λbp=>[(600160005,.slice 3 1 (ml aA bp) 0 false)]) ?_ ?_ ?_
 ·exact bx.go [.ad 5 600160005 3 1] [] (by kernel_rfl)
 ·rintro j1 e1 Z1 bp hj1 hx1 hm
  rw[hB1]at hm
  refine qDs [] [] [(12,.bool (decide ((j1:Int)<(t.Links.length:Int))))]<|A.seq<|qT (ltT hx1)<|A.skip ?_
  obtain⟨J1,hJ1,hm⟩:=cw hm
  refine A.J (J:=J1) (r:=r) (λcZ=>[(1,i6 aS),(5,.own 600160005),(9,lf aV t.Links),(10,i6 (t.Links.length:Int)),(11,i6 (j1:Int))]) (λcZ=>[(600160005,.slice 3 1 (ml aA cZ) 0 false)]) ?_ ?_
  ·refine A.block<|qD [(0,hix (ix aV (bt hx1))),(2,.al 160007)] [12] [(7,.ptr 160007 0)] [] [(160007,.cells 89 (k1 e1))] ?_
   refine qDs [] [] [(15,i6 aS)]<|A.block<|qDs [] [] [(16,.bool (decide (aS=e1.A)))] ?_
   rcases ak hm with⟨c1,hm⟩|⟨c1,hm⟩
   ·refine qT c1 ?_
    obtain⟨l_1,h1,hm⟩:=af hm
    exact qG [(4,hap 160524 (ap aA (bytes:=8) (by decide) h1))] [5,7,15,16] [(5,.own 160524)] [600160005,160007] [(160524,.slice 3 1 (ml aA l_1) 0 false)]<|Exists.intro l_1 (And.intro hm (bx.go [.sw 160524 600160005] [] (by kernel_rfl)))
   refine qF c1<|qDs [] [15,16] [(25,.bool (decide (aS=e1.B)))] ?_
   rcases ak hm with⟨c2,hm⟩|⟨c2,hm⟩
   ·refine qT c2 ?_
    obtain⟨l_2,h2,hm⟩:=af hm
    exact qG [(4,hap 160533 (ap aA (bytes:=8) (by decide) h2))] [5,7,25] [(5,.own 160533)] [600160005,160007] [(160533,.slice 3 1 (ml aA l_2) 0 false)]<|Exists.intro l_2 (And.intro hm (bx.go [.sw 160533 600160005] [] (by kernel_rfl)))
   exact qF c2<|A.skip<|qX bp hm
  rintro cZ hm
  rw[hJ1]at hm
  exact qGs [(0,hto (inc hx1 hb1))] [11] [(11,i6 ((j1+1:Nat):Int))]<|qX cZ hm
 rintro j1 bp hj1 hl1 hm
 rw[hK1]at hm
 refine qDs [] [] [(12,.bool (decide ((j1:Int)<(t.Links.length:Int))))]<|A.seq<|qF (ltF hl1)<|A.exit ?_
 obtain⟨h3,hm⟩:=fI hm
 refine qS [(1,hdc [] (aga (d:=600160005) (T:=3) bp (of_decide_eq_true h3)) anz)] [(5,.own 600160005)] [(600160005,.slice 3 1 (ml aA (jy bp)) 0 false)]<|qDs [] [5] [(4,.own 600160005)]<|A.ret ?_
 obtain rfl:=some_inj hm
 exact A.fin W0 [.fz [600160005]] rfl (by kernel_rfl)
theorem wI:∀(n_:Nat) {ra0:Int} {xD:List Int} {vT:List Int} {vU:List aR} {vV:List aW} {r:(List Int)} (hm:iq n_ ra0 xD vT vU vV=some r),dA prog 159 [(800159000,.cells 22 [.own 800159500]),(800159001,.cells 22 [lf aA vT]),(800159002,.cells 28 [lf aJ vU,lf aV vV]),(800159003,.cells 215 [.fn 159 [.ptr 800159000 0,.ptr 800159001 0,.ptr 800159002 0,.ptr 800159003 0]]),(800159500,.slice 3 1 (ml aA xD) 0 false)] [i6 ra0,.ptr 800159000 0,.ptr 800159001 0,.ptr 800159002 0,.ptr 800159003 0] (λa σ'=>a=.tup []∧σ'=[(800159000,.cells 22 [.own 800159501]),(800159001,.cells 22 [lf aA vT]),(800159002,.cells 28 [lf aJ vU,lf aV vV]),(800159003,.cells 215 [.fn 159 [.ptr 800159000 0,.ptr 800159001 0,.ptr 800159002 0,.ptr 800159003 0]]),(800159501,.slice 3 1 (ml aA r) 0 false)]):=by
 intro n_
 induction n_ with
 |zero=>intros;rename_i hm;cases hm
 |succ n_ ih=>
 intro ra0 xD vT vU vV r hm
 refine bh func159 rfl rfl ?_
 rw[iq]at hm
 refine A.seq ?_
 obtain⟨J1,hJ1,hm⟩:=cw hm
 refine A.J (J:=J1) (r:=r) (λv_1=>[(0,i6 ra0),(1,.ptr 800159000 0),(3,.ptr 800159002 0),(4,.ptr 800159003 0),(15,.bool v_1)]) (λv_1=>[(800159000,.cells 22 [.own 800159500]),(800159001,.cells 22 [lf aA vT]),(800159002,.cells 28 [lf aJ vU,lf aV vV]),(800159003,.cells 215 [.fn 159 [.ptr 800159000 0,.ptr 800159001 0,.ptr 800159002 0,.ptr 800159003 0]]),(800159500,.slice 3 1 (ml aA xD) 0 false)]) ?_ ?_
 ·obtain⟨ai,h1,hm⟩:=af hm
  rcases ak hm with⟨c1,hm⟩|⟨c1,hm⟩
  ·exact qR [(2,hle [800159500] (bR h1) qz),(3,hto (bE c1))] [(0,i6 ra0),(1,.ptr 800159000 0),(3,.ptr 800159002 0),(4,.ptr 800159003 0),(15,.bool true)] [(800159000,.cells 22 [.own 800159500]),(800159001,.cells 22 [lf aA vT]),(800159002,.cells 28 [lf aJ vU,lf aV vV]),(800159003,.cells 215 [.fn 159 [.ptr 800159000 0,.ptr 800159001 0,.ptr 800159002 0,.ptr 800159003 0]]),(800159500,.slice 3 1 (ml aA xD) 0 false)]<|qX true hm
  obtain⟨aI,h2,hm⟩:=af hm
  exact qR [(2,hle [800159500] (bR h1) qz),(3,hto (bE c1)),(6,hro (bR h2) qz)] [(0,i6 ra0),(1,.ptr 800159000 0),(3,.ptr 800159002 0),(4,.ptr 800159003 0),(15,.bool aI)] [(800159000,.cells 22 [.own 800159500]),(800159001,.cells 22 [lf aA vT]),(800159002,.cells 28 [lf aJ vU,lf aV vV]),(800159003,.cells 215 [.fn 159 [.ptr 800159000 0,.ptr 800159001 0,.ptr 800159002 0,.ptr 800159003 0]]),(800159500,.slice 3 1 (ml aA xD) 0 false)]<|qX aI hm
 rintro v_1 hm
 rw[hJ1]at hm
 rcases ak hm with⟨c2,hm⟩|⟨c2,hm⟩
 ·refine qT c2<|A.ret ?_
  obtain rfl:=some_inj hm
  exact A.fin W0 [.rn 800159500 800159501] rfl (by kernel_rfl)
 refine qF c2<|A.skip ?_
 obtain⟨l_1,h3,hm⟩:=af hm
 refine qD [(3,hap 159519 (ap aA (bytes:=8) (by decide) h3))] [1,15] [] [800159000,800159500] [(800159000,.cells 22 [.own 159519]),(159519,.slice 3 1 (ml aA l_1) 0 false)] ?_
 obtain⟨bf,h4,hm⟩:=af hm
 refine qDs [(2,hro (pX h4) anC),(3,hto (lnE aA bf))] [0,3] [(22,lf aA bf),(23,i6 (bf.length:Int)),(24,i6 0)]<|A.block<|A.bS 22 rfl λhb1=>?_
 obtain⟨B1,K1,hB1,hK1,hm⟩:=bu hm
 refine A.lpI (l:=bf) (j0:=0) (B:=B1) (K:=K1) hm (λj1=>λm_1=>[(4,.ptr 800159003 0),(22,lf aA bf),(23,i6 (bf.length:Int)),(24,i6 (j1:Int))]) (λj1=>λm_1=>[(800159000,.cells 22 [.own 715900000]),(800159001,.cells 22 [lf aA vT]),(800159002,.cells 28 [lf aJ vU,lf aV vV]),(800159003,.cells 215 [.fn 159 [.ptr 800159000 0,.ptr 800159001 0,.ptr 800159002 0,.ptr 800159003 0]]),(715900000,.slice 3 1 (ml aA m_1) 0 false)]) ?_ ?_ ?_
 ·exact bx.go [.sw 159519 715900000] [] (by kernel_rfl)
 ·rintro j1 e1 Z1 m_1 hj1 hx1 hm
  rw[hB1]at hm
  refine qDs [] [] [(25,.bool (decide ((j1:Int)<(bf.length:Int))))]<|A.seq<|qT (ltT hx1)<|A.skip<|A.seq<|A.block<|qDs [(0,hix (ix aA (bt hx1)))] [25] [(7,i6 e1)] ?_
  obtain⟨bB,h5,hm⟩:=af hm
  exact qG [(2,hdc [520159001] (SC.at [(800159500,715900000),(800159501,520159001)] (ih h5)) anB)] [7] [] [800159000,715900000] [(800159000,.cells 22 [.own 520159001]),(520159001,.slice 3 1 (ml aA bB) 0 false)]<|qGs [(0,hto (inc hx1 hb1))] [24] [(24,i6 ((j1+1:Nat):Int))]<|Exists.intro bB (And.intro hm (bx.go [.sw 520159001 715900000] [] (by kernel_rfl)))
 rintro j1 m_1 hj1 hl1 hm
 rw[hK1]at hm
 refine qDs [] [] [(25,.bool (decide ((j1:Int)<(bf.length:Int))))]<|A.seq<|qF (ltF hl1)<|A.exit ?_
 obtain rfl:=some_inj hm
 exact A.fin W0 [.sw 715900000 800159501] rfl (by kernel_rfl)
theorem x8{cI:Int}{closed:List Int}(hm:lC t cI closed=some r):RO prog 139 [] [.agg (k2 t),i6 cI,lf aA closed] (lf aA r):=by
 refine bh func139 rfl rfl ?_
 unfold lC at hm
 refine qS [(0,.al 139003),(1,.al 139005)] [(1,i6 cI),(3,.ptr 139003 0),(5,.ptr 139005 0)] [(139003,.cells 28 (k2 t)),(139005,.cells 22 [lf aA closed])]<|qD [(0,.al 139007)] [] [(7,.ptr 139007 0)] [] [(139007,.cells 22 [.aQ])]<|qD [(0,.al 139008)] [] [(8,.ptr 139008 0)] [] [(139008,.cells 215 [.er])]<|qD [] [3,5] [] [139008] [(139008,.cells 215 [.fn 159 [.ptr 139007 0,.ptr 139005 0,.ptr 139003 0,.ptr 139008 0]])] ?_
 obtain⟨ai,h1,hm⟩:=af hm
 refine A.RS W0 [.ac 139007 800159500 3 1 0] [(2,hdc [520139001] (SC.at [(800159000,139007),(800159001,139005),(800159002,139003),(800159003,139008),(800159501,520139001)] (wI fuel h1)) anB)] [(7,.ptr 139007 0)] [(139007,.cells 22 [.own 520139001]),(520139001,.slice 3 1 (ml aA ai) 0 false)] (by kernel_rfl) ?_
 obtain⟨h2,hm⟩:=fI hm
 refine qS [(1,hdc [] (aga (d:=520139001) (T:=3) ai (of_decide_eq_true h2)) anz)] [(7,.ptr 139007 0)] [(139007,.cells 22 [.own 520139001]),(520139001,.slice 3 1 (ml aA (jy ai)) 0 false)]<|qD [] [7] [(6,.own 520139001)] [139007] []<|A.ret ?_
 obtain rfl:=some_inj hm
 exact A.fin W0 [.fz [520139001]] rfl (by kernel_rfl)
theorem vW(hm:jc t aS=some r):RO prog 155 [] [.agg (k2 t),i6 aS] (lf aA r):=by
 refine bh func155 rfl rfl ?_
 unfold jc at hm
 refine qS [(0,.al 155002)] [(1,i6 aS),(2,.ptr 155002 0)] [(155002,.cells 28 (k2 t))]<|A.seq ?_
 obtain⟨ai,h1,hm⟩:=af hm
 refine qDs [(1,hro (ku h1) ac3)] [] [(7,.bool (!ai))] ?_
 rcases ak hm with⟨c1,hm⟩|⟨c1,hm⟩
 ·refine qT c1<|qS [] [(4,.aQ)] [] ?_
  cases hm
  exact A.ret qE
 refine qF c1<|A.skip ?_
 obtain⟨aI,h2,hm⟩:=af hm
 refine qS [(2,hro (pX h2) anC)] [(4,lf aA aI)] [] ?_
 cases hm
 exact A.ret qE
theorem wJ{a:Int}{b:Int}{r:Bool}(hm:jH t a b=some r):RO prog 106 [] [.agg (k2 t),i6 a,i6 b] (.bool r):=by
 refine bh func106 rfl rfl ?_
 unfold jH at hm
 refine qS [(0,.al 106003)] [(1,i6 a),(2,i6 b),(3,.ptr 106003 0)] [(106003,.cells 28 (k2 t))] ?_
 obtain⟨ai,h1,hm⟩:=af hm
 rcases ak hm with⟨c1,hm⟩|⟨c1,hm⟩
 ·obtain⟨aI,h2,hm⟩:=af hm
  rcases ak hm with⟨c2,hm⟩|⟨c2,hm⟩
  ·obtain⟨bf,h3,hm⟩:=af hm
   obtain⟨bB,h4,hm⟩:=af hm
   refine qS [(2,hro (jN h1) adR),(3,hto (bE c1)),(6,hro (jN h2) adR),(8,hto (bE c2)),(11,hro (x8 h3) axE),(13,hro (bR h4) qz)] [(6,.bool bB)] [] ?_
   cases hm
   exact A.ret qE
  refine qS [(2,hro (jN h1) adR),(3,hto (bE c1)),(6,hro (jN h2) adR),(8,hto (bE c2))] [(6,.bool false)] [] ?_
  cases hm
  exact A.ret qE
 refine qS [(2,hro (jN h1) adR),(3,hto (bE c1))] [(6,.bool false)] [] ?_
 cases hm
 exact A.ret qE
end Go.Proofs.YtdjeacigeegklaaGreat
