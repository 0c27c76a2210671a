/- The gn of dg of the program. No condition but bB aX stand in each. -/
import Derived.Test.YtdjeacigeegklaaGreatDA
import Derived.Test.YtdjeacigeegklaaGreatV4
import Derived.Test.YtdjeacigeegklaaGreatS
import Derived.Test.YtdjeacigeegklaaGreatSO
namespace Go.Proofs.YtdjeacigeegklaaGreat
open Go Go.Proofs.Tryz
set_option maxRecDepth 100000
set_option linter.all false
variable {r:(List Int)}{t:aa}
theorem tw{aY:Int}(hm:gJ t aY=some r):RO prog 160 [] [.agg (k2 t),i6 aY] (lf aF r):=by
 refine bf func160 rfl rfl ?_
 unfold gJ at hm
 refine qS [(0,.al 160002)] [(1,i6 aY),(2,.ptr 160002 0)] [(160002,.cells 28 (k2 t))]<|qDs [] [] [(5,.aU)]<|A.seq<|qD [(2,hto (lnE bR t.Links))] [2] [(9,lf bR t.Links),(10,i6 (t.Links.length:Int)),(11,i6 0)] [160002] []<|A.block<|A.bS 9 rfl λhb1=>?_
 obtain⟨B1,K1,hB1,hK1,hm⟩:=bn hm
 refine A.lpI (l:=t.Links) (j0:=0) (B:=B1) (K:=K1) hm (λj1=>λbg=>[(1,i6 aY),(5,.own 600160005),(9,lf bR t.Links),(10,i6 (t.Links.length:Int)),(11,i6 (j1:Int))]) (λj1=>λbg=>[(600160005,.slice 3 1 (ml aF bg) 0 false)]) ?_ ?_ ?_
 ·exact bq.go [.ad 5 600160005 3 1] [] (by kernel_rfl)
 ·rintro j1 e1 Z1 bg hj1 hx1 hm
  rw[hB1]at hm
  refine qDs [] [] [(12,.bool (decide ((j1:Int)<(t.Links.length:Int))))]<|A.seq<|qT (ltT hx1)<|A.skip ?_
  show ah _ _ _ _ _
  obtain⟨J1,hJ1,hm⟩:=cg hm
  refine A.J (J:=J1) (r:=r) (λcK=>[(1,i6 aY),(5,.own 600160005),(9,lf bR t.Links),(10,i6 (t.Links.length:Int)),(11,i6 (j1:Int))]) (λcK=>[(600160005,.slice 3 1 (ml aF cK) 0 false)]) ?_ ?_
  ·refine A.block<|qD [(0,hix (ix bR (bH hx1))),(2,.al 160007)] [12] [(7,.ptr 160007 0)] [] [(160007,.cells 89 (k1 e1))] ?_
   refine qDs [] [] [(15,i6 aY)]<|A.block<|qDs [] [] [(16,.bool (decide (aY=e1.A)))] ?_
   rcases az hm with⟨c1,hm⟩|⟨c1,hm⟩
   ·refine qT c1 ?_
    obtain⟨l_1,h1,hm⟩:=af hm
    exact qG [(4,hap 160524 (ap aF (bytes:=8) (by decide) h1))] [5,7,15,16] [(5,.own 160524)] [600160005,160007] [(160524,.slice 3 1 (ml aF l_1) 0 false)]<|Exists.intro l_1 (And.intro hm (bq.go [.sw 160524 600160005] [] (by kernel_rfl)))
   refine qF c1<|qDs [] [15,16] [(25,.bool (decide (aY=e1.B)))] ?_
   rcases az hm with⟨c2,hm⟩|⟨c2,hm⟩
   ·refine qT c2 ?_
    obtain⟨l_2,h2,hm⟩:=af hm
    exact qG [(4,hap 160533 (ap aF (bytes:=8) (by decide) h2))] [5,7,25] [(5,.own 160533)] [600160005,160007] [(160533,.slice 3 1 (ml aF l_2) 0 false)]<|Exists.intro l_2 (And.intro hm (bq.go [.sw 160533 600160005] [] (by kernel_rfl)))
   exact qF c2<|A.skip<|qX bg hm
  rintro cK hm
  rw[hJ1]at hm
  exact qGs [(0,hto (inc hx1 hb1))] [11] [(11,i6 ((j1+1:Nat):Int))]<|qX cK hm
 rintro j1 bg hj1 hl1 hm
 rw[hK1]at hm
 refine qDs [] [] [(12,.bool (decide ((j1:Int)<(t.Links.length:Int))))]<|A.seq<|qF (ltF hl1)<|A.exit ?_
 show ah _ _ _ _ _
 obtain⟨h3,hm⟩:=er hm
 refine qS [(1,hdc [] (acF (d:=600160005) (T:=3) bg (of_decide_eq_true h3)) alU)] [(5,.own 600160005)] [(600160005,.slice 3 1 (ml aF (iB bg)) 0 false)]<|qDs [] [5] [(4,.own 600160005)]<|A.ret ?_
 obtain rfl:=some_inj hm
 exact A.fin W0 [.fz [600160005]] rfl (by kernel_rfl)
theorem tO:∀(n_:Nat) {ra0:Int} {uz:List Int} {tr:List Int} {tu:List aM} {tv:List bA} {r:(List Int)} (hm:fZ n_ ra0 uz tr tu tv=some r),cQ prog 159 [(800159000,.cells 22 [.own 800159500]),(800159001,.cells 22 [lf aF tr]),(800159002,.cells 28 [lf aJ tu,lf bR tv]),(800159003,.cells 215 [.fn 159 [.ptr 800159000 0,.ptr 800159001 0,.ptr 800159002 0,.ptr 800159003 0]]),(800159500,.slice 3 1 (ml aF uz) 0 false)] [i6 ra0,.ptr 800159000 0,.ptr 800159001 0,.ptr 800159002 0,.ptr 800159003 0] (λa σ'=>a=.tup []∧σ'=[(800159000,.cells 22 [.own 800159501]),(800159001,.cells 22 [lf aF tr]),(800159002,.cells 28 [lf aJ tu,lf bR tv]),(800159003,.cells 215 [.fn 159 [.ptr 800159000 0,.ptr 800159001 0,.ptr 800159002 0,.ptr 800159003 0]]),(800159501,.slice 3 1 (ml aF r) 0 false)]):=by
 intro n_
 induction n_ with
 |zero=>intros;rename_i hm;cases hm
 |succ n_ ih=>
 intro ra0 uz tr tu tv r hm
 refine bf func159 rfl rfl ?_
 rw[fZ]at hm
 refine A.seq ?_
 obtain⟨J1,hJ1,hm⟩:=cg hm
 refine A.J (J:=J1) (r:=r) (λv_1=>[(0,i6 ra0),(1,.ptr 800159000 0),(3,.ptr 800159002 0),(4,.ptr 800159003 0),(15,.bool v_1)]) (λv_1=>[(800159000,.cells 22 [.own 800159500]),(800159001,.cells 22 [lf aF tr]),(800159002,.cells 28 [lf aJ tu,lf bR tv]),(800159003,.cells 215 [.fn 159 [.ptr 800159000 0,.ptr 800159001 0,.ptr 800159002 0,.ptr 800159003 0]]),(800159500,.slice 3 1 (ml aF uz) 0 false)]) ?_ ?_
 ·obtain⟨ai,h1,hm⟩:=af hm
  rcases az hm with⟨c1,hm⟩|⟨c1,hm⟩
  ·exact qR [(2,hle [800159500] (bY h1) qn),(3,hto (bE c1))] [(0,i6 ra0),(1,.ptr 800159000 0),(3,.ptr 800159002 0),(4,.ptr 800159003 0),(15,.bool true)] [(800159000,.cells 22 [.own 800159500]),(800159001,.cells 22 [lf aF tr]),(800159002,.cells 28 [lf aJ tu,lf bR tv]),(800159003,.cells 215 [.fn 159 [.ptr 800159000 0,.ptr 800159001 0,.ptr 800159002 0,.ptr 800159003 0]]),(800159500,.slice 3 1 (ml aF uz) 0 false)]<|qX true hm
  obtain⟨aL,h2,hm⟩:=af hm
  exact qR [(2,hle [800159500] (bY h1) qn),(3,hto (bE c1)),(6,hro (bY h2) qn)] [(0,i6 ra0),(1,.ptr 800159000 0),(3,.ptr 800159002 0),(4,.ptr 800159003 0),(15,.bool aL)] [(800159000,.cells 22 [.own 800159500]),(800159001,.cells 22 [lf aF tr]),(800159002,.cells 28 [lf aJ tu,lf bR tv]),(800159003,.cells 215 [.fn 159 [.ptr 800159000 0,.ptr 800159001 0,.ptr 800159002 0,.ptr 800159003 0]]),(800159500,.slice 3 1 (ml aF uz) 0 false)]<|qX aL hm
 rintro v_1 hm
 rw[hJ1]at hm
 rcases az hm with⟨c2,hm⟩|⟨c2,hm⟩
 ·refine qT c2<|A.ret ?_
  obtain rfl:=some_inj hm
  exact A.fin W0 [.rn 800159500 800159501] rfl (by kernel_rfl)
 refine qF c2<|A.skip ?_
 show ah _ _ _ _ _
 obtain⟨l_1,h3,hm⟩:=af hm
 refine qD [(3,hap 159519 (ap aF (bytes:=8) (by decide) h3))] [1,15] [] [800159000,800159500] [(800159000,.cells 22 [.own 159519]),(159519,.slice 3 1 (ml aF l_1) 0 false)] ?_
 obtain⟨aV,h4,hm⟩:=af hm
 refine qDs [(2,hro (tw h4) ay5),(3,hto (lnE aF aV))] [0,3] [(22,lf aF aV),(23,i6 (aV.length:Int)),(24,i6 0)]<|A.block<|A.bS 22 rfl λhb1=>?_
 obtain⟨B1,K1,hB1,hK1,hm⟩:=bn hm
 refine A.lpI (l:=aV) (j0:=0) (B:=B1) (K:=K1) hm (λj1=>λm_1=>[(4,.ptr 800159003 0),(22,lf aF aV),(23,i6 (aV.length:Int)),(24,i6 (j1:Int))]) (λj1=>λm_1=>[(800159000,.cells 22 [.own 715900000]),(800159001,.cells 22 [lf aF tr]),(800159002,.cells 28 [lf aJ tu,lf bR tv]),(800159003,.cells 215 [.fn 159 [.ptr 800159000 0,.ptr 800159001 0,.ptr 800159002 0,.ptr 800159003 0]]),(715900000,.slice 3 1 (ml aF m_1) 0 false)]) ?_ ?_ ?_
 ·exact bq.go [.sw 159519 715900000] [] (by kernel_rfl)
 ·rintro j1 e1 Z1 m_1 hj1 hx1 hm
  rw[hB1]at hm
  refine qDs [] [] [(25,.bool (decide ((j1:Int)<(aV.length:Int))))]<|A.seq<|qT (ltT hx1)<|A.skip ?_
  show ah _ _ _ _ _
  refine A.seq<|A.block ?_
  refine qDs [(0,hix (ix aF (bH hx1)))] [25] [(7,i6 e1)] ?_
  obtain⟨bz,h5,hm⟩:=af hm
  refine qG [(2,hdc [520159001] (SC.at [(800159500,715900000),(800159501,520159001)] (ih h5)) alW)] [7] [] [800159000,715900000] [(800159000,.cells 22 [.own 520159001]),(520159001,.slice 3 1 (ml aF bz) 0 false)] ?_
  show ah _ _ _ _ _
  exact qGs [(0,hto (inc hx1 hb1))] [24] [(24,i6 ((j1+1:Nat):Int))]<|Exists.intro bz (And.intro hm (bq.go [.sw 520159001 715900000] [] (by kernel_rfl)))
 rintro j1 m_1 hj1 hl1 hm
 rw[hK1]at hm
 refine qDs [] [] [(25,.bool (decide ((j1:Int)<(aV.length:Int))))]<|A.seq<|qF (ltF hl1)<|A.exit ?_
 obtain rfl:=some_inj hm
 exact A.fin W0 [.sw 715900000 800159501] rfl (by kernel_rfl)
theorem uX{cN:Int}{closed:List Int}(hm:je t cN closed=some r):RO prog 139 [] [.agg (k2 t),i6 cN,lf aF closed] (lf aF r):=by
 refine bf func139 rfl rfl ?_
 unfold je at hm
 refine qS [(0,.al 139003),(1,.al 139005)] [(1,i6 cN),(3,.ptr 139003 0),(5,.ptr 139005 0)] [(139003,.cells 28 (k2 t)),(139005,.cells 22 [lf aF closed])]<|qD [(0,.al 139007)] [] [(7,.ptr 139007 0)] [] [(139007,.cells 22 [.aU])]<|qD [(0,.al 139008)] [] [(8,.ptr 139008 0)] [] [(139008,.cells 215 [.dD])]<|qD [] [3,5] [] [139008] [(139008,.cells 215 [.fn 159 [.ptr 139007 0,.ptr 139005 0,.ptr 139003 0,.ptr 139008 0]])] ?_
 obtain⟨ai,h1,hm⟩:=af hm
 refine A.RS W0 [.ac 139007 800159500 3 1 0] [(2,hdc [520139001] (SC.at [(800159000,139007),(800159001,139005),(800159002,139003),(800159003,139008),(800159501,520139001)] (tO fuel h1)) alW)] [(7,.ptr 139007 0)] [(139007,.cells 22 [.own 520139001]),(520139001,.slice 3 1 (ml aF ai) 0 false)] (by kernel_rfl) ?_
 obtain⟨h2,hm⟩:=er hm
 refine qS [(1,hdc [] (acF (d:=520139001) (T:=3) ai (of_decide_eq_true h2)) alU)] [(7,.ptr 139007 0)] [(139007,.cells 22 [.own 520139001]),(520139001,.slice 3 1 (ml aF (iB ai)) 0 false)]<|qD [] [7] [(6,.own 520139001)] [139007] []<|A.ret ?_
 obtain rfl:=some_inj hm
 exact A.fin W0 [.fz [520139001]] rfl (by kernel_rfl)
theorem tP{a:Int}{b:Int}{r:Bool}(hm:ig t a b=some r):RO prog 106 [] [.agg (k2 t),i6 a,i6 b] (.bool r):=by
 refine bf func106 rfl rfl ?_
 unfold ig at hm
 refine qS [(0,.al 106003)] [(1,i6 a),(2,i6 b),(3,.ptr 106003 0)] [(106003,.cells 28 (k2 t))] ?_
 obtain⟨ai,h1,hm⟩:=af hm
 rcases az hm with⟨c1,hm⟩|⟨c1,hm⟩
 ·obtain⟨aL,h2,hm⟩:=af hm
  rcases az hm with⟨c2,hm⟩|⟨c2,hm⟩
  ·obtain⟨aV,h3,hm⟩:=af hm
   obtain⟨bz,h4,hm⟩:=af hm
   refine qS [(2,hro (jB h1) acE),(3,hto (bE c1)),(6,hro (jB h2) acE),(8,hto (bE c2)),(11,hro (uX h3) ayX),(13,hro (bY h4) qn)] [(6,.bool bz)] [] ?_
   cases hm
   exact A.ret qE
  refine qS [(2,hro (jB h1) acE),(3,hto (bE c1)),(6,hro (jB h2) acE),(8,hto (bE c2))] [(6,.bool false)] [] ?_
  cases hm
  exact A.ret qE
 refine qS [(2,hro (jB h1) acE),(3,hto (bE c1))] [(6,.bool false)] [] ?_
 cases hm
 exact A.ret qE
end Go.Proofs.YtdjeacigeegklaaGreat
