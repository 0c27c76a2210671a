/- The eN of cu of the program. No condition but bH bq stand in each. -/
import Derived.Test.YtjdopimopgpagaaGreatVE
import Derived.Test.YtjdopimopgpagaaGreatIN
namespace Go.Proofs.YtjdopimopgpagaaGreat
open Go Go.Proofs.Tryz
set_option maxRecDepth 100000
set_option linter.all false
theorem yR{xa0:ai}{aM:Int}{r:Int}(hm:l6 xa0 aM=some r):RO prog 175 [] [.agg (k7 xa0),i6 aM] (i6 r):=by
 refine aZ func175 rfl rfl ?_
 unfold l6 at hm
 refine qS [(0,.al 175002)] [(1,i6 aM),(2,.ptr 175002 0)] [(175002,.cells 66 (k7 xa0))] ?_
 obtain⟨ah,h1,hm⟩:=aa hm
 refine qS [(3,hro (ij h1) aac)] [(4,i6 ah)] [] ?_
 cases hm
 exact A.ret qE
theorem tu{d:aF}{r:aF}(hm:jV d=some r):bM prog 167 [] [.agg (k8 d)] (λa σ'=>a=.agg [.own 500016700]∧σ'=[(500016700,.slice 66 5 (ml aQ r.aG) 0 false)]):=by
 refine aZ func167 rfl rfl ?_
 unfold jV at hm
 refine qS [(0,.al 167001),(1,.al 167002)] [(1,.ptr 167001 0),(2,.ptr 167002 0)] [(167001,.cells 51 (k8 d)),(167002,.cells 51 [.aH])]<|qD [(0,.al 167003)] [] [(3,.ptr 167003 0)] [] [(167003,.cells 51 [.aH])]<|A.seq<|qD [(2,hto (lnE aQ d.aG))] [1] [(7,lf aQ d.aG),(8,i6 (d.aG.length:Int)),(9,i6 0)] [167001] []<|A.block<|A.bS 7 rfl λhb1=>?_
 obtain⟨B1,K1,hB1,hK1,hm⟩:=bF hm
 refine A.lpI (l:=d.aG) (j0:=0) (B:=B1) (K:=K1) hm (λj1=>λm_1=>[(2,.ptr 167002 0),(3,.ptr 167003 0),(7,lf aQ d.aG),(8,i6 (d.aG.length:Int)),(9,i6 (j1:Int))]) (λj1=>λm_1=>[(167002,.cells 51 [.aH]),(167003,.cells 51 [.own 716700300]),(716700300,.slice 66 5 (ml aQ m_1) 0 false)]) ?_ ?_ ?_
 ·exact bA.go [.ac 167003 716700300 66 5 0] [] (by kernel_rfl)
 ·rintro j1 e1 Z1 m_1 hj1 hx1 hm
  rw[hB1]at hm
  refine qDs [] [] [(10,.bool (decide ((j1:Int)<(d.aG.length:Int))))]<|A.seq<|qT (ltT hx1)<|A.skip<|A.seq<|A.block<|qD [(0,hix (ix aQ (bh hx1))),(2,.al 167005)] [10] [(5,.ptr 167005 0)] [] [(167005,.cells 66 (k7 e1))] ?_
  obtain⟨ah,h1,hm⟩:=aa hm
  obtain⟨l_1,h2,hm⟩:=aa hm
  exact qG [(3,hro (lM h1) adN),(5,hap 167518 (ap aQ (bytes:=72) (by decide) h2))] [5] [] [167003,716700300,167005] [(167003,.cells 51 [.own 167518]),(167518,.slice 66 5 (ml aQ l_1) 0 false)]<|qGs [(0,hto (inc hx1 hb1))] [9] [(9,i6 ((j1+1:Nat):Int))]<|Exists.intro l_1 (And.intro hm (bA.go [.sw 167518 716700300] [] (by kernel_rfl)))
 rintro j1 m_1 hj1 hl1 hm
 rw[hK1]at hm
 refine qDs [] [] [(10,.bool (decide ((j1:Int)<(d.aG.length:Int))))]<|A.seq<|qF (ltF hl1)<|A.exit<|qD [] [3,7,8,9,10] [] [167002,167003] [(167002,.cells 51 [.own 716700300])]<|A.ret ?_
 obtain rfl:=some_inj hm
 exact A.fin W0 [.sw 716700300 500016700] rfl (by kernel_rfl)
theorem uW{d:aF}{a:ai}{r:Bool×aF}(hm:lV d a=some r):bM prog 168 [(505016800,.slice 66 5 (ml aQ d.aG) 0 false),(900000051,.cells 51 [.own 505016800])] [.ptr 900000051 0,.agg (k7 a)] (λa σ'=>a=.bool r.1∧σ'=[(900000051,.cells 51 [.own 505016801]),(505016801,.slice 66 5 (ml aQ r.2.aG) 0 false)]):=by
 refine aZ func168 rfl rfl ?_
 unfold lV at hm
 refine qS [(0,.al 168003)] [(0,.ptr 900000051 0),(3,.ptr 168003 0)] [(505016800,.slice 66 5 (ml aQ d.aG) 0 false),(900000051,.cells 51 [.own 505016800]),(168003,.cells 66 (k7 a))] ?_
 obtain⟨ah,h1,hm⟩:=aa hm
 refine qDs [(6,hle [505016800] (j7 (jZ:=175) (mh:=[]) (rG:=atg) (rH:=λ_ _ _ h=>yR h) h1) atf)] [] [(5,i6 ah.1),(6,.bool ah.2)] ?_
 obtain⟨J1,hJ1,hm⟩:=bQ hm
 refine A.J (J:=J1) (r:=r) (λm_1=>[]) (λm_1=>[(900000051,.cells 51 [.own 700005100]),(700005100,.slice 66 5 (ml aQ m_1) 0 false)]) ?_ ?_
 ·refine A.block<|qDs [] [6] [(17,.bool (!ah.2))] ?_
  rcases az hm with⟨c1,hm⟩|⟨c1,hm⟩
  ·refine qT c1 ?_
   obtain⟨aD,h2,hm⟩:=aa hm
   obtain⟨l_1,h3,hm⟩:=aa hm
   exact qR [(7,hro (lM h2) adN),(8,.al 168028),(9,hdc [520168001] (ahF (d:=505016800) (d2:=168028) (D:=520168001) h3 (by decide) (by decide)) ath)] [] [(900000051,.cells 51 [.own 520168001]),(520168001,.slice 66 5 (ml aQ l_1) 0 false)]<|Exists.intro l_1 (And.intro hm (bA.go [.sw 520168001 700005100] [] (by kernel_rfl)))
  refine qF c1 ?_
  obtain⟨e_1,h4,hm⟩:=aa hm
  obtain⟨aP,h5,hm⟩:=aa hm
  refine qDs [(6,hix (ix aQ h4)),(7,hlo 505016800 0 (ix aQ h4)),(8,hro (aap h5) ati)] [17] [(32,.bool aP)] ?_
  rcases az hm with⟨c2,hm⟩|⟨c2,hm⟩
  ·refine qT c2 ?_
   obtain⟨bt,h6,hm⟩:=aa hm
   obtain⟨l_2,h7,hm⟩:=aa hm
   exact qG [(6,hro (lM h6) adN),(7,hix (ix aQ h4)),(8,hso 505016800 (st aQ (off:=0) (ca:=(k7 bt)) h4 h7 rfl) (gP h4).1.1)] [0,3,5,32] [] [505016800,168003] [(505016800,.slice 66 5 (ml aQ l_2) 0 false)]<|Exists.intro l_2 (And.intro hm (bA.go [.rn 505016800 700005100] [] (by kernel_rfl)))
  refine qF c2<|qD [] [0,3,5,32] [(4,.bool false)] [168003] []<|A.ret ?_
  obtain rfl:=some_inj hm
  exact A.fin W0 [.rn 505016800 505016801] rfl (by kernel_rfl)
 rintro m_1 hm
 rw[hJ1]at hm
 refine qDs [] [] [(4,.bool true)]<|A.ret ?_
 obtain rfl:=some_inj hm
 exact A.fin W0 [.sw 700005100 505016801] rfl (by kernel_rfl)
theorem aaq{d:aF}{a:ai}{r:aF×Bool}(hm:n9 d a=some r):RO prog 142 [] [.agg (k8 d),.agg (k7 a)] (.tup [.agg (k8 r.1),.bool r.2]):=by
 refine aZ func142 rfl rfl ?_
 unfold n9 at hm
 refine qS [(0,.al 142002),(1,.al 142003),(2,.al 142004)] [(2,.ptr 142002 0),(3,.ptr 142003 0),(4,.ptr 142004 0)] [(142002,.cells 51 (k8 d)),(142003,.cells 66 (k7 a)),(142004,.cells 51 [.aH])] ?_
 obtain⟨ah,h1,hm⟩:=aa hm
 refine qD [(1,hdc [500016700] (tu h1) akH),(2,.al 142006)] [] [(6,.ptr 142006 0)] [] [(500016700,.slice 66 5 (ml aQ ah.aG) 0 false),(142006,.cells 51 [.own 500016700])]<|A.seq ?_
 obtain⟨J1,hJ1,hm⟩:=bQ hm
 refine A.J (J:=J1) (r:=r) (λv_1=>[(3,.ptr 142003 0),(4,.ptr 142004 0),(6,.ptr 142006 0),(17,.bool v_1)]) (λv_1=>[(142003,.cells 66 (k7 a)),(142004,.cells 51 [.aH]),(500016700,.slice 66 5 (ml aQ ah.aG) 0 false),(142006,.cells 51 [.own 500016700])]) ?_ ?_
 ·obtain⟨aD,h2,hm⟩:=aa hm
  rcases az hm with⟨c1,hm⟩|⟨c1,hm⟩
  ·exact qG [(1,hro (gw h2) aa5),(3,hto (bE c1))] [2] [(17,.bool true)] [142002] []<|qX true hm
  obtain⟨aP,h3,hm⟩:=aa hm
  exact qG [(1,hro (gw h2) aa5),(3,hto (bE c1)),(5,hro (jx h3) acq)] [2] [(17,.bool (!aP))] [142002] []<|qX (!aP) hm
 rintro v_1 hm
 rw[hJ1]at hm
 rcases az hm with⟨c2,hm⟩|⟨c2,hm⟩
 ·refine qT c2<|qD [] [3,6,17] [(5,.bool false)] [142003,142004,142006] [(142004,.cells 51 [.own 500016700])]<|A.ret ?_
  obtain rfl:=some_inj hm
  exact A.fin W0 [.fz [500016700]] rfl (by kernel_rfl)
 refine qF c2<|A.skip ?_
 obtain⟨bt,h4,hm⟩:=aa hm
 refine qD [(1,hdc [520142001] (SC.at [(505016800,500016700),(900000051,142006),(505016801,520142001)] (uW h4)) akI)] [3,17] [(7,.bool bt.1)] [142003,500016700,142006] [(142006,.cells 51 [.own 520142001]),(520142001,.slice 66 5 (ml aQ bt.2.aG) 0 false)]<|qD [] [6,7] [(5,.bool bt.1)] [142004,142006] [(142004,.cells 51 [.own 520142001])]<|A.ret ?_
 obtain rfl:=some_inj hm
 exact A.fin W0 [.fz [520142001]] rfl (by kernel_rfl)
theorem yS{a:aF}{b:aF}{r:aF×Int}(hm:l7 a b=some r):RO prog 153 [] [.agg (k8 a),.agg (k8 b)] (.tup [.agg (k8 r.1),i6 r.2]):=by
 refine aZ func153 rfl rfl ?_
 unfold l7 at hm
 refine qS [(0,.al 153002),(1,.al 153003),(2,.al 153004)] [(2,.ptr 153002 0),(3,.ptr 153003 0),(4,.ptr 153004 0)] [(153002,.cells 51 (k8 a)),(153003,.cells 51 (k8 b)),(153004,.cells 51 [.aH])]<|A.seq ?_
 obtain⟨J1,hJ1,hm⟩:=bQ hm
 refine A.J (J:=J1) (r:=r) (λv_1=>[(2,.ptr 153002 0),(3,.ptr 153003 0),(4,.ptr 153004 0),(16,.bool v_1)]) (λv_1=>[(153002,.cells 51 (k8 a)),(153003,.cells 51 (k8 b)),(153004,.cells 51 [.aH])]) ?_ ?_
 ·obtain⟨ah,h1,hm⟩:=aa hm
  rcases az hm with⟨c1,hm⟩|⟨c1,hm⟩
  ·exact qGs [(1,hro (gw h1) aa5),(3,hto (bE c1))] [] [(16,.bool true)]<|qX true hm
  obtain⟨aD,h2,hm⟩:=aa hm
  exact qGs [(1,hro (gw h1) aa5),(3,hto (bE c1)),(5,hro (gw h2) aa5)] [] [(16,.bool (!decide (aD=0)))]<|qX (!decide (aD=0)) hm
 rintro v_1 hm
 rw[hJ1]at hm
 rcases az hm with⟨c2,hm⟩|⟨c2,hm⟩
 ·refine qT c2<|qD [] [2,3,16] [(5,i6 1)] [153002,153003] [] ?_
  cases hm
  exact A.ret qE
 refine qF c2<|A.skip ?_
 obtain⟨aP,h3,hm⟩:=aa hm
 refine qD [(1,hdc [500016700] (tu h3) akH),(2,.al 153006)] [2,16] [(6,.ptr 153006 0)] [153002] [(500016700,.slice 66 5 (ml aQ aP.aG) 0 false),(153006,.cells 51 [.own 500016700])]<|A.seq<|qD [(2,hto (lnE aQ b.aG))] [3] [(21,lf aQ b.aG),(22,i6 (b.aG.length:Int)),(23,i6 0)] [153003] []<|A.block<|A.bS 21 rfl λhb1=>?_
 obtain⟨B1,K1,hB1,hK1,hm⟩:=bF hm
 refine A.lpI (l:=b.aG) (j0:=0) (B:=B1) (K:=K1) hm (λj1=>λm_1=>[(4,.ptr 153004 0),(6,.ptr 153006 0),(21,lf aQ b.aG),(22,i6 (b.aG.length:Int)),(23,i6 (j1:Int))]) (λj1=>λm_1=>[(153004,.cells 51 [.aH]),(153006,.cells 51 [.own 715300600]),(715300600,.slice 66 5 (ml aQ m_1) 0 false)]) ?_ ?_ ?_
 ·exact bA.go [.sw 500016700 715300600] [] (by kernel_rfl)
 ·rintro j1 e1 Z1 m_1 hj1 hx1 hm
  rw[hB1]at hm
  refine qDs [] [] [(24,.bool (decide ((j1:Int)<(b.aG.length:Int))))]<|A.seq<|qT (ltT hx1)<|A.skip<|A.seq<|A.block<|qD [(0,hix (ix aQ (bh hx1))),(2,.al 153008)] [24] [(8,.ptr 153008 0)] [] [(153008,.cells 66 (k7 e1))] ?_
  obtain⟨bt,h4,hm⟩:=aa hm
  exact qG [(1,hdc [520153001] (SC.at [(505016800,715300600),(900000051,153006),(505016801,520153001)] (uW h4)) akI)] [8] [] [153006,715300600,153008] [(153006,.cells 51 [.own 520153001]),(520153001,.slice 66 5 (ml aQ bt.2.aG) 0 false)]<|qGs [(0,hto (inc hx1 hb1))] [23] [(23,i6 ((j1+1:Nat):Int))]<|Exists.intro bt.2.aG (And.intro hm (bA.go [.sw 520153001 715300600] [] (by kernel_rfl)))
 rintro j1 m_1 hj1 hl1 hm
 rw[hK1]at hm
 refine qDs [] [] [(24,.bool (decide ((j1:Int)<(b.aG.length:Int))))]<|A.seq<|qF (ltF hl1)<|A.exit<|qD [] [6,21,22,23,24] [(5,i6 0)] [153004,153006] [(153004,.cells 51 [.own 715300600])]<|A.ret ?_
 obtain rfl:=some_inj hm
 exact A.fin W0 [.fz [715300600]] rfl (by kernel_rfl)
end Go.Proofs.YtjdopimopgpagaaGreat
