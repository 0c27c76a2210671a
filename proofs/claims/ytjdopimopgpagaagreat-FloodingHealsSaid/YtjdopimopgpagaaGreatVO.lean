/- The eN of cu of the program. No condition but bH bq stand in each. -/
import Derived.Test.YtjdopimopgpagaaGreatV2
import Derived.Test.YtjdopimopgpagaaGreatV7
namespace Go.Proofs.YtjdopimopgpagaaGreat
open Go Go.Proofs.Tryz
set_option maxRecDepth 100000
set_option linter.all false
theorem adF{t:aB}{aM:Int}{seq:Int}{cL:List bG}{r:ai×Int}(hm:sW t aM seq cL=some r):RO prog 141 [] [.agg (k2 t),i6 aM,i6 seq,lf bn cL] (.tup [.agg (k7 r.1),i6 r.2]):=by
 refine aZ func141 rfl rfl ?_
 unfold sW at hm
 refine qS [(0,.al 141004),(1,.al 141008)] [(1,i6 aM),(2,i6 seq),(3,lf bn cL),(4,.ptr 141004 0),(8,.ptr 141008 0)] [(141004,.cells 45 (k2 t)),(141008,.cells 66 [i6 0,i6 0,.bool false,.aH,.aH])]<|A.seq ?_
 obtain⟨ah,h1,hm⟩:=aa hm
 refine qDs [(1,hro (iP h1) aa4)] [] [(20,.bool (!decide (ah=0)))] ?_
 rcases az hm with⟨c1,hm⟩|⟨c1,hm⟩
 ·refine qT c1<|qD [] [1,2,3,4,20] [(9,i6 1)] [141004] [] ?_
  cases hm
  exact A.ret qE
 refine qF c1<|A.skip<|A.seq ?_
 obtain⟨aD,h2,hm⟩:=aa hm
 refine qDs [(2,hro (acu h2) ck82)] [20] [(25,.bool (!aD))] ?_
 rcases az hm with⟨c2,hm⟩|⟨c2,hm⟩
 ·refine qT c2<|qD [] [1,2,3,4,25] [(9,i6 4)] [141004] [] ?_
  cases hm
  exact A.ret qE
 refine qF c2<|A.skip ?_
 obtain⟨aP,h3,hm⟩:=aa hm
 refine qD [(4,hro (zi h3) atb),(7,.al 141010)] [2,3,25] [(10,.ptr 141010 0)] [] [(141010,.cells 66 [i6 aM,i6 seq,.bool aP,.aH,lf bn cL])] ?_
 obtain⟨bt,h4,hm⟩:=aa hm
 refine qDs [(2,hro (abO h4) ck80)] [] [(11,lf bK bt)]<|A.seq<|qDs [] [] [(12,i6 0)]<|A.block<|A.bS 11 rfl λhb1=>?_
 obtain⟨B1,K1,hB1,hK1,hm⟩:=bF hm
 refine A.lpI (l:=bt) (j0:=0) (B:=B1) (K:=K1) hm (λj1=>λm_1=>[(1,i6 aM),(4,.ptr 141004 0),(8,.ptr 141008 0),(10,.ptr 141010 0),(11,lf bK bt),(12,i6 (j1:Int))]) (λj1=>λm_1=>[(141004,.cells 45 (k2 t)),(141008,.cells 66 [i6 0,i6 0,.bool false,.aH,.aH]),(141010,.cells 66 [i6 aM,i6 seq,.bool aP,.own 714101003,lf bn cL]),(714101003,.slice 105 3 (ml bx m_1) 0 false)]) ?_ ?_ ?_
 ·exact bA.go [.ac 141010 714101003 105 3 3] [] (by kernel_rfl)
 ·rintro j1 e1 Z1 m_1 hj1 hx1 hm
  rw[hB1]at hm
  refine A.seq<|qDs [(2,hto (lnE bK bt))] [] [(40,.bool (decide ((j1:Int)<(bt.length:Int))))] ?_
  refine qT (ltT hx1)<|A.skip<|A.seq<|A.block ?_
  obtain⟨bL,h5,hm⟩:=aa hm
  refine qDs [(4,hix (ix bK (bh hx1))),(6,hro (vD h5) aks)] [40] [(13,i6 bL.1)]<|qD [(2,hix (ix bK (bh hx1))),(6,.al 141015)] [13] [(15,.ptr 141015 0)] [] [(141015,.cells 105 [i6 e1,i6 bL.1,i6 0])]<|A.seq<|qDs [] [] [(16,i6 0)]<|A.block<|A.bC 4 1 rfl rfl rfl λhb2=>?_
  obtain⟨B2,K2,hB2,hK2,hm⟩:=bF hm
  refine A.lpI (l:=t.Links) (j0:=0) (B:=B2) (K:=K2) hm (λj2=>λm_2=>[(1,i6 aM),(4,.ptr 141004 0),(8,.ptr 141008 0),(10,.ptr 141010 0),(11,lf bK bt),(12,i6 (j1:Int)),(15,.ptr 141015 0),(16,i6 (j2:Int))]) (λj2=>λm_2=>[(141004,.cells 45 (k2 t)),(141008,.cells 66 [i6 0,i6 0,.bool false,.aH,.aH]),(141010,.cells 66 [i6 aM,i6 seq,.bool aP,.own 714101003,lf bn cL]),(714101003,.slice 105 3 (ml bx m_1) 0 false),(141015,.cells 105 [i6 e1,i6 bL.1,i6 m_2])]) ?_ ?_ ?_
  ·exact qW
  ·rintro j2 e2 Z2 m_2 hj2 hx2 hm
   rw[hB2]at hm
   refine A.seq<|qDs [(3,hto (lnE aC t.Links))] [] [(63,.bool (decide ((j2:Int)<(t.Links.length:Int))))] ?_
   refine qT (ltT hx2)<|A.skip ?_
   obtain⟨J1,hJ1,hm⟩:=bQ hm
   refine A.J (J:=J1) (r:=r) (λm_3=>[(1,i6 aM),(4,.ptr 141004 0),(8,.ptr 141008 0),(10,.ptr 141010 0),(11,lf bK bt),(12,i6 (j1:Int)),(15,.ptr 141015 0),(16,i6 (j2:Int))]) (λm_3=>[(141004,.cells 45 (k2 t)),(141008,.cells 66 [i6 0,i6 0,.bool false,.aH,.aH]),(141010,.cells 66 [i6 aM,i6 seq,.bool aP,.own 714101003,lf bn cL]),(714101003,.slice 105 3 (ml bx m_1) 0 false),(141015,.cells 105 [i6 e1,i6 bL.1,i6 m_3])]) ?_ ?_
   ·refine A.block<|qD [(3,hix (ix aC (bh hx2))),(5,.al 141017)] [63] [(17,.ptr 141017 0)] [] [(141017,.cells 86 (k1 e2))] ?_
    refine A.mid [(1,i6 aM),(4,.ptr 141004 0),(8,.ptr 141008 0),(10,.ptr 141010 0),(11,lf bK bt),(12,i6 (j1:Int)),(15,.ptr 141015 0),(16,i6 (j2:Int)),(17,.ptr 141017 0),(90,.bool ((decide (e2.A=(if e1<aM then e1 else aM)))&&(decide (e2.B=(if e1>aM then e1 else aM)))))] [(141004,.cells 45 (k2 t)),(141008,.cells 66 [i6 0,i6 0,.bool false,.aH,.aH]),(141010,.cells 66 [i6 aM,i6 seq,.bool aP,.own 714101003,lf bn cL]),(714101003,.slice 105 3 (ml bx m_1) 0 false),(141015,.cells 105 [i6 e1,i6 bL.1,i6 m_2]),(141017,.cells 86 (k1 e2))] (λhk=>?_) ?_
    ·rcases tf (decide (e2.A=(if e1<aM then e1 else aM)))with c3|c3
     ·exact qS [(5,hix (ix bK (bh hx1))),(9,hto (bE c3)),(15,hix (ix bK (bh hx1))),(19,hto (rO (q:=decide (e2.B=(if e1>aM then e1 else aM))) c3))] _ _ hk
     exact qS [(5,hix (ix bK (bh hx1))),(9,hto (bE c3)),(19,hto (sM (q:=decide (e2.B=(if e1>aM then e1 else aM))) c3))] _ _ hk
    rcases az hm with⟨c4,hm⟩|⟨c4,hm⟩
    ·exact qT c4<|qG [] [17,90] [] [141015,141017] [(141015,.cells 105 [i6 e1,i6 bL.1,i6 e2.cg])]<|qX e2.cg hm
    exact qF c4<|A.skip<|qX m_2 hm
   rintro m_3 hm
   rw[hJ1]at hm
   exact qGs [(1,hto (inc hx2 hb2))] [16] [(16,i6 ((j2+1:Nat):Int))]<|qX m_3 hm
  rintro j2 m_2 hj2 hl2 hm
  rw[hK2]at hm
  refine A.seq<|qDs [(3,hto (lnE aC t.Links))] [] [(63,.bool (decide ((j2:Int)<(t.Links.length:Int))))] ?_
  refine qF (ltF hl2)<|A.exit ?_
  obtain⟨l_1,h6,hm⟩:=aa hm
  exact qG [(4,hap 141598 (ap bx (bytes:=24) (by decide) h6))] [15,16,63] [] [141010,714101003,141015] [(141010,.cells 66 [i6 aM,i6 seq,.bool aP,.own 141598,lf bn cL]),(141598,.slice 105 3 (ml bx l_1) 0 false)]<|qGs [(1,hto (inc hx1 hb1))] [12] [(12,i6 ((j1+1:Nat):Int))]<|Exists.intro l_1 (And.intro hm (bA.go [.sw 141598 714101003] [] (by kernel_rfl)))
 rintro j1 m_1 hj1 hl1 hm
 rw[hK1]at hm
 refine A.seq<|qDs [(2,hto (lnE bK bt))] [] [(40,.bool (decide ((j1:Int)<(bt.length:Int))))] ?_
 refine qF (ltF hl1)<|A.exit<|A.seq ?_
 obtain⟨cq,h7,hm⟩:=aa hm
 refine qD [(1,hle [714101003] (vK h7) akx)] [1,4,11,12,40] [(102,.bool (!cq))] [141004] [] ?_
 rcases az hm with⟨c5,hm⟩|⟨c5,hm⟩
 ·refine qT c5<|qD [] [10,102] [(9,i6 2)] [141010,714101003] [] ?_
  cases hm
  exact A.ret qE
 refine qF c5<|A.skip<|qD [] [10,102] [(9,i6 0)] [141008,141010] [(141008,.cells 66 [i6 aM,i6 seq,.bool aP,.own 714101003,lf bn cL])]<|A.ret ?_
 obtain rfl:=some_inj hm
 exact A.fin W0 [.fz [714101003]] rfl (by kernel_rfl)
end Go.Proofs.YtjdopimopgpagaaGreat
