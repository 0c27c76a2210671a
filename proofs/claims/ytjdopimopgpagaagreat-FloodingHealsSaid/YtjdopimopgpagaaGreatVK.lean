/- The eN of cu of the program. No condition but bH bq stand in each. -/
import Derived.Test.YtjdopimopgpagaaGreatV9
namespace Go.Proofs.YtjdopimopgpagaaGreat
open Go Go.Proofs.Tryz
set_option maxRecDepth 100000
set_option linter.all false
theorem acA{t:aB}{aM:Int}{seq:Int}{cL:List bG}{r:ai×Int}(hm:ri t aM seq cL=some r):bM prog 112 [] [.agg (k2 t),i6 aM,i6 seq,lf bn cL] (λa σ'=>a=.tup [.agg [i6 r.1.af,i6 r.1.Seq,.bool r.1.aY,.own 500011200,.own 500011201],i6 r.2]∧σ'=[(500011200,.slice 105 3 (ml bx r.1.Links) 0 false),(500011201,.slice 91 3 (ml bn r.1.Claims) 0 false)]):=by
 refine aZ func112 rfl rfl ?_
 unfold ri at hm
 refine qS [(0,.al 112004),(1,.al 112008)] [(1,i6 aM),(2,i6 seq),(3,lf bn cL),(4,.ptr 112004 0),(8,.ptr 112008 0)] [(112004,.cells 45 (k2 t)),(112008,.cells 66 [i6 0,i6 0,.bool false,.aH,.aH])]<|A.seq<|A.block ?_
 obtain⟨ah,h1,hm⟩:=aa hm
 refine qDs [(1,hro (jI h1) aep)] [] [(13,.bool (!decide (ah=0)))] ?_
 rcases az hm with⟨c1,hm⟩|⟨c1,hm⟩
 ·refine qT c1<|qD [] [1,2,3,4,13] [(9,i6 1)] [112004] []<|A.ret ?_
  obtain rfl:=some_inj hm
  exact A.fin W0 [.ac 112008 500011200 105 3 3,.ac 112008 500011201 91 3 4] rfl (by kernel_rfl)
 refine qF c1 ?_
 obtain⟨aD,h2,hm⟩:=aa hm
 refine qDs [(2,hro (iC h2) x8)] [13] [(18,.bool (!aD))] ?_
 rcases az hm with⟨c2,hm⟩|⟨c2,hm⟩
 ·refine qT c2<|qD [] [1,2,3,4,18] [(9,i6 4)] [112004] []<|A.ret ?_
  obtain rfl:=some_inj hm
  exact A.fin W0 [.ac 112008 500011200 105 3 3,.ac 112008 500011201 91 3 4] rfl (by kernel_rfl)
 refine qF c2<|A.skip ?_
 obtain⟨aP,h3,hm⟩:=aa hm
 obtain⟨l_1,h4,hm⟩:=aa hm
 refine qD [(4,hro (xq h3) as6),(6,hap 112530 (ap bn (bytes:=24) (by decide) h4)),(8,.al 112010)] [2,3,18] [(10,.ptr 112010 0)] [] [(112530,.slice 91 3 (ml bn l_1) 0 false),(112010,.cells 66 [i6 aM,i6 seq,.bool aP,.aH,.own 112530])]<|A.seq<|qD [(2,hto (lnE aC t.Links))] [4] [(33,lf aC t.Links),(34,i6 (t.Links.length:Int)),(35,i6 0)] [112004] []<|A.block<|A.bS 33 rfl λhb1=>?_
 obtain⟨B1,K1,hB1,hK1,hm⟩:=bF hm
 refine A.lpI (l:=t.Links) (j0:=0) (B:=B1) (K:=K1) hm (λj1=>λm_1=>[(1,i6 aM),(8,.ptr 112008 0),(10,.ptr 112010 0),(33,lf aC t.Links),(34,i6 (t.Links.length:Int)),(35,i6 (j1:Int))]) (λj1=>λm_1=>[(112008,.cells 66 [i6 0,i6 0,.bool false,.aH,.aH]),(112530,.slice 91 3 (ml bn l_1) 0 false),(112010,.cells 66 [i6 aM,i6 seq,.bool aP,.own 711201003,.own 112530]),(711201003,.slice 105 3 (ml bx m_1) 0 false)]) ?_ ?_ ?_
 ·exact bA.go [.ac 112010 711201003 105 3 3] [] (by kernel_rfl)
 ·rintro j1 e1 Z1 m_1 hj1 hx1 hm
  rw[hB1]at hm
  refine qDs [] [] [(36,.bool (decide ((j1:Int)<(t.Links.length:Int))))]<|A.seq<|qT (ltT hx1)<|A.skip ?_
  obtain⟨J1,hJ1,hm⟩:=bQ hm
  refine A.J (J:=J1) (r:=r) (λm_2=>[(1,i6 aM),(8,.ptr 112008 0),(10,.ptr 112010 0),(33,lf aC t.Links),(34,i6 (t.Links.length:Int)),(35,i6 (j1:Int))]) (λm_2=>[(112008,.cells 66 [i6 0,i6 0,.bool false,.aH,.aH]),(112530,.slice 91 3 (ml bn l_1) 0 false),(112010,.cells 66 [i6 aM,i6 seq,.bool aP,.own 711201003,.own 112530]),(711201003,.slice 105 3 (ml bx m_2) 0 false)]) ?_ ?_
  ·refine A.block<|qD [(0,hix (ix aC (bh hx1))),(2,.al 112012)] [36] [(12,.ptr 112012 0)] [] [(112012,.cells 86 (k1 e1))] ?_
   refine qDs [] [] [(39,i6 aM)]<|A.block<|qDs [] [] [(40,.bool (decide (aM=e1.A)))] ?_
   rcases az hm with⟨c3,hm⟩|⟨c3,hm⟩
   ·refine qT c3 ?_
    obtain⟨l_2,h5,hm⟩:=aa hm
    exact qG [(10,hap 112554 (ap bx (bytes:=24) (by decide) h5))] [12,39,40] [] [112010,711201003,112012] [(112010,.cells 66 [i6 aM,i6 seq,.bool aP,.own 112554,.own 112530]),(112554,.slice 105 3 (ml bx l_2) 0 false)]<|Exists.intro l_2 (And.intro hm (bA.go [.sw 112554 711201003] [] (by kernel_rfl)))
   refine qF c3<|qDs [] [39,40] [(56,.bool (decide (aM=e1.B)))] ?_
   rcases az hm with⟨c4,hm⟩|⟨c4,hm⟩
   ·refine qT c4 ?_
    obtain⟨l_3,h6,hm⟩:=aa hm
    exact qG [(10,hap 112570 (ap bx (bytes:=24) (by decide) h6))] [12,56] [] [112010,711201003,112012] [(112010,.cells 66 [i6 aM,i6 seq,.bool aP,.own 112570,.own 112530]),(112570,.slice 105 3 (ml bx l_3) 0 false)]<|Exists.intro l_3 (And.intro hm (bA.go [.sw 112570 711201003] [] (by kernel_rfl)))
   exact qF c4<|A.skip<|qX m_1 hm
  rintro m_2 hm
  rw[hJ1]at hm
  exact qGs [(0,hto (inc hx1 hb1))] [35] [(35,i6 ((j1+1:Nat):Int))]<|qX m_2 hm
 rintro j1 m_1 hj1 hl1 hm
 rw[hK1]at hm
 refine qDs [] [] [(36,.bool (decide ((j1:Int)<(t.Links.length:Int))))]<|A.seq<|qF (ltF hl1)<|A.exit<|A.seq ?_
 obtain⟨bt,h7,hm⟩:=aa hm
 refine qDs [(1,hle [711201003,112530] (jx h7) acq)] [1,33,34,35,36] [(75,.bool (!bt))] ?_
 rcases az hm with⟨c5,hm⟩|⟨c5,hm⟩
 ·refine qT c5<|qD [] [10,75] [(9,i6 2)] [112530,112010,711201003] []<|A.ret ?_
  obtain rfl:=some_inj hm
  exact A.fin W0 [.ac 112008 500011200 105 3 3,.ac 112008 500011201 91 3 4] rfl (by kernel_rfl)
 refine qF c5<|A.skip<|qD [] [10,75] [(9,i6 0)] [112008,112010] [(112008,.cells 66 [i6 aM,i6 seq,.bool aP,.own 711201003,.own 112530])]<|A.ret ?_
 obtain rfl:=some_inj hm
 exact A.fin W0 [.sw 711201003 500011200,.sw 112530 500011201] rfl (by kernel_rfl)
end Go.Proofs.YtjdopimopgpagaaGreat
