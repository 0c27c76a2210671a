/- The ew of cA of the program. No condition but bM bw stand in each. -/
import Derived.Test.YtjdopimopgpagaaGreatV8
import Derived.Test.YtjdopimopgpagaaGreatVN
namespace Go.Proofs.YtjdopimopgpagaaGreat
open Go Go.Proofs.Tryz
set_option maxRecDepth 100000
set_option linter.all false
variable {a:ai}{d:aG}
theorem abE{r:aG}(hm:pN d a=some r):RO prog 69 [] [.agg (k8 d),.agg (k7 a)] (.agg (k8 r)):=by
 refine aZ func69 rfl rfl ?_
 unfold pN at hm
 refine qS [(0,.al 69002),(1,.al 69003),(2,.al 69004)] [(2,.ptr 69002 0),(3,.ptr 69003 0),(4,.ptr 69004 0)] [(69002,.cells 51 (k8 d)),(69003,.cells 66 (k7 a)),(69004,.cells 51 [.aI])]<|qD [(0,.al 69005)] [] [(5,.ptr 69005 0)] [] [(69005,.cells 51 [.aI])]<|qDs [] [] [(6,.bool false)]<|A.seq<|qDs [] [] [(7,i6 0)]<|A.block<|A.bC 2 0 rfl rfl rfl λhb1=>?_
 obtain⟨B1,K1,hB1,hK1,hm⟩:=bu hm
 refine A.lpI (l:=d.aC) (j0:=0) (B:=B1) (K:=K1) hm (λj1=>λ(mI,m_1)=>[(2,.ptr 69002 0),(3,.ptr 69003 0),(4,.ptr 69004 0),(5,.ptr 69005 0),(6,.bool mI),(7,i6 (j1:Int))]) (λj1=>λ(mI,m_1)=>[(69002,.cells 51 (k8 d)),(69003,.cells 66 (k7 a)),(69004,.cells 51 [.aI]),(69005,.cells 51 [.own 706900500]),(706900500,.slice 66 5 (ml aM m_1) 0 false)]) ?_ ?_ ?_
 ·exact bz.go [.ac 69005 706900500 66 5 0] [] (by kernel_rfl)
 ·rintro j1 e1 Z1 ⟨mI,m_1⟩ hj1 hx1 hm
  rw[hB1]at hm
  refine A.seq<|qDs [(3,hto (lnE aM d.aC))] [] [(12,.bool (decide ((j1:Int)<(d.aC.length:Int))))] ?_
  refine qT (ltT hx1)<|A.skip ?_
  obtain⟨J1,hJ1,hm⟩:=bI hm
  refine A.J (J:=J1) (r:=r) (λ(wY,m_2)=>[(2,.ptr 69002 0),(3,.ptr 69003 0),(4,.ptr 69004 0),(5,.ptr 69005 0),(6,.bool wY),(7,i6 (j1:Int))]) (λ(wY,m_2)=>[(69002,.cells 51 (k8 d)),(69003,.cells 66 (k7 a)),(69004,.cells 51 [.aI]),(69005,.cells 51 [.own 706900500]),(706900500,.slice 66 5 (ml aM m_2) 0 false)]) ?_ ?_
  ·refine A.block ?_
   obtain⟨J2,hJ2,hm⟩:=bI hm
   refine A.J (J:=J2) (r:=r) (λ(tY,m_3)=>[(2,.ptr 69002 0),(3,.ptr 69003 0),(4,.ptr 69004 0),(5,.ptr 69005 0),(6,.bool tY),(7,i6 (j1:Int))]) (λ(tY,m_3)=>[(69002,.cells 51 (k8 d)),(69003,.cells 66 (k7 a)),(69004,.cells 51 [.aI]),(69005,.cells 51 [.own 706900500]),(706900500,.slice 66 5 (ml aM m_3) 0 false)]) ?_ ?_
   ·refine A.mid [(2,.ptr 69002 0),(3,.ptr 69003 0),(4,.ptr 69004 0),(5,.ptr 69005 0),(6,.bool mI),(7,i6 (j1:Int)),(27,.bool ((!mI)&&(decide (a.ah≤e1.ah))))] [(69002,.cells 51 (k8 d)),(69003,.cells 66 (k7 a)),(69004,.cells 51 [.aI]),(69005,.cells 51 [.own 706900500]),(706900500,.slice 66 5 (ml aM m_1) 0 false)] (λhk=>?_) ?_
    ·rcases tf (!mI)with c1|c1
     ·exact qS [(2,hto (bE c1)),(6,hix (ix aM (bf hx1))),(12,hto (pE (q:=decide (a.ah≤e1.ah)) c1))] _ _ hk
     exact qS [(2,hto (bE c1)),(12,hto (qn (q:=decide (a.ah≤e1.ah)) c1))] _ _ hk
    rcases aq hm with⟨c2,hm⟩|⟨c2,hm⟩
    ·refine qT c2 ?_
     obtain⟨l_1,h1,hm⟩:=aa hm
     exact qD [(4,hap 69532 (ap aM (bytes:=72) (by decide) h1))] [6,27] [] [69005,706900500] [(69005,.cells 51 [.own 69532]),(69532,.slice 66 5 (ml aM l_1) 0 false)]<|qGs [] [] [(6,.bool true)]<|Exists.intro (true,l_1) (And.intro hm (bz.go [.sw 69532 706900500] [] (by kernel_rfl)))
    exact qF c2<|A.skip<|qX (mI,m_1) hm
   rintro⟨tY,m_3⟩ hm
   rw[hJ2]at hm
   refine qDs [(3,hix (ix aM (bf hx1)))] [] [(42,.bool (!decide (e1.ah=a.ah)))] ?_
   rcases aq hm with⟨c3,hm⟩|⟨c3,hm⟩
   ·refine qT c3 ?_
    obtain⟨l_2,h2,hm⟩:=aa hm
    exact qG [(5,hix (ix aM (bf hx1))),(8,hap 69551 (ap aM (bytes:=72) (by decide) h2))] [42] [] [69005,706900500] [(69005,.cells 51 [.own 69551]),(69551,.slice 66 5 (ml aM l_2) 0 false)]<|Exists.intro (tY,l_2) (And.intro hm (bz.go [.sw 69551 706900500] [] (by kernel_rfl)))
   exact qF c3<|A.skip<|qX (tY,m_3) hm
  rintro⟨wY,m_2⟩ hm
  rw[hJ1]at hm
  exact qGs [(1,hto (inc hx1 hb1))] [7] [(7,i6 ((j1+1:Nat):Int))]<|qX (wY,m_2) hm
 rintro j1 ⟨mI,m_1⟩ hj1 hl1 hm
 rw[hK1]at hm
 refine A.seq<|qDs [(3,hto (lnE aM d.aC))] [] [(12,.bool (decide ((j1:Int)<(d.aC.length:Int))))] ?_
 refine qF (ltF hl1)<|A.exit ?_
 obtain⟨J3,hJ3,hm⟩:=bI hm
 refine A.J (J:=J3) (r:=r) (λm_4=>[(4,.ptr 69004 0),(5,.ptr 69005 0)]) (λm_4=>[(69004,.cells 51 [.aI]),(69005,.cells 51 [.own 706900500]),(706900500,.slice 66 5 (ml aM m_4) 0 false)]) ?_ ?_
 ·refine qD [] [2,6,7,12] [(54,.bool (!mI))] [69002] [] ?_
  rcases aq hm with⟨c4,hm⟩|⟨c4,hm⟩
  ·refine qT c4 ?_
   obtain⟨l_3,h3,hm⟩:=aa hm
   exact qG [(4,hap 69559 (ap aM (bytes:=72) (by decide) h3))] [3,54] [] [69003,69005,706900500] [(69005,.cells 51 [.own 69559]),(69559,.slice 66 5 (ml aM l_3) 0 false)]<|Exists.intro l_3 (And.intro hm (bz.go [.sw 69559 706900500] [] (by kernel_rfl)))
  exact qF c4<|A.skip<|qX m_1 hm
 rintro m_4 hm
 rw[hJ3]at hm
 refine qD [] [5] [] [69004,69005] [(69004,.cells 51 [.own 706900500])]<|A.ret ?_
 obtain rfl:=some_inj hm
 exact A.fin W0 [.fz [706900500]] rfl (by kernel_rfl)
theorem acn{r:aG×Bool}(hm:oO d a=some r):RO prog 143 [] [.agg (k8 d),.agg (k7 a)] (.tup [.agg (k8 r.1),.bool r.2]):=by
 refine aZ func143 rfl rfl ?_
 unfold oO at hm
 refine qS [(0,.al 143002),(1,.al 143003),(2,.al 143004)] [(2,.ptr 143002 0),(3,.ptr 143003 0),(4,.ptr 143004 0)] [(143002,.cells 51 (k8 d)),(143003,.cells 66 (k7 a)),(143004,.cells 51 [.aI])]<|A.seq ?_
 obtain⟨J1,hJ1,hm⟩:=bI hm
 refine A.J (J:=J1) (r:=r) (λv_1=>[(2,.ptr 143002 0),(3,.ptr 143003 0),(4,.ptr 143004 0),(15,.bool v_1)]) (λv_1=>[(143002,.cells 51 (k8 d)),(143003,.cells 66 (k7 a)),(143004,.cells 51 [.aI])]) ?_ ?_
 ·obtain⟨af,h1,hm⟩:=aa hm
  rcases aq hm with⟨c1,hm⟩|⟨c1,hm⟩
  ·exact qGs [(1,hro (og h1) af9),(3,hto (bE c1))] [] [(15,.bool true)]<|qX true hm
  obtain⟨aD,h2,hm⟩:=aa hm
  exact qGs [(1,hro (og h1) af9),(3,hto (bE c1)),(5,hro (fK h2) uN)] [] [(15,.bool (!aD))]<|qX (!aD) hm
 rintro v_1 hm
 rw[hJ1]at hm
 rcases aq hm with⟨c2,hm⟩|⟨c2,hm⟩
 ·refine qT c2<|qS [] [(4,.ptr 143004 0),(5,.bool false)] [(143004,.cells 51 (k8 d))] ?_
  cases hm
  exact A.ret qE
 refine qF c2<|A.skip ?_
 obtain⟨aP,h3,hm⟩:=aa hm
 refine qD [(3,hro (abB h3) ck75),(7,.al 143006)] [15] [(6,.ptr 143006 0),(7,.bool aP.2)] [] [(143006,.cells 66 (k7 aP.1))]<|A.seq ?_
 obtain⟨J2,hJ2,hm⟩:=bI hm
 refine A.J (J:=J2) (r:=r) (λv_2=>[(2,.ptr 143002 0),(3,.ptr 143003 0),(4,.ptr 143004 0),(30,.bool v_2)]) (λv_2=>[(143002,.cells 51 (k8 d)),(143003,.cells 66 (k7 a)),(143004,.cells 51 [.aI])]) ?_ ?_
 ·rcases aq hm with⟨c3,hm⟩|⟨c3,hm⟩
  ·obtain⟨bt,h4,hm⟩:=aa hm
   exact qG [(1,hto (bE c3)),(4,hro (aa3 h4) asT)] [6,7] [(30,.bool (!bt))] [143006] []<|qX (!bt) hm
  exact qG [(1,hto (bE c3))] [6,7] [(30,.bool false)] [143006] []<|qX false hm
 rintro v_2 hm
 rw[hJ2]at hm
 rcases aq hm with⟨c4,hm⟩|⟨c4,hm⟩
 ·refine qT c4<|qS [] [(4,.ptr 143004 0),(5,.bool false)] [(143004,.cells 51 (k8 d))] ?_
  cases hm
  exact A.ret qE
 refine qF c4<|A.skip ?_
 obtain⟨bF,h5,hm⟩:=aa hm
 refine qS [(2,hro (abE h5) ck69)] [(4,.ptr 143004 0),(5,.bool true)] [(143004,.cells 51 (k8 bF))] ?_
 cases hm
 exact A.ret qE
end Go.Proofs.YtjdopimopgpagaaGreat
