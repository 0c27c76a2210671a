/- The eN of cu of the program. No condition but bH bq stand in each. -/
import Derived.Test.YtjdopimopgpagaaGreatV8
namespace Go.Proofs.YtjdopimopgpagaaGreat
open Go Go.Proofs.Tryz
set_option maxRecDepth 100000
set_option linter.all false
theorem abQ{d:aF}{a:ai}{r:aF}(hm:l8 d a=some r):RO prog 69 [] [.agg (k8 d),.agg (k7 a)] (.agg (k8 r)):=by
 refine aZ func69 rfl rfl ?_
 unfold l8 at hm
 refine qS [(0,.al 69002),(1,.al 69003),(2,.al 69004)] [(2,.ptr 69002 0),(3,.ptr 69003 0),(4,.ptr 69004 0)] [(69002,.cells 51 (k8 d)),(69003,.cells 66 (k7 a)),(69004,.cells 51 [.aH])]<|qD [(0,.al 69005)] [] [(5,.ptr 69005 0)] [] [(69005,.cells 51 [.aH])]<|qDs [] [] [(6,.bool false)]<|A.seq<|qDs [] [] [(7,i6 0)]<|A.block<|A.bC 2 0 rfl rfl rfl λhb1=>?_
 obtain⟨B1,K1,hB1,hK1,hm⟩:=bF hm
 refine A.lpI (l:=d.aG) (j0:=0) (B:=B1) (K:=K1) hm (λj1=>λ(mW,m_1)=>[(2,.ptr 69002 0),(3,.ptr 69003 0),(4,.ptr 69004 0),(5,.ptr 69005 0),(6,.bool mW),(7,i6 (j1:Int))]) (λj1=>λ(mW,m_1)=>[(69002,.cells 51 (k8 d)),(69003,.cells 66 (k7 a)),(69004,.cells 51 [.aH]),(69005,.cells 51 [.own 706900500]),(706900500,.slice 66 5 (ml aQ m_1) 0 false)]) ?_ ?_ ?_
 ·exact bA.go [.ac 69005 706900500 66 5 0] [] (by kernel_rfl)
 ·rintro j1 e1 Z1 ⟨mW,m_1⟩ hj1 hx1 hm
  rw[hB1]at hm
  refine A.seq<|qDs [(3,hto (lnE aQ d.aG))] [] [(12,.bool (decide ((j1:Int)<(d.aG.length:Int))))] ?_
  refine qT (ltT hx1)<|A.skip ?_
  obtain⟨J1,hJ1,hm⟩:=bQ hm
  refine A.J (J:=J1) (r:=r) (λ(xz,m_2)=>[(2,.ptr 69002 0),(3,.ptr 69003 0),(4,.ptr 69004 0),(5,.ptr 69005 0),(6,.bool xz),(7,i6 (j1:Int))]) (λ(xz,m_2)=>[(69002,.cells 51 (k8 d)),(69003,.cells 66 (k7 a)),(69004,.cells 51 [.aH]),(69005,.cells 51 [.own 706900500]),(706900500,.slice 66 5 (ml aQ m_2) 0 false)]) ?_ ?_
  ·refine A.block ?_
   obtain⟨J2,hJ2,hm⟩:=bQ hm
   refine A.J (J:=J2) (r:=r) (λ(uy,m_3)=>[(2,.ptr 69002 0),(3,.ptr 69003 0),(4,.ptr 69004 0),(5,.ptr 69005 0),(6,.bool uy),(7,i6 (j1:Int))]) (λ(uy,m_3)=>[(69002,.cells 51 (k8 d)),(69003,.cells 66 (k7 a)),(69004,.cells 51 [.aH]),(69005,.cells 51 [.own 706900500]),(706900500,.slice 66 5 (ml aQ m_3) 0 false)]) ?_ ?_
   ·refine A.mid [(2,.ptr 69002 0),(3,.ptr 69003 0),(4,.ptr 69004 0),(5,.ptr 69005 0),(6,.bool mW),(7,i6 (j1:Int)),(27,.bool ((!mW)&&(decide (a.af≤e1.af))))] [(69002,.cells 51 (k8 d)),(69003,.cells 66 (k7 a)),(69004,.cells 51 [.aH]),(69005,.cells 51 [.own 706900500]),(706900500,.slice 66 5 (ml aQ m_1) 0 false)] (λhk=>?_) ?_
    ·rcases tf (!mW)with c1|c1
     ·exact qS [(2,hto (bE c1)),(6,hix (ix aQ (bh hx1))),(12,hto (rO (q:=decide (a.af≤e1.af)) c1))] _ _ hk
     exact qS [(2,hto (bE c1)),(12,hto (sM (q:=decide (a.af≤e1.af)) c1))] _ _ hk
    rcases az hm with⟨c2,hm⟩|⟨c2,hm⟩
    ·refine qT c2 ?_
     obtain⟨l_1,h1,hm⟩:=aa hm
     exact qD [(4,hap 69532 (ap aQ (bytes:=72) (by decide) h1))] [6,27] [] [69005,706900500] [(69005,.cells 51 [.own 69532]),(69532,.slice 66 5 (ml aQ l_1) 0 false)]<|qGs [] [] [(6,.bool true)]<|Exists.intro (true,l_1) (And.intro hm (bA.go [.sw 69532 706900500] [] (by kernel_rfl)))
    exact qF c2<|A.skip<|qX (mW,m_1) hm
   rintro⟨uy,m_3⟩ hm
   rw[hJ2]at hm
   refine qDs [(3,hix (ix aQ (bh hx1)))] [] [(42,.bool (!decide (e1.af=a.af)))] ?_
   rcases az hm with⟨c3,hm⟩|⟨c3,hm⟩
   ·refine qT c3 ?_
    obtain⟨l_2,h2,hm⟩:=aa hm
    exact qG [(5,hix (ix aQ (bh hx1))),(8,hap 69551 (ap aQ (bytes:=72) (by decide) h2))] [42] [] [69005,706900500] [(69005,.cells 51 [.own 69551]),(69551,.slice 66 5 (ml aQ l_2) 0 false)]<|Exists.intro (uy,l_2) (And.intro hm (bA.go [.sw 69551 706900500] [] (by kernel_rfl)))
   exact qF c3<|A.skip<|qX (uy,m_3) hm
  rintro⟨xz,m_2⟩ hm
  rw[hJ1]at hm
  exact qGs [(1,hto (inc hx1 hb1))] [7] [(7,i6 ((j1+1:Nat):Int))]<|qX (xz,m_2) hm
 rintro j1 ⟨mW,m_1⟩ hj1 hl1 hm
 rw[hK1]at hm
 refine A.seq<|qDs [(3,hto (lnE aQ d.aG))] [] [(12,.bool (decide ((j1:Int)<(d.aG.length:Int))))] ?_
 refine qF (ltF hl1)<|A.exit ?_
 obtain⟨J3,hJ3,hm⟩:=bQ hm
 refine A.J (J:=J3) (r:=r) (λm_4=>[(4,.ptr 69004 0),(5,.ptr 69005 0)]) (λm_4=>[(69004,.cells 51 [.aH]),(69005,.cells 51 [.own 706900500]),(706900500,.slice 66 5 (ml aQ m_4) 0 false)]) ?_ ?_
 ·refine qD [] [2,6,7,12] [(54,.bool (!mW))] [69002] [] ?_
  rcases az hm with⟨c4,hm⟩|⟨c4,hm⟩
  ·refine qT c4 ?_
   obtain⟨l_3,h3,hm⟩:=aa hm
   exact qG [(4,hap 69559 (ap aQ (bytes:=72) (by decide) h3))] [3,54] [] [69003,69005,706900500] [(69005,.cells 51 [.own 69559]),(69559,.slice 66 5 (ml aQ l_3) 0 false)]<|Exists.intro l_3 (And.intro hm (bA.go [.sw 69559 706900500] [] (by kernel_rfl)))
  exact qF c4<|A.skip<|qX m_1 hm
 rintro m_4 hm
 rw[hJ3]at hm
 refine qD [] [5] [] [69004,69005] [(69004,.cells 51 [.own 706900500])]<|A.ret ?_
 obtain rfl:=some_inj hm
 exact A.fin W0 [.fz [706900500]] rfl (by kernel_rfl)
end Go.Proofs.YtjdopimopgpagaaGreat
