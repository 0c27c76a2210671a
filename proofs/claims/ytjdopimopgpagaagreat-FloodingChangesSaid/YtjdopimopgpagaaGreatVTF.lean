/- The ew of cA of the program. No condition but bM bw stand in each. -/
import Derived.Test.YtjdopimopgpagaaGreatVT
namespace Go.Proofs.YtjdopimopgpagaaGreat
open Go Go.Proofs.Tryz
set_option maxRecDepth 100000
set_option linter.all false
variable {most:Int}{t:aS}
theorem vB{r:aG×aS}(hm:mj t most=some r):bP prog 60 [(900000083,.cells 83 (k3 t))] [.ptr 900000083 0,i6 most] (λa σ'=>a=.agg (k8 r.1)∧σ'=[(900000083,.cells 83 (k3 r.2))]):=by
 refine aZ func60 rfl rfl ?_
 unfold mj at hm
 refine qS [(0,.al 60004)] [(0,.ptr 900000083 0),(1,i6 most),(4,.ptr 60004 0)] [(900000083,.cells 83 (k3 t)),(60004,.cells 51 [.aI])]<|A.seq ?_
 obtain⟨af,h1,hm⟩:=aa hm
 refine qD [(1,hdc [] (bN h1) iy)] [] [(9,.bool (decide (af.1=0)))] [900000083] [(900000083,.cells 83 (k3 af.2))] ?_
 rcases aq hm with⟨c1,hm⟩|⟨c1,hm⟩
 ·refine qT c1<|qDs [] [0,1,9] [] ?_
  cases hm
  exact A.ret qE
 refine qF c1<|A.skip ?_
 obtain⟨aD,h2,hm⟩:=aa hm
 refine qD [(1,hdc [500005800] (rL h2) ao7),(2,.al 60005)] [0,9] [(5,.ptr 60005 0)] [900000083] [(900000083,.cells 83 (k3 aD.2)),(500005800,.slice 66 5 (ml aM aD.1.aC) 0 false),(60005,.cells 51 [.own 500005800])]<|A.seq<|qDs [] [] [(6,i6 0)]<|A.block ?_
 obtain⟨F1,n1,hF1,hm⟩:=gw hm
 refine A.lpW (F:=F1) hm (λ(i_1,m_1)=>[(1,i6 most),(4,.ptr 60004 0),(5,.ptr 60005 0),(6,i6 i_1)]) (λ(i_1,m_1)=>[(900000083,.cells 83 (k3 aD.2)),(60004,.cells 51 [.aI]),(60005,.cells 51 [.own 706000500]),(706000500,.slice 66 5 (ml aM m_1) 0 false)]) ?_ ?_
 ·exact bz.go [.sw 500005800 706000500] [] (by kernel_rfl)
 rintro Z1 ⟨i_1,m_1⟩ hm
 rw[hF1]at hm
 refine A.seq<|qDs [(3,hto (lnE aM m_1))] [] [(17,.bool (decide (i_1<(m_1.length:Int))))] ?_
 rcases aq hm with⟨c2,hm⟩|⟨c2,hm⟩
 ·refine qT c2<|A.skip<|A.seq<|A.block ?_
  obtain⟨e_1,h3,hm⟩:=aa hm
  obtain⟨l_1,h4,hm⟩:=aa hm
  exact qG [(6,hix (ix aM h3)),(8,hlo 706000500 1 (ix aM h3)),(11,hix (ix aM h3)),(13,hso 706000500 (st aM (off:=1) (ca:=[i6 (if most<e_1.Seq then most else e_1.Seq)]) h3 h4 rfl) (iu h3).1.1)] [17] [] [706000500] [(706000500,.slice 66 5 (ml aM l_1) 0 false)]<|qGs [] [6] [(6,i6 (w64 (i_1+1)))]<|qX (w64 (i_1+1),l_1) hm
 refine qF c2<|A.exit<|qD [] [1,5,6,17] [] [60004,60005] [(60004,.cells 51 [.own 706000500])]<|A.ret ?_
 obtain rfl:=some_inj hm
 exact A.fin W0 [.fz [706000500]] rfl (by kernel_rfl)
theorem y4{kI:Int}{r:aB×aS}(hm:mJ t kI most=some r):bP prog 13 [(900000083,.cells 83 (k3 t))] [.ptr 900000083 0,i6 kI,i6 most] (λa σ'=>a=.agg [lf az r.1.Links,.own 500001300,lf aJ r.1.ay]∧σ'=[(900000083,.cells 83 (k3 r.2)),(500001300,.slice 53 5 (ml aL r.1.aF) 0 false)]):=by
 refine aZ func13 rfl rfl ?_
 unfold mJ at hm
 refine qS [(0,.al 13006)] [(0,.ptr 900000083 0),(1,i6 kI),(2,i6 most),(6,.ptr 13006 0)] [(900000083,.cells 83 (k3 t)),(13006,.cells 27 [.aI,.aI,.aI])] ?_
 obtain⟨af,h1,hm⟩:=aa hm
 refine qD [(2,hdc [500004600,500004601] (rJ h1) ao6),(3,.al 13007)] [1] [(7,.ptr 13007 0)] [900000083] [(900000083,.cells 83 (k3 af.2)),(500004600,.slice 93 2 (ml aU af.1.aH) 0 false),(500004601,.slice 86 5 (ml az af.1.Links) 0 false),(13007,.cells 45 [.own 500004600,.own 500004601])]<|qD [(3,.al 13008)] [] [(8,.ptr 13008 0)] [] [(13008,.cells 27 [.own 500004601,.aI,.aI])]<|A.seq<|qDs [] [] [(9,i6 0)]<|A.block<|A.bD 7 0 rfl rfl rfl rfl λhb1=>?_
 obtain⟨B1,K1,hB1,hK1,hm⟩:=bu hm
 refine A.lpI (l:=af.1.aH) (j0:=0) (B:=B1) (K:=K1) hm (λj1=>λ(m_1,m_2,m_3)=>[(0,.ptr 900000083 0),(2,i6 most),(6,.ptr 13006 0),(7,.ptr 13007 0),(8,.ptr 13008 0),(9,i6 (j1:Int))]) (λj1=>λ(m_1,m_2,m_3)=>[(900000083,.cells 83 [lf bO m_2,i6 m_3]),(13006,.cells 27 [.aI,.aI,.aI]),(500004600,.slice 93 2 (ml aU af.1.aH) 0 false),(500004601,.slice 86 5 (ml az af.1.Links) 0 false),(13007,.cells 45 [.own 500004600,.own 500004601]),(13008,.cells 27 [.own 500004601,.own 701300801,.aI]),(701300801,.slice 53 5 (ml aL m_1) 0 false)]) ?_ ?_ ?_
 ·exact bz.go [.ac 13008 701300801 53 5 1] [] (by kernel_rfl)
 ·rintro j1 e1 Z1 ⟨m_1,m_2,m_3⟩ hj1 hx1 hm
  rw[hB1]at hm
  refine A.seq<|qDs [(3,hto (lnE aU af.1.aH))] [] [(25,.bool (decide ((j1:Int)<(af.1.aH.length:Int))))] ?_
  refine qT (ltT hx1)<|A.skip<|A.seq<|A.block ?_
  obtain⟨aD,h2,hm⟩:=aa hm
  obtain⟨aP,h3,hm⟩:=aa hm
  obtain⟨bt,h4,hm⟩:=aa hm
  refine qD [(3,hix (ix aU (bf hx1))),(5,hlo 500004600 0 (ix aU (bf hx1))),(9,hdc [] (dF h2) su),(12,hdc [] (bN h3) iy),(16,hdc [] (vB h4) ao8),(18,.al 13010)] [25] [(10,.ptr 13010 0)] [900000083] [(900000083,.cells 83 (k3 bt.2)),(13010,.cells 53 [i6 e1.ID,i6 (if aD.1<most then aD.1 else most),.bool (decide (0<aP.1)),.aI,lf aM bt.1.aC])]<|A.seq<|qDs [] [] [(11,i6 0)]<|A.block ?_
  obtain⟨B2,K2,hB2,hK2,hm⟩:=jW hm
  refine A.lpN (hi:=(2:Int)) (B:=B2) (K:=K2) hm rfl (λj2=>λ(m_4,m_5,m_6)=>[(0,.ptr 900000083 0),(2,i6 most),(6,.ptr 13006 0),(7,.ptr 13007 0),(8,.ptr 13008 0),(9,i6 (j1:Int)),(10,.ptr 13010 0),(11,i6 (j2:Int))]) (λj2=>λ(m_4,m_5,m_6)=>[(900000083,.cells 83 [lf bO m_5,i6 m_6]),(13006,.cells 27 [.aI,.aI,.aI]),(500004600,.slice 93 2 (ml aU af.1.aH) 0 false),(500004601,.slice 86 5 (ml az af.1.Links) 0 false),(13007,.cells 45 [.own 500004600,.own 500004601]),(13008,.cells 27 [.own 500004601,.own 701300801,.aI]),(701300801,.slice 53 5 (ml aL m_1) 0 false),(13010,.cells 53 [i6 e1.ID,i6 (if aD.1<most then aD.1 else most),.bool (decide (0<aP.1)),.own 701301003,lf aM bt.1.aC]),(701301003,.slice 91 3 (ml bg m_4) 0 false)]) ?_ ?_ ?_
  ·exact bz.go [.ac 13010 701301003 91 3 3] [] (by kernel_rfl)
  ·rintro j2 Z2 ⟨m_4,m_5,m_6⟩ hj2 hx2 hm
   rw[hB2]at hm
   refine A.seq<|qDs [] [] [(47,.bool (decide ((j2:Int)<(2:Int))))] ?_
   refine A.cT rfl (decide_eq_true hx2)<|A.skip ?_
   obtain⟨J1,hJ1,hm⟩:=bI hm
   refine A.J (J:=J1) (r:=r) (λ(m_7,m_8,m_9)=>[(0,.ptr 900000083 0),(2,i6 most),(6,.ptr 13006 0),(7,.ptr 13007 0),(8,.ptr 13008 0),(9,i6 (j1:Int)),(10,.ptr 13010 0),(11,i6 (j2:Int))]) (λ(m_7,m_8,m_9)=>[(900000083,.cells 83 [lf bO m_7,i6 m_8]),(13006,.cells 27 [.aI,.aI,.aI]),(500004600,.slice 93 2 (ml aU af.1.aH) 0 false),(500004601,.slice 86 5 (ml az af.1.Links) 0 false),(13007,.cells 45 [.own 500004600,.own 500004601]),(13008,.cells 27 [.own 500004601,.own 701300801,.aI]),(701300801,.slice 53 5 (ml aL m_1) 0 false),(13010,.cells 53 [i6 e1.ID,i6 (if aD.1<most then aD.1 else most),.bool (decide (0<aP.1)),.own 701301003,lf aM bt.1.aC]),(701301003,.slice 91 3 (ml bg m_9) 0 false)]) ?_ ?_
   ·refine A.block ?_
    obtain⟨bF,h5,hm⟩:=aa hm
    refine qD [(1,hdc [] (bN h5) iy)] [47] [(52,.bool (decide (bF.1=0)))] [900000083] [(900000083,.cells 83 (k3 bF.2))] ?_
    rcases aq hm with⟨c1,hm⟩|⟨c1,hm⟩
    ·refine qT c1 ?_
     obtain⟨cg,h6,hm⟩:=aa hm
     obtain⟨cw,h7,hm⟩:=aa hm
     obtain⟨l_1,h8,hm⟩:=aa hm
     exact qG [(4,hdc [] (fG h6) yW),(6,hdc [] (sS h7) ao9),(9,hap 13562 (ap bg (bytes:=24) (by decide) h8))] [52] [] [900000083,13010,701301003] [(900000083,.cells 83 (k3 cw.2)),(13010,.cells 53 [i6 e1.ID,i6 (if aD.1<most then aD.1 else most),.bool (decide (0<aP.1)),.own 13562,lf aM bt.1.aC]),(13562,.slice 91 3 (ml bg l_1) 0 false)]<|Exists.intro (cw.2.L,cw.2.At,l_1) (And.intro hm (bz.go [.sw 13562 701301003] [] (by kernel_rfl)))
    exact qF c1<|A.skip<|qX (bF.2.L,bF.2.At,m_4) hm
   rintro⟨m_7,m_8,m_9⟩ hm
   rw[hJ1]at hm
   exact qGs [(1,hto (vl (by omega) hx2 (by decide)))] [11] [(11,i6 (j2+1:Int))]<|qX (m_9,m_7,m_8) hm
  rintro j2 ⟨m_4,m_5,m_6⟩ hj2 hl2 hm
  rw[hK2]at hm
  refine A.seq<|qDs [] [] [(47,.bool (decide ((j2:Int)<(2:Int))))] ?_
  refine A.cF rfl (geF hl2)<|A.exit ?_
  obtain⟨l_2,h9,hm⟩:=aa hm
  exact A.R W0 [.fz [701301003],.sc 13010 [900000083,13006,500004600,500004601,13007,13008,701300801,13010]] [(4,hap 13568 (ap aL (bytes:=72) (by decide) h9))] [(0,.ptr 900000083 0),(2,i6 most),(6,.ptr 13006 0),(7,.ptr 13007 0),(8,.ptr 13008 0),(9,i6 (j1:Int))] [(900000083,.cells 83 [lf bO m_5,i6 m_6]),(13006,.cells 27 [.aI,.aI,.aI]),(500004600,.slice 93 2 (ml aU af.1.aH) 0 false),(500004601,.slice 86 5 (ml az af.1.Links) 0 false),(13007,.cells 45 [.own 500004600,.own 500004601]),(13008,.cells 27 [.own 500004601,.own 13568,.aI]),(13568,.slice 53 5 (ml aL l_2) 0 false)] (by kernel_rfl)<|qR [(1,hto (inc hx1 hb1))] [(0,.ptr 900000083 0),(2,i6 most),(6,.ptr 13006 0),(7,.ptr 13007 0),(8,.ptr 13008 0),(9,i6 ((j1+1:Nat):Int))] [(900000083,.cells 83 [lf bO m_5,i6 m_6]),(13006,.cells 27 [.aI,.aI,.aI]),(500004600,.slice 93 2 (ml aU af.1.aH) 0 false),(500004601,.slice 86 5 (ml az af.1.Links) 0 false),(13007,.cells 45 [.own 500004600,.own 500004601]),(13008,.cells 27 [.own 500004601,.own 13568,.aI]),(13568,.slice 53 5 (ml aL l_2) 0 false)]<|Exists.intro (l_2,m_5,m_6) (And.intro hm (bz.go [.sw 13568 701300801] [] (by kernel_rfl)))
 rintro j1 ⟨m_1,m_2,m_3⟩ hj1 hl1 hm
 rw[hK1]at hm
 refine A.seq<|qDs [(3,hto (lnE aU af.1.aH))] [] [(25,.bool (decide ((j1:Int)<(af.1.aH.length:Int))))] ?_
 refine qF (ltF hl1)<|A.exit<|A.seq ?_
 obtain⟨cr,h10,hm⟩:=aa hm
 refine qD [(1,hdc [] (bN h10) iy)] [9,25] [(12,i6 cr.1)] [900000083] [(900000083,.cells 83 (k3 cr.2))]<|A.block ?_
 obtain⟨F3,n3,hF3,hm⟩:=gw hm
 refine A.lpW (F:=F3) hm (λ(i_1,gT,gH,lZ)=>[(0,.ptr 900000083 0),(2,i6 most),(6,.ptr 13006 0),(7,.ptr 13007 0),(8,.ptr 13008 0),(12,i6 i_1)]) (λ(i_1,gT,gH,lZ)=>[(900000083,.cells 83 [lf bO gH,i6 lZ]),(13006,.cells 27 [.aI,.aI,.aI]),(500004600,.slice 93 2 (ml aU af.1.aH) 0 false),(500004601,.slice 86 5 (ml az af.1.Links) 0 false),(13007,.cells 45 [.own 500004600,.own 500004601]),(13008,.cells 27 [.own 500004601,.own 701300801,.own 701300802]),(701300801,.slice 53 5 (ml aL m_1) 0 false),(701300802,.slice 75 3 (ml aJ gT) 0 false)]) ?_ ?_
 ·exact bz.go [.ac 13008 701300802 75 3 2] [] (by kernel_rfl)
 rintro Z3 ⟨i_1,gT,gH,lZ⟩ hm
 rw[hF3]at hm
 refine A.seq<|A.mid [(0,.ptr 900000083 0),(2,i6 most),(6,.ptr 13006 0),(7,.ptr 13007 0),(8,.ptr 13008 0),(12,i6 i_1),(79,.bool ((decide (0<i_1))&&(decide (1<(af.1.aH.length:Int)))))] [(900000083,.cells 83 [lf bO gH,i6 lZ]),(13006,.cells 27 [.aI,.aI,.aI]),(500004600,.slice 93 2 (ml aU af.1.aH) 0 false),(500004601,.slice 86 5 (ml az af.1.Links) 0 false),(13007,.cells 45 [.own 500004600,.own 500004601]),(13008,.cells 27 [.own 500004601,.own 701300801,.own 701300802]),(701300801,.slice 53 5 (ml aL m_1) 0 false),(701300802,.slice 75 3 (ml aJ gT) 0 false)] (λhk=>?_) ?_
 ·rcases tf (decide (0<i_1))with c2|c2
  ·exact qS [(2,hto (bE c2)),(5,hto (lnE aU af.1.aH)),(7,hto (pE (q:=decide (1<(af.1.aH.length:Int))) c2))] _ _ hk
  exact qS [(2,hto (bE c2)),(7,hto (qn (q:=decide (1<(af.1.aH.length:Int))) c2))] _ _ hk
 rcases aq hm with⟨c3,hm⟩|⟨c3,hm⟩
 ·refine qT c3<|A.skip<|A.seq<|A.block ?_
  obtain⟨dJ,h11,hm⟩:=aa hm
  refine qD [(3,hto (lnE aU af.1.aH)),(4,hdc [] (bN h11) iy)] [79] [(13,i6 dJ.1)] [900000083] [(900000083,.cells 83 (k3 dJ.2))] ?_
  obtain⟨bK,h12,hm⟩:=aa hm
  obtain⟨ei,h13,hm⟩:=aa hm
  refine qD [(4,hto (lnE aU af.1.aH)),(6,hdc [] (fG h12) yW),(10,hto (lnE aU af.1.aH)),(11,hro (aah h13) apa)] [] [(14,i6 ei)] [900000083] [(900000083,.cells 83 (k3 bK.2))] ?_
  obtain⟨e_1,h14,hm⟩:=aa hm
  obtain⟨e_2,h15,hm⟩:=aa hm
  obtain⟨cn,h16,hm⟩:=aa hm
  obtain⟨l_3,h17,hm⟩:=aa hm
  exact qG [(5,hix (ix aU h14)),(7,hlo 500004600 0 (ix aU h14)),(11,hix (ix aU h15)),(13,hlo 500004600 0 (ix aU h15)),(16,hdc [] (vB h16) ao8),(19,hap 13618 (ap aJ (bytes:=40) (by decide) h17))] [13,14] [] [900000083,13008,701300802] [(900000083,.cells 83 (k3 cn.2)),(13008,.cells 27 [.own 500004601,.own 701300801,.own 13618]),(13618,.slice 75 3 (ml aJ l_3) 0 false)]<|qGs [] [12] [(12,i6 (w64 (i_1-1)))]<|Exists.intro (w64 (i_1-1),l_3,cn.2.L,cn.2.At) (And.intro hm (bz.go [.sw 13618 701300802] [] (by kernel_rfl)))
 refine qF c3<|A.exit<|qD [] [0,2,7,8,12,79] [] [13006,500004600,13007,13008] [(13006,.cells 27 [.own 500004601,.own 701300801,.own 701300802])]<|A.ret ?_
 obtain rfl:=some_inj hm
 exact A.fin W0 [.fz [500004601,701300802],.sw 701300801 500001300] rfl (by kernel_rfl)
end Go.Proofs.YtjdopimopgpagaaGreat
