/- The eN of cu of the program. No condition but bH bq stand in each. -/
import Derived.Test.YtjdopimopgpagaaGreatVT
namespace Go.Proofs.YtjdopimopgpagaaGreat
open Go Go.Proofs.Tryz
set_option maxRecDepth 100000
set_option linter.all false
variable {most:Int}{t:aU}
theorem vO{r:aF×aU}(hm:mJ t most=some r):bM prog 60 [(900000083,.cells 83 (k3 t))] [.ptr 900000083 0,i6 most] (λa σ'=>a=.agg (k8 r.1)∧σ'=[(900000083,.cells 83 (k3 r.2))]):=by
 refine aZ func60 rfl rfl ?_
 unfold mJ at hm
 refine qS [(0,.al 60004)] [(0,.ptr 900000083 0),(1,i6 most),(4,.ptr 60004 0)] [(900000083,.cells 83 (k3 t)),(60004,.cells 51 [.aH])]<|A.seq ?_
 obtain⟨ah,h1,hm⟩:=aa hm
 refine qD [(1,hdc [] (bO h1) jb)] [] [(9,.bool (decide (ah.1=0)))] [900000083] [(900000083,.cells 83 (k3 ah.2))] ?_
 rcases az hm with⟨c1,hm⟩|⟨c1,hm⟩
 ·refine qT c1<|qDs [] [0,1,9] [] ?_
  cases hm
  exact A.ret qE
 refine qF c1<|A.skip ?_
 obtain⟨aD,h2,hm⟩:=aa hm
 refine qD [(1,hdc [500005800] (xy h2) ck58),(2,.al 60005)] [0,9] [(5,.ptr 60005 0)] [900000083] [(900000083,.cells 83 (k3 aD.2)),(500005800,.slice 66 5 (ml aQ aD.1.aG) 0 false),(60005,.cells 51 [.own 500005800])]<|A.seq<|qDs [] [] [(6,i6 0)]<|A.block ?_
 obtain⟨F1,n1,hF1,hm⟩:=ji hm
 refine A.lpW (F:=F1) hm (λ(i_1,m_1)=>[(1,i6 most),(4,.ptr 60004 0),(5,.ptr 60005 0),(6,i6 i_1)]) (λ(i_1,m_1)=>[(900000083,.cells 83 (k3 aD.2)),(60004,.cells 51 [.aH]),(60005,.cells 51 [.own 706000500]),(706000500,.slice 66 5 (ml aQ m_1) 0 false)]) ?_ ?_
 ·exact bA.go [.sw 500005800 706000500] [] (by kernel_rfl)
 rintro Z1 ⟨i_1,m_1⟩ hm
 rw[hF1]at hm
 refine A.seq<|qDs [(3,hto (lnE aQ m_1))] [] [(17,.bool (decide (i_1<(m_1.length:Int))))] ?_
 rcases az hm with⟨c2,hm⟩|⟨c2,hm⟩
 ·refine qT c2<|A.skip<|A.seq<|A.block ?_
  obtain⟨e_1,h3,hm⟩:=aa hm
  obtain⟨l_1,h4,hm⟩:=aa hm
  exact qG [(6,hix (ix aQ h3)),(8,hlo 706000500 1 (ix aQ h3)),(11,hix (ix aQ h3)),(13,hso 706000500 (st aQ (off:=1) (ca:=[i6 (if most<e_1.Seq then most else e_1.Seq)]) h3 h4 rfl) (gP h3).1.1)] [17] [] [706000500] [(706000500,.slice 66 5 (ml aQ l_1) 0 false)]<|qGs [] [6] [(6,i6 (w64 (i_1+1)))]<|qX (w64 (i_1+1),l_1) hm
 refine qF c2<|A.exit<|qD [] [1,5,6,17] [] [60004,60005] [(60004,.cells 51 [.own 706000500])]<|A.ret ?_
 obtain rfl:=some_inj hm
 exact A.fin W0 [.fz [706000500]] rfl (by kernel_rfl)
theorem zp{gn:Int}{r:aj×aU}(hm:mZ t gn most=some r):bM prog 13 [(900000083,.cells 83 (k3 t))] [.ptr 900000083 0,i6 gn,i6 most] (λa σ'=>a=.agg [lf aC r.1.Links,.own 500001300,lf aJ r.1.aq]∧σ'=[(900000083,.cells 83 (k3 r.2)),(500001300,.slice 53 5 (ml aN r.1.aA) 0 false)]):=by
 refine aZ func13 rfl rfl ?_
 unfold mZ at hm
 refine qS [(0,.al 13006)] [(0,.ptr 900000083 0),(1,i6 gn),(2,i6 most),(6,.ptr 13006 0)] [(900000083,.cells 83 (k3 t)),(13006,.cells 27 [.aH,.aH,.aH])] ?_
 obtain⟨ah,h1,hm⟩:=aa hm
 refine qD [(2,hdc [500004600,500004601] (xg h1) ck46),(3,.al 13007)] [1] [(7,.ptr 13007 0)] [900000083] [(900000083,.cells 83 (k3 ah.2)),(500004600,.slice 93 2 (ml aX ah.1.aI) 0 false),(500004601,.slice 86 5 (ml aC ah.1.Links) 0 false),(13007,.cells 45 [.own 500004600,.own 500004601])]<|qD [(3,.al 13008)] [] [(8,.ptr 13008 0)] [] [(13008,.cells 27 [.own 500004601,.aH,.aH])]<|A.seq<|qDs [] [] [(9,i6 0)]<|A.block<|A.bD 7 0 rfl rfl rfl rfl λhb1=>?_
 obtain⟨B1,K1,hB1,hK1,hm⟩:=bF hm
 refine A.lpI (l:=ah.1.aI) (j0:=0) (B:=B1) (K:=K1) hm (λj1=>λ(m_1,m_2,m_3)=>[(0,.ptr 900000083 0),(2,i6 most),(6,.ptr 13006 0),(7,.ptr 13007 0),(8,.ptr 13008 0),(9,i6 (j1:Int))]) (λj1=>λ(m_1,m_2,m_3)=>[(900000083,.cells 83 [lf bK m_2,i6 m_3]),(13006,.cells 27 [.aH,.aH,.aH]),(500004600,.slice 93 2 (ml aX ah.1.aI) 0 false),(500004601,.slice 86 5 (ml aC ah.1.Links) 0 false),(13007,.cells 45 [.own 500004600,.own 500004601]),(13008,.cells 27 [.own 500004601,.own 701300801,.aH]),(701300801,.slice 53 5 (ml aN m_1) 0 false)]) ?_ ?_ ?_
 ·exact bA.go [.ac 13008 701300801 53 5 1] [] (by kernel_rfl)
 ·rintro j1 e1 Z1 ⟨m_1,m_2,m_3⟩ hj1 hx1 hm
  rw[hB1]at hm
  refine A.seq<|qDs [(3,hto (lnE aX ah.1.aI))] [] [(25,.bool (decide ((j1:Int)<(ah.1.aI.length:Int))))] ?_
  refine qT (ltT hx1)<|A.skip<|A.seq<|A.block ?_
  obtain⟨aD,h2,hm⟩:=aa hm
  obtain⟨aP,h3,hm⟩:=aa hm
  obtain⟨bt,h4,hm⟩:=aa hm
  refine qD [(3,hix (ix aX (bh hx1))),(5,hlo 500004600 0 (ix aX (bh hx1))),(9,hdc [] (dL h2) tL),(12,hdc [] (bO h3) jb),(16,hdc [] (vO h4) apA),(18,.al 13010)] [25] [(10,.ptr 13010 0)] [900000083] [(900000083,.cells 83 (k3 bt.2)),(13010,.cells 53 [i6 e1.ID,i6 (if aD.1<most then aD.1 else most),.bool (decide (0<aP.1)),.aH,lf aQ bt.1.aG])]<|A.seq<|qDs [] [] [(11,i6 0)]<|A.block ?_
  obtain⟨B2,K2,hB2,hK2,hm⟩:=kf hm
  refine A.lpN (hi:=(2:Int)) (B:=B2) (K:=K2) hm rfl (λj2=>λ(m_4,m_5,m_6)=>[(0,.ptr 900000083 0),(2,i6 most),(6,.ptr 13006 0),(7,.ptr 13007 0),(8,.ptr 13008 0),(9,i6 (j1:Int)),(10,.ptr 13010 0),(11,i6 (j2:Int))]) (λj2=>λ(m_4,m_5,m_6)=>[(900000083,.cells 83 [lf bK m_5,i6 m_6]),(13006,.cells 27 [.aH,.aH,.aH]),(500004600,.slice 93 2 (ml aX ah.1.aI) 0 false),(500004601,.slice 86 5 (ml aC ah.1.Links) 0 false),(13007,.cells 45 [.own 500004600,.own 500004601]),(13008,.cells 27 [.own 500004601,.own 701300801,.aH]),(701300801,.slice 53 5 (ml aN m_1) 0 false),(13010,.cells 53 [i6 e1.ID,i6 (if aD.1<most then aD.1 else most),.bool (decide (0<aP.1)),.own 701301003,lf aQ bt.1.aG]),(701301003,.slice 91 3 (ml bn m_4) 0 false)]) ?_ ?_ ?_
  ·exact bA.go [.ac 13010 701301003 91 3 3] [] (by kernel_rfl)
  ·rintro j2 Z2 ⟨m_4,m_5,m_6⟩ hj2 hx2 hm
   rw[hB2]at hm
   refine A.seq<|qDs [] [] [(47,.bool (decide ((j2:Int)<(2:Int))))] ?_
   refine A.cT rfl (decide_eq_true hx2)<|A.skip ?_
   obtain⟨J1,hJ1,hm⟩:=bQ hm
   refine A.J (J:=J1) (r:=r) (λ(m_7,m_8,m_9)=>[(0,.ptr 900000083 0),(2,i6 most),(6,.ptr 13006 0),(7,.ptr 13007 0),(8,.ptr 13008 0),(9,i6 (j1:Int)),(10,.ptr 13010 0),(11,i6 (j2:Int))]) (λ(m_7,m_8,m_9)=>[(900000083,.cells 83 [lf bK m_7,i6 m_8]),(13006,.cells 27 [.aH,.aH,.aH]),(500004600,.slice 93 2 (ml aX ah.1.aI) 0 false),(500004601,.slice 86 5 (ml aC ah.1.Links) 0 false),(13007,.cells 45 [.own 500004600,.own 500004601]),(13008,.cells 27 [.own 500004601,.own 701300801,.aH]),(701300801,.slice 53 5 (ml aN m_1) 0 false),(13010,.cells 53 [i6 e1.ID,i6 (if aD.1<most then aD.1 else most),.bool (decide (0<aP.1)),.own 701301003,lf aQ bt.1.aG]),(701301003,.slice 91 3 (ml bn m_9) 0 false)]) ?_ ?_
   ·refine A.block ?_
    obtain⟨bL,h5,hm⟩:=aa hm
    refine qD [(1,hdc [] (bO h5) jb)] [47] [(52,.bool (decide (bL.1=0)))] [900000083] [(900000083,.cells 83 (k3 bL.2))] ?_
    rcases az hm with⟨c1,hm⟩|⟨c1,hm⟩
    ·refine qT c1 ?_
     obtain⟨cq,h6,hm⟩:=aa hm
     obtain⟨cU,h7,hm⟩:=aa hm
     obtain⟨l_1,h8,hm⟩:=aa hm
     exact qG [(4,hdc [] (eD h6) wV),(6,hdc [] (tj h7) apB),(9,hap 13562 (ap bn (bytes:=24) (by decide) h8))] [52] [] [900000083,13010,701301003] [(900000083,.cells 83 (k3 cU.2)),(13010,.cells 53 [i6 e1.ID,i6 (if aD.1<most then aD.1 else most),.bool (decide (0<aP.1)),.own 13562,lf aQ bt.1.aG]),(13562,.slice 91 3 (ml bn l_1) 0 false)]<|Exists.intro (cU.2.L,cU.2.At,l_1) (And.intro hm (bA.go [.sw 13562 701301003] [] (by kernel_rfl)))
    exact qF c1<|A.skip<|qX (bL.2.L,bL.2.At,m_4) hm
   rintro⟨m_7,m_8,m_9⟩ hm
   rw[hJ1]at hm
   exact qGs [(1,hto (vz (by omega) hx2 (by decide)))] [11] [(11,i6 (j2+1:Int))]<|qX (m_9,m_7,m_8) hm
  rintro j2 ⟨m_4,m_5,m_6⟩ hj2 hl2 hm
  rw[hK2]at hm
  refine A.seq<|qDs [] [] [(47,.bool (decide ((j2:Int)<(2:Int))))] ?_
  refine A.cF rfl (geF hl2)<|A.exit ?_
  obtain⟨l_2,h9,hm⟩:=aa hm
  exact A.R W0 [.fz [701301003],.sc 13010 [900000083,13006,500004600,500004601,13007,13008,701300801,13010]] [(4,hap 13568 (ap aN (bytes:=72) (by decide) h9))] [(0,.ptr 900000083 0),(2,i6 most),(6,.ptr 13006 0),(7,.ptr 13007 0),(8,.ptr 13008 0),(9,i6 (j1:Int))] [(900000083,.cells 83 [lf bK m_5,i6 m_6]),(13006,.cells 27 [.aH,.aH,.aH]),(500004600,.slice 93 2 (ml aX ah.1.aI) 0 false),(500004601,.slice 86 5 (ml aC ah.1.Links) 0 false),(13007,.cells 45 [.own 500004600,.own 500004601]),(13008,.cells 27 [.own 500004601,.own 13568,.aH]),(13568,.slice 53 5 (ml aN l_2) 0 false)] (by kernel_rfl)<|qR [(1,hto (inc hx1 hb1))] [(0,.ptr 900000083 0),(2,i6 most),(6,.ptr 13006 0),(7,.ptr 13007 0),(8,.ptr 13008 0),(9,i6 ((j1+1:Nat):Int))] [(900000083,.cells 83 [lf bK m_5,i6 m_6]),(13006,.cells 27 [.aH,.aH,.aH]),(500004600,.slice 93 2 (ml aX ah.1.aI) 0 false),(500004601,.slice 86 5 (ml aC ah.1.Links) 0 false),(13007,.cells 45 [.own 500004600,.own 500004601]),(13008,.cells 27 [.own 500004601,.own 13568,.aH]),(13568,.slice 53 5 (ml aN l_2) 0 false)]<|Exists.intro (l_2,m_5,m_6) (And.intro hm (bA.go [.sw 13568 701300801] [] (by kernel_rfl)))
 rintro j1 ⟨m_1,m_2,m_3⟩ hj1 hl1 hm
 rw[hK1]at hm
 refine A.seq<|qDs [(3,hto (lnE aX ah.1.aI))] [] [(25,.bool (decide ((j1:Int)<(ah.1.aI.length:Int))))] ?_
 refine qF (ltF hl1)<|A.exit<|A.seq ?_
 obtain⟨dz,h10,hm⟩:=aa hm
 refine qD [(1,hdc [] (bO h10) jb)] [9,25] [(12,i6 dz.1)] [900000083] [(900000083,.cells 83 (k3 dz.2))]<|A.block ?_
 obtain⟨F3,n3,hF3,hm⟩:=ji hm
 refine A.lpW (F:=F3) hm (λ(i_1,fQ,fF,jl)=>[(0,.ptr 900000083 0),(2,i6 most),(6,.ptr 13006 0),(7,.ptr 13007 0),(8,.ptr 13008 0),(12,i6 i_1)]) (λ(i_1,fQ,fF,jl)=>[(900000083,.cells 83 [lf bK fF,i6 jl]),(13006,.cells 27 [.aH,.aH,.aH]),(500004600,.slice 93 2 (ml aX ah.1.aI) 0 false),(500004601,.slice 86 5 (ml aC ah.1.Links) 0 false),(13007,.cells 45 [.own 500004600,.own 500004601]),(13008,.cells 27 [.own 500004601,.own 701300801,.own 701300802]),(701300801,.slice 53 5 (ml aN m_1) 0 false),(701300802,.slice 75 3 (ml aJ fQ) 0 false)]) ?_ ?_
 ·exact bA.go [.ac 13008 701300802 75 3 2] [] (by kernel_rfl)
 rintro Z3 ⟨i_1,fQ,fF,jl⟩ hm
 rw[hF3]at hm
 refine A.seq<|A.mid [(0,.ptr 900000083 0),(2,i6 most),(6,.ptr 13006 0),(7,.ptr 13007 0),(8,.ptr 13008 0),(12,i6 i_1),(79,.bool ((decide (0<i_1))&&(decide (1<(ah.1.aI.length:Int)))))] [(900000083,.cells 83 [lf bK fF,i6 jl]),(13006,.cells 27 [.aH,.aH,.aH]),(500004600,.slice 93 2 (ml aX ah.1.aI) 0 false),(500004601,.slice 86 5 (ml aC ah.1.Links) 0 false),(13007,.cells 45 [.own 500004600,.own 500004601]),(13008,.cells 27 [.own 500004601,.own 701300801,.own 701300802]),(701300801,.slice 53 5 (ml aN m_1) 0 false),(701300802,.slice 75 3 (ml aJ fQ) 0 false)] (λhk=>?_) ?_
 ·rcases tf (decide (0<i_1))with c2|c2
  ·exact qS [(2,hto (bE c2)),(5,hto (lnE aX ah.1.aI)),(7,hto (rO (q:=decide (1<(ah.1.aI.length:Int))) c2))] _ _ hk
  exact qS [(2,hto (bE c2)),(7,hto (sM (q:=decide (1<(ah.1.aI.length:Int))) c2))] _ _ hk
 rcases az hm with⟨c3,hm⟩|⟨c3,hm⟩
 ·refine qT c3<|A.skip<|A.seq<|A.block ?_
  obtain⟨dW,h11,hm⟩:=aa hm
  refine qD [(3,hto (lnE aX ah.1.aI)),(4,hdc [] (bO h11) jb)] [79] [(13,i6 dW.1)] [900000083] [(900000083,.cells 83 (k3 dW.2))] ?_
  obtain⟨bJ,h12,hm⟩:=aa hm
  obtain⟨dM,h13,hm⟩:=aa hm
  refine qD [(4,hto (lnE aX ah.1.aI)),(6,hdc [] (eD h12) wV),(10,hto (lnE aX ah.1.aI)),(11,hro (aaz h13) apC)] [] [(14,i6 dM)] [900000083] [(900000083,.cells 83 (k3 bJ.2))] ?_
  obtain⟨e_1,h14,hm⟩:=aa hm
  obtain⟨e_2,h15,hm⟩:=aa hm
  obtain⟨ck,h16,hm⟩:=aa hm
  obtain⟨l_3,h17,hm⟩:=aa hm
  exact qG [(5,hix (ix aX h14)),(7,hlo 500004600 0 (ix aX h14)),(11,hix (ix aX h15)),(13,hlo 500004600 0 (ix aX h15)),(16,hdc [] (vO h16) apA),(19,hap 13618 (ap aJ (bytes:=40) (by decide) h17))] [13,14] [] [900000083,13008,701300802] [(900000083,.cells 83 (k3 ck.2)),(13008,.cells 27 [.own 500004601,.own 701300801,.own 13618]),(13618,.slice 75 3 (ml aJ l_3) 0 false)]<|qGs [] [12] [(12,i6 (w64 (i_1-1)))]<|Exists.intro (w64 (i_1-1),l_3,ck.2.L,ck.2.At) (And.intro hm (bA.go [.sw 13618 701300802] [] (by kernel_rfl)))
 refine qF c3<|A.exit<|qD [] [0,2,7,8,12,79] [] [13006,500004600,13007,13008] [(13006,.cells 27 [.own 500004601,.own 701300801,.own 701300802])]<|A.ret ?_
 obtain rfl:=some_inj hm
 exact A.fin W0 [.fz [500004601,701300802],.sw 701300801 500001300] rfl (by kernel_rfl)
theorem aar{r:Bool×aU}(hm:tN t=some r):bM prog 54 [(900000083,.cells 83 (k3 t))] [.ptr 900000083 0] (λa σ'=>a=.bool r.1∧σ'=[(900000083,.cells 83 (k3 r.2))]):=by
 refine aZ func54 rfl rfl ?_
 unfold tN at hm
 refine qS [] [(0,.ptr 900000083 0)] [(900000083,.cells 83 (k3 t))]<|qDs [(8,hto (lnE bK t.L))] [0] [(2,.bool (decide (t.At<(t.L.length:Int))))] ?_
 cases hm
 exact A.ret qE
end Go.Proofs.YtjdopimopgpagaaGreat
