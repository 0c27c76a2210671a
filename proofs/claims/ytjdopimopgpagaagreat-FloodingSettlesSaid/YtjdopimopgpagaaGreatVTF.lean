/- The eD of cw of the program. No condition but bK bu stand in each. -/
import Derived.Test.YtjdopimopgpagaaGreatVT
namespace Go.Proofs.YtjdopimopgpagaaGreat
open Go Go.Proofs.Tryz
set_option maxRecDepth 100000
set_option linter.all false
variable {most:Int}{t:aX}
theorem vH{r:aH×aX}(hm:mg t most=some r):bO prog 60 [(900000083,.cells 83 (k3 t))] [.ptr 900000083 0,i6 most] (λa σ'=>a=.agg (k8 r.1)∧σ'=[(900000083,.cells 83 (k3 r.2))]):=by
 refine aY func60 rfl rfl ?_
 unfold mg at hm
 refine qS [(0,.al 60004)] [(0,.ptr 900000083 0),(1,i6 most),(4,.ptr 60004 0)] [(900000083,.cells 83 (k3 t)),(60004,.cells 51 [.aI])]<|A.seq ?_
 obtain⟨ah,h1,hm⟩:=aa hm
 refine qD [(1,hdc [] (cm h1) lW)] [] [(9,.bool (decide (ah.1=0)))] [900000083] [(900000083,.cells 83 (k3 ah.2))] ?_
 rcases aq hm with⟨c1,hm⟩|⟨c1,hm⟩
 ·refine qT c1<|qDs [] [0,1,9] [] ?_
  cases hm
  exact A.ret qE
 refine qF c1<|A.skip ?_
 obtain⟨aD,h2,hm⟩:=aa hm
 refine qD [(1,hdc [500005800] (xe h2) ck58),(2,.al 60005)] [0,9] [(5,.ptr 60005 0)] [900000083] [(900000083,.cells 83 (k3 aD.2)),(500005800,.slice 66 5 (ml aL aD.1.ay) 0 false),(60005,.cells 51 [.own 500005800])]<|A.seq<|qDs [] [] [(6,i6 0)]<|A.block ?_
 obtain⟨F1,n1,hF1,hm⟩:=gZ hm
 refine A.lpW (F:=F1) hm (λ(i_1,m_1)=>[(1,i6 most),(4,.ptr 60004 0),(5,.ptr 60005 0),(6,i6 i_1)]) (λ(i_1,m_1)=>[(900000083,.cells 83 (k3 aD.2)),(60004,.cells 51 [.aI]),(60005,.cells 51 [.own 706000500]),(706000500,.slice 66 5 (ml aL m_1) 0 false)]) ?_ ?_
 ·exact bA.go [.sw 500005800 706000500] [] (by kernel_rfl)
 rintro Z1 ⟨i_1,m_1⟩ hm
 rw[hF1]at hm
 refine A.seq<|qDs [(3,hto (lnE aL m_1))] [] [(17,.bool (decide (i_1<(m_1.length:Int))))] ?_
 rcases aq hm with⟨c2,hm⟩|⟨c2,hm⟩
 ·refine qT c2<|A.skip<|A.seq<|A.block ?_
  obtain⟨e_1,h3,hm⟩:=aa hm
  obtain⟨l_1,h4,hm⟩:=aa hm
  exact qG [(6,hix (ix aL h3)),(8,hlo 706000500 1 (ix aL h3)),(11,hix (ix aL h3)),(13,hso 706000500 (st aL (off:=1) (ca:=[i6 (if most<e_1.Seq then most else e_1.Seq)]) h3 h4 rfl) (jD h3).1.1)] [17] [] [706000500] [(706000500,.slice 66 5 (ml aL l_1) 0 false)]<|qGs [] [6] [(6,i6 (w64 (i_1+1)))]<|qX (w64 (i_1+1),l_1) hm
 refine qF c2<|A.exit<|qD [] [1,5,6,17] [] [60004,60005] [(60004,.cells 51 [.own 706000500])]<|A.ret ?_
 obtain rfl:=some_inj hm
 exact A.fin W0 [.fz [706000500]] rfl (by kernel_rfl)
theorem yZ{ga:Int}{r:aA×aX}(hm:mH t ga most=some r):bO prog 13 [(900000083,.cells 83 (k3 t))] [.ptr 900000083 0,i6 ga,i6 most] (λa σ'=>a=.agg [lf aC r.1.Links,.own 500001300,lf bf r.1.aF]∧σ'=[(900000083,.cells 83 (k3 r.2)),(500001300,.slice 53 5 (ml aO r.1.aB) 0 false)]):=by
 refine aY func13 rfl rfl ?_
 unfold mH at hm
 refine qS [(0,.al 13006)] [(0,.ptr 900000083 0),(1,i6 ga),(2,i6 most),(6,.ptr 13006 0)] [(900000083,.cells 83 (k3 t)),(13006,.cells 27 [.aI,.aI,.aI])] ?_
 obtain⟨ah,h1,hm⟩:=aa hm
 refine qD [(2,hdc [500004600,500004601] (wX h1) ck46),(3,.al 13007)] [1] [(7,.ptr 13007 0)] [900000083] [(900000083,.cells 83 (k3 ah.2)),(500004600,.slice 93 2 (ml aP ah.1.aG) 0 false),(500004601,.slice 86 5 (ml aC ah.1.Links) 0 false),(13007,.cells 45 [.own 500004600,.own 500004601])]<|qD [(3,.al 13008)] [] [(8,.ptr 13008 0)] [] [(13008,.cells 27 [.own 500004601,.aI,.aI])]<|A.seq<|qDs [] [] [(9,i6 0)]<|A.block<|A.bD 7 0 rfl rfl rfl rfl λhb1=>?_
 obtain⟨B1,K1,hB1,hK1,hm⟩:=bw hm
 refine A.lpI (l:=ah.1.aG) (j0:=0) (B:=B1) (K:=K1) hm (λj1=>λ(m_1,m_2,m_3)=>[(0,.ptr 900000083 0),(2,i6 most),(6,.ptr 13006 0),(7,.ptr 13007 0),(8,.ptr 13008 0),(9,i6 (j1:Int))]) (λj1=>λ(m_1,m_2,m_3)=>[(900000083,.cells 83 [lf bg m_2,i6 m_3]),(13006,.cells 27 [.aI,.aI,.aI]),(500004600,.slice 93 2 (ml aP ah.1.aG) 0 false),(500004601,.slice 86 5 (ml aC ah.1.Links) 0 false),(13007,.cells 45 [.own 500004600,.own 500004601]),(13008,.cells 27 [.own 500004601,.own 701300801,.aI]),(701300801,.slice 53 5 (ml aO m_1) 0 false)]) ?_ ?_ ?_
 ·exact bA.go [.ac 13008 701300801 53 5 1] [] (by kernel_rfl)
 ·rintro j1 e1 Z1 ⟨m_1,m_2,m_3⟩ hj1 hx1 hm
  rw[hB1]at hm
  refine A.seq<|qDs [(3,hto (lnE aP ah.1.aG))] [] [(25,.bool (decide ((j1:Int)<(ah.1.aG.length:Int))))] ?_
  refine qT (ltT hx1)<|A.skip<|A.seq<|A.block ?_
  obtain⟨aD,h2,hm⟩:=aa hm
  obtain⟨aN,h3,hm⟩:=aa hm
  obtain⟨bt,h4,hm⟩:=aa hm
  refine qD [(3,hix (ix aP (aV hx1))),(5,hlo 500004600 0 (ix aP (aV hx1))),(9,hdc [] (dH h2) tF),(12,hdc [] (cm h3) lW),(16,hdc [] (vH h4) ao6),(18,.al 13010)] [25] [(10,.ptr 13010 0)] [900000083] [(900000083,.cells 83 (k3 bt.2)),(13010,.cells 53 [i6 e1.ID,i6 (if aD.1<most then aD.1 else most),.bool (decide (0<aN.1)),.aI,lf aL bt.1.ay])]<|A.seq<|qDs [] [] [(11,i6 0)]<|A.block ?_
  obtain⟨B2,K2,hB2,hK2,hm⟩:=jY hm
  refine A.lpN (hi:=(2:Int)) (B:=B2) (K:=K2) hm rfl (λj2=>λ(m_4,m_5,m_6)=>[(0,.ptr 900000083 0),(2,i6 most),(6,.ptr 13006 0),(7,.ptr 13007 0),(8,.ptr 13008 0),(9,i6 (j1:Int)),(10,.ptr 13010 0),(11,i6 (j2:Int))]) (λj2=>λ(m_4,m_5,m_6)=>[(900000083,.cells 83 [lf bg m_5,i6 m_6]),(13006,.cells 27 [.aI,.aI,.aI]),(500004600,.slice 93 2 (ml aP ah.1.aG) 0 false),(500004601,.slice 86 5 (ml aC ah.1.Links) 0 false),(13007,.cells 45 [.own 500004600,.own 500004601]),(13008,.cells 27 [.own 500004601,.own 701300801,.aI]),(701300801,.slice 53 5 (ml aO m_1) 0 false),(13010,.cells 53 [i6 e1.ID,i6 (if aD.1<most then aD.1 else most),.bool (decide (0<aN.1)),.own 701301003,lf aL bt.1.ay]),(701301003,.slice 91 3 (ml bh m_4) 0 false)]) ?_ ?_ ?_
  ·exact bA.go [.ac 13010 701301003 91 3 3] [] (by kernel_rfl)
  ·rintro j2 Z2 ⟨m_4,m_5,m_6⟩ hj2 hx2 hm
   rw[hB2]at hm
   refine A.seq<|qDs [] [] [(47,.bool (decide ((j2:Int)<(2:Int))))] ?_
   refine A.cT rfl (decide_eq_true hx2)<|A.skip ?_
   obtain⟨J1,hJ1,hm⟩:=bN hm
   refine A.J (J:=J1) (r:=r) (λ(m_7,m_8,m_9)=>[(0,.ptr 900000083 0),(2,i6 most),(6,.ptr 13006 0),(7,.ptr 13007 0),(8,.ptr 13008 0),(9,i6 (j1:Int)),(10,.ptr 13010 0),(11,i6 (j2:Int))]) (λ(m_7,m_8,m_9)=>[(900000083,.cells 83 [lf bg m_7,i6 m_8]),(13006,.cells 27 [.aI,.aI,.aI]),(500004600,.slice 93 2 (ml aP ah.1.aG) 0 false),(500004601,.slice 86 5 (ml aC ah.1.Links) 0 false),(13007,.cells 45 [.own 500004600,.own 500004601]),(13008,.cells 27 [.own 500004601,.own 701300801,.aI]),(701300801,.slice 53 5 (ml aO m_1) 0 false),(13010,.cells 53 [i6 e1.ID,i6 (if aD.1<most then aD.1 else most),.bool (decide (0<aN.1)),.own 701301003,lf aL bt.1.ay]),(701301003,.slice 91 3 (ml bh m_9) 0 false)]) ?_ ?_
   ·refine A.block ?_
    obtain⟨bL,h5,hm⟩:=aa hm
    refine qD [(1,hdc [] (cm h5) lW)] [47] [(52,.bool (decide (bL.1=0)))] [900000083] [(900000083,.cells 83 (k3 bL.2))] ?_
    rcases aq hm with⟨c1,hm⟩|⟨c1,hm⟩
    ·refine qT c1 ?_
     obtain⟨cc,h6,hm⟩:=aa hm
     obtain⟨de,h7,hm⟩:=aa hm
     obtain⟨l_1,h8,hm⟩:=aa hm
     exact qG [(4,hdc [] (fD h6) yP),(6,hdc [] (tc h7) ao7),(9,hap 13562 (ap bh (bytes:=24) (by decide) h8))] [52] [] [900000083,13010,701301003] [(900000083,.cells 83 (k3 de.2)),(13010,.cells 53 [i6 e1.ID,i6 (if aD.1<most then aD.1 else most),.bool (decide (0<aN.1)),.own 13562,lf aL bt.1.ay]),(13562,.slice 91 3 (ml bh l_1) 0 false)]<|Exists.intro (de.2.L,de.2.At,l_1) (And.intro hm (bA.go [.sw 13562 701301003] [] (by kernel_rfl)))
    exact qF c1<|A.skip<|qX (bL.2.L,bL.2.At,m_4) hm
   rintro⟨m_7,m_8,m_9⟩ hm
   rw[hJ1]at hm
   exact qGs [(1,hto (vn (by omega) hx2 (by decide)))] [11] [(11,i6 (j2+1:Int))]<|qX (m_9,m_7,m_8) hm
  rintro j2 ⟨m_4,m_5,m_6⟩ hj2 hl2 hm
  rw[hK2]at hm
  refine A.seq<|qDs [] [] [(47,.bool (decide ((j2:Int)<(2:Int))))] ?_
  refine A.cF rfl (geF hl2)<|A.exit ?_
  obtain⟨l_2,h9,hm⟩:=aa hm
  exact A.R W0 [.fz [701301003],.sc 13010 [900000083,13006,500004600,500004601,13007,13008,701300801,13010]] [(4,hap 13568 (ap aO (bytes:=72) (by decide) h9))] [(0,.ptr 900000083 0),(2,i6 most),(6,.ptr 13006 0),(7,.ptr 13007 0),(8,.ptr 13008 0),(9,i6 (j1:Int))] [(900000083,.cells 83 [lf bg m_5,i6 m_6]),(13006,.cells 27 [.aI,.aI,.aI]),(500004600,.slice 93 2 (ml aP ah.1.aG) 0 false),(500004601,.slice 86 5 (ml aC ah.1.Links) 0 false),(13007,.cells 45 [.own 500004600,.own 500004601]),(13008,.cells 27 [.own 500004601,.own 13568,.aI]),(13568,.slice 53 5 (ml aO l_2) 0 false)] (by kernel_rfl)<|qR [(1,hto (inc hx1 hb1))] [(0,.ptr 900000083 0),(2,i6 most),(6,.ptr 13006 0),(7,.ptr 13007 0),(8,.ptr 13008 0),(9,i6 ((j1+1:Nat):Int))] [(900000083,.cells 83 [lf bg m_5,i6 m_6]),(13006,.cells 27 [.aI,.aI,.aI]),(500004600,.slice 93 2 (ml aP ah.1.aG) 0 false),(500004601,.slice 86 5 (ml aC ah.1.Links) 0 false),(13007,.cells 45 [.own 500004600,.own 500004601]),(13008,.cells 27 [.own 500004601,.own 13568,.aI]),(13568,.slice 53 5 (ml aO l_2) 0 false)]<|Exists.intro (l_2,m_5,m_6) (And.intro hm (bA.go [.sw 13568 701300801] [] (by kernel_rfl)))
 rintro j1 ⟨m_1,m_2,m_3⟩ hj1 hl1 hm
 rw[hK1]at hm
 refine A.seq<|qDs [(3,hto (lnE aP ah.1.aG))] [] [(25,.bool (decide ((j1:Int)<(ah.1.aG.length:Int))))] ?_
 refine qF (ltF hl1)<|A.exit<|A.seq ?_
 obtain⟨di,h10,hm⟩:=aa hm
 refine qD [(1,hdc [] (cm h10) lW)] [9,25] [(12,i6 di.1)] [900000083] [(900000083,.cells 83 (k3 di.2))]<|A.block ?_
 obtain⟨F3,n3,hF3,hm⟩:=gZ hm
 refine A.lpW (F:=F3) hm (λ(i_1,hU,gP,lX)=>[(0,.ptr 900000083 0),(2,i6 most),(6,.ptr 13006 0),(7,.ptr 13007 0),(8,.ptr 13008 0),(12,i6 i_1)]) (λ(i_1,hU,gP,lX)=>[(900000083,.cells 83 [lf bg gP,i6 lX]),(13006,.cells 27 [.aI,.aI,.aI]),(500004600,.slice 93 2 (ml aP ah.1.aG) 0 false),(500004601,.slice 86 5 (ml aC ah.1.Links) 0 false),(13007,.cells 45 [.own 500004600,.own 500004601]),(13008,.cells 27 [.own 500004601,.own 701300801,.own 701300802]),(701300801,.slice 53 5 (ml aO m_1) 0 false),(701300802,.slice 75 3 (ml bf hU) 0 false)]) ?_ ?_
 ·exact bA.go [.ac 13008 701300802 75 3 2] [] (by kernel_rfl)
 rintro Z3 ⟨i_1,hU,gP,lX⟩ hm
 rw[hF3]at hm
 refine A.seq<|A.mid [(0,.ptr 900000083 0),(2,i6 most),(6,.ptr 13006 0),(7,.ptr 13007 0),(8,.ptr 13008 0),(12,i6 i_1),(79,.bool ((decide (0<i_1))&&(decide (1<(ah.1.aG.length:Int)))))] [(900000083,.cells 83 [lf bg gP,i6 lX]),(13006,.cells 27 [.aI,.aI,.aI]),(500004600,.slice 93 2 (ml aP ah.1.aG) 0 false),(500004601,.slice 86 5 (ml aC ah.1.Links) 0 false),(13007,.cells 45 [.own 500004600,.own 500004601]),(13008,.cells 27 [.own 500004601,.own 701300801,.own 701300802]),(701300801,.slice 53 5 (ml aO m_1) 0 false),(701300802,.slice 75 3 (ml bf hU) 0 false)] (λhk=>?_) ?_
 ·rcases tf (decide (0<i_1))with c2|c2
  ·exact qS [(2,hto (bE c2)),(5,hto (lnE aP ah.1.aG)),(7,hto (qs (q:=decide (1<(ah.1.aG.length:Int))) c2))] _ _ hk
  exact qS [(2,hto (bE c2)),(7,hto (rE (q:=decide (1<(ah.1.aG.length:Int))) c2))] _ _ hk
 rcases aq hm with⟨c3,hm⟩|⟨c3,hm⟩
 ·refine qT c3<|A.skip<|A.seq<|A.block ?_
  obtain⟨dU,h11,hm⟩:=aa hm
  refine qD [(3,hto (lnE aP ah.1.aG)),(4,hdc [] (cm h11) lW)] [79] [(13,i6 dU.1)] [900000083] [(900000083,.cells 83 (k3 dU.2))] ?_
  obtain⟨bP,h12,hm⟩:=aa hm
  obtain⟨dW,h13,hm⟩:=aa hm
  refine qD [(4,hto (lnE aP ah.1.aG)),(6,hdc [] (fD h12) yP),(10,hto (lnE aP ah.1.aG)),(11,hro (aam h13) ao8)] [] [(14,i6 dW)] [900000083] [(900000083,.cells 83 (k3 bP.2))] ?_
  obtain⟨e_1,h14,hm⟩:=aa hm
  obtain⟨e_2,h15,hm⟩:=aa hm
  obtain⟨ck,h16,hm⟩:=aa hm
  obtain⟨l_3,h17,hm⟩:=aa hm
  exact qG [(5,hix (ix aP h14)),(7,hlo 500004600 0 (ix aP h14)),(11,hix (ix aP h15)),(13,hlo 500004600 0 (ix aP h15)),(16,hdc [] (vH h16) ao6),(19,hap 13618 (ap bf (bytes:=40) (by decide) h17))] [13,14] [] [900000083,13008,701300802] [(900000083,.cells 83 (k3 ck.2)),(13008,.cells 27 [.own 500004601,.own 701300801,.own 13618]),(13618,.slice 75 3 (ml bf l_3) 0 false)]<|qGs [] [12] [(12,i6 (w64 (i_1-1)))]<|Exists.intro (w64 (i_1-1),l_3,ck.2.L,ck.2.At) (And.intro hm (bA.go [.sw 13618 701300802] [] (by kernel_rfl)))
 refine qF c3<|A.exit<|qD [] [0,2,7,8,12,79] [] [13006,500004600,13007,13008] [(13006,.cells 27 [.own 500004601,.own 701300801,.own 701300802])]<|A.ret ?_
 obtain rfl:=some_inj hm
 exact A.fin W0 [.fz [500004601,701300802],.sw 701300801 500001300] rfl (by kernel_rfl)
end Go.Proofs.YtjdopimopgpagaaGreat
