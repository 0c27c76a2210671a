/- The eN of cu of the program. No condition but bH bq stand in each. -/
import Derived.Test.YtjdopimopgpagaaGreatDL8
import Derived.Test.YtjdopimopgpagaaGreatVLS
namespace Go.Proofs.YtjdopimopgpagaaGreat
open Go Go.Proofs.Tryz
set_option maxRecDepth 100000
set_option linter.all false
theorem vP{t:List Int}{r:Bool}(hm:kW t=some r):RO prog 10 [] [lf bK t] (.bool r):=by
 refine aZ func10 rfl rfl ?_
 unfold kW at hm
 refine qS [] [(0,lf bK t)] [] ?_
 obtain⟨ah,h1,hm⟩:=aa hm
 refine qS [(1,hdc [900000083] (aff h1) ck11)] [(3,.ptr 900000083 0)] [(900000083,.cells 83 (k3 ah))] ?_
 obtain⟨aD,h2,hm⟩:=aa hm
 refine qD [(1,hdc [] (abh h2) ck19),(2,.al 10004)] [] [(4,.ptr 10004 0)] [900000083] [(900000083,.cells 83 (k3 aD.2)),(10004,.cells 27 (k12 aD.1))]<|A.seq<|qDs [] [] [(5,i6 0)]<|A.block ?_
 obtain⟨F1,n1,hF1,hm⟩:=ji hm
 refine A.lpW (F:=F1) hm (λ(i_1,m_1,m_2,m_3,m_4,m_5)=>[(3,.ptr 900000083 0),(4,.ptr 10004 0),(5,i6 i_1)]) (λ(i_1,m_1,m_2,m_3,m_4,m_5)=>[(900000083,.cells 83 [lf bK m_4,i6 m_5]),(10004,.cells 27 [lf aC m_1,lf aN m_2,lf aJ m_3])]) ?_ ?_
 ·exact qW
 rintro Z1 ⟨i_1,m_1,m_2,m_3,m_4,m_5⟩ hm
 rw[hF1]at hm
 refine A.seq ?_
 obtain⟨J1,hJ1,hm⟩:=bQ hm
 refine A.J (J:=J1) (r:=r) (λ(v_1,m_6,m_7)=>[(3,.ptr 900000083 0),(4,.ptr 10004 0),(5,i6 i_1),(17,.bool v_1)]) (λ(v_1,m_6,m_7)=>[(900000083,.cells 83 [lf bK m_6,i6 m_7]),(10004,.cells 27 [lf aC m_1,lf aN m_2,lf aJ m_3])]) ?_ ?_
 ·rcases az hm with⟨c1,hm⟩|⟨c1,hm⟩
  ·obtain⟨aP,h3,hm⟩:=aa hm
   exact qG [(2,hto (bE c1)),(4,hdc [] (aar h3) ck54)] [] [(17,.bool aP.1)] [900000083] [(900000083,.cells 83 (k3 aP.2))]<|qX (aP.1,aP.2.L,aP.2.At) hm
  exact qGs [(2,hto (bE c1))] [] [(17,.bool false)]<|qX (false,m_4,m_5) hm
 rintro⟨v_1,m_6,m_7⟩ hm
 rw[hJ1]at hm
 rcases az hm with⟨c2,hm⟩|⟨c2,hm⟩
 ·refine qT c2<|A.skip ?_
  obtain⟨J2,hJ2,hm⟩:=bQ hm
  refine A.J (J:=J2) (r:=r) (λ(m_8,m_9,fQ,fF,jl)=>[(3,.ptr 900000083 0),(4,.ptr 10004 0),(5,i6 i_1)]) (λ(m_8,m_9,fQ,fF,jl)=>[(900000083,.cells 83 [lf bK m_8,i6 m_9]),(10004,.cells 27 [lf aC fQ,lf aN fF,lf aJ jl])]) ?_ ?_
  ·refine A.block<|qD [(1,.al 10006)] [17] [(6,.ptr 10006 0)] [] [(10006,.cells 27 [lf aC m_1,lf aN m_2,lf aJ m_3])] ?_
   obtain⟨J3,hJ3,hm⟩:=bQ hm
   refine A.J (J:=J3) (r:=r) (λ(e_1,ny,nA,oB,oC,mz)=>[(3,.ptr 900000083 0),(4,.ptr 10004 0),(5,i6 i_1),(6,.ptr 10006 0),(7,i6 e_1)]) (λ(e_1,ny,nA,oB,oC,mz)=>[(900000083,.cells 83 [lf bK ny,i6 nA]),(10004,.cells 27 [lf aC m_1,lf aN m_2,lf aJ m_3]),(10006,.cells 27 [lf aC oB,lf aN oC,lf aJ mz])]) ?_ ?_
   ·obtain⟨bt,h4,hm⟩:=aa hm
    refine qD [(1,hdc [] (bO h4) jb)] [] [(22,i6 bt.1)] [900000083] [(900000083,.cells 83 (k3 bt.2))]<|A.block<|qDs [] [] [(30,.bool (decide (bt.1=0)))] ?_
    rcases az hm with⟨c3,hm⟩|⟨c3,hm⟩
    ·refine qT c3 ?_
     obtain⟨bL,h5,hm⟩:=aa hm
     obtain⟨cq,h6,hm⟩:=aa hm
     obtain⟨cU,h7,hm⟩:=aa hm
     obtain⟨dz,h8,hm⟩:=aa hm
     obtain⟨dW,h9,hm⟩:=aa hm
     exact qG [(2,hro (mm h5) aen),(5,hro (mm h6) aen),(6,hdc [] (SC.zS (r':=.agg (k4 cU.1)) (σ3:=[(900000083,.cells 83 (k3 cU.2))]) [500004500,500004501] (yb h7) (by kernel_rfl) (by kernel_rfl)) ck45),(7,hro (zj h8) ck28),(9,hro (yj h9) ck47)] [22,30] [(7,i6 dW.2)] [900000083,10006] [(900000083,.cells 83 (k3 cU.2)),(10006,.cells 27 (k12 dW.1))]<|qX (dW.2,cU.2.L,cU.2.At,dW.1.Links,dW.1.aA,dW.1.aq) hm
    refine qF c3<|qDs [] [30] [(45,.bool (decide (bt.1=1)))] ?_
    rcases az hm with⟨c4,hm⟩|⟨c4,hm⟩
    ·refine qT c4 ?_
     obtain⟨bJ,h10,hm⟩:=aa hm
     obtain⟨dM,h11,hm⟩:=aa hm
     exact qG [(2,hdc [] (eD h10) wV),(3,hro (xC h11) ck39)] [22,45] [(7,i6 dM.2)] [900000083,10006] [(900000083,.cells 83 (k3 bJ.2)),(10006,.cells 27 (k12 dM.1))]<|qX (dM.2,bJ.2.L,bJ.2.At,dM.1.Links,dM.1.aA,dM.1.aq) hm
    refine qF c4<|qDs [] [45] [(54,.bool (decide (bt.1=2)))] ?_
    rcases az hm with⟨c5,hm⟩|⟨c5,hm⟩
    ·refine qT c5 ?_
     obtain⟨ck,h12,hm⟩:=aa hm
     obtain⟨fD,h13,hm⟩:=aa hm
     exact qG [(2,hdc [] (eD h12) wV),(3,hro (zn h13) ck41)] [22,54] [(7,i6 fD.2)] [900000083,10006] [(900000083,.cells 83 (k3 ck.2)),(10006,.cells 27 (k12 fD.1))]<|qX (fD.2,ck.2.L,ck.2.At,fD.1.Links,fD.1.aA,fD.1.aq) hm
    refine qF c5<|qDs [] [54] [(63,.bool (decide (bt.1=3)))] ?_
    rcases az hm with⟨c6,hm⟩|⟨c6,hm⟩
    ·refine qT c6 ?_
     obtain⟨jm,h14,hm⟩:=aa hm
     obtain⟨gC,h15,hm⟩:=aa hm
     exact qG [(2,hdc [] (bO h14) jb),(3,hro (yh h15) ck44)] [22,63] [(7,i6 gC.2)] [900000083,10006] [(900000083,.cells 83 (k3 jm.2)),(10006,.cells 27 (k12 gC.1))]<|qX (gC.2,jm.2.L,jm.2.At,gC.1.Links,gC.1.aA,gC.1.aq) hm
    refine qF c6<|qDs [] [22,63] [(72,.bool (decide (bt.1=4)))] ?_
    rcases az hm with⟨c7,hm⟩|⟨c7,hm⟩
    ·refine qT c7 ?_
     obtain⟨mg,h16,hm⟩:=aa hm
     obtain⟨iX,h17,hm⟩:=aa hm
     exact qG [(2,hdc [] (bO h16) jb),(3,hro (zo h17) ck51)] [72] [(7,i6 iX.2)] [900000083,10006] [(900000083,.cells 83 (k3 mg.2)),(10006,.cells 27 (k12 iX.1))]<|qX (iX.2,mg.2.L,mg.2.At,iX.1.Links,iX.1.aA,iX.1.aq) hm
    refine qF c7 ?_
    obtain⟨kQ,h18,hm⟩:=aa hm
    obtain⟨gD,h19,hm⟩:=aa hm
    exact qG [(2,hdc [] (bO h18) jb),(3,hro (xD h19) ck49)] [72] [(7,i6 gD.2)] [900000083,10006] [(900000083,.cells 83 (k3 kQ.2)),(10006,.cells 27 (k12 gD.1))]<|qX (gD.2,kQ.2.L,kQ.2.At,gD.1.Links,gD.1.aA,gD.1.aq) hm
   rintro⟨e_1,ny,nA,oB,oC,mz⟩ hm
   rw[hJ3]at hm
   refine qDs [] [7] [(82,.bool (decide (e_1=0)))] ?_
   rcases az hm with⟨c8,hm⟩|⟨c8,hm⟩
   ·exact qT c8<|qG [] [6,82] [] [10004,10006] [(10004,.cells 27 [lf aC oB,lf aN oC,lf aJ mz])]<|qX (ny,nA,oB,oC,mz) hm
   exact qF c8<|A.skip<|qX (ny,nA,m_1,m_2,m_3) hm
  rintro⟨m_8,m_9,fQ,fF,jl⟩ hm
  rw[hJ2]at hm
  exact qGs [] [5] [(5,i6 (w64 (i_1+1)))]<|qX (w64 (i_1+1),fQ,fF,jl,m_8,m_9) hm
 refine qF c2<|A.exit<|A.seq ?_
 obtain⟨tY,h20,hm⟩:=aa hm
 refine qD [(1,hro (dG h20) uN)] [3,5,17] [(86,.bool (!decide (tY=0)))] [900000083] [] ?_
 rcases az hm with⟨c9,hm⟩|⟨c9,hm⟩
 ·refine qT c9<|qS [] [(2,.bool false)] [] ?_
  cases hm
  exact A.ret qE
 refine qF c9<|A.skip ?_
 obtain⟨qu,h21,hm⟩:=aa hm
 obtain⟨rF,h22,hm⟩:=aa hm
 obtain⟨adQ,h23,hm⟩:=aa hm
 rcases az hm with⟨c10,hm⟩|⟨c10,hm⟩
 ·obtain⟨abU,h24,hm⟩:=aa hm
  refine qS [(3,hto (lnE aN m_2)),(4,hro (sX h21) apy),(5,hro (uX h22) apx),(6,hro (oc h23) ajb),(7,hto (bE c10)),(8,hro (abg h24) ck18)] [(2,.bool abU)] [] ?_
  cases hm
  exact A.ret qE
 refine qS [(3,hto (lnE aN m_2)),(4,hro (sX h21) apy),(5,hro (uX h22) apx),(6,hro (oc h23) ajb),(7,hto (bE c10))] [(2,.bool false)] [] ?_
 cases hm
 exact A.ret qE
end Go.Proofs.YtjdopimopgpagaaGreat
