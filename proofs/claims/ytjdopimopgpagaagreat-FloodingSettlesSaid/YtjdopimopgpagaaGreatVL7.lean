/- The eD of cw of the program. No condition but bK bu stand in each. -/
import Derived.Test.YtjdopimopgpagaaGreatDL7
import Derived.Test.YtjdopimopgpagaaGreatVLS
namespace Go.Proofs.YtjdopimopgpagaaGreat
open Go Go.Proofs.Tryz
set_option maxRecDepth 100000
set_option linter.all false
theorem uF{t:List Int}{r:Bool}(hm:jo t=some r):RO prog 4 [] [lf bg t] (.bool r):=by
 refine aY func4 rfl rfl ?_
 unfold jo at hm
 refine qS [] [(0,lf bg t)] [] ?_
 obtain⟨ah,h1,hm⟩:=aa hm
 refine qS [(1,hdc [900000083] (aeY h1) ck11)] [(3,.ptr 900000083 0)] [(900000083,.cells 83 (k3 ah))] ?_
 obtain⟨aD,h2,hm⟩:=aa hm
 refine qS [(1,hdc [] (aa2 h2) ck19),(2,.al 4004)] [(4,.ptr 4004 0)] [(4004,.cells 27 (k12 aD.1))] ?_
 obtain⟨aN,h3,hm⟩:=aa hm
 obtain⟨bt,h4,hm⟩:=aa hm
 refine qD [(3,hto (lnE aO aD.1.aB)),(4,hro (xV h3) ck21),(5,hro (aae h4) ck20)] [] [] [4004] [(4004,.cells 27 (k12 bt))] ?_
 obtain⟨bL,h5,hm⟩:=aa hm
 refine qD [(1,hro (oU h5) aiL),(5,.al 4005)] [] [(5,.ptr 4005 0),(6,i6 bL.2)] [] [(4005,.cells 27 (k12 bL.1))]<|A.seq ?_
 obtain⟨J1,hJ1,hm⟩:=bN hm
 refine A.J (J:=J1) (r:=r) (λv_1=>[(4,.ptr 4004 0),(39,.bool v_1)]) (λv_1=>[(4004,.cells 27 (k12 bt))]) ?_ ?_
 ·obtain⟨cc,h6,hm⟩:=aa hm
  rcases aq hm with⟨c1,hm⟩|⟨c1,hm⟩
  ·exact qG [(1,hro (iM h6) ad2),(3,hto (bE c1))] [5,6] [(39,.bool true)] [4005] []<|qX true hm
  rcases aq hm with⟨c2,hm⟩|⟨c2,hm⟩
  ·exact qG [(1,hro (iM h6) ad2),(3,hto (bE c1)),(7,hto (bE c2))] [5,6] [(39,.bool true)] [4005] []<|qX true hm
  obtain⟨de,h7,hm⟩:=aa hm
  exact qG [(1,hro (iM h6) ad2),(3,hto (bE c1)),(7,hto (bE c2)),(9,hro (iM h7) ad2)] [5,6] [(39,.bool (!de))] [4005] []<|qX (!de) hm
 rintro v_1 hm
 rw[hJ1]at hm
 rcases aq hm with⟨c3,hm⟩|⟨c3,hm⟩
 ·refine qT c3<|qS [] [(2,.bool false)] [] ?_
  cases hm
  exact A.ret qE
 refine qF c3<|A.skip ?_
 obtain⟨di,h8,hm⟩:=aa hm
 refine qD [(1,hro (oV h8) age),(2,.al 4007)] [39] [(7,.ptr 4007 0)] [] [(4007,.cells 45 (k2 di))]<|A.seq<|qDs [] [] [(8,i6 0)]<|A.block<|A.bC 4 1 rfl rfl rfl λhb1=>?_
 obtain⟨B1,K1,hB1,hK1,hm⟩:=bw hm
 refine A.lpI (l:=bt.aB) (j0:=0) (B:=B1) (K:=K1) hm (λj1=>λ()=>[(4,.ptr 4004 0),(7,.ptr 4007 0),(8,i6 (j1:Int))]) (λj1=>λ()=>[(4004,.cells 27 (k12 bt)),(4007,.cells 45 (k2 di))]) ?_ ?_ ?_
 ·exact qW
 ·rintro j1 e1 Z1 ⟨⟩ hj1 hx1 hm
  rw[hB1]at hm
  refine A.seq<|qDs [(3,hto (lnE aO bt.aB))] [] [(46,.bool (decide ((j1:Int)<(bt.aB.length:Int))))] ?_
  refine qT (ltT hx1)<|A.skip<|A.seq<|A.block ?_
  obtain⟨dU,h9,hm⟩:=aa hm
  refine qD [(3,hix (ix aO (aV hx1))),(9,hix (ix aO (aV hx1))),(12,hro (abz h9) ck24),(13,.al 4009)] [46] [(9,.ptr 4009 0)] [] [(4009,.cells 45 (k2 dU))] ?_
  obtain⟨bP,h10,hm⟩:=aa hm
  refine qDs [(4,hix (ix aO (aV hx1))),(7,hro (uL h10) ao4)] [] [(10,lf bg bP)]<|A.seq<|qDs [(2,hto (lnE aP dU.aG)),(4,hto (lnE bg bP))] [10] [(75,.bool (!decide ((dU.aG.length:Int)=(bP.length:Int))))] ?_
  rcases aq hm with⟨c4,hm⟩|⟨c4,hm⟩
  ·refine qT c4<|qS [] [(2,.bool false)] [] ?_
   cases hm
   exact A.ret qE
  refine qF c4<|A.skip<|qDs [] [75] [(11,.aI)]<|A.seq<|qDs [] [] [(12,i6 0)]<|A.block<|A.bC 4 1 rfl rfl rfl λhb2=>?_
  obtain⟨B2,K2,hB2,hK2,hm⟩:=bw hm
  refine A.lpI (l:=bt.aB) (j0:=0) (B:=B2) (K:=K2) hm (λj2=>λcg=>[(4,.ptr 4004 0),(7,.ptr 4007 0),(8,i6 (j1:Int)),(9,.ptr 4009 0),(11,.own 600004011),(12,i6 (j2:Int))]) (λj2=>λcg=>[(4004,.cells 27 (k12 bt)),(4007,.cells 45 (k2 di)),(4009,.cells 45 (k2 dU)),(600004011,.slice 3 1 (ml bg cg) 0 false)]) ?_ ?_ ?_
  ·exact bA.go [.ad 11 600004011 3 1] [] (by kernel_rfl)
  ·rintro j2 e2 Z2 cg hj2 hx2 hm
   rw[hB2]at hm
   refine A.seq<|qDs [(3,hto (lnE aO bt.aB))] [] [(80,.bool (decide ((j2:Int)<(bt.aB.length:Int))))] ?_
   refine qT (ltT hx2)<|A.skip ?_
   obtain⟨J2,hJ2,hm⟩:=bN hm
   refine A.J (J:=J2) (r:=r) (λeO=>[(4,.ptr 4004 0),(7,.ptr 4007 0),(8,i6 (j1:Int)),(9,.ptr 4009 0),(11,.own 600004011),(12,i6 (j2:Int))]) (λeO=>[(4004,.cells 27 (k12 bt)),(4007,.cells 45 (k2 di)),(4009,.cells 45 (k2 dU)),(600004011,.slice 3 1 (ml bg eO) 0 false)]) ?_ ?_
   ·refine A.block ?_
    obtain⟨dW,h11,hm⟩:=aa hm
    refine qDs [(4,hix (ix aO (aV hx1))),(10,hix (ix aO (aV hx2))),(13,hro (xQ h11) ck26)] [80] [(97,.bool (!dW))] ?_
    rcases aq hm with⟨c5,hm⟩|⟨c5,hm⟩
    ·refine qT c5 ?_
     obtain⟨l_1,h12,hm⟩:=aa hm
     exact qG [(4,hix (ix aO (aV hx2))),(8,hap 4606 (ap bg (bytes:=8) (by decide) h12))] [11,97] [(11,.own 4606)] [600004011] [(4606,.slice 3 1 (ml bg l_1) 0 false)]<|Exists.intro l_1 (And.intro hm (bA.go [.sw 4606 600004011] [] (by kernel_rfl)))
    exact qF c5<|A.skip<|qX cg hm
   rintro eO hm
   rw[hJ2]at hm
   exact qGs [(1,hto (inc hx2 hb2))] [12] [(12,i6 ((j2+1:Nat):Int))]<|qX eO hm
  rintro j2 cg hj2 hl2 hm
  rw[hK2]at hm
  refine A.seq<|qDs [(3,hto (lnE aO bt.aB))] [] [(80,.bool (decide ((j2:Int)<(bt.aB.length:Int))))] ?_
  refine qF (ltF hl2)<|A.exit ?_
  obtain⟨ck,h13,hm⟩:=aa hm
  obtain⟨gQ,h14,hm⟩:=aa hm
  refine A.RS W0 [.fz [600004011]] [(4,hro (yT h13) ck28),(5,hro (aby h14) ck27)] [(4,.ptr 4004 0),(7,.ptr 4007 0),(8,i6 (j1:Int)),(113,.bool (!gQ))] [(4004,.cells 27 (k12 bt)),(4007,.cells 45 (k2 di))] (by kernel_rfl) ?_
  rcases aq hm with⟨c6,hm⟩|⟨c6,hm⟩
  ·refine qT c6<|qS [] [(2,.bool false)] [] ?_
   cases hm
   exact A.ret qE
  exact qF c6<|A.skip<|qR [(1,hto (inc hx1 hb1))] [(4,.ptr 4004 0),(7,.ptr 4007 0),(8,i6 ((j1+1:Nat):Int))] [(4004,.cells 27 (k12 bt)),(4007,.cells 45 (k2 di))]<|qX () hm
 rintro j1 ⟨⟩ hj1 hl1 hm
 rw[hK1]at hm
 refine A.seq<|qDs [(3,hto (lnE aO bt.aB))] [] [(46,.bool (decide ((j1:Int)<(bt.aB.length:Int))))] ?_
 refine qF (ltF hl1)<|A.exit ?_
 obtain⟨jT,h15,hm⟩:=aa hm
 refine qS [(0,hro (aa1 h15) ck18)] [(2,.bool jT)] [] ?_
 cases hm
 exact A.ret qE
end Go.Proofs.YtjdopimopgpagaaGreat
