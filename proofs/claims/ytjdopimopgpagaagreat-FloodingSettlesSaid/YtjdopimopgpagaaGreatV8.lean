/- The eD of cw of the program. No condition but bK bu stand in each. -/
import Derived.Test.YtjdopimopgpagaaGreatV2
import Derived.Test.YtjdopimopgpagaaGreatV7
namespace Go.Proofs.YtjdopimopgpagaaGreat
open Go Go.Proofs.Tryz
set_option maxRecDepth 100000
set_option linter.all false
variable {d:aH}
theorem rG{r:Int}(hm:gN d=some r):RO prog 76 [] [.agg (k8 d)] (i6 r):=by
 refine aY func76 rfl rfl ?_
 unfold gN at hm
 refine qS [(0,.al 76001)] [(1,.ptr 76001 0)] [(76001,.cells 51 (k8 d))]<|A.seq<|qDs [(2,hto (lnE aL d.ay))] [] [(8,.bool (decide (99<(d.ay.length:Int))))] ?_
 rcases aq hm with⟨c1,hm⟩|⟨c1,hm⟩
 ·refine qT c1<|qS [] [(2,i6 3)] [] ?_
  cases hm
  exact A.ret qE
 refine qF c1<|A.skip<|A.seq<|qDs [] [8] [(3,i6 0)]<|A.block<|A.bC 1 0 rfl rfl rfl λhb1=>?_
 obtain⟨B1,K1,hB1,hK1,hm⟩:=bw hm
 refine A.lpI (l:=d.ay) (j0:=0) (B:=B1) (K:=K1) hm (λj1=>λ()=>[(1,.ptr 76001 0),(3,i6 (j1:Int))]) (λj1=>λ()=>[(76001,.cells 51 (k8 d))]) ?_ ?_ ?_
 ·exact qW
 ·rintro j1 e1 Z1 ⟨⟩ hj1 hx1 hm
  rw[hB1]at hm
  refine A.seq<|qDs [(3,hto (lnE aL d.ay))] [] [(13,.bool (decide ((j1:Int)<(d.ay.length:Int))))] ?_
  refine qT (ltT hx1)<|A.skip<|A.seq<|A.block ?_
  obtain⟨ah,h1,hm⟩:=aa hm
  refine qDs [(3,hix (ix aL (aV hx1))),(5,hro (vD h1) aj7)] [13] [(22,.bool (!ah))] ?_
  rcases aq hm with⟨c2,hm⟩|⟨c2,hm⟩
  ·refine qT c2<|qS [] [(2,i6 1)] [] ?_
   cases hm
   exact A.ret qE
  exact qF c2<|A.skip<|qGs [(1,hto (inc hx1 hb1))] [3,22] [(3,i6 ((j1+1:Nat):Int))]<|qX () hm
 rintro j1 ⟨⟩ hj1 hl1 hm
 rw[hK1]at hm
 refine A.seq<|qDs [(3,hto (lnE aL d.ay))] [] [(13,.bool (decide ((j1:Int)<(d.ay.length:Int))))] ?_
 refine qF (ltF hl1)<|A.exit<|A.seq<|qDs [] [3,13] [(4,i6 1)]<|A.block<|A.bC 1 0 rfl rfl rfl λhb2=>?_
 obtain⟨B2,K2,hB2,hK2,hm⟩:=bw hm
 refine A.lpI (l:=d.ay) (j0:=1) (B:=B2) (K:=K2) hm (λj2=>λ()=>[(1,.ptr 76001 0),(4,i6 (j2:Int))]) (λj2=>λ()=>[(76001,.cells 51 (k8 d))]) ?_ ?_ ?_
 ·exact qW
 ·rintro j2 e2 Z2 ⟨⟩ hj2 hx2 hm
  rw[hB2]at hm
  refine A.seq<|qDs [(3,hto (lnE aL d.ay))] [] [(27,.bool (decide ((j2:Int)<(d.ay.length:Int))))] ?_
  refine qT (ltT hx2)<|A.skip<|A.seq<|A.block ?_
  obtain⟨e_1,h2,hm⟩:=aa hm
  refine qDs [(4,hix (ix aL h2)),(10,hix (ix aL (aV hx2)))] [27] [(43,.bool (decide (e2.af≤e_1.af)))] ?_
  rcases aq hm with⟨c3,hm⟩|⟨c3,hm⟩
  ·refine qT c3<|qS [] [(2,i6 25)] [] ?_
   cases hm
   exact A.ret qE
  exact qF c3<|A.skip<|qGs [(1,hto (inc hx2 hb2))] [4,43] [(4,i6 ((j2+1:Nat):Int))]<|qX () hm
 rintro j2 ⟨⟩ hj2 hl2 hm
 rw[hK2]at hm
 refine A.seq<|qDs [(3,hto (lnE aL d.ay))] [] [(27,.bool (decide ((j2:Int)<(d.ay.length:Int))))] ?_
 refine qF (ltF hl2)<|A.exit<|qS [] [(2,i6 0)] [] ?_
 cases hm
 exact A.ret qE
theorem sN{aJ:Int}{r:ai×Bool}(hm:iW d aJ=some r):RO prog 75 [] [.agg (k8 d),i6 aJ] (.tup [.agg (k7 r.1),.bool r.2]):=by
 refine aY func75 rfl rfl ?_
 unfold iW at hm
 refine qS [(0,.al 75002),(1,.al 75004)] [(1,i6 aJ),(2,.ptr 75002 0),(4,.ptr 75004 0)] [(75002,.cells 51 (k8 d)),(75004,.cells 66 [i6 0,i6 0,.bool false,.aI,.aI])]<|A.seq<|qDs [] [] [(6,i6 0)]<|A.block<|A.bC 2 0 rfl rfl rfl λhb1=>?_
 obtain⟨B1,K1,hB1,hK1,hm⟩:=bw hm
 refine A.lpI (l:=d.ay) (j0:=0) (B:=B1) (K:=K1) hm (λj1=>λ()=>[(1,i6 aJ),(2,.ptr 75002 0),(4,.ptr 75004 0),(6,i6 (j1:Int))]) (λj1=>λ()=>[(75002,.cells 51 (k8 d)),(75004,.cells 66 [i6 0,i6 0,.bool false,.aI,.aI])]) ?_ ?_ ?_
 ·exact qW
 ·rintro j1 e1 Z1 ⟨⟩ hj1 hx1 hm
  rw[hB1]at hm
  refine A.seq<|qDs [(3,hto (lnE aL d.ay))] [] [(11,.bool (decide ((j1:Int)<(d.ay.length:Int))))] ?_
  refine qT (ltT hx1)<|A.skip<|A.seq<|A.block<|qDs [(3,hix (ix aL (aV hx1)))] [11] [(21,.bool (decide (e1.af=aJ)))] ?_
  rcases aq hm with⟨c1,hm⟩|⟨c1,hm⟩
  ·refine qT c1<|qS [(3,hix (ix aL (aV hx1)))] [(4,.ptr 75004 0),(5,.bool true)] [(75004,.cells 66 (k7 e1))] ?_
   cases hm
   exact A.ret qE
  exact qF c1<|A.skip<|qGs [(1,hto (inc hx1 hb1))] [6,21] [(6,i6 ((j1+1:Nat):Int))]<|qX () hm
 rintro j1 ⟨⟩ hj1 hl1 hm
 rw[hK1]at hm
 refine A.seq<|qDs [(3,hto (lnE aL d.ay))] [] [(11,.bool (decide ((j1:Int)<(d.ay.length:Int))))] ?_
 refine qF (ltF hl1)<|A.exit<|qD [] [1,2,6,11] [(5,.bool false)] [75002] [] ?_
 cases hm
 exact A.ret qE
theorem vE{a:ai}{pH:Int}{r:bp×Bool}(hm:l8 a pH=some r):RO prog 121 [] [.agg (k7 a),i6 pH] (.tup [.agg (k6 r.1),.bool r.2]):=by
 refine aY func121 rfl rfl ?_
 unfold l8 at hm
 refine qS [(0,.al 121002),(1,.al 121004)] [(1,i6 pH),(2,.ptr 121002 0),(4,.ptr 121004 0)] [(121002,.cells 66 (k7 a)),(121004,.cells 105 [i6 0,i6 0,i6 0])]<|A.seq<|qDs [] [] [(6,i6 0)]<|A.block<|A.bC 2 3 rfl rfl rfl λhb1=>?_
 obtain⟨B1,K1,hB1,hK1,hm⟩:=bw hm
 refine A.lpI (l:=a.Links) (j0:=0) (B:=B1) (K:=K1) hm (λj1=>λ()=>[(1,i6 pH),(2,.ptr 121002 0),(4,.ptr 121004 0),(6,i6 (j1:Int))]) (λj1=>λ()=>[(121002,.cells 66 (k7 a)),(121004,.cells 105 [i6 0,i6 0,i6 0])]) ?_ ?_ ?_
 ·exact qW
 ·rintro j1 e1 Z1 ⟨⟩ hj1 hx1 hm
  rw[hB1]at hm
  refine A.seq<|qDs [(3,hto (lnE bz a.Links))] [] [(11,.bool (decide ((j1:Int)<(a.Links.length:Int))))] ?_
  refine qT (ltT hx1)<|A.skip<|A.seq<|A.block<|qDs [(3,hix (ix bz (aV hx1)))] [11] [(21,.bool (decide (e1.bq=pH)))] ?_
  rcases aq hm with⟨c1,hm⟩|⟨c1,hm⟩
  ·refine qT c1<|qS [(3,hix (ix bz (aV hx1)))] [(4,.ptr 121004 0),(5,.bool true)] [(121004,.cells 105 (k6 e1))] ?_
   cases hm
   exact A.ret qE
  exact qF c1<|A.skip<|qGs [(1,hto (inc hx1 hb1))] [6,21] [(6,i6 ((j1+1:Nat):Int))]<|qX () hm
 rintro j1 ⟨⟩ hj1 hl1 hm
 rw[hK1]at hm
 refine A.seq<|qDs [(3,hto (lnE bz a.Links))] [] [(11,.bool (decide ((j1:Int)<(a.Links.length:Int))))] ?_
 refine qF (ltF hl1)<|A.exit<|qD [] [1,2,6,11] [(5,.bool false)] [121002] [] ?_
 cases hm
 exact A.ret qE
theorem uM{a:Int}{b:Int}{r:bp×bp×Bool}(hm:jJ d a b=some r):RO prog 77 [] [.agg (k8 d),i6 a,i6 b] (.tup [.agg (k6 r.1),.agg (k6 r.2.1),.bool r.2.2]):=by
 refine aY func77 rfl rfl ?_
 unfold jJ at hm
 refine qS [(0,.al 77003),(1,.al 77006),(2,.al 77007)] [(1,i6 a),(2,i6 b),(3,.ptr 77003 0),(6,.ptr 77006 0),(7,.ptr 77007 0)] [(77003,.cells 51 (k8 d)),(77006,.cells 105 [i6 0,i6 0,i6 0]),(77007,.cells 105 [i6 0,i6 0,i6 0])] ?_
 obtain⟨ah,h1,hm⟩:=aa hm
 refine qD [(2,hro (sN h1) aiP),(6,.al 77009)] [] [(9,.ptr 77009 0),(10,.bool ah.2)] [] [(77009,.cells 66 (k7 ah.1))] ?_
 obtain⟨aD,h2,hm⟩:=aa hm
 refine qD [(2,hro (sN h2) aiP),(6,.al 77011)] [3] [(11,.ptr 77011 0),(12,.bool aD.2)] [77003] [(77011,.cells 66 (k7 aD.1))]<|A.seq<|A.mid [(1,i6 a),(2,i6 b),(6,.ptr 77006 0),(7,.ptr 77007 0),(9,.ptr 77009 0),(11,.ptr 77011 0),(34,.bool ((!ah.2)||(!aD.2)))] [(77006,.cells 105 [i6 0,i6 0,i6 0]),(77007,.cells 105 [i6 0,i6 0,i6 0]),(77009,.cells 66 (k7 ah.1)),(77011,.cells 66 (k7 aD.1))] (λhk=>?_) ?_
 ·rcases tf (!ah.2)with c1|c1
  ·exact qS [(2,hto (bE c1)),(5,hto (orT (q:=!aD.2) c1))] _ _ hk
  exact qS [(2,hto (bE c1)),(5,hto (orF (q:=!aD.2) c1))] _ _ hk
 rcases aq hm with⟨c2,hm⟩|⟨c2,hm⟩
 ·refine qT c2<|qD [] [1,2,9,11,34] [(8,.bool false)] [77009,77011] [] ?_
  cases hm
  exact A.ret qE
 refine qF c2<|A.skip ?_
 obtain⟨aN,h3,hm⟩:=aa hm
 refine qD [(2,hro (vE h3) aj8),(6,.al 77013)] [2,9,34] [(13,.ptr 77013 0),(14,.bool aN.2)] [77009] [(77013,.cells 105 (k6 aN.1))] ?_
 obtain⟨bt,h4,hm⟩:=aa hm
 refine qD [(2,hro (vE h4) aj8),(6,.al 77015)] [1,11] [(15,.ptr 77015 0),(16,.bool bt.2)] [77011] [(77015,.cells 105 (k6 bt.1))]<|A.mid [(6,.ptr 77006 0),(7,.ptr 77007 0),(8,.bool (aN.2&&bt.2))] [(77006,.cells 105 (k6 aN.1)),(77007,.cells 105 (k6 bt.1))] (λhk=>?_) ?_
 ·rcases tf aN.2 with c3|c3
  ·exact qS [(3,hto (bE c3)),(8,hto (qs (q:=bt.2) c3))] _ _ hk
  exact qS [(3,hto (bE c3)),(8,hto (rE (q:=bt.2) c3))] _ _ hk
 cases hm
 exact A.ret qE
theorem abz{yW:Int}{r:az}(hm:lM d yW=some r):RO prog 24 [] [.agg (k8 d),i6 yW] (.agg (k2 r)):=by
 refine aY func24 rfl rfl ?_
 unfold lM at hm
 refine qS [(0,.al 24002),(1,.al 24004)] [(1,i6 yW),(2,.ptr 24002 0),(4,.ptr 24004 0)] [(24002,.cells 51 (k8 d)),(24004,.cells 45 [.aI,.aI])]<|A.seq ?_
 obtain⟨ah,h1,hm⟩:=aa hm
 refine qDs [(2,hro (sN h1) aiP),(6,.al 24005)] [] [(6,.bool ah.2)] ?_
 obtain⟨J1,hJ1,hm⟩:=bN hm
 refine A.J (J:=J1) (r:=r) (λv_1=>[(1,i6 yW),(2,.ptr 24002 0),(4,.ptr 24004 0),(34,.bool v_1)]) (λv_1=>[(24002,.cells 51 (k8 d)),(24004,.cells 45 [.aI,.aI])]) ?_ ?_
 ·rcases aq hm with⟨c1,hm⟩|⟨c1,hm⟩
  ·exact qGs [(2,hto (bE c1))] [6] [(34,.bool true)]<|qX true hm
  obtain⟨aD,h2,hm⟩:=aa hm
  exact qGs [(2,hto (bE c1)),(4,hro (rG h2) aiQ)] [6] [(34,.bool (!decide (aD=0)))]<|qX (!decide (aD=0)) hm
 rintro v_1 hm
 rw[hJ1]at hm
 rcases aq hm with⟨c2,hm⟩|⟨c2,hm⟩
 ·refine qT c2<|qD [] [1,2,34] [] [24002] [] ?_
  cases hm
  exact A.ret qE
 refine qF c2<|A.skip<|qD [(1,.al 24037)] [1,34] [(7,.own 24037)] [] [(24037,.slice 3 1 (ml bg ([yW]:List Int)) 0 false)]<|A.seq<|qDs [] [] [(8,i6 0)]<|A.block ?_
 obtain⟨F1,n1,hF1,hm⟩:=gZ hm
 refine A.lpW (F:=F1) hm (λ(qb,i_1)=>[(2,.ptr 24002 0),(4,.ptr 24004 0),(7,.own 600024007),(8,i6 i_1)]) (λ(qb,i_1)=>[(24002,.cells 51 (k8 d)),(24004,.cells 45 [.aI,.aI]),(600024007,.slice 3 1 (ml bg qb) 0 false)]) ?_ ?_
 ·exact bA.go [.sw 24037 600024007] [] (by kernel_rfl)
 rintro Z1 ⟨qb,i_1⟩ hm
 rw[hF1]at hm
 refine A.seq<|qDs [(2,hto (lnE bg qb))] [] [(41,.bool (decide (i_1<(qb.length:Int))))] ?_
 rcases aq hm with⟨c3,hm⟩|⟨c3,hm⟩
 ·refine qT c3<|A.skip<|A.seq<|A.block<|qDs [] [41] [(9,i6 0)]<|A.block<|A.bC 2 0 rfl rfl rfl λhb2=>?_
  obtain⟨B2,K2,hB2,hK2,hm⟩:=bw hm
  refine A.lpI (l:=d.ay) (j0:=0) (B:=B2) (K:=K2) hm (λj2=>λoZ=>[(2,.ptr 24002 0),(4,.ptr 24004 0),(7,.own 600024007),(8,i6 i_1),(9,i6 (j2:Int))]) (λj2=>λoZ=>[(24002,.cells 51 (k8 d)),(24004,.cells 45 [.aI,.aI]),(600024007,.slice 3 1 (ml bg oZ) 0 false)]) ?_ ?_ ?_
  ·exact qW
  ·rintro j2 e2 Z2 oZ hj2 hx2 hm
   rw[hB2]at hm
   refine A.seq<|qDs [(3,hto (lnE aL d.ay))] [] [(48,.bool (decide ((j2:Int)<(d.ay.length:Int))))] ?_
   refine qT (ltT hx2)<|A.skip ?_
   obtain⟨J2,hJ2,hm⟩:=bN hm
   refine A.J (J:=J2) (r:=r) (λzR=>[(2,.ptr 24002 0),(4,.ptr 24004 0),(7,.own 600024007),(8,i6 i_1),(9,i6 (j2:Int))]) (λzR=>[(24002,.cells 51 (k8 d)),(24004,.cells 45 [.aI,.aI]),(600024007,.slice 3 1 (ml bg zR) 0 false)]) ?_ ?_
   ·refine A.block<|qDs [(3,hix (ix aL (aV hx2)))] [48] [(10,i6 e2.af)] ?_
    obtain⟨e_1,h3,hm⟩:=aa hm
    obtain⟨aN,h4,hm⟩:=aa hm
    refine qDs [(3,hix (ix bg h3)),(4,hlo 600024007 0 (ix bg h3)),(6,hro (uM h4) apc),(11,.al 24011),(12,.al 24012)] [] [(13,.bool aN.2.2)] ?_
    obtain⟨J3,hJ3,hm⟩:=bN hm
    refine A.J (J:=J3) (r:=r) (λv_2=>[(2,.ptr 24002 0),(4,.ptr 24004 0),(7,.own 600024007),(8,i6 i_1),(9,i6 (j2:Int)),(10,i6 e2.af),(74,.bool v_2)]) (λv_2=>[(24002,.cells 51 (k8 d)),(24004,.cells 45 [.aI,.aI]),(600024007,.slice 3 1 (ml bg oZ) 0 false)]) ?_ ?_
    ·rcases aq hm with⟨c4,hm⟩|⟨c4,hm⟩
     ·obtain⟨bt,h5,hm⟩:=aa hm
      exact qGs [(1,hto (bE c4)),(4,hle [600024007] (fU h5) wN)] [13] [(74,.bool (!bt))]<|qX (!bt) hm
     exact qGs [(1,hto (bE c4))] [13] [(74,.bool false)]<|qX false hm
    rintro v_2 hm
    rw[hJ3]at hm
    rcases aq hm with⟨c5,hm⟩|⟨c5,hm⟩
    ·refine qT c5 ?_
     obtain⟨l_1,h6,hm⟩:=aa hm
     exact qG [(3,hap 24578 (ap bg (bytes:=8) (by decide) h6))] [7,10,74] [(7,.own 24578)] [600024007] [(24578,.slice 3 1 (ml bg l_1) 0 false)]<|Exists.intro l_1 (And.intro hm (bA.go [.sw 24578 600024007] [] (by kernel_rfl)))
    exact qF c5<|A.skip<|qX oZ hm
   rintro zR hm
   rw[hJ2]at hm
   exact qGs [(1,hto (inc hx2 hb2))] [9] [(9,i6 ((j2+1:Nat):Int))]<|qX zR hm
  rintro j2 oZ hj2 hl2 hm
  rw[hK2]at hm
  refine A.seq<|qDs [(3,hto (lnE aL d.ay))] [] [(48,.bool (decide ((j2:Int)<(d.ay.length:Int))))] ?_
  exact qF (ltF hl2)<|A.exit<|qGs [] [8,9,48] [(8,i6 (w64 (i_1+1)))]<|qX (oZ,w64 (i_1+1)) hm
 refine qF c3<|A.exit<|qD [(0,.al 24014)] [8,41] [(14,.ptr 24014 0)] [] [(24014,.cells 45 [.aI,.aI])]<|A.seq<|qDs [] [] [(15,i6 0)]<|A.block<|A.bC 2 0 rfl rfl rfl λhb3=>?_
 obtain⟨B3,K3,hB3,hK3,hm⟩:=bw hm
 refine A.lpI (l:=d.ay) (j0:=0) (B:=B3) (K:=K3) hm (λj3=>λ(m_1,m_2)=>[(2,.ptr 24002 0),(4,.ptr 24004 0),(7,.own 600024007),(14,.ptr 24014 0),(15,i6 (j3:Int))]) (λj3=>λ(m_1,m_2)=>[(24002,.cells 51 (k8 d)),(24004,.cells 45 [.aI,.aI]),(600024007,.slice 3 1 (ml bg qb) 0 false),(24014,.cells 45 [.own 702401400,.own 702401401]),(702401400,.slice 93 2 (ml aP m_1) 0 false),(702401401,.slice 86 5 (ml aC m_2) 0 false)]) ?_ ?_ ?_
 ·exact bA.go [.ac 24014 702401400 93 2 0,.ac 24014 702401401 86 5 1] [] (by kernel_rfl)
 ·rintro j3 e3 Z3 ⟨m_1,m_2⟩ hj3 hx3 hm
  rw[hB3]at hm
  refine A.seq<|qDs [(3,hto (lnE aL d.ay))] [] [(83,.bool (decide ((j3:Int)<(d.ay.length:Int))))] ?_
  refine qT (ltT hx3)<|A.skip ?_
  obtain⟨J4,hJ4,hm⟩:=bN hm
  refine A.J (J:=J4) (r:=r) (λ(m_3,m_4)=>[(2,.ptr 24002 0),(4,.ptr 24004 0),(7,.own 600024007),(14,.ptr 24014 0),(15,i6 (j3:Int))]) (λ(m_3,m_4)=>[(24002,.cells 51 (k8 d)),(24004,.cells 45 [.aI,.aI]),(600024007,.slice 3 1 (ml bg qb) 0 false),(24014,.cells 45 [.own 702401400,.own 702401401]),(702401400,.slice 93 2 (ml aP m_3) 0 false),(702401401,.slice 86 5 (ml aC m_4) 0 false)]) ?_ ?_
  ·refine A.block<|qD [(3,hix (ix aL (aV hx3))),(5,.al 24016)] [83] [(16,.ptr 24016 0)] [] [(24016,.cells 66 (k7 e3))] ?_
   refine A.seq ?_
   obtain⟨bL,h7,hm⟩:=aa hm
   refine qDs [(3,hle [600024007] (fU h7) wN)] [] [(95,.bool (!bL))] ?_
   rcases aq hm with⟨c6,hm⟩|⟨c6,hm⟩
   ·exact qT c6<|A.exit<|qX (m_1,m_2) hm
   refine qF c6<|A.skip ?_
   obtain⟨l_2,h8,hm⟩:=aa hm
   refine qD [(8,hap 24604 (ap aP (bytes:=16) (by decide) h8))] [95] [] [24014,702401400] [(24014,.cells 45 [.own 24604,.own 702401401]),(24604,.slice 93 2 (ml aP l_2) 0 false)]<|qDs [] [] [(17,i6 (w64 ((j3:Int)+(1:Int))))]<|A.block ?_
   obtain⟨F4,n4,hF4,hm⟩:=gZ hm
   refine A.lpW (F:=F4) hm (λ(k_1,m_5)=>[(2,.ptr 24002 0),(4,.ptr 24004 0),(7,.own 600024007),(14,.ptr 24014 0),(15,i6 (j3:Int)),(16,.ptr 24016 0),(17,i6 k_1)]) (λ(k_1,m_5)=>[(24002,.cells 51 (k8 d)),(24004,.cells 45 [.aI,.aI]),(600024007,.slice 3 1 (ml bg qb) 0 false),(24014,.cells 45 [.own 24604,.own 702401401]),(702401401,.slice 86 5 (ml aC m_5) 0 false),(24016,.cells 66 (k7 e3)),(24604,.slice 93 2 (ml aP l_2) 0 false)]) ?_ ?_
   ·exact qW
   rintro Z4 ⟨k_1,m_5⟩ hm
   rw[hF4]at hm
   refine A.seq<|qDs [(3,hto (lnE aL d.ay))] [] [(112,.bool (decide (k_1<(d.ay.length:Int))))] ?_
   rcases aq hm with⟨c7,hm⟩|⟨c7,hm⟩
   ·refine qT c7<|A.skip ?_
    obtain⟨J5,hJ5,hm⟩:=bN hm
    refine A.J (J:=J5) (r:=r) (λm_6=>[(2,.ptr 24002 0),(4,.ptr 24004 0),(7,.own 600024007),(14,.ptr 24014 0),(15,i6 (j3:Int)),(16,.ptr 24016 0),(17,i6 k_1)]) (λm_6=>[(24002,.cells 51 (k8 d)),(24004,.cells 45 [.aI,.aI]),(600024007,.slice 3 1 (ml bg qb) 0 false),(24014,.cells 45 [.own 24604,.own 702401401]),(702401401,.slice 86 5 (ml aC m_6) 0 false),(24016,.cells 66 (k7 e3)),(24604,.slice 93 2 (ml aP l_2) 0 false)]) ?_ ?_
    ·refine A.block ?_
     obtain⟨e_2,h9,hm⟩:=aa hm
     refine qDs [(3,hix (ix aL h9))] [112] [(18,i6 e_2.af)] ?_
     obtain⟨cc,h10,hm⟩:=aa hm
     refine qD [(4,hro (uM h10) apc),(9,.al 24019),(10,.al 24020)] [] [(19,.ptr 24019 0),(20,.ptr 24020 0),(21,.bool cc.2.2)] [] [(24019,.cells 105 (k6 cc.1)),(24020,.cells 105 (k6 cc.2.1))]<|qDs [] [21] [(130,.bool cc.2.2)] ?_
     rcases aq hm with⟨c8,hm⟩|⟨c8,hm⟩
     ·refine qT c8 ?_
      obtain⟨l_3,h11,hm⟩:=aa hm
      exact qG [(16,hap 24647 (ap aC (bytes:=40) (by decide) h11))] [18,19,20,130] [] [24014,702401401,24019,24020] [(24014,.cells 45 [.own 24604,.own 24647]),(24647,.slice 86 5 (ml aC l_3) 0 false)]<|Exists.intro l_3 (And.intro hm (bA.go [.sw 24647 702401401] [] (by kernel_rfl)))
     exact qF c8<|A.skip<|qX m_5 hm
    rintro m_6 hm
    rw[hJ5]at hm
    exact qGs [] [17] [(17,i6 (w64 (k_1+1)))]<|qX (w64 (k_1+1),m_6) hm
   exact qF c7<|A.exit<|Exists.intro (l_2,m_5) (And.intro hm (bA.go [.sw 24604 702401400] [] (by kernel_rfl)))
  rintro⟨m_3,m_4⟩ hm
  rw[hJ4]at hm
  exact qGs [(1,hto (inc hx3 hb3))] [15] [(15,i6 ((j3+1:Nat):Int))]<|qX (m_3,m_4) hm
 rintro j3 ⟨m_1,m_2⟩ hj3 hl3 hm
 rw[hK3]at hm
 refine A.seq<|qDs [(3,hto (lnE aL d.ay))] [] [(83,.bool (decide ((j3:Int)<(d.ay.length:Int))))] ?_
 refine qF (ltF hl3)<|A.exit<|A.seq ?_
 obtain⟨de,h12,hm⟩:=aa hm
 refine qD [(1,hle [702401400,702401401] (gC h12) yQ)] [2,7,15,83] [(151,.bool (!decide (de=0)))] [24002,600024007] [] ?_
 rcases aq hm with⟨c9,hm⟩|⟨c9,hm⟩
 ·refine qT c9<|qD [] [14,151] [] [24014,702401400,702401401] [] ?_
  cases hm
  exact A.ret qE
 refine qF c9<|A.skip<|qD [] [14,151] [] [24004,24014] [(24004,.cells 45 [.own 702401400,.own 702401401])]<|A.ret ?_
 obtain rfl:=some_inj hm
 exact A.fin W0 [.fz [702401400,702401401]] rfl (by kernel_rfl)
end Go.Proofs.YtjdopimopgpagaaGreat
