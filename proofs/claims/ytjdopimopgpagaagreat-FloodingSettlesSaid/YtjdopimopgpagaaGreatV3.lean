/- The eD of cw of the program. No condition but bK bu stand in each. -/
import Derived.Test.YtjdopimopgpagaaGreatV1
namespace Go.Proofs.YtjdopimopgpagaaGreat
open Go Go.Proofs.Tryz
set_option maxRecDepth 100000
set_option linter.all false
variable {l:List Int}{r:Int×aX}{t:aX}
theorem dH(hm:dA t l=some r):bO prog 59 [(900000083,.cells 83 (k3 t))] [.ptr 900000083 0,lf bg l] (λa σ'=>a=i6 r.1∧σ'=[(900000083,.cells 83 (k3 r.2))]):=by
 refine aY func59 rfl rfl ?_
 unfold dA at hm
 refine qS [] [(0,.ptr 900000083 0),(1,lf bg l)] [(900000083,.cells 83 (k3 t))] ?_
 obtain⟨ah,h1,hm⟩:=aa hm
 obtain⟨e_1,h2,hm⟩:=aa hm
 refine qS [(3,hto (lnE bg l)),(4,hdc [] (cm h1) lW),(5,hix (ix bg h2))] [(4,i6 e_1)] [(900000083,.cells 83 (k3 ah.2))] ?_
 cases hm
 exact A.ret qE
theorem jH{n:Int}{r:Bool×aX}(hm:gL t n=some r):bO prog 56 [(900000083,.cells 83 (k3 t))] [.ptr 900000083 0,i6 n] (λa σ'=>a=.bool r.1∧σ'=[(900000083,.cells 83 (k3 r.2))]):=by
 refine aY func56 rfl rfl ?_
 unfold gL at hm
 refine qS [] [(0,.ptr 900000083 0),(1,i6 n)] [(900000083,.cells 83 (k3 t))] ?_
 obtain⟨ah,h1,hm⟩:=aa hm
 refine qS [(2,hdc [] (cm h1) lW)] [(4,.bool (decide (ah.1=w64 (n-1))))] [(900000083,.cells 83 (k3 ah.2))] ?_
 cases hm
 exact A.ret qE
theorem jb(hm:fV t=some r):bO prog 57 [(900000083,.cells 83 (k3 t))] [.ptr 900000083 0] (λa σ'=>a=i6 r.1∧σ'=[(900000083,.cells 83 (k3 r.2))]):=by
 refine aY func57 rfl rfl ?_
 unfold fV at hm
 refine qS [] [(0,.ptr 900000083 0)] [(900000083,.cells 83 (k3 t))] ?_
 obtain⟨ah,h1,hm⟩:=aa hm
 refine qS [(2,hdc [] (dH h1) tF)] [(2,i6 ah.1)] [(900000083,.cells 83 (k3 ah.2))] ?_
 cases hm
 exact A.ret qE
theorem tc(hm:jG t=some r):bO prog 61 [(900000083,.cells 83 (k3 t))] [.ptr 900000083 0] (λa σ'=>a=i6 r.1∧σ'=[(900000083,.cells 83 (k3 r.2))]):=by
 refine aY func61 rfl rfl ?_
 unfold jG at hm
 refine qS [] [(0,.ptr 900000083 0)] [(900000083,.cells 83 (k3 t))] ?_
 obtain⟨ah,h1,hm⟩:=aa hm
 refine qS [(2,hdc [] (dH h1) tF)] [(2,i6 ah.1)] [(900000083,.cells 83 (k3 ah.2))] ?_
 cases hm
 exact A.ret qE
theorem adn{l:List aS}{r:(List aS)}(hm:sJ l=some r):bO prog 99 [] [lf aC l] (λa σ'=>a=.own 500009900∧σ'=[(500009900,.slice 86 5 (ml aC r) 0 false)]):=by
 refine aY func99 rfl rfl ?_
 unfold sJ at hm
 refine qS [] [(0,lf aC l)] []<|qDs [] [] [(3,.aI)]<|A.seq<|qDs [] [] [(4,i6 0)]<|A.block<|A.bS 0 rfl λhb1=>?_
 obtain⟨B1,K1,hB1,hK1,hm⟩:=bw hm
 refine A.lpI (l:=l) (j0:=0) (B:=B1) (K:=K1) hm (λj1=>λcg=>[(0,lf aC l),(3,.own 600099003),(4,i6 (j1:Int))]) (λj1=>λcg=>[(600099003,.slice 86 5 (ml aC cg) 0 false)]) ?_ ?_ ?_
 ·exact bA.go [.ad 3 600099003 86 5] [] (by kernel_rfl)
 ·rintro j1 e1 Z1 cg hj1 hx1 hm
  rw[hB1]at hm
  refine A.seq<|qDs [(2,hto (lnE aC l))] [] [(10,.bool (decide ((j1:Int)<(l.length:Int))))] ?_
  refine qT (ltT hx1)<|A.skip<|A.seq<|A.block<|qDs [] [10] [(5,i6 0)]<|A.seq<|A.block ?_
  obtain⟨F2,n2,hF2,hm⟩:=gZ hm
  refine A.lpW (F:=F2) hm (λfR=>[(0,lf aC l),(3,.own 600099003),(4,i6 (j1:Int)),(5,i6 fR)]) (λfR=>[(600099003,.slice 86 5 (ml aC cg) 0 false)]) ?_ ?_
  ·exact qW
  rintro Z2 fR hm
  rw[hF2]at hm
  refine A.seq ?_
  obtain⟨J1,hJ1,hm⟩:=bN hm
  refine A.J (J:=J1) (r:=r) (λv_1=>[(0,lf aC l),(3,.own 600099003),(4,i6 (j1:Int)),(5,i6 fR),(55,.bool v_1)]) (λv_1=>[(600099003,.slice 86 5 (ml aC cg) 0 false)]) ?_ ?_
  ·rcases aq hm with⟨c1,hm⟩|⟨c1,hm⟩
   ·obtain⟨e_1,h1,hm⟩:=aa hm
    rcases aq hm with⟨c2,hm⟩|⟨c2,hm⟩
    ·exact qGs [(2,hto (lnE aC cg)),(4,hto (bE c1)),(7,hix (ix aC h1)),(9,hlo 600099003 0 (ix aC h1)),(12,hix (ix aC (aV hx1))),(16,hto (bE c2))] [] [(55,.bool true)]<|qX true hm
    rcases aq hm with⟨c3,hm⟩|⟨c3,hm⟩
    ·exact qGs [(2,hto (lnE aC cg)),(4,hto (bE c1)),(7,hix (ix aC h1)),(9,hlo 600099003 0 (ix aC h1)),(12,hix (ix aC (aV hx1))),(16,hto (bE c2)),(19,hix (ix aC h1)),(21,hlo 600099003 0 (ix aC h1)),(24,hix (ix aC (aV hx1))),(28,hto (bE c3)),(31,hix (ix aC h1)),(33,hlo 600099003 1 (ix aC h1)),(36,hix (ix aC (aV hx1)))] [] [(55,.bool (decide (e_1.B<e1.B)))]<|qX (decide (e_1.B<e1.B)) hm
    exact qGs [(2,hto (lnE aC cg)),(4,hto (bE c1)),(7,hix (ix aC h1)),(9,hlo 600099003 0 (ix aC h1)),(12,hix (ix aC (aV hx1))),(16,hto (bE c2)),(19,hix (ix aC h1)),(21,hlo 600099003 0 (ix aC h1)),(24,hix (ix aC (aV hx1))),(28,hto (bE c3))] [] [(55,.bool false)]<|qX false hm
   exact qGs [(2,hto (lnE aC cg)),(4,hto (bE c1))] [] [(55,.bool false)]<|qX false hm
  rintro v_1 hm
  rw[hJ1]at hm
  rcases aq hm with⟨c4,hm⟩|⟨c4,hm⟩
  ·exact qT c4<|A.skip<|A.block<|qGs [] [5,55] [(5,i6 (w64 (fR+1)))]<|qX (w64 (fR+1)) hm
  refine qF c4<|A.exit<|qDs [] [55] [(6,.aI)] ?_
  obtain⟨l_1,h2,hm⟩:=aa hm
  obtain⟨l_2,h3,hm⟩:=aa hm
  refine A.RS W0 [.fz [600099003]] [(3,hsl (sl aC h2)),(4,hap 99562 (ap aC (bytes:=40) (by decide) h3))] [(0,lf aC l),(3,.own 600099003),(4,i6 (j1:Int)),(5,i6 fR),(6,.own 99562)] [(600099003,.slice 86 5 (ml aC cg) (ml aC cg).length true),(99562,.slice 86 5 (ml aC l_2) 0 false)] (by kernel_rfl) ?_
  obtain⟨l_3,h4,hm⟩:=aa hm
  refine qS [(3,hix (ix aC (aV hx1))),(6,hap 99569 (ap aC (bytes:=40) (by decide) h4))] [(0,lf aC l),(3,.own 600099003),(4,i6 (j1:Int)),(5,i6 fR),(6,.own 99569)] [(600099003,.slice 86 5 (ml aC cg) (ml aC cg).length true),(99569,.slice 86 5 (ml aC l_3) 0 false)] ?_
  obtain⟨l_4,h5,hm⟩:=aa hm
  obtain⟨l_5,h6,hm⟩:=aa hm
  exact qG [(3,hsl (aog aC h5)),(4,hap 99574 (ap aC (bytes:=40) (by decide) h6))] [3,5,6] [(3,.own 99574)] [600099003,99569] [(99574,.slice 86 5 (ml aC l_5) 0 false)]<|qGs [(1,hto (inc hx1 hb1))] [4] [(4,i6 ((j1+1:Nat):Int))]<|Exists.intro l_5 (And.intro hm (bA.go [.sw 99574 600099003] [] (by kernel_rfl)))
 rintro j1 cg hj1 hl1 hm
 rw[hK1]at hm
 refine A.seq<|qDs [(2,hto (lnE aC l))] [] [(10,.bool (decide ((j1:Int)<(l.length:Int))))] ?_
 refine qF (ltF hl1)<|A.exit<|qDs [] [0,3,4,10] [(2,.own 600099003)]<|A.ret ?_
 obtain rfl:=some_inj hm
 exact A.fin W0 [.sw 600099003 500009900] rfl (by kernel_rfl)
theorem aeY{r:aX}(hm:vt l=some r):bO prog 11 [] [lf bg l] (λa σ'=>a=.ptr 900000083 0∧σ'=[(900000083,.cells 83 (k3 r))]):=by
 refine aY func11 rfl rfl ?_
 unfold vt at hm
 refine qS [] [(0,lf bg l)] [] ?_
 obtain⟨J1,hJ1,hm⟩:=bN hm
 refine A.J (J:=J1) (r:=r) (λl_1=>[(0,lf bg l_1)]) (λl_1=>[]) ?_ ?_
 ·refine qDs [(1,hto (lnE bg l))] [] [(5,.bool (decide (600<(l.length:Int))))] ?_
  rcases aq hm with⟨c1,hm⟩|⟨c1,hm⟩
  ·refine qT c1 ?_
   obtain⟨l_2,h1,hm⟩:=aa hm
   exact qR [(1,hsl (sl bg h1))] [(0,lf bg l_2)] []<|Exists.intro l_2 (And.intro hm (bA.go [] [0] (by kernel_rfl)))
  exact qF c1<|A.skip<|Exists.intro l (And.intro hm (bA.go [] [0] (by kernel_rfl)))
 rintro l_1 hm
 rw[hJ1]at hm
 refine qS [(2,.al 11010)] [(2,.ptr 11010 0)] [(11010,.cells 83 [lf bg l_1,i6 0])]<|A.ret ?_
 obtain rfl:=some_inj hm
 exact A.fin W0 [.sw 11010 900000083] rfl (by kernel_rfl)
theorem wX{most:Int}{n:Int}{r:az×aX}(hm:j8 t most n=some r):bO prog 46 [(900000083,.cells 83 (k3 t))] [.ptr 900000083 0,i6 most,i6 n] (λa σ'=>a=.agg [.own 500004600,.own 500004601]∧σ'=[(900000083,.cells 83 (k3 r.2)),(500004600,.slice 93 2 (ml aP r.1.aG) 0 false),(500004601,.slice 86 5 (ml aC r.1.Links) 0 false)]):=by
 refine aY func46 rfl rfl ?_
 unfold j8 at hm
 refine qS [(0,.al 46006)] [(0,.ptr 900000083 0),(1,i6 most),(2,i6 n),(6,.ptr 46006 0)] [(900000083,.cells 83 (k3 t)),(46006,.cells 45 [.aI,.aI])]<|qD [(0,.al 46007)] [] [(7,.ptr 46007 0)] [] [(46007,.cells 45 [.aI,.aI])] ?_
 obtain⟨ah,h1,hm⟩:=aa hm
 refine qD [(2,hdc [] (fD h1) yP)] [1] [(8,i6 ah.1)] [900000083] [(900000083,.cells 83 (k3 ah.2))]<|A.seq<|qDs [] [] [(9,i6 1)]<|A.block ?_
 obtain⟨hh1,hm⟩:=iD hm
 obtain⟨B1,K1,hB1,hK1,hm⟩:=jY hm
 refine A.lpN (hi:=(ah.1+1)) (B:=B1) (K:=K1) hm rfl (λj1=>λm_1=>[(0,.ptr 900000083 0),(2,i6 n),(6,.ptr 46006 0),(7,.ptr 46007 0),(8,i6 ah.1),(9,i6 (j1:Int))]) (λj1=>λm_1=>[(900000083,.cells 83 (k3 ah.2)),(46006,.cells 45 [.aI,.aI]),(46007,.cells 45 [.own 704600700,.aI]),(704600700,.slice 93 2 (ml aP m_1) 0 false)]) ?_ ?_ ?_
 ·exact bA.go [.ac 46007 704600700 93 2 0] [] (by kernel_rfl)
 ·rintro j1 Z1 m_1 hj1 hx1 hm
  rw[hB1]at hm
  refine A.seq<|qDs [] [] [(21,.bool (decide ((j1:Int)≤ah.1)))] ?_
  refine A.cT rfl (leT hx1)<|A.skip<|A.seq<|A.block ?_
  obtain⟨l_1,h2,hm⟩:=aa hm
  exact qG [(5,hap 46529 (ap aP (bytes:=16) (by decide) h2))] [21] [] [46007,704600700] [(46007,.cells 45 [.own 46529,.aI]),(46529,.slice 93 2 (ml aP l_1) 0 false)]<|qGs [(1,hto (vn (by omega) hx1 (of_decide_eq_true hh1)))] [9] [(9,i6 (j1+1:Int))]<|Exists.intro l_1 (And.intro hm (bA.go [.sw 46529 704600700] [] (by kernel_rfl)))
 rintro j1 m_1 hj1 hl1 hm
 rw[hK1]at hm
 refine A.seq<|qDs [] [] [(21,.bool (decide ((j1:Int)≤ah.1)))] ?_
 refine A.cF rfl (gtF hl1)<|A.exit ?_
 obtain⟨aD,h3,hm⟩:=aa hm
 refine qD [(2,hdc [] (dH h3) tF)] [9,21] [(10,i6 aD.1)] [900000083] [(900000083,.cells 83 (k3 aD.2))]<|A.seq<|qDs [] [] [(11,i6 2)]<|A.block ?_
 obtain⟨hh2,hm⟩:=iD hm
 obtain⟨B2,K2,hB2,hK2,hm⟩:=jY hm
 refine A.lpN (hi:=(ah.1+1)) (B:=B2) (K:=K2) hm rfl (λj2=>λ(m_2,m_3,m_4)=>[(0,.ptr 900000083 0),(2,i6 n),(6,.ptr 46006 0),(7,.ptr 46007 0),(8,i6 ah.1),(10,i6 aD.1),(11,i6 (j2:Int))]) (λj2=>λ(m_2,m_3,m_4)=>[(900000083,.cells 83 [lf bg m_3,i6 m_4]),(46006,.cells 45 [.aI,.aI]),(46007,.cells 45 [.own 704600700,.own 704600701]),(704600700,.slice 93 2 (ml aP m_1) 0 false),(704600701,.slice 86 5 (ml aC m_2) 0 false)]) ?_ ?_ ?_
 ·exact bA.go [.ac 46007 704600701 86 5 1] [] (by kernel_rfl)
 ·rintro j2 Z2 ⟨m_2,m_3,m_4⟩ hj2 hx2 hm
  rw[hB2]at hm
  refine A.seq<|qDs [] [] [(36,.bool (decide ((j2:Int)≤ah.1)))] ?_
  refine A.cT rfl (leT hx2)<|A.skip<|A.seq<|A.block ?_
  obtain⟨aN,h4,hm⟩:=aa hm
  refine qD [(3,hdc [] (fD h4) yP)] [36] [(12,i6 aN.1)] [900000083] [(900000083,.cells 83 (k3 aN.2))] ?_
  obtain⟨bt,h5,hm⟩:=aa hm
  refine qD [(1,hdc [] (jH h5) ab9)] [] [(13,.bool bt.1)] [900000083] [(900000083,.cells 83 (k3 bt.2))]<|qDs [] [] [(14,i6 1)]<|A.block ?_
  obtain⟨hh3,hm⟩:=iD hm
  obtain⟨B3,K3,hB3,hK3,hm⟩:=jY hm
  refine A.lpN (hi:=(j2:Int)) (B:=B3) (K:=K3) hm rfl (λj3=>λ(m_5,m_6,m_7)=>[(0,.ptr 900000083 0),(2,i6 n),(6,.ptr 46006 0),(7,.ptr 46007 0),(8,i6 ah.1),(10,i6 aD.1),(11,i6 (j2:Int)),(12,i6 aN.1),(13,.bool bt.1),(14,i6 (j3:Int))]) (λj3=>λ(m_5,m_6,m_7)=>[(900000083,.cells 83 [lf bg m_6,i6 m_7]),(46006,.cells 45 [.aI,.aI]),(46007,.cells 45 [.own 704600700,.own 704600701]),(704600700,.slice 93 2 (ml aP m_1) 0 false),(704600701,.slice 86 5 (ml aC m_5) 0 false)]) ?_ ?_ ?_
  ·exact qW
  ·rintro j3 Z3 ⟨m_5,m_6,m_7⟩ hj3 hx3 hm
   rw[hB3]at hm
   refine A.seq<|qDs [] [] [(47,.bool (decide ((j3:Int)<(j2:Int))))] ?_
   refine A.cT rfl (decide_eq_true hx3)<|A.skip ?_
   obtain⟨J1,hJ1,hm⟩:=bN hm
   refine A.J (J:=J1) (r:=r) (λ(m_8,m_9,hU)=>[(0,.ptr 900000083 0),(2,i6 n),(6,.ptr 46006 0),(7,.ptr 46007 0),(8,i6 ah.1),(10,i6 aD.1),(11,i6 (j2:Int)),(12,i6 aN.1),(13,.bool bt.1),(14,i6 (j3:Int))]) (λ(m_8,m_9,hU)=>[(900000083,.cells 83 [lf bg m_8,i6 m_9]),(46006,.cells 45 [.aI,.aI]),(46007,.cells 45 [.own 704600700,.own 704600701]),(704600700,.slice 93 2 (ml aP m_1) 0 false),(704600701,.slice 86 5 (ml aC hU) 0 false)]) ?_ ?_
   ·refine A.block ?_
    obtain⟨J2,hJ2,hm⟩:=bN hm
    refine A.J (J:=J2) (r:=r) (λ(v_1,gP,lX)=>[(0,.ptr 900000083 0),(2,i6 n),(6,.ptr 46006 0),(7,.ptr 46007 0),(8,i6 ah.1),(10,i6 aD.1),(11,i6 (j2:Int)),(12,i6 aN.1),(13,.bool bt.1),(14,i6 (j3:Int)),(60,.bool v_1)]) (λ(v_1,gP,lX)=>[(900000083,.cells 83 [lf bg gP,i6 lX]),(46006,.cells 45 [.aI,.aI]),(46007,.cells 45 [.own 704600700,.own 704600701]),(704600700,.slice 93 2 (ml aP m_1) 0 false),(704600701,.slice 86 5 (ml aC m_5) 0 false)]) ?_ ?_
    ·rcases aq hm with⟨c1,hm⟩|⟨c1,hm⟩
     ·rcases aq hm with⟨c2,hm⟩|⟨c2,hm⟩
      ·exact qGs [(3,hto (bE c1)),(7,hto (bE c2))] [47] [(60,.bool true)]<|qX (true,m_6,m_7) hm
      obtain⟨bL,h6,hm⟩:=aa hm
      exact qG [(3,hto (bE c1)),(7,hto (bE c2)),(9,hdc [] (jH h6) ab9)] [47] [(60,.bool bL.1)] [900000083] [(900000083,.cells 83 (k3 bL.2))]<|qX (bL.1,bL.2.L,bL.2.At) hm
     obtain⟨cc,h7,hm⟩:=aa hm
     exact qG [(3,hto (bE c1)),(9,hdc [] (jH h7) ab9)] [47] [(60,.bool cc.1)] [900000083] [(900000083,.cells 83 (k3 cc.2))]<|qX (cc.1,cc.2.L,cc.2.At) hm
    rintro⟨v_1,gP,lX⟩ hm
    rw[hJ2]at hm
    rcases aq hm with⟨c3,hm⟩|⟨c3,hm⟩
    ·refine qT c3 ?_
     obtain⟨de,h8,hm⟩:=aa hm
     obtain⟨di,h9,hm⟩:=aa hm
     obtain⟨dU,h10,hm⟩:=aa hm
     obtain⟨l_2,h11,hm⟩:=aa hm
     exact qG [(6,hdc [] (fD h8) yP),(9,hdc [] (fD h9) yP),(11,hdc [] (cm h10) lW),(14,hap 46575 (ap aC (bytes:=40) (by decide) h11))] [60] [] [900000083,46007,704600701] [(900000083,.cells 83 (k3 dU.2)),(46007,.cells 45 [.own 704600700,.own 46575]),(46575,.slice 86 5 (ml aC l_2) 0 false)]<|Exists.intro (dU.2.L,dU.2.At,l_2) (And.intro hm (bA.go [.sw 46575 704600701] [] (by kernel_rfl)))
    exact qF c3<|A.skip<|qX (gP,lX,m_5) hm
   rintro⟨m_8,m_9,hU⟩ hm
   rw[hJ1]at hm
   exact qGs [(1,hto (vn (by omega) hx3 (of_decide_eq_true hh3)))] [14] [(14,i6 (j3+1:Int))]<|qX (hU,m_8,m_9) hm
  rintro j3 ⟨m_5,m_6,m_7⟩ hj3 hl3 hm
  rw[hK3]at hm
  refine A.seq<|qDs [] [] [(47,.bool (decide ((j3:Int)<(j2:Int))))] ?_
  exact A.cF rfl (geF hl3)<|A.exit<|qGs [(1,hto (vn (by omega) hx2 (of_decide_eq_true hh2)))] [11,12,13,14,47] [(11,i6 (j2+1:Int))]<|qX (m_5,m_6,m_7) hm
 rintro j2 ⟨m_2,m_3,m_4⟩ hj2 hl2 hm
 rw[hK2]at hm
 refine A.seq<|qDs [] [] [(36,.bool (decide ((j2:Int)≤ah.1)))] ?_
 refine A.cF rfl (gtF hl2)<|A.exit ?_
 obtain⟨bP,h12,hm⟩:=aa hm
 refine qD [(2,hdl [704600701] [500009900] (adn h12) ck99 ⟨l7 aC (λ_=>rfl) _,trivial⟩)] [8,10,11,36] [] [46007,704600701] [(46007,.cells 45 [.own 704600700,.own 500009900]),(500009900,.slice 86 5 (ml aC bP) 0 false)] ?_
 obtain⟨J3,hJ3,hm⟩:=bN hm
 refine A.J (J:=J3) (r:=r) (λ(uy,uz,vu,vv)=>[(6,.ptr 46006 0),(7,.ptr 46007 0)]) (λ(uy,uz,vu,vv)=>[(900000083,.cells 83 [lf bg uy,i6 uz]),(46006,.cells 45 [.aI,.aI]),(46007,.cells 45 [.own 704600700,.own 704600701]),(704600700,.slice 93 2 (ml aP vu) 0 false),(704600701,.slice 86 5 (ml aC vv) 0 false)]) ?_ ?_
 ·obtain⟨J4,hJ4,hm⟩:=bN hm
  refine A.J (J:=J4) (r:=r) (λ(v_2,sK,sL)=>[(0,.ptr 900000083 0),(6,.ptr 46006 0),(7,.ptr 46007 0),(87,.bool v_2)]) (λ(v_2,sK,sL)=>[(900000083,.cells 83 [lf bg sK,i6 sL]),(46006,.cells 45 [.aI,.aI]),(46007,.cells 45 [.own 704600700,.own 500009900]),(704600700,.slice 93 2 (ml aP m_1) 0 false),(500009900,.slice 86 5 (ml aC bP) 0 false)]) ?_ ?_
  ·rcases aq hm with⟨c4,hm⟩|⟨c4,hm⟩
   ·obtain⟨dW,h13,hm⟩:=aa hm
    exact qG [(2,hto (bE c4)),(5,hdc [] (jH h13) ab9)] [2] [(87,.bool dW.1)] [900000083] [(900000083,.cells 83 (k3 dW.2))]<|qX (dW.1,dW.2.L,dW.2.At) hm
   exact qGs [(2,hto (bE c4))] [2] [(87,.bool false)]<|qX (false,m_3,m_4) hm
  rintro⟨v_2,sK,sL⟩ hm
  rw[hJ4]at hm
  rcases aq hm with⟨c5,hm⟩|⟨c5,hm⟩
  ·refine qT c5 ?_
   obtain⟨ck,h14,hm⟩:=aa hm
   refine qD [(1,hdc [] (cm h14) lW)] [87] [(89,i6 ck.1)] [900000083] [(900000083,.cells 83 (k3 ck.2))]<|A.block<|qDs [] [] [(101,.bool (decide (ck.1=0)))] ?_
   rcases aq hm with⟨c6,hm⟩|⟨c6,hm⟩
   ·refine qT c6 ?_
    obtain⟨gQ,h15,hm⟩:=aa hm
    obtain⟨l_3,h16,hm⟩:=aa hm
    exact qG [(4,hdc [] (dH h15) tF),(7,hap 46610 (ap aP (bytes:=16) (by decide) h16))] [0,89,101] [] [900000083,46007,704600700] [(900000083,.cells 83 (k3 gQ.2)),(46007,.cells 45 [.own 46610,.own 500009900]),(46610,.slice 93 2 (ml aP l_3) 0 false)]<|Exists.intro (gQ.2.L,gQ.2.At,l_3,bP) (And.intro hm (bA.go [.sw 46610 704600700,.sw 500009900 704600701] [] (by kernel_rfl)))
   refine qF c6<|qDs [] [101] [(112,.bool (decide (ck.1=1)))] ?_
   rcases aq hm with⟨c7,hm⟩|⟨c7,hm⟩
   ·refine qT c7 ?_
    obtain⟨jT,h17,hm⟩:=aa hm
    obtain⟨mw,h18,hm⟩:=aa hm
    obtain⟨l_4,h19,hm⟩:=aa hm
    exact qG [(3,hdc [] (cm h17) lW),(5,hdc [] (cm h18) lW),(8,hap 46622 (ap aC (bytes:=40) (by decide) h19))] [0,89,112] [] [900000083,46007,500009900] [(900000083,.cells 83 (k3 mw.2)),(46007,.cells 45 [.own 704600700,.own 46622]),(46622,.slice 86 5 (ml aC l_4) 0 false)]<|Exists.intro (mw.2.L,mw.2.At,m_1,l_4) (And.intro hm (bA.go [.sw 46622 704600701] [] (by kernel_rfl)))
   refine qF c7<|qDs [] [112] [(124,.bool (decide (ck.1=2)))] ?_
   rcases aq hm with⟨c8,hm⟩|⟨c8,hm⟩
   ·refine qT c8<|qDs [(2,hto (lnE aC bP))] [89,124] [(129,.bool (decide (0<(bP.length:Int))))] ?_
    rcases aq hm with⟨c9,hm⟩|⟨c9,hm⟩
    ·refine qT c9 ?_
     obtain⟨tO,h20,hm⟩:=aa hm
     obtain⟨qZ,h21,hm⟩:=aa hm
     obtain⟨e_1,h22,hm⟩:=aa hm
     obtain⟨l_5,h23,hm⟩:=aa hm
     exact qG [(5,hto (lnE aC bP)),(6,hdc [] (cm h20) lW),(8,hdc [] (jb h21) acd),(9,hix (ix aC h22)),(11,hso 500009900 (st aC (off:=2) (ca:=[i6 qZ.1]) h22 h23 rfl) (jD h22).1.1)] [0,129] [] [900000083,500009900] [(900000083,.cells 83 (k3 qZ.2)),(500009900,.slice 86 5 (ml aC l_5) 0 false)]<|Exists.intro (qZ.2.L,qZ.2.At,m_1,l_5) (And.intro hm (bA.go [.sw 500009900 704600701] [] (by kernel_rfl)))
    exact qF c9<|A.skip<|Exists.intro (ck.2.L,ck.2.At,m_1,bP) (And.intro hm (bA.go [.sw 500009900 704600701] [] (by kernel_rfl)))
   refine qF c8<|qDs [] [124] [(141,.bool (decide (ck.1=3)))] ?_
   rcases aq hm with⟨c10,hm⟩|⟨c10,hm⟩
   ·refine qT c10<|qDs [(2,hto (lnE aC bP))] [89,141] [(146,.bool (decide (0<(bP.length:Int))))] ?_
    rcases aq hm with⟨c11,hm⟩|⟨c11,hm⟩
    ·refine qT c11 ?_
     obtain⟨ri,h24,hm⟩:=aa hm
     obtain⟨mz,h25,hm⟩:=aa hm
     obtain⟨e_2,h26,hm⟩:=aa hm
     obtain⟨l_6,h27,hm⟩:=aa hm
     exact qG [(5,hto (lnE aC bP)),(6,hdc [] (cm h24) lW),(8,hdc [] (jb h25) acd),(9,hix (ix aC h26)),(11,hso 500009900 (st aC (off:=3) (ca:=[i6 mz.1]) h26 h27 rfl) (jD h26).1.1)] [0,146] [] [900000083,500009900] [(900000083,.cells 83 (k3 mz.2)),(500009900,.slice 86 5 (ml aC l_6) 0 false)]<|Exists.intro (mz.2.L,mz.2.At,m_1,l_6) (And.intro hm (bA.go [.sw 500009900 704600701] [] (by kernel_rfl)))
    exact qF c11<|A.skip<|Exists.intro (ck.2.L,ck.2.At,m_1,bP) (And.intro hm (bA.go [.sw 500009900 704600701] [] (by kernel_rfl)))
   refine qF c10<|qDs [] [141] [(158,.bool (decide (ck.1=4)))] ?_
   rcases aq hm with⟨c12,hm⟩|⟨c12,hm⟩
   ·refine qT c12<|qDs [(2,hto (lnE aC bP))] [89,158] [(163,.bool (decide (0<(bP.length:Int))))] ?_
    rcases aq hm with⟨c13,hm⟩|⟨c13,hm⟩
    ·refine qT c13 ?_
     obtain⟨adz,h28,hm⟩:=aa hm
     obtain⟨wk,h29,hm⟩:=aa hm
     obtain⟨e_3,h30,hm⟩:=aa hm
     obtain⟨l_7,h31,hm⟩:=aa hm
     exact qG [(5,hto (lnE aC bP)),(6,hdc [] (cm h28) lW),(8,hdc [] (jb h29) acd),(9,hix (ix aC h30)),(11,hso 500009900 (st aC (off:=4) (ca:=[i6 wk.1]) h30 h31 rfl) (jD h30).1.1)] [0,163] [] [900000083,500009900] [(900000083,.cells 83 (k3 wk.2)),(500009900,.slice 86 5 (ml aC l_7) 0 false)]<|Exists.intro (wk.2.L,wk.2.At,m_1,l_7) (And.intro hm (bA.go [.sw 500009900 704600701] [] (by kernel_rfl)))
    exact qF c13<|A.skip<|Exists.intro (ck.2.L,ck.2.At,m_1,bP) (And.intro hm (bA.go [.sw 500009900 704600701] [] (by kernel_rfl)))
   refine qF c12<|qDs [] [89,158] [(175,.bool (decide (ck.1=5)))] ?_
   rcases aq hm with⟨c14,hm⟩|⟨c14,hm⟩
   ·refine qT c14<|qDs [(2,hto (lnE aC bP))] [175] [(180,.bool (decide (0<(bP.length:Int))))] ?_
    rcases aq hm with⟨c15,hm⟩|⟨c15,hm⟩
    ·refine qT c15 ?_
     obtain⟨xR,h32,hm⟩:=aa hm
     obtain⟨e_4,h33,hm⟩:=aa hm
     obtain⟨l_8,h34,hm⟩:=aa hm
     exact qG [(7,hto (lnE aC bP)),(8,hdc [] (cm h32) lW),(9,hix (ix aC h33)),(10,hlo 500009900 0 (ix aC h33)),(12,hap 46693 (ap aC (bytes:=40) (by decide) h34))] [0,180] [] [900000083,46007,500009900] [(900000083,.cells 83 (k3 xR.2)),(46007,.cells 45 [.own 704600700,.own 46693]),(46693,.slice 86 5 (ml aC l_8) 0 false)]<|Exists.intro (xR.2.L,xR.2.At,m_1,l_8) (And.intro hm (bA.go [.sw 46693 704600701] [] (by kernel_rfl)))
    exact qF c15<|A.skip<|Exists.intro (ck.2.L,ck.2.At,m_1,bP) (And.intro hm (bA.go [.sw 500009900 704600701] [] (by kernel_rfl)))
   refine qF c14<|qDs [] [0,175] [(15,i6 50)]<|A.block ?_
   obtain⟨B4,K4,hB4,hK4,hm⟩:=jY hm
   refine A.lpN (hi:=(75:Int)) (B:=B4) (K:=K4) hm rfl (λj4=>λrF=>[(6,.ptr 46006 0),(7,.ptr 46007 0),(15,i6 (j4:Int))]) (λj4=>λrF=>[(900000083,.cells 83 (k3 ck.2)),(46006,.cells 45 [.aI,.aI]),(46007,.cells 45 [.own 704600700,.own 500009900]),(704600700,.slice 93 2 (ml aP rF) 0 false),(500009900,.slice 86 5 (ml aC bP) 0 false)]) ?_ ?_ ?_
   ·exact qW
   ·rintro j4 Z4 rF hj4 hx4 hm
    rw[hB4]at hm
    refine A.seq<|qDs [] [] [(91,.bool (decide ((j4:Int)<(75:Int))))] ?_
    refine A.cT rfl (decide_eq_true hx4)<|A.skip<|A.seq<|A.block ?_
    obtain⟨l_9,h35,hm⟩:=aa hm
    exact qG [(5,hap 46599 (ap aP (bytes:=16) (by decide) h35))] [91] [] [46007,704600700] [(46007,.cells 45 [.own 46599,.own 500009900]),(46599,.slice 93 2 (ml aP l_9) 0 false)]<|qGs [(1,hto (vn (by omega) hx4 (by decide)))] [15] [(15,i6 (j4+1:Int))]<|Exists.intro l_9 (And.intro hm (bA.go [.sw 46599 704600700] [] (by kernel_rfl)))
   rintro j4 rF hj4 hl4 hm
   rw[hK4]at hm
   refine A.seq<|qDs [] [] [(91,.bool (decide ((j4:Int)<(75:Int))))] ?_
   exact A.cF rfl (geF hl4)<|A.exit<|Exists.intro (ck.2.L,ck.2.At,rF,bP) (And.intro hm (bA.go [.sw 500009900 704600701] [] (by kernel_rfl)))
  exact qF c5<|A.skip<|Exists.intro (sK,sL,m_1,bP) (And.intro hm (bA.go [.sw 500009900 704600701] [] (by kernel_rfl)))
 rintro⟨uy,uz,vu,vv⟩ hm
 rw[hJ3]at hm
 refine qD [] [7] [] [46006,46007] [(46006,.cells 45 [.own 704600700,.own 704600701])]<|A.ret ?_
 obtain rfl:=some_inj hm
 exact A.fin W0 [.sw 704600700 500004600,.sw 704600701 500004601] rfl (by kernel_rfl)
end Go.Proofs.YtjdopimopgpagaaGreat
