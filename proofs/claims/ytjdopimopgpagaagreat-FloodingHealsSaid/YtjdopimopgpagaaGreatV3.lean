/- The eN of cu of the program. No condition but bH bq stand in each. -/
import Derived.Test.YtjdopimopgpagaaGreatV1
namespace Go.Proofs.YtjdopimopgpagaaGreat
open Go Go.Proofs.Tryz
set_option maxRecDepth 100000
set_option linter.all false
variable {l:List Int}{r:Int×aU}{t:aU}
theorem dL(hm:dD t l=some r):bM prog 59 [(900000083,.cells 83 (k3 t))] [.ptr 900000083 0,lf bK l] (λa σ'=>a=i6 r.1∧σ'=[(900000083,.cells 83 (k3 r.2))]):=by
 refine aZ func59 rfl rfl ?_
 unfold dD at hm
 refine qS [] [(0,.ptr 900000083 0),(1,lf bK l)] [(900000083,.cells 83 (k3 t))] ?_
 obtain⟨ah,h1,hm⟩:=aa hm
 obtain⟨e_1,h2,hm⟩:=aa hm
 refine qS [(3,hto (lnE bK l)),(4,hdc [] (bO h1) jb),(5,hix (ix bK h2))] [(4,i6 e_1)] [(900000083,.cells 83 (k3 ah.2))] ?_
 cases hm
 exact A.ret qE
theorem jR{n:Int}{r:Bool×aU}(hm:ia t n=some r):bM prog 56 [(900000083,.cells 83 (k3 t))] [.ptr 900000083 0,i6 n] (λa σ'=>a=.bool r.1∧σ'=[(900000083,.cells 83 (k3 r.2))]):=by
 refine aZ func56 rfl rfl ?_
 unfold ia at hm
 refine qS [] [(0,.ptr 900000083 0),(1,i6 n)] [(900000083,.cells 83 (k3 t))] ?_
 obtain⟨ah,h1,hm⟩:=aa hm
 refine qS [(2,hdc [] (bO h1) jb)] [(4,.bool (decide (ah.1=w64 (n-1))))] [(900000083,.cells 83 (k3 ah.2))] ?_
 cases hm
 exact A.ret qE
theorem jv(hm:gi t=some r):bM prog 57 [(900000083,.cells 83 (k3 t))] [.ptr 900000083 0] (λa σ'=>a=i6 r.1∧σ'=[(900000083,.cells 83 (k3 r.2))]):=by
 refine aZ func57 rfl rfl ?_
 unfold gi at hm
 refine qS [] [(0,.ptr 900000083 0)] [(900000083,.cells 83 (k3 t))] ?_
 obtain⟨ah,h1,hm⟩:=aa hm
 refine qS [(2,hdc [] (dL h1) tL)] [(2,i6 ah.1)] [(900000083,.cells 83 (k3 ah.2))] ?_
 cases hm
 exact A.ret qE
theorem tj(hm:jQ t=some r):bM prog 61 [(900000083,.cells 83 (k3 t))] [.ptr 900000083 0] (λa σ'=>a=i6 r.1∧σ'=[(900000083,.cells 83 (k3 r.2))]):=by
 refine aZ func61 rfl rfl ?_
 unfold jQ at hm
 refine qS [] [(0,.ptr 900000083 0)] [(900000083,.cells 83 (k3 t))] ?_
 obtain⟨ah,h1,hm⟩:=aa hm
 refine qS [(2,hdc [] (dL h1) tL)] [(2,i6 ah.1)] [(900000083,.cells 83 (k3 ah.2))] ?_
 cases hm
 exact A.ret qE
theorem adE{l:List aV}{r:(List aV)}(hm:sO l=some r):bM prog 99 [] [lf aC l] (λa σ'=>a=.own 500009900∧σ'=[(500009900,.slice 86 5 (ml aC r) 0 false)]):=by
 refine aZ func99 rfl rfl ?_
 unfold sO at hm
 refine qS [] [(0,lf aC l)] []<|qDs [] [] [(3,.aH)]<|A.seq<|qDs [] [] [(4,i6 0)]<|A.block<|A.bS 0 rfl λhb1=>?_
 obtain⟨B1,K1,hB1,hK1,hm⟩:=bF hm
 refine A.lpI (l:=l) (j0:=0) (B:=B1) (K:=K1) hm (λj1=>λdH=>[(0,lf aC l),(3,.own 600099003),(4,i6 (j1:Int))]) (λj1=>λdH=>[(600099003,.slice 86 5 (ml aC dH) 0 false)]) ?_ ?_ ?_
 ·exact bA.go [.ad 3 600099003 86 5] [] (by kernel_rfl)
 ·rintro j1 e1 Z1 dH hj1 hx1 hm
  rw[hB1]at hm
  refine A.seq<|qDs [(2,hto (lnE aC l))] [] [(10,.bool (decide ((j1:Int)<(l.length:Int))))] ?_
  refine qT (ltT hx1)<|A.skip<|A.seq<|A.block<|qDs [] [10] [(5,i6 0)]<|A.seq<|A.block ?_
  obtain⟨F2,n2,hF2,hm⟩:=ji hm
  refine A.lpW (F:=F2) hm (λpQ=>[(0,lf aC l),(3,.own 600099003),(4,i6 (j1:Int)),(5,i6 pQ)]) (λpQ=>[(600099003,.slice 86 5 (ml aC dH) 0 false)]) ?_ ?_
  ·exact qW
  rintro Z2 pQ hm
  rw[hF2]at hm
  refine A.seq ?_
  obtain⟨J1,hJ1,hm⟩:=bQ hm
  refine A.J (J:=J1) (r:=r) (λv_1=>[(0,lf aC l),(3,.own 600099003),(4,i6 (j1:Int)),(5,i6 pQ),(55,.bool v_1)]) (λv_1=>[(600099003,.slice 86 5 (ml aC dH) 0 false)]) ?_ ?_
  ·rcases az hm with⟨c1,hm⟩|⟨c1,hm⟩
   ·obtain⟨e_1,h1,hm⟩:=aa hm
    rcases az hm with⟨c2,hm⟩|⟨c2,hm⟩
    ·exact qGs [(2,hto (lnE aC dH)),(4,hto (bE c1)),(7,hix (ix aC h1)),(9,hlo 600099003 0 (ix aC h1)),(12,hix (ix aC (bh hx1))),(16,hto (bE c2))] [] [(55,.bool true)]<|qX true hm
    rcases az hm with⟨c3,hm⟩|⟨c3,hm⟩
    ·exact qGs [(2,hto (lnE aC dH)),(4,hto (bE c1)),(7,hix (ix aC h1)),(9,hlo 600099003 0 (ix aC h1)),(12,hix (ix aC (bh hx1))),(16,hto (bE c2)),(19,hix (ix aC h1)),(21,hlo 600099003 0 (ix aC h1)),(24,hix (ix aC (bh hx1))),(28,hto (bE c3)),(31,hix (ix aC h1)),(33,hlo 600099003 1 (ix aC h1)),(36,hix (ix aC (bh hx1)))] [] [(55,.bool (decide (e_1.B<e1.B)))]<|qX (decide (e_1.B<e1.B)) hm
    exact qGs [(2,hto (lnE aC dH)),(4,hto (bE c1)),(7,hix (ix aC h1)),(9,hlo 600099003 0 (ix aC h1)),(12,hix (ix aC (bh hx1))),(16,hto (bE c2)),(19,hix (ix aC h1)),(21,hlo 600099003 0 (ix aC h1)),(24,hix (ix aC (bh hx1))),(28,hto (bE c3))] [] [(55,.bool false)]<|qX false hm
   exact qGs [(2,hto (lnE aC dH)),(4,hto (bE c1))] [] [(55,.bool false)]<|qX false hm
  rintro v_1 hm
  rw[hJ1]at hm
  rcases az hm with⟨c4,hm⟩|⟨c4,hm⟩
  ·exact qT c4<|A.skip<|A.block<|qGs [] [5,55] [(5,i6 (w64 (pQ+1)))]<|qX (w64 (pQ+1)) hm
  refine qF c4<|A.exit<|qDs [] [55] [(6,.aH)] ?_
  obtain⟨l_1,h2,hm⟩:=aa hm
  obtain⟨l_2,h3,hm⟩:=aa hm
  refine A.RS W0 [.fz [600099003]] [(3,hsl (sl aC h2)),(4,hap 99562 (ap aC (bytes:=40) (by decide) h3))] [(0,lf aC l),(3,.own 600099003),(4,i6 (j1:Int)),(5,i6 pQ),(6,.own 99562)] [(600099003,.slice 86 5 (ml aC dH) (ml aC dH).length true),(99562,.slice 86 5 (ml aC l_2) 0 false)] (by kernel_rfl) ?_
  obtain⟨l_3,h4,hm⟩:=aa hm
  refine qS [(3,hix (ix aC (bh hx1))),(6,hap 99569 (ap aC (bytes:=40) (by decide) h4))] [(0,lf aC l),(3,.own 600099003),(4,i6 (j1:Int)),(5,i6 pQ),(6,.own 99569)] [(600099003,.slice 86 5 (ml aC dH) (ml aC dH).length true),(99569,.slice 86 5 (ml aC l_3) 0 false)] ?_
  obtain⟨l_4,h5,hm⟩:=aa hm
  obtain⟨l_5,h6,hm⟩:=aa hm
  exact qG [(3,hsl (slE2 aC h5)),(4,hap 99574 (ap aC (bytes:=40) (by decide) h6))] [3,5,6] [(3,.own 99574)] [600099003,99569] [(99574,.slice 86 5 (ml aC l_5) 0 false)]<|qGs [(1,hto (inc hx1 hb1))] [4] [(4,i6 ((j1+1:Nat):Int))]<|Exists.intro l_5 (And.intro hm (bA.go [.sw 99574 600099003] [] (by kernel_rfl)))
 rintro j1 dH hj1 hl1 hm
 rw[hK1]at hm
 refine A.seq<|qDs [(2,hto (lnE aC l))] [] [(10,.bool (decide ((j1:Int)<(l.length:Int))))] ?_
 refine qF (ltF hl1)<|A.exit<|qDs [] [0,3,4,10] [(2,.own 600099003)]<|A.ret ?_
 obtain rfl:=some_inj hm
 exact A.fin W0 [.sw 600099003 500009900] rfl (by kernel_rfl)
theorem aff{r:aU}(hm:vE l=some r):bM prog 11 [] [lf bK l] (λa σ'=>a=.ptr 900000083 0∧σ'=[(900000083,.cells 83 (k3 r))]):=by
 refine aZ func11 rfl rfl ?_
 unfold vE at hm
 refine qS [] [(0,lf bK l)] [] ?_
 obtain⟨J1,hJ1,hm⟩:=bQ hm
 refine A.J (J:=J1) (r:=r) (λl_1=>[(0,lf bK l_1)]) (λl_1=>[]) ?_ ?_
 ·refine qDs [(1,hto (lnE bK l))] [] [(5,.bool (decide (600<(l.length:Int))))] ?_
  rcases az hm with⟨c1,hm⟩|⟨c1,hm⟩
  ·refine qT c1 ?_
   obtain⟨l_2,h1,hm⟩:=aa hm
   exact qR [(1,hsl (sl bK h1))] [(0,lf bK l_2)] []<|Exists.intro l_2 (And.intro hm (bA.go [] [0] (by kernel_rfl)))
  exact qF c1<|A.skip<|Exists.intro l (And.intro hm (bA.go [] [0] (by kernel_rfl)))
 rintro l_1 hm
 rw[hJ1]at hm
 refine qS [(2,.al 11010)] [(2,.ptr 11010 0)] [(11010,.cells 83 [lf bK l_1,i6 0])]<|A.ret ?_
 obtain rfl:=some_inj hm
 exact A.fin W0 [.sw 11010 900000083] rfl (by kernel_rfl)
theorem xg{most:Int}{n:Int}{r:aB×aU}(hm:kj t most n=some r):bM prog 46 [(900000083,.cells 83 (k3 t))] [.ptr 900000083 0,i6 most,i6 n] (λa σ'=>a=.agg [.own 500004600,.own 500004601]∧σ'=[(900000083,.cells 83 (k3 r.2)),(500004600,.slice 93 2 (ml aX r.1.aI) 0 false),(500004601,.slice 86 5 (ml aC r.1.Links) 0 false)]):=by
 refine aZ func46 rfl rfl ?_
 unfold kj at hm
 refine qS [(0,.al 46006)] [(0,.ptr 900000083 0),(1,i6 most),(2,i6 n),(6,.ptr 46006 0)] [(900000083,.cells 83 (k3 t)),(46006,.cells 45 [.aH,.aH])]<|qD [(0,.al 46007)] [] [(7,.ptr 46007 0)] [] [(46007,.cells 45 [.aH,.aH])] ?_
 obtain⟨ah,h1,hm⟩:=aa hm
 refine qD [(2,hdc [] (eD h1) wV)] [1] [(8,i6 ah.1)] [900000083] [(900000083,.cells 83 (k3 ah.2))]<|A.seq<|qDs [] [] [(9,i6 1)]<|A.block ?_
 obtain⟨hh1,hm⟩:=iB hm
 obtain⟨B1,K1,hB1,hK1,hm⟩:=kf hm
 refine A.lpN (hi:=(ah.1+1)) (B:=B1) (K:=K1) hm rfl (λj1=>λm_1=>[(0,.ptr 900000083 0),(2,i6 n),(6,.ptr 46006 0),(7,.ptr 46007 0),(8,i6 ah.1),(9,i6 (j1:Int))]) (λj1=>λm_1=>[(900000083,.cells 83 (k3 ah.2)),(46006,.cells 45 [.aH,.aH]),(46007,.cells 45 [.own 704600700,.aH]),(704600700,.slice 93 2 (ml aX m_1) 0 false)]) ?_ ?_ ?_
 ·exact bA.go [.ac 46007 704600700 93 2 0] [] (by kernel_rfl)
 ·rintro j1 Z1 m_1 hj1 hx1 hm
  rw[hB1]at hm
  refine A.seq<|qDs [] [] [(21,.bool (decide ((j1:Int)≤ah.1)))] ?_
  refine A.cT rfl (leT hx1)<|A.skip<|A.seq<|A.block ?_
  obtain⟨l_1,h2,hm⟩:=aa hm
  exact qG [(5,hap 46529 (ap aX (bytes:=16) (by decide) h2))] [21] [] [46007,704600700] [(46007,.cells 45 [.own 46529,.aH]),(46529,.slice 93 2 (ml aX l_1) 0 false)]<|qGs [(1,hto (vz (by omega) hx1 (of_decide_eq_true hh1)))] [9] [(9,i6 (j1+1:Int))]<|Exists.intro l_1 (And.intro hm (bA.go [.sw 46529 704600700] [] (by kernel_rfl)))
 rintro j1 m_1 hj1 hl1 hm
 rw[hK1]at hm
 refine A.seq<|qDs [] [] [(21,.bool (decide ((j1:Int)≤ah.1)))] ?_
 refine A.cF rfl (gtF hl1)<|A.exit ?_
 obtain⟨aD,h3,hm⟩:=aa hm
 refine qD [(2,hdc [] (dL h3) tL)] [9,21] [(10,i6 aD.1)] [900000083] [(900000083,.cells 83 (k3 aD.2))]<|A.seq<|qDs [] [] [(11,i6 2)]<|A.block ?_
 obtain⟨hh2,hm⟩:=iB hm
 obtain⟨B2,K2,hB2,hK2,hm⟩:=kf hm
 refine A.lpN (hi:=(ah.1+1)) (B:=B2) (K:=K2) hm rfl (λj2=>λ(m_2,m_3,m_4)=>[(0,.ptr 900000083 0),(2,i6 n),(6,.ptr 46006 0),(7,.ptr 46007 0),(8,i6 ah.1),(10,i6 aD.1),(11,i6 (j2:Int))]) (λj2=>λ(m_2,m_3,m_4)=>[(900000083,.cells 83 [lf bK m_3,i6 m_4]),(46006,.cells 45 [.aH,.aH]),(46007,.cells 45 [.own 704600700,.own 704600701]),(704600700,.slice 93 2 (ml aX m_1) 0 false),(704600701,.slice 86 5 (ml aC m_2) 0 false)]) ?_ ?_ ?_
 ·exact bA.go [.ac 46007 704600701 86 5 1] [] (by kernel_rfl)
 ·rintro j2 Z2 ⟨m_2,m_3,m_4⟩ hj2 hx2 hm
  rw[hB2]at hm
  refine A.seq<|qDs [] [] [(36,.bool (decide ((j2:Int)≤ah.1)))] ?_
  refine A.cT rfl (leT hx2)<|A.skip<|A.seq<|A.block ?_
  obtain⟨aP,h4,hm⟩:=aa hm
  refine qD [(3,hdc [] (eD h4) wV)] [36] [(12,i6 aP.1)] [900000083] [(900000083,.cells 83 (k3 aP.2))] ?_
  obtain⟨bt,h5,hm⟩:=aa hm
  refine qD [(1,hdc [] (jR h5) ack)] [] [(13,.bool bt.1)] [900000083] [(900000083,.cells 83 (k3 bt.2))]<|qDs [] [] [(14,i6 1)]<|A.block ?_
  obtain⟨hh3,hm⟩:=iB hm
  obtain⟨B3,K3,hB3,hK3,hm⟩:=kf hm
  refine A.lpN (hi:=(j2:Int)) (B:=B3) (K:=K3) hm rfl (λj3=>λ(m_5,m_6,m_7)=>[(0,.ptr 900000083 0),(2,i6 n),(6,.ptr 46006 0),(7,.ptr 46007 0),(8,i6 ah.1),(10,i6 aD.1),(11,i6 (j2:Int)),(12,i6 aP.1),(13,.bool bt.1),(14,i6 (j3:Int))]) (λj3=>λ(m_5,m_6,m_7)=>[(900000083,.cells 83 [lf bK m_6,i6 m_7]),(46006,.cells 45 [.aH,.aH]),(46007,.cells 45 [.own 704600700,.own 704600701]),(704600700,.slice 93 2 (ml aX m_1) 0 false),(704600701,.slice 86 5 (ml aC m_5) 0 false)]) ?_ ?_ ?_
  ·exact qW
  ·rintro j3 Z3 ⟨m_5,m_6,m_7⟩ hj3 hx3 hm
   rw[hB3]at hm
   refine A.seq<|qDs [] [] [(47,.bool (decide ((j3:Int)<(j2:Int))))] ?_
   refine A.cT rfl (decide_eq_true hx3)<|A.skip ?_
   obtain⟨J1,hJ1,hm⟩:=bQ hm
   refine A.J (J:=J1) (r:=r) (λ(m_8,m_9,fQ)=>[(0,.ptr 900000083 0),(2,i6 n),(6,.ptr 46006 0),(7,.ptr 46007 0),(8,i6 ah.1),(10,i6 aD.1),(11,i6 (j2:Int)),(12,i6 aP.1),(13,.bool bt.1),(14,i6 (j3:Int))]) (λ(m_8,m_9,fQ)=>[(900000083,.cells 83 [lf bK m_8,i6 m_9]),(46006,.cells 45 [.aH,.aH]),(46007,.cells 45 [.own 704600700,.own 704600701]),(704600700,.slice 93 2 (ml aX m_1) 0 false),(704600701,.slice 86 5 (ml aC fQ) 0 false)]) ?_ ?_
   ·refine A.block ?_
    obtain⟨J2,hJ2,hm⟩:=bQ hm
    refine A.J (J:=J2) (r:=r) (λ(v_1,fF,jl)=>[(0,.ptr 900000083 0),(2,i6 n),(6,.ptr 46006 0),(7,.ptr 46007 0),(8,i6 ah.1),(10,i6 aD.1),(11,i6 (j2:Int)),(12,i6 aP.1),(13,.bool bt.1),(14,i6 (j3:Int)),(60,.bool v_1)]) (λ(v_1,fF,jl)=>[(900000083,.cells 83 [lf bK fF,i6 jl]),(46006,.cells 45 [.aH,.aH]),(46007,.cells 45 [.own 704600700,.own 704600701]),(704600700,.slice 93 2 (ml aX m_1) 0 false),(704600701,.slice 86 5 (ml aC m_5) 0 false)]) ?_ ?_
    ·rcases az hm with⟨c1,hm⟩|⟨c1,hm⟩
     ·rcases az hm with⟨c2,hm⟩|⟨c2,hm⟩
      ·exact qGs [(3,hto (bE c1)),(7,hto (bE c2))] [47] [(60,.bool true)]<|qX (true,m_6,m_7) hm
      obtain⟨bL,h6,hm⟩:=aa hm
      exact qG [(3,hto (bE c1)),(7,hto (bE c2)),(9,hdc [] (jR h6) ack)] [47] [(60,.bool bL.1)] [900000083] [(900000083,.cells 83 (k3 bL.2))]<|qX (bL.1,bL.2.L,bL.2.At) hm
     obtain⟨cq,h7,hm⟩:=aa hm
     exact qG [(3,hto (bE c1)),(9,hdc [] (jR h7) ack)] [47] [(60,.bool cq.1)] [900000083] [(900000083,.cells 83 (k3 cq.2))]<|qX (cq.1,cq.2.L,cq.2.At) hm
    rintro⟨v_1,fF,jl⟩ hm
    rw[hJ2]at hm
    rcases az hm with⟨c3,hm⟩|⟨c3,hm⟩
    ·refine qT c3 ?_
     obtain⟨cU,h8,hm⟩:=aa hm
     obtain⟨dz,h9,hm⟩:=aa hm
     obtain⟨dW,h10,hm⟩:=aa hm
     obtain⟨l_2,h11,hm⟩:=aa hm
     exact qG [(6,hdc [] (eD h8) wV),(9,hdc [] (eD h9) wV),(11,hdc [] (bO h10) jb),(14,hap 46575 (ap aC (bytes:=40) (by decide) h11))] [60] [] [900000083,46007,704600701] [(900000083,.cells 83 (k3 dW.2)),(46007,.cells 45 [.own 704600700,.own 46575]),(46575,.slice 86 5 (ml aC l_2) 0 false)]<|Exists.intro (dW.2.L,dW.2.At,l_2) (And.intro hm (bA.go [.sw 46575 704600701] [] (by kernel_rfl)))
    exact qF c3<|A.skip<|qX (fF,jl,m_5) hm
   rintro⟨m_8,m_9,fQ⟩ hm
   rw[hJ1]at hm
   exact qGs [(1,hto (vz (by omega) hx3 (of_decide_eq_true hh3)))] [14] [(14,i6 (j3+1:Int))]<|qX (fQ,m_8,m_9) hm
  rintro j3 ⟨m_5,m_6,m_7⟩ hj3 hl3 hm
  rw[hK3]at hm
  refine A.seq<|qDs [] [] [(47,.bool (decide ((j3:Int)<(j2:Int))))] ?_
  exact A.cF rfl (geF hl3)<|A.exit<|qGs [(1,hto (vz (by omega) hx2 (of_decide_eq_true hh2)))] [11,12,13,14,47] [(11,i6 (j2+1:Int))]<|qX (m_5,m_6,m_7) hm
 rintro j2 ⟨m_2,m_3,m_4⟩ hj2 hl2 hm
 rw[hK2]at hm
 refine A.seq<|qDs [] [] [(36,.bool (decide ((j2:Int)≤ah.1)))] ?_
 refine A.cF rfl (gtF hl2)<|A.exit ?_
 obtain⟨bJ,h12,hm⟩:=aa hm
 refine qD [(2,hdl [704600701] [500009900] (adE h12) ck99 ⟨jt aC (λ_=>rfl) _,trivial⟩)] [8,10,11,36] [] [46007,704600701] [(46007,.cells 45 [.own 704600700,.own 500009900]),(500009900,.slice 86 5 (ml aC bJ) 0 false)] ?_
 obtain⟨J3,hJ3,hm⟩:=bQ hm
 refine A.J (J:=J3) (r:=r) (λ(ny,nA,oB,oC)=>[(6,.ptr 46006 0),(7,.ptr 46007 0)]) (λ(ny,nA,oB,oC)=>[(900000083,.cells 83 [lf bK ny,i6 nA]),(46006,.cells 45 [.aH,.aH]),(46007,.cells 45 [.own 704600700,.own 704600701]),(704600700,.slice 93 2 (ml aX oB) 0 false),(704600701,.slice 86 5 (ml aC oC) 0 false)]) ?_ ?_
 ·obtain⟨J4,hJ4,hm⟩:=bQ hm
  refine A.J (J:=J4) (r:=r) (λ(v_2,mz,sP)=>[(0,.ptr 900000083 0),(6,.ptr 46006 0),(7,.ptr 46007 0),(87,.bool v_2)]) (λ(v_2,mz,sP)=>[(900000083,.cells 83 [lf bK mz,i6 sP]),(46006,.cells 45 [.aH,.aH]),(46007,.cells 45 [.own 704600700,.own 500009900]),(704600700,.slice 93 2 (ml aX m_1) 0 false),(500009900,.slice 86 5 (ml aC bJ) 0 false)]) ?_ ?_
  ·rcases az hm with⟨c4,hm⟩|⟨c4,hm⟩
   ·obtain⟨dM,h13,hm⟩:=aa hm
    exact qG [(2,hto (bE c4)),(5,hdc [] (jR h13) ack)] [2] [(87,.bool dM.1)] [900000083] [(900000083,.cells 83 (k3 dM.2))]<|qX (dM.1,dM.2.L,dM.2.At) hm
   exact qGs [(2,hto (bE c4))] [2] [(87,.bool false)]<|qX (false,m_3,m_4) hm
  rintro⟨v_2,mz,sP⟩ hm
  rw[hJ4]at hm
  rcases az hm with⟨c5,hm⟩|⟨c5,hm⟩
  ·refine qT c5 ?_
   obtain⟨ck,h14,hm⟩:=aa hm
   refine qD [(1,hdc [] (bO h14) jb)] [87] [(89,i6 ck.1)] [900000083] [(900000083,.cells 83 (k3 ck.2))]<|A.block<|qDs [] [] [(101,.bool (decide (ck.1=0)))] ?_
   rcases az hm with⟨c6,hm⟩|⟨c6,hm⟩
   ·refine qT c6 ?_
    obtain⟨fD,h15,hm⟩:=aa hm
    obtain⟨l_3,h16,hm⟩:=aa hm
    exact qG [(4,hdc [] (dL h15) tL),(7,hap 46610 (ap aX (bytes:=16) (by decide) h16))] [0,89,101] [] [900000083,46007,704600700] [(900000083,.cells 83 (k3 fD.2)),(46007,.cells 45 [.own 46610,.own 500009900]),(46610,.slice 93 2 (ml aX l_3) 0 false)]<|Exists.intro (fD.2.L,fD.2.At,l_3,bJ) (And.intro hm (bA.go [.sw 46610 704600700,.sw 500009900 704600701] [] (by kernel_rfl)))
   refine qF c6<|qDs [] [101] [(112,.bool (decide (ck.1=1)))] ?_
   rcases az hm with⟨c7,hm⟩|⟨c7,hm⟩
   ·refine qT c7 ?_
    obtain⟨jm,h17,hm⟩:=aa hm
    obtain⟨gC,h18,hm⟩:=aa hm
    obtain⟨l_4,h19,hm⟩:=aa hm
    exact qG [(3,hdc [] (bO h17) jb),(5,hdc [] (bO h18) jb),(8,hap 46622 (ap aC (bytes:=40) (by decide) h19))] [0,89,112] [] [900000083,46007,500009900] [(900000083,.cells 83 (k3 gC.2)),(46007,.cells 45 [.own 704600700,.own 46622]),(46622,.slice 86 5 (ml aC l_4) 0 false)]<|Exists.intro (gC.2.L,gC.2.At,m_1,l_4) (And.intro hm (bA.go [.sw 46622 704600701] [] (by kernel_rfl)))
   refine qF c7<|qDs [] [112] [(124,.bool (decide (ck.1=2)))] ?_
   rcases az hm with⟨c8,hm⟩|⟨c8,hm⟩
   ·refine qT c8<|qDs [(2,hto (lnE aC bJ))] [89,124] [(129,.bool (decide (0<(bJ.length:Int))))] ?_
    rcases az hm with⟨c9,hm⟩|⟨c9,hm⟩
    ·refine qT c9 ?_
     obtain⟨mg,h20,hm⟩:=aa hm
     obtain⟨iX,h21,hm⟩:=aa hm
     obtain⟨e_1,h22,hm⟩:=aa hm
     obtain⟨l_5,h23,hm⟩:=aa hm
     exact qG [(5,hto (lnE aC bJ)),(6,hdc [] (bO h20) jb),(8,hdc [] (jv h21) acm),(9,hix (ix aC h22)),(11,hso 500009900 (st aC (off:=2) (ca:=[i6 iX.1]) h22 h23 rfl) (gP h22).1.1)] [0,129] [] [900000083,500009900] [(900000083,.cells 83 (k3 iX.2)),(500009900,.slice 86 5 (ml aC l_5) 0 false)]<|Exists.intro (iX.2.L,iX.2.At,m_1,l_5) (And.intro hm (bA.go [.sw 500009900 704600701] [] (by kernel_rfl)))
    exact qF c9<|A.skip<|Exists.intro (ck.2.L,ck.2.At,m_1,bJ) (And.intro hm (bA.go [.sw 500009900 704600701] [] (by kernel_rfl)))
   refine qF c8<|qDs [] [124] [(141,.bool (decide (ck.1=3)))] ?_
   rcases az hm with⟨c10,hm⟩|⟨c10,hm⟩
   ·refine qT c10<|qDs [(2,hto (lnE aC bJ))] [89,141] [(146,.bool (decide (0<(bJ.length:Int))))] ?_
    rcases az hm with⟨c11,hm⟩|⟨c11,hm⟩
    ·refine qT c11 ?_
     obtain⟨kQ,h24,hm⟩:=aa hm
     obtain⟨gD,h25,hm⟩:=aa hm
     obtain⟨e_2,h26,hm⟩:=aa hm
     obtain⟨l_6,h27,hm⟩:=aa hm
     exact qG [(5,hto (lnE aC bJ)),(6,hdc [] (bO h24) jb),(8,hdc [] (jv h25) acm),(9,hix (ix aC h26)),(11,hso 500009900 (st aC (off:=3) (ca:=[i6 gD.1]) h26 h27 rfl) (gP h26).1.1)] [0,146] [] [900000083,500009900] [(900000083,.cells 83 (k3 gD.2)),(500009900,.slice 86 5 (ml aC l_6) 0 false)]<|Exists.intro (gD.2.L,gD.2.At,m_1,l_6) (And.intro hm (bA.go [.sw 500009900 704600701] [] (by kernel_rfl)))
    exact qF c11<|A.skip<|Exists.intro (ck.2.L,ck.2.At,m_1,bJ) (And.intro hm (bA.go [.sw 500009900 704600701] [] (by kernel_rfl)))
   refine qF c10<|qDs [] [141] [(158,.bool (decide (ck.1=4)))] ?_
   rcases az hm with⟨c12,hm⟩|⟨c12,hm⟩
   ·refine qT c12<|qDs [(2,hto (lnE aC bJ))] [89,158] [(163,.bool (decide (0<(bJ.length:Int))))] ?_
    rcases az hm with⟨c13,hm⟩|⟨c13,hm⟩
    ·refine qT c13 ?_
     obtain⟨tY,h28,hm⟩:=aa hm
     obtain⟨qu,h29,hm⟩:=aa hm
     obtain⟨e_3,h30,hm⟩:=aa hm
     obtain⟨l_7,h31,hm⟩:=aa hm
     exact qG [(5,hto (lnE aC bJ)),(6,hdc [] (bO h28) jb),(8,hdc [] (jv h29) acm),(9,hix (ix aC h30)),(11,hso 500009900 (st aC (off:=4) (ca:=[i6 qu.1]) h30 h31 rfl) (gP h30).1.1)] [0,163] [] [900000083,500009900] [(900000083,.cells 83 (k3 qu.2)),(500009900,.slice 86 5 (ml aC l_7) 0 false)]<|Exists.intro (qu.2.L,qu.2.At,m_1,l_7) (And.intro hm (bA.go [.sw 500009900 704600701] [] (by kernel_rfl)))
    exact qF c13<|A.skip<|Exists.intro (ck.2.L,ck.2.At,m_1,bJ) (And.intro hm (bA.go [.sw 500009900 704600701] [] (by kernel_rfl)))
   refine qF c12<|qDs [] [89,158] [(175,.bool (decide (ck.1=5)))] ?_
   rcases az hm with⟨c14,hm⟩|⟨c14,hm⟩
   ·refine qT c14<|qDs [(2,hto (lnE aC bJ))] [175] [(180,.bool (decide (0<(bJ.length:Int))))] ?_
    rcases az hm with⟨c15,hm⟩|⟨c15,hm⟩
    ·refine qT c15 ?_
     obtain⟨rF,h32,hm⟩:=aa hm
     obtain⟨e_4,h33,hm⟩:=aa hm
     obtain⟨l_8,h34,hm⟩:=aa hm
     exact qG [(7,hto (lnE aC bJ)),(8,hdc [] (bO h32) jb),(9,hix (ix aC h33)),(10,hlo 500009900 0 (ix aC h33)),(12,hap 46693 (ap aC (bytes:=40) (by decide) h34))] [0,180] [] [900000083,46007,500009900] [(900000083,.cells 83 (k3 rF.2)),(46007,.cells 45 [.own 704600700,.own 46693]),(46693,.slice 86 5 (ml aC l_8) 0 false)]<|Exists.intro (rF.2.L,rF.2.At,m_1,l_8) (And.intro hm (bA.go [.sw 46693 704600701] [] (by kernel_rfl)))
    exact qF c15<|A.skip<|Exists.intro (ck.2.L,ck.2.At,m_1,bJ) (And.intro hm (bA.go [.sw 500009900 704600701] [] (by kernel_rfl)))
   refine qF c14<|qDs [] [0,175] [(15,i6 50)]<|A.block ?_
   obtain⟨B4,K4,hB4,hK4,hm⟩:=kf hm
   refine A.lpN (hi:=(75:Int)) (B:=B4) (K:=K4) hm rfl (λj4=>λrP=>[(6,.ptr 46006 0),(7,.ptr 46007 0),(15,i6 (j4:Int))]) (λj4=>λrP=>[(900000083,.cells 83 (k3 ck.2)),(46006,.cells 45 [.aH,.aH]),(46007,.cells 45 [.own 704600700,.own 500009900]),(704600700,.slice 93 2 (ml aX rP) 0 false),(500009900,.slice 86 5 (ml aC bJ) 0 false)]) ?_ ?_ ?_
   ·exact qW
   ·rintro j4 Z4 rP hj4 hx4 hm
    rw[hB4]at hm
    refine A.seq<|qDs [] [] [(91,.bool (decide ((j4:Int)<(75:Int))))] ?_
    refine A.cT rfl (decide_eq_true hx4)<|A.skip<|A.seq<|A.block ?_
    obtain⟨l_9,h35,hm⟩:=aa hm
    exact qG [(5,hap 46599 (ap aX (bytes:=16) (by decide) h35))] [91] [] [46007,704600700] [(46007,.cells 45 [.own 46599,.own 500009900]),(46599,.slice 93 2 (ml aX l_9) 0 false)]<|qGs [(1,hto (vz (by omega) hx4 (by decide)))] [15] [(15,i6 (j4+1:Int))]<|Exists.intro l_9 (And.intro hm (bA.go [.sw 46599 704600700] [] (by kernel_rfl)))
   rintro j4 rP hj4 hl4 hm
   rw[hK4]at hm
   refine A.seq<|qDs [] [] [(91,.bool (decide ((j4:Int)<(75:Int))))] ?_
   exact A.cF rfl (geF hl4)<|A.exit<|Exists.intro (ck.2.L,ck.2.At,rP,bJ) (And.intro hm (bA.go [.sw 500009900 704600701] [] (by kernel_rfl)))
  exact qF c5<|A.skip<|Exists.intro (mz,sP,m_1,bJ) (And.intro hm (bA.go [.sw 500009900 704600701] [] (by kernel_rfl)))
 rintro⟨ny,nA,oB,oC⟩ hm
 rw[hJ3]at hm
 refine qD [] [7] [] [46006,46007] [(46006,.cells 45 [.own 704600700,.own 704600701])]<|A.ret ?_
 obtain rfl:=some_inj hm
 exact A.fin W0 [.sw 704600700 500004600,.sw 704600701 500004601] rfl (by kernel_rfl)
theorem yb{g:aB}{r:gu×aU}(hm:lD t g=some r):bM prog 45 [(900000083,.cells 83 (k3 t))] [.ptr 900000083 0,.agg (k2 g)] (λa σ'=>a=.agg [.own 500004500,.own 500004501]∧σ'=[(900000083,.cells 83 (k3 r.2)),(500004500,.slice 129 2 (ml iW r.1.Links) 0 false),(500004501,.slice 3 1 (ml bK r.1.aI) 0 false)]):=by
 refine aZ func45 rfl rfl ?_
 unfold lD at hm
 refine qS [(0,.al 45003),(1,.al 45004)] [(0,.ptr 900000083 0),(3,.ptr 45003 0),(4,.ptr 45004 0)] [(900000083,.cells 83 (k3 t)),(45003,.cells 45 (k2 g)),(45004,.cells 60 [.aH,.aH])]<|A.seq ?_
 obtain⟨J1,hJ1,hm⟩:=bQ hm
 refine A.J (J:=J1) (r:=r) (λ(v_1,m_1,m_2)=>[(0,.ptr 900000083 0),(3,.ptr 45003 0),(4,.ptr 45004 0),(14,.bool v_1)]) (λ(v_1,m_1,m_2)=>[(900000083,.cells 83 [lf bK m_1,i6 m_2]),(45003,.cells 45 (k2 g)),(45004,.cells 60 [.aH,.aH])]) ?_ ?_
 ·rcases az hm with⟨c1,hm⟩|⟨c1,hm⟩
  ·obtain⟨ah,h1,hm⟩:=aa hm
   exact qG [(2,hto (lnE aC g.Links)),(4,hto (bE c1)),(6,hdc [] (bO h1) jb)] [] [(14,.bool (decide (0<ah.1)))] [900000083] [(900000083,.cells 83 (k3 ah.2))]<|qX (decide (0<ah.1),ah.2.L,ah.2.At) hm
  exact qGs [(2,hto (lnE aC g.Links)),(4,hto (bE c1))] [] [(14,.bool false)]<|qX (false,t.L,t.At) hm
 rintro⟨v_1,m_1,m_2⟩ hm
 rw[hJ1]at hm
 rcases az hm with⟨c2,hm⟩|⟨c2,hm⟩
 ·refine qT c2 ?_
  obtain⟨aD,h2,hm⟩:=aa hm
  obtain⟨e_1,h3,hm⟩:=aa hm
  refine qD [(5,hto (lnE aC g.Links)),(6,hdc [] (bO h2) jb),(7,hix (ix aC h3)),(9,.al 45005)] [3,14] [(5,.ptr 45005 0)] [900000083,45003] [(900000083,.cells 83 (k3 aD.2)),(45005,.cells 86 (k1 e_1))]<|A.seq ?_
  obtain⟨aP,h4,hm⟩:=aa hm
  refine qD [(1,hdc [] (bO h4) jb)] [0] [(26,.bool (decide (aP.1=0)))] [900000083] [(900000083,.cells 83 (k3 aP.2))] ?_
  rcases az hm with⟨c3,hm⟩|⟨c3,hm⟩
  ·refine qT c3<|qD [(5,.al 45032)] [5,26] [] [45004,45005] [(45004,.cells 60 [.own 45032,.aH]),(45032,.slice 129 2 (ml iW ([(lg.mk e_1.B e_1.A)]:List lg)) 0 false)]<|A.ret ?_
   obtain rfl:=some_inj hm
   exact A.fin W0 [.sw 45032 500004500,.ac 45004 500004501 3 1 1] rfl (by kernel_rfl)
  refine qF c3<|A.skip<|qD [(5,.al 45039)] [5,26] [] [45004,45005] [(45004,.cells 60 [.own 45039,.aH]),(45039,.slice 129 2 (ml iW ([(lg.mk e_1.A e_1.B)]:List lg)) 0 false)]<|A.ret ?_
  obtain rfl:=some_inj hm
  exact A.fin W0 [.sw 45039 500004500,.ac 45004 500004501 3 1 1] rfl (by kernel_rfl)
 refine qF c2<|A.skip<|A.seq<|qDs [(2,hto (lnE aX g.aI))] [14] [(44,.bool (decide ((g.aI.length:Int)=(0:Int))))] ?_
 rcases az hm with⟨c4,hm⟩|⟨c4,hm⟩
 ·refine qT c4<|qD [] [0,3,44] [] [45003] []<|A.ret ?_
  obtain rfl:=some_inj hm
  exact A.fin W0 [.ac 45004 500004500 129 2 0,.ac 45004 500004501 3 1 1] rfl (by kernel_rfl)
 refine qF c4<|A.skip ?_
 obtain⟨bt,h5,hm⟩:=aa hm
 obtain⟨e_2,h6,hm⟩:=aa hm
 refine qS [(5,hto (lnE aX g.aI)),(6,hdc [] (bO h5) jb),(7,hix (ix aX h6)),(10,.al 45056)] [(4,.ptr 45004 0)] [(900000083,.cells 83 (k3 bt.2)),(45004,.cells 60 [.aH,.own 45056]),(45056,.slice 3 1 (ml bK ([e_2.ID]:List Int)) 0 false)]<|A.ret ?_
 obtain rfl:=some_inj hm
 exact A.fin W0 [.sw 45056 500004501,.ac 45004 500004500 129 2 0] rfl (by kernel_rfl)
end Go.Proofs.YtjdopimopgpagaaGreat
