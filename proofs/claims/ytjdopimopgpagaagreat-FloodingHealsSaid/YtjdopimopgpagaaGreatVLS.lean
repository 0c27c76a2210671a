/- The eN of cu of the program. No condition but bH bq stand in each. -/
import Derived.Test.YtjdopimopgpagaaGreatDLS
import Derived.Test.YtjdopimopgpagaaGreatVQV
import Derived.Test.YtjdopimopgpagaaGreatVL
namespace Go.Proofs.YtjdopimopgpagaaGreat
open Go Go.Proofs.Tryz
set_option maxRecDepth 100000
set_option linter.all false
theorem abh{sa0:aU}{gn:Int}{r:aj×aU}(hm:o7 sa0 gn=some r):bM prog 19 [(900000083,.cells 83 (k3 sa0))] [.ptr 900000083 0,i6 gn] (λa σ'=>a=.agg (k12 r.1)∧σ'=[(900000083,.cells 83 (k3 r.2))]):=by
 refine aZ func19 rfl rfl ?_
 unfold o7 at hm
 refine qS [(0,.al 19004)] [(0,.ptr 900000083 0),(1,i6 gn),(4,.ptr 19004 0)] [(900000083,.cells 83 (k3 sa0)),(19004,.cells 27 [.aH,.aH,.aH])] ?_
 obtain⟨ah,h1,hm⟩:=aa hm
 refine qD [(2,hdc [500001300] (zp h1) ck13),(3,.al 19005)] [0,1] [(5,.ptr 19005 0)] [900000083] [(900000083,.cells 83 (k3 ah.2)),(500001300,.slice 53 5 (ml aN ah.1.aA) 0 false),(19005,.cells 27 [lf aC ah.1.Links,.own 500001300,lf aJ ah.1.aq])]<|A.seq<|qDs [] [] [(6,i6 0)]<|A.block ?_
 obtain⟨F1,n1,hF1,hm⟩:=ji hm
 refine A.lpW (F:=F1) hm (λ(i_1,m_1)=>[(4,.ptr 19004 0),(5,.ptr 19005 0),(6,i6 i_1)]) (λ(i_1,m_1)=>[(900000083,.cells 83 (k3 ah.2)),(19004,.cells 27 [.aH,.aH,.aH]),(19005,.cells 27 [lf aC ah.1.Links,.own 701900501,lf aJ ah.1.aq]),(701900501,.slice 53 5 (ml aN m_1) 0 false)]) ?_ ?_
 ·exact bA.go [.sw 500001300 701900501] [] (by kernel_rfl)
 rintro Z1 ⟨i_1,m_1⟩ hm
 rw[hF1]at hm
 refine A.seq<|qDs [(3,hto (lnE aN m_1))] [] [(16,.bool (decide (i_1<(m_1.length:Int))))] ?_
 rcases az hm with⟨c1,hm⟩|⟨c1,hm⟩
 ·refine qT c1<|A.skip<|A.seq<|A.block ?_
  obtain⟨e_1,h2,hm⟩:=aa hm
  obtain⟨l_1,h3,hm⟩:=aa hm
  refine qD [(6,hix (ix aN h2)),(8,hlo 701900501 1 (ix aN h2)),(10,hix (ix aN h2)),(12,hso 701900501 (st aN (off:=1) (ca:=[i6 (if e_1.Seq>(1:Int)then e_1.Seq else(1:Int))]) h2 h3 rfl) (gP h2).1.1)] [16] [] [701900501] [(701900501,.slice 53 5 (ml aN l_1) 0 false)] ?_
  obtain⟨e_2,h4,hm⟩:=aa hm
  obtain⟨aD,h5,hm⟩:=aa hm
  refine qD [(4,hix (ix aN h4)),(6,hlo 701900501 0 (ix aN h4)),(7,aej 1 (SC.at [(506003500,701900501)] (abT h5)) ck35),(11,.al 19007)] [] [(7,.ptr 19007 0)] [] [(19007,.cells 66 (k7 aD.1))] ?_
  obtain⟨aP,h6,hm⟩:=aa hm
  obtain⟨l_2,h7,hm⟩:=aa hm
  exact qG [(6,hix (ix aN h4)),(8,hlo 701900501 4 (ix aN h4)),(10,hro (abQ h6) ck69),(11,hix (ix aN h4)),(13,hso 701900501 (st aN (off:=4) (ca:=(k8 aP)) h4 h7 rfl) (gP h4).1.1)] [7] [] [701900501,19007] [(701900501,.slice 53 5 (ml aN l_2) 0 false)]<|qGs [] [6] [(6,i6 (w64 (i_1+1)))]<|qX (w64 (i_1+1),l_2) hm
 refine qF c1<|A.exit<|qD [] [5,6,16] [] [19004,19005] [(19004,.cells 27 [lf aC ah.1.Links,.own 701900501,lf aJ ah.1.aq])]<|A.ret ?_
 obtain rfl:=some_inj hm
 exact A.fin W0 [.fz [701900501]] rfl (by kernel_rfl)
theorem uX{f:aj}{n:Int}{r:aj}(hm:lW f n=some r):RO prog 20 [] [.agg (k12 f),i6 n] (.agg (k12 r)):=by
 refine aZ func20 rfl rfl ?_
 unfold lW at hm
 refine qS [(0,.al 20002),(1,.al 20004)] [(1,i6 n),(2,.ptr 20002 0),(4,.ptr 20004 0)] [(20002,.cells 27 (k12 f)),(20004,.cells 27 [.aH,.aH,.aH])]<|A.seq<|qDs [] [] [(5,i6 0)]<|A.block ?_
 obtain⟨hh1,hm⟩:=iB hm
 obtain⟨B1,K1,hB1,hK1,hm⟩:=kf hm
 refine A.lpN (hi:=n) (B:=B1) (K:=K1) hm rfl (λj1=>λ(m_1,m_2,m_3)=>[(1,i6 n),(2,.ptr 20002 0),(4,.ptr 20004 0),(5,i6 (j1:Int))]) (λj1=>λ(m_1,m_2,m_3)=>[(20002,.cells 27 [lf aC m_1,lf aN m_2,lf aJ m_3]),(20004,.cells 27 [.aH,.aH,.aH])]) ?_ ?_ ?_
 ·exact qW
 ·rintro j1 Z1 ⟨m_1,m_2,m_3⟩ hj1 hx1 hm
  rw[hB1]at hm
  refine A.seq<|qDs [] [] [(8,.bool (decide ((j1:Int)<n)))] ?_
  refine A.cT rfl (decide_eq_true hx1)<|A.skip<|A.seq<|A.block ?_
  obtain⟨ah,h1,hm⟩:=aa hm
  exact qG [(1,hro (tw h1) apw)] [8] [] [20002] [(20002,.cells 27 (k12 ah.1))]<|qGs [(1,hto (vz (by omega) hx1 (of_decide_eq_true hh1)))] [5] [(5,i6 (j1+1:Int))]<|qX (ah.1.Links,ah.1.aA,ah.1.aq) hm
 rintro j1 ⟨m_1,m_2,m_3⟩ hj1 hl1 hm
 rw[hK1]at hm
 refine A.seq<|qDs [] [] [(8,.bool (decide ((j1:Int)<n)))] ?_
 refine A.cF rfl (geF hl1)<|A.exit<|qS [] [(4,.ptr 20004 0)] [(20004,.cells 27 [lf aC m_1,lf aN m_2,lf aJ m_3])] ?_
 cases hm
 exact A.ret qE
end Go.Proofs.YtjdopimopgpagaaGreat
