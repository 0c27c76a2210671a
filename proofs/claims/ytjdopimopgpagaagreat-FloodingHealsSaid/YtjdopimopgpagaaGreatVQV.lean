/- The eN of cu of the program. No condition but bH bq stand in each. -/
import Derived.Test.YtjdopimopgpagaaGreatVQ
namespace Go.Proofs.YtjdopimopgpagaaGreat
open Go Go.Proofs.Tryz
set_option maxRecDepth 100000
set_option linter.all false
variable {f:aj}
theorem yl{r:aB}(hm:eE f=some r):RO prog 23 [(506002300,.slice 53 5 (ml aN f.aA) 0 false)] [.agg [lf aC f.Links,.own 506002300,lf aJ f.aq]] (.agg (k2 r)):=by
 refine aZ func23 rfl rfl ?_
 unfold eE at hm
 refine qS [(0,.al 23001),(1,.al 23002)] [(1,.ptr 23001 0),(2,.ptr 23002 0)] [(506002300,.slice 53 5 (ml aN f.aA) 0 false),(23001,.cells 27 [lf aC f.Links,.own 506002300,lf aJ f.aq]),(23002,.cells 45 [.aH,.aH])]<|qD [(3,.al 23003)] [] [(3,.ptr 23003 0)] [] [(23003,.cells 45 [.aH,lf aC f.Links])]<|A.seq<|qDs [] [] [(4,i6 0)]<|A.block<|A.bD 1 1 rfl rfl rfl rfl λhb1=>?_
 obtain⟨B1,K1,hB1,hK1,hm⟩:=bF hm
 refine A.lpI (l:=f.aA) (j0:=0) (B:=B1) (K:=K1) hm (λj1=>λm_1=>[(1,.ptr 23001 0),(2,.ptr 23002 0),(3,.ptr 23003 0),(4,i6 (j1:Int))]) (λj1=>λm_1=>[(506002300,.slice 53 5 (ml aN f.aA) 0 false),(23001,.cells 27 [lf aC f.Links,.own 506002300,lf aJ f.aq]),(23002,.cells 45 [.aH,.aH]),(23003,.cells 45 [.own 702300300,lf aC f.Links]),(702300300,.slice 93 2 (ml aX m_1) 0 false)]) ?_ ?_ ?_
 ·exact bA.go [.ac 23003 702300300 93 2 0] [] (by kernel_rfl)
 ·rintro j1 e1 Z1 m_1 hj1 hx1 hm
  rw[hB1]at hm
  refine A.seq<|qDs [(3,hto (lnE aN f.aA))] [] [(12,.bool (decide ((j1:Int)<(f.aA.length:Int))))] ?_
  refine qT (ltT hx1)<|A.skip<|A.seq<|A.block ?_
  obtain⟨l_1,h1,hm⟩:=aa hm
  exact qG [(5,hix (ix aN (bh hx1))),(7,hlo 506002300 0 (ix aN (bh hx1))),(11,hix (ix aN (bh hx1))),(13,hlo 506002300 2 (ix aN (bh hx1))),(16,hap 23531 (ap aX (bytes:=16) (by decide) h1))] [12] [] [23003,702300300] [(23003,.cells 45 [.own 23531,lf aC f.Links]),(23531,.slice 93 2 (ml aX l_1) 0 false)]<|qGs [(1,hto (inc hx1 hb1))] [4] [(4,i6 ((j1+1:Nat):Int))]<|Exists.intro l_1 (And.intro hm (bA.go [.sw 23531 702300300] [] (by kernel_rfl)))
 rintro j1 m_1 hj1 hl1 hm
 rw[hK1]at hm
 refine A.seq<|qDs [(3,hto (lnE aN f.aA))] [] [(12,.bool (decide ((j1:Int)<(f.aA.length:Int))))] ?_
 refine qF (ltF hl1)<|A.exit<|qD [] [1,3,4,12] [] [23001,23002,23003] [(23002,.cells 45 [.own 702300300,lf aC f.Links])]<|A.ret ?_
 obtain rfl:=some_inj hm
 exact A.fin W0 [.fz [702300300]] rfl (by kernel_rfl)
variable {r:ai×Bool}
theorem abS{i:Int}{seq:Int}(hm:nG f i seq=some r):RO prog 90 [(506009000,.slice 53 5 (ml aN f.aA) 0 false)] [.agg [lf aC f.Links,.own 506009000,lf aJ f.aq],i6 i,i6 seq] (.tup [.agg (k7 r.1),.bool r.2]):=by
 refine aZ func90 rfl rfl ?_
 unfold nG at hm
 refine qS [(0,.al 90003),(1,.al 90006)] [(1,i6 i),(2,i6 seq),(3,.ptr 90003 0),(6,.ptr 90006 0)] [(506009000,.slice 53 5 (ml aN f.aA) 0 false),(90003,.cells 27 [lf aC f.Links,.own 506009000,lf aJ f.aq]),(90006,.cells 66 [i6 0,i6 0,.bool false,.aH,.aH])] ?_
 obtain⟨ah,h1,hm⟩:=aa hm
 obtain⟨e_1,h2,hm⟩:=aa hm
 obtain⟨aD,h3,hm⟩:=aa hm
 refine qD [(1,aej 1 (SC.at [(506002300,506009000)] (yl h1)) aen),(5,hix (ix aN h2)),(7,hlo 506009000 0 (ix aN h2)),(12,hix (ix aN h2)),(14,hlo 506009000 3 (ix aN h2)),(15,hro (adF h3) asY),(19,.al 90008)] [1,2,3] [(8,.ptr 90008 0),(9,i6 aD.2)] [90003] [(90008,.cells 66 (k7 aD.1))]<|qD [] [8,9] [(7,.bool (decide (aD.2=0)))] [90006,90008] [(90006,.cells 66 (k7 aD.1))] ?_
 cases hm
 exact A.ret qE
theorem abT{aM:Int}(hm:pz f aM=some r):RO prog 35 [(506003500,.slice 53 5 (ml aN f.aA) 0 false)] [.agg [lf aC f.Links,.own 506003500,lf aJ f.aq],i6 aM] (.tup [.agg (k7 r.1),.bool r.2]):=by
 refine aZ func35 rfl rfl ?_
 unfold pz at hm
 refine qS [(0,.al 35002),(1,.al 35004)] [(1,i6 aM),(2,.ptr 35002 0),(4,.ptr 35004 0)] [(506003500,.slice 53 5 (ml aN f.aA) 0 false),(35002,.cells 27 [lf aC f.Links,.own 506003500,lf aJ f.aq]),(35004,.cells 66 [i6 0,i6 0,.bool false,.aH,.aH])] ?_
 obtain⟨ah,h1,hm⟩:=aa hm
 refine qDs [(2,hle [506003500] (gZ h1) zh)] [1] [(6,i6 ah)]<|A.seq ?_
 obtain⟨J1,hJ1,hm⟩:=bQ hm
 refine A.J (J:=J1) (r:=r) (λv_1=>[(2,.ptr 35002 0),(4,.ptr 35004 0),(6,i6 ah),(25,.bool v_1)]) (λv_1=>[(506003500,.slice 53 5 (ml aN f.aA) 0 false),(35002,.cells 27 [lf aC f.Links,.own 506003500,lf aJ f.aq]),(35004,.cells 66 [i6 0,i6 0,.bool false,.aH,.aH])]) ?_ ?_
 ·obtain⟨aD,h2,hm⟩:=aa hm
  rcases az hm with⟨c1,hm⟩|⟨c1,hm⟩
  ·exact qGs [(1,hle [506003500] (rR h2) ajc),(3,hto (bE c1))] [] [(25,.bool true)]<|qX true hm
  rcases az hm with⟨c2,hm⟩|⟨c2,hm⟩
  ·exact qGs [(1,hle [506003500] (rR h2) ajc),(3,hto (bE c1)),(7,hto (bE c2))] [] [(25,.bool true)]<|qX true hm
  obtain⟨e_1,h3,hm⟩:=aa hm
  exact qGs [(1,hle [506003500] (rR h2) ajc),(3,hto (bE c1)),(7,hto (bE c2)),(11,hix (ix aN h3)),(13,hlo 506003500 1 (ix aN h3))] [] [(25,.bool (decide (e_1.Seq=0)))]<|qX (decide (e_1.Seq=0)) hm
 rintro v_1 hm
 rw[hJ1]at hm
 rcases az hm with⟨c3,hm⟩|⟨c3,hm⟩
 ·refine qT c3<|qD [] [2,6,25] [(5,.bool false)] [35002] [] ?_
  cases hm
  exact A.ret qE
 refine qF c3<|A.skip ?_
 obtain⟨e_2,h4,hm⟩:=aa hm
 obtain⟨aP,h5,hm⟩:=aa hm
 refine qD [(5,hix (ix aN h4)),(7,hlo 506003500 1 (ix aN h4)),(8,aej 1 (SC.at [(506009000,506003500)] (abS h5)) ck90)] [2,6,25] [(5,.bool aP.2)] [35002,35004] [(35004,.cells 66 (k7 aP.1))] ?_
 cases hm
 exact A.ret qE
end Go.Proofs.YtjdopimopgpagaaGreat
