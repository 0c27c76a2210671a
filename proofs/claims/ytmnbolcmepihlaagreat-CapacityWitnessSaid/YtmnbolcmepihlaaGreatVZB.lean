/- The walks of cv of the program. No condition but aT aH stand in each. -/
import Derived.Test.YtmnbolcmepihlaaGreatVZ
import Derived.Test.YtmnbolcmepihlaaGreatWE
namespace Go.Proofs.YtmnbolcmepihlaaGreat
open Go Go.Proofs.Tryz
set_option maxRecDepth 100000
set_option linter.all false
theorem nw{β:Type}{t:aq}{bH:List aR}{K0:((List aX)×Int)→Option β}{r:β}(hm:gE t bH K0=some r):bM prog 23 [] [.agg (k2 t),lf bF bH] (λa σ'=>σ'=[]∧∃x0,K0 x0=some r∧a=.tup [lf cn x0.1,i6 x0.2]):=by
 refine bg func23 rfl rfl ?_
 unfold gE at hm
 refine qS [(0,.al 23002)] [(1,lf bF bH),(2,.ptr 23002 0)] [(23002,.cells 28 (k2 t))]<|A.seq ?_
 obtain⟨ay,h1,hm⟩:=ah hm
 refine qDs [(2,hro (kM h1) aeX)] [] [(6,i6 ay)]<|qDs [] [] [(18,.bool (!decide (ay=0)))] ?_
 rcases aG hm with⟨c1,hm⟩|⟨c1,hm⟩
 ·refine qT c1<|qS [] [(4,.bw),(5,i6 ay)] []<|A.ret<|lY.mono (A.fin W0 [] (R:=.tup [lf cn [],i6 ay]) (σ2:=[]) rfl (by kernel_rfl)) ?_
  rintro _ _ ⟨rfl,rfl⟩
  exact⟨rfl,_,hm,rfl⟩
 refine qF c1<|A.skip ?_
 obtain⟨aI,h2,hm⟩:=ah hm
 refine qD [(1,hdc [500008400] (nv h2) alK)] [6,18] [(7,.bG 500008400)] [] [(500008400,.map 84 3 (br (kv aQ) (vI .i64) aI))] ?_
 obtain⟨h3,hm⟩:=gz hm
 refine qD [(1,hto (lnE bF bH)),(2,hmsN 23024 (aX.mk (0:Int) []) cn.enc (bH.length:Int) afO afP (λI=>⟨_,_,rfl,(by simp[ak]),⟨_,_,rfl,zL aQ I,rfl⟩⟩) rfl (by decide) (by decide) h3 (by decide))] [] [(8,.own 23024)] [] [(23024,.slice 36 2 (ml cn (List.replicate ((bH.length:Int)).toNat (aX.mk (0:Int) []))) 0 false)]<|A.seq<|qDs [(1,hto (lnE bF bH))] [1] [(25,lf bF bH),(26,i6 (bH.length:Int)),(27,i6 0)]<|A.block<|A.bS 25 rfl λhb1=>?_
 obtain⟨B1,K1,hB1,hK1,hm⟩:=cg hm
 refine A.lpI (l:=bH) (j0:=0) (B:=B1) (K:=K1) hm (λj1=>λ(bU,m_1)=>[(2,.ptr 23002 0),(7,.bG 500008400),(8,.own 600023008),(25,lf bF bH),(26,i6 (bH.length:Int)),(27,i6 (j1:Int))]) (λj1=>λ(bU,m_1)=>[(23002,.cells 28 (k2 t)),(500008400,.map 84 3 (br (kv aQ) (vI .i64) m_1)),(600023008,.slice 36 2 (ml cn bU) 0 false)]) ?_ ?_ ?_
 ·exact aU.go [.sw 23024 600023008] [] (by kernel_rfl)
 ·rintro j1 e1 Z1 ⟨bU,m_1⟩ hj1 hx1 hm
  rw[hB1]at hm
  refine qDs [] [] [(28,.bool (decide ((j1:Int)<(bH.length:Int))))]<|A.seq<|qT (ltT hx1)<|A.skip ?_
  obtain⟨J1,hJ1,hm⟩:=eC hm
  refine A.J (J:=J1) (r:=r) (λ(gR,m_2)=>[(2,.ptr 23002 0),(7,.bG 500008400),(8,.own 600023008),(25,lf bF bH),(26,i6 (bH.length:Int)),(27,i6 (j1:Int))]) (λ(gR,m_2)=>[(23002,.cells 28 (k2 t)),(500008400,.map 84 3 (br (kv aQ) (vI .i64) m_2)),(600023008,.slice 36 2 (ml cn gR) 0 false)]) ?_ ?_
  ·refine A.block<|qD [(1,hix (ix bF (cw hx1))),(3,.al 23010)] [28] [(10,.ptr 23010 0),(9,i6 (j1:Int))] [] [(23010,.cells 52 (k8 e1))] ?_
   obtain⟨bk,h4,hm⟩:=ah hm
   refine A.RYD W0 [4,9,14,15,16] [0,1,2,3,5,6,7,8,4] 9 [10,11,12,13,14,15,16] [] [(4,hls [500008400] [510023001] (lf az bk) (SC.at [(500008500,510023001)] (k9 h4)) alL ⟨ahR az (λ_=>rfl) _,trivial⟩)] (tc hm) ck63 (by kernel_rfl) (by kernel_rfl) (by kernel_rfl) (by rintro _ _ ⟨rfl,_,_,rfl⟩;exact⟨rfl,rfl⟩) ?_
   rintro _ _ ⟨rfl,ck,hm,rfl⟩
   try dsimp only at hm
   refine⟨[],[(2,.ptr 23002 0),(7,.bG 500008400),(8,.own 600023008),(25,lf bF bH),(26,i6 (bH.length:Int)),(27,i6 (j1:Int)),(10,.ptr 23010 0),(9,i6 (j1:Int)),(11,lf aQ ck.1),(13,.bool ck.2.2)],[(23002,.cells 28 (k2 t)),(500008400,.map 84 3 (br (kv aQ) (vI .i64) m_1)),(600023008,.slice 36 2 (ml cn bU) 0 false),(23010,.cells 52 (k8 e1))],by kernel_rfl,?_⟩
   refine qS [] [(2,.ptr 23002 0),(7,.bG 500008400),(8,.own 600023008),(25,lf bF bH),(26,i6 (bH.length:Int)),(27,i6 (j1:Int)),(10,.ptr 23010 0),(9,i6 (j1:Int)),(11,lf aQ ck.1),(46,.bool ck.2.2)] [(23002,.cells 28 (k2 t)),(500008400,.map 84 3 (br (kv aQ) (vI .i64) m_1)),(600023008,.slice 36 2 (ml cn bU) 0 false),(23010,.cells 52 (k8 e1))] ?_
   rcases aG hm with⟨c2,hm⟩|⟨c2,hm⟩
   ·refine qT c2 ?_
    obtain⟨e_1,h5,hm⟩:=ah hm
    obtain⟨l_1,h6,hm⟩:=ah hm
    refine qD [(6,hix (ix cn h5)),(7,hso 600023008 (st cn (off:=0) (ca:=[i6 e1.bK,lf aQ ck.1]) h5 h6 rfl) (rT h5).1.1)] [11,46] [] [600023008] [(600023008,.slice 36 2 (ml cn l_1) 0 false)] ?_
    obtain⟨e_2,h7,hm⟩:=ah hm
    obtain⟨dA,h8,hm⟩:=ah hm
    exact qG [(3,hix (ix cn h7)),(4,hlo 600023008 0 (ix cn h7)),(7,hdc [] (SC.at [(540000860,500008400)] (iJ h8)) aeY)] [10,9] [] [500008400,23010] [(500008400,.map 84 3 (br (kv aQ) (vI .i64) dA.2))]<|qX (l_1,dA.2) hm
   exact qF c2<|A.skip<|qX (bU,m_1) hm
  rintro⟨gR,m_2⟩ hm
  rw[hJ1]at hm
  exact qGs [(0,hto (inc hx1 hb1))] [27] [(27,i6 ((j1+1:Nat):Int))]<|qX (gR,m_2) hm
 rintro j1 ⟨bU,m_1⟩ hj1 hl1 hm
 rw[hK1]at hm
 refine qDs [] [] [(28,.bool (decide ((j1:Int)<(bH.length:Int))))]<|A.seq<|qF (ltF hl1)<|A.exit<|qD [] [2,7,8,25,26,27,28] [(4,.own 600023008),(5,i6 0)] [23002,500008400] []<|A.ret<|lY.mono (A.fin W0 [.fz [600023008]] (R:=.tup [lf cn bU,i6 0]) (σ2:=[]) rfl (by kernel_rfl)) ?_
 rintro _ _ ⟨rfl,rfl⟩
 exact⟨rfl,_,hm,rfl⟩
end Go.Proofs.YtmnbolcmepihlaaGreat
