/- The walks of cz of the program. No condition but aX aL stand in each. -/
import Derived.Test.YtmnbolcmepihlaaGreatVZ
import Derived.Test.YtmnbolcmepihlaaGreatWE
namespace Go.Proofs.YtmnbolcmepihlaaGreat
open Go Go.Proofs.Tryz
set_option maxRecDepth 100000
set_option linter.all false
theorem mN{β:Type}{t:af}{bO:List bf}{K0:((List aQ)×Int)→Option β}{r:β}(hm:fT t bO K0=some r):bZ prog 23 [] [.agg (k2 t),lf dB bO] (λa σ'=>σ'=[]∧∃x0,K0 x0=some r∧a=.tup [lf cu x0.1,i6 x0.2]):=by
 refine aY func23 rfl rfl ?_;unfold fT at hm;refine qS [(0,.al 23002)] [(1,lf dB bO),(2,.ptr 23002 0)] [(23002,.cells 28 (k2 t))]<|A.seq ?_
 obtain⟨az,h1,hm⟩:=aa hm;refine qDs [(2,hro (mM h1) ah1)] [] [(6,i6 az)]<|qDs [] [] [(18,.bool (!decide (az=0)))] ?_
 rcases aB hm with⟨c1,hm⟩|⟨c1,hm⟩
 ·refine qT c1<|qS [] [(4,.bF),(5,i6 az)] []<|A.ret<|nI.mono (A.fin W0 [] (R:=.tup [lf cu [],i6 az]) (σ2:=[]) rfl (by kernel_rfl)) ?_
  rintro _ _ ⟨rfl,rfl⟩;exact⟨rfl,_,hm,rfl⟩
 refine qF c1<|A.skip ?_
 obtain⟨aH,h2,hm⟩:=aa hm;refine qD [(1,hdc [500008400] (pX h2) apo)] [6,18] [(7,.bN 500008400)] [] [(500008400,.map 84 3 (bB (kv aK) (vI .i64) aH))] ?_;obtain⟨h3,hm⟩:=en hm;refine qD [(1,hto (lnE dB bO)),(2,hmsN 23024 (aQ.mk (0:Int) []) cu.enc (bO.length:Int) ai7 ai8 (λI=>⟨_,_,rfl,(by simp[aA]),⟨_,_,rfl,zL aK I,rfl⟩⟩) rfl (by decide) (by decide) h3 (by decide))] [] [(8,.own 23024)] [] [(23024,.slice 36 2 (ml cu (List.replicate ((bO.length:Int)).toNat (aQ.mk (0:Int) []))) 0 false)]<|A.seq<|qDs [(1,hto (lnE dB bO))] [1] [(25,lf dB bO),(26,i6 (bO.length:Int)),(27,i6 0)]<|A.block<|A.bS 25 rfl λhb1=>?_
 obtain⟨B1,K1,hB1,hK1,hm⟩:=bh hm;refine A.lpI (l:=bO) (j0:=0) (B:=B1) (K:=K1) hm (λj1=>λ(b9,m_1)=>[(2,.ptr 23002 0),(7,.bN 500008400),(8,.own 600023008),(25,lf dB bO),(26,i6 (bO.length:Int)),(27,i6 (j1:Int))]) (λj1=>λ(b9,m_1)=>[(23002,.cells 28 (k2 t)),(500008400,.map 84 3 (bB (kv aK) (vI .i64) m_1)),(600023008,.slice 36 2 (ml cu b9) 0 false)]) ?_ ?_ ?_
 ·exact aZ.go [.sw 23024 600023008] [] (by kernel_rfl)
 ·rintro j1 e1 Z1 ⟨b9,m_1⟩ hj1 hx1 hm;rw[hB1]at hm;refine qDs [] [] [(28,.bool (decide ((j1:Int)<(bO.length:Int))))]<|A.seq<|qT (ltT hx1)<|A.skip ?_
  obtain⟨J1,hJ1,hm⟩:=dF hm;refine A.J (J:=J1) (r:=r) (λ(jd,m_2)=>[(2,.ptr 23002 0),(7,.bN 500008400),(8,.own 600023008),(25,lf dB bO),(26,i6 (bO.length:Int)),(27,i6 (j1:Int))]) (λ(jd,m_2)=>[(23002,.cells 28 (k2 t)),(500008400,.map 84 3 (bB (kv aK) (vI .i64) m_2)),(600023008,.slice 36 2 (ml cu jd) 0 false)]) ?_ ?_
  ·refine A.block<|qD [(1,hix (ix dB (bn hx1))),(3,.al 23010)] [28] [(10,.ptr 23010 0),(9,i6 (j1:Int))] [] [(23010,.cells 52 (k8 e1))] ?_
   obtain⟨bA,h4,hm⟩:=aa hm;refine A.RYD W0 [4,9,14,15,16] [0,1,2,3,5,6,7,8,4] 9 [10,11,12,13,14,15,16] [] [(4,hls [500008400] [510023001] (lf aG bA) (SC.at [(500008500,510023001)] (nq h4)) apq ⟨alj aG (λ_=>rfl) _,trivial⟩)] (vY hm) ck63 (by kernel_rfl) (by kernel_rfl) (by kernel_rfl) (by rintro _ _ ⟨rfl,_,_,rfl⟩;exact⟨rfl,rfl⟩) ?_;rintro _ _ ⟨rfl,bU,hm,rfl⟩
   try dsimp only at hm
   refine⟨[],[(2,.ptr 23002 0),(7,.bN 500008400),(8,.own 600023008),(25,lf dB bO),(26,i6 (bO.length:Int)),(27,i6 (j1:Int)),(10,.ptr 23010 0),(9,i6 (j1:Int)),(11,lf aK bU.1),(13,.bool bU.2.2)],[(23002,.cells 28 (k2 t)),(500008400,.map 84 3 (bB (kv aK) (vI .i64) m_1)),(600023008,.slice 36 2 (ml cu b9) 0 false),(23010,.cells 52 (k8 e1))],by kernel_rfl,?_⟩;refine qS [] [(2,.ptr 23002 0),(7,.bN 500008400),(8,.own 600023008),(25,lf dB bO),(26,i6 (bO.length:Int)),(27,i6 (j1:Int)),(10,.ptr 23010 0),(9,i6 (j1:Int)),(11,lf aK bU.1),(46,.bool bU.2.2)] [(23002,.cells 28 (k2 t)),(500008400,.map 84 3 (bB (kv aK) (vI .i64) m_1)),(600023008,.slice 36 2 (ml cu b9) 0 false),(23010,.cells 52 (k8 e1))] ?_;rcases aB hm with⟨c2,hm⟩|⟨c2,hm⟩
   ·refine qT c2 ?_;obtain⟨e_1,h5,hm⟩:=aa hm;obtain⟨l_1,h6,hm⟩:=aa hm;refine qD [(6,hix (ix cu h5)),(7,hso 600023008 (st cu (off:=0) (ca:=[i6 e1.bx,lf aK bU.1]) h5 h6 rfl) (l9 h5).1.1)] [11,46] [] [600023008] [(600023008,.slice 36 2 (ml cu l_1) 0 false)] ?_;obtain⟨e_2,h7,hm⟩:=aa hm;obtain⟨dP,h8,hm⟩:=aa hm;exact qG [(3,hix (ix cu h7)),(4,hlo 600023008 0 (ix cu h7)),(7,hdc [] (SC.at [(540000860,500008400)] (jK h8)) ah2)] [10,9] [] [500008400,23010] [(500008400,.map 84 3 (bB (kv aK) (vI .i64) dP.2))]<|qX (l_1,dP.2) hm
   exact qF c2<|A.skip<|qX (b9,m_1) hm
  rintro⟨jd,m_2⟩ hm;rw[hJ1]at hm;exact qGs [(0,hto (inc hx1 hb1))] [27] [(27,i6 ((j1+1:Nat):Int))]<|qX (jd,m_2) hm
 rintro j1 ⟨b9,m_1⟩ hj1 hl1 hm;rw[hK1]at hm;refine qDs [] [] [(28,.bool (decide ((j1:Int)<(bO.length:Int))))]<|A.seq<|qF (ltF hl1)<|A.exit<|qD [] [2,7,8,25,26,27,28] [(4,.own 600023008),(5,i6 0)] [23002,500008400] []<|A.ret<|nI.mono (A.fin W0 [.fz [600023008]] (R:=.tup [lf cu b9,i6 0]) (σ2:=[]) rfl (by kernel_rfl)) ?_
 rintro _ _ ⟨rfl,rfl⟩;exact⟨rfl,_,hm,rfl⟩
end Go.Proofs.YtmnbolcmepihlaaGreat
