/- Several texts in one. No condition but those that stand in each. -/
import Derived.Test.YtmnbolcmepihlaaGreatVZ
import Derived.Test.YtmnbolcmepihlaaGreatWX
namespace Go.Proofs.YtmnbolcmepihlaaGreat
open Go Go.Proofs.Tryz
set_option maxRecDepth 100000
set_option linter.all false
theorem qd{β:Type}{t:ai}{aP:List aN}{K0:((List aT)×Int)→Option β}{r:β}(hm:iH t aP K0=some r):b9 prog 23 [] [.agg (k2 t),lf bH aP] (λa σ'=>σ'=[]∧∃x0,K0 x0=some r∧a=.tup [lf cr x0.1,i6 x0.2]):=by
 refine aZ func23 rfl rfl ?_;unfold iH at hm;refine qS [(0,.al 23002)] [(1,lf bH aP),(2,.ptr 23002 0)] [(23002,.cells 28 (k2 t))]<|A.seq ?_
 obtain⟨aq,h1,hm⟩:=aa hm;refine qDs [(2,hro (jP h1) ae7)] [] [(6,i6 aq)]<|qDs [] [] [(18,.bool (!decide (aq=0)))] ?_
 rcases aA hm with⟨c1,hm⟩|⟨c1,hm⟩
 ·refine qT c1<|qS [] [(4,.bI),(5,i6 aq)] []<|A.ret<|nO.mono (A.fin W0 [] (R:=.tup [lf cr [],i6 aq]) (σ2:=[]) rfl (by kernel_rfl)) ?_
  rintro _ _ ⟨rfl,rfl⟩;exact⟨rfl,_,hm,rfl⟩
 refine qF c1<|A.skip ?_
 obtain⟨aF,h2,hm⟩:=aa hm;refine qD [(1,hdc [500008400] (mX h2) aih)] [6,18] [(7,.bX 500008400)] [] [(500008400,.map 84 3 (bG (kv aJ) (vI .i64) aF))] ?_;obtain⟨h3,hm⟩:=eE hm;refine qD [(1,hto (lnE bH aP)),(2,hmsN 23024 (aT.mk (0:Int) []) cr.enc (aP.length:Int) ajk ajl (λI=>⟨_,_,rfl,(by simp[aB]),⟨_,_,rfl,zL aJ I,rfl⟩⟩) rfl (by decide) (by decide) h3 (by decide))] [] [(8,.own 23024)] [] [(23024,.slice 36 2 (ml cr (List.replicate ((aP.length:Int)).toNat (aT.mk (0:Int) []))) 0 false)]<|A.seq<|qDs [(1,hto (lnE bH aP))] [1] [(25,lf bH aP),(26,i6 (aP.length:Int)),(27,i6 0)]<|A.block<|A.bS 25 rfl λhb1=>?_
 obtain⟨B1,K1,hB1,hK1,hm⟩:=bh hm;refine A.lpI (l:=aP) (j0:=0) (B:=B1) (K:=K1) hm (λj1=>λ(bK,m_1)=>[(2,.ptr 23002 0),(7,.bX 500008400),(8,.own 600023008),(25,lf bH aP),(26,i6 (aP.length:Int)),(27,i6 (j1:Int))]) (λj1=>λ(bK,m_1)=>[(23002,.cells 28 (k2 t)),(500008400,.map 84 3 (bG (kv aJ) (vI .i64) m_1)),(600023008,.slice 36 2 (ml cr bK) 0 false)]) ?_ ?_ ?_
 ·exact aU.go [.sw 23024 600023008] [] (by kernel_rfl)
 ·rintro j1 e1 Z1 ⟨bK,m_1⟩ hj1 hx1 hm;rw[hB1]at hm;refine qDs [] [] [(28,.bool (decide ((j1:Int)<(aP.length:Int))))]<|A.seq<|qT (ltT hx1)<|A.skip ?_
  obtain⟨J1,hJ1,hm⟩:=cO hm;refine A.J (J:=J1) (r:=r) (λ(eR,m_2)=>[(2,.ptr 23002 0),(7,.bX 500008400),(8,.own 600023008),(25,lf bH aP),(26,i6 (aP.length:Int)),(27,i6 (j1:Int))]) (λ(eR,m_2)=>[(23002,.cells 28 (k2 t)),(500008400,.map 84 3 (bG (kv aJ) (vI .i64) m_2)),(600023008,.slice 36 2 (ml cr eR) 0 false)]) ?_ ?_
  ·refine A.block<|qD [(1,hix (ix bH (bu hx1))),(3,.al 23010)] [28] [(10,.ptr 23010 0),(9,i6 (j1:Int))] [] [(23010,.cells 52 (k8 e1))] ?_
   obtain⟨bx,h4,hm⟩:=aa hm;refine A.RYD W0 [4,9,14,15,16] [0,1,2,3,5,6,7,8,4] 9 [10,11,12,13,14,15,16] [] [(4,hls [500008400] [510023001] (lf aH bx) (SC.at [(500008500,510023001)] (jI h4)) aii ⟨aln aH (λ_=>rfl) _,trivial⟩)] (qc hm) apl (by kernel_rfl) (by kernel_rfl) (by kernel_rfl) (by rintro _ _ ⟨rfl,_,_,rfl⟩;exact⟨rfl,rfl⟩) ?_;rintro _ _ ⟨rfl,bV,hm,rfl⟩
   try dsimp only at hm
   refine⟨[],[(2,.ptr 23002 0),(7,.bX 500008400),(8,.own 600023008),(25,lf bH aP),(26,i6 (aP.length:Int)),(27,i6 (j1:Int)),(10,.ptr 23010 0),(9,i6 (j1:Int)),(11,lf aJ bV.1),(13,.bool bV.2.2)],[(23002,.cells 28 (k2 t)),(500008400,.map 84 3 (bG (kv aJ) (vI .i64) m_1)),(600023008,.slice 36 2 (ml cr bK) 0 false),(23010,.cells 52 (k8 e1))],by kernel_rfl,?_⟩;refine qS [] [(2,.ptr 23002 0),(7,.bX 500008400),(8,.own 600023008),(25,lf bH aP),(26,i6 (aP.length:Int)),(27,i6 (j1:Int)),(10,.ptr 23010 0),(9,i6 (j1:Int)),(11,lf aJ bV.1),(46,.bool bV.2.2)] [(23002,.cells 28 (k2 t)),(500008400,.map 84 3 (bG (kv aJ) (vI .i64) m_1)),(600023008,.slice 36 2 (ml cr bK) 0 false),(23010,.cells 52 (k8 e1))] ?_;rcases aA hm with⟨c2,hm⟩|⟨c2,hm⟩
   ·refine qT c2 ?_;obtain⟨e_1,h5,hm⟩:=aa hm;obtain⟨l_1,h6,hm⟩:=aa hm;refine qD [(6,hix (ix cr h5)),(7,hso 600023008 (st cr (off:=0) (ca:=[i6 e1.bw,lf aJ bV.1]) h5 h6 rfl) (oA h5).1.1)] [11,46] [] [600023008] [(600023008,.slice 36 2 (ml cr l_1) 0 false)] ?_;obtain⟨e_2,h7,hm⟩:=aa hm;obtain⟨cK,h8,hm⟩:=aa hm;exact qG [(3,hix (ix cr h7)),(4,hlo 600023008 0 (ix cr h7)),(7,hdc [] (SC.at [(540000860,500008400)] (gU h8)) ae8)] [10,9] [] [500008400,23010] [(500008400,.map 84 3 (bG (kv aJ) (vI .i64) cK.2))]<|qX (l_1,cK.2) hm
   exact qF c2<|A.skip<|qX (bK,m_1) hm
  rintro⟨eR,m_2⟩ hm;rw[hJ1]at hm;exact qGs [(0,hto (inc hx1 hb1))] [27] [(27,i6 ((j1+1:Nat):Int))]<|qX (eR,m_2) hm
 rintro j1 ⟨bK,m_1⟩ hj1 hl1 hm;rw[hK1]at hm;refine qDs [] [] [(28,.bool (decide ((j1:Int)<(aP.length:Int))))]<|A.seq<|qF (ltF hl1)<|A.exit<|qD [] [2,7,8,25,26,27,28] [(4,.own 600023008),(5,i6 0)] [23002,500008400] []<|A.ret<|nO.mono (A.fin W0 [.fz [600023008]] (R:=.tup [lf cr bK,i6 0]) (σ2:=[]) rfl (by kernel_rfl)) ?_
 rintro _ _ ⟨rfl,rfl⟩;exact⟨rfl,_,hm,rfl⟩
end Go.Proofs.YtmnbolcmepihlaaGreat
namespace Go.Proofs.YtmnbolcmepihlaaGreat
open Go Go.Proofs.Tryz
set_option maxRecDepth 100000
set_option linter.all false
theorem aft:jE prog 126 84 3 (kv aJ) bA:=⟨underlying126,λ_=>rfl,λ_=>rfl,⟨_,underlying84,λ_ _=>rfl⟩,λa b w=>eqK (by kernel_rfl) (by kernel_rfl) (zH a.aD b.aD a.To b.To w),λe a w=>by kernel_rfl,λa b h=>by cases a;cases b;simpa [bA]using h,λa=>by simp[kv,aJ,valOf,pz,Instr.sameBits]⟩
theorem xk{t:ai}{ra1:List (az×Int)}{d:aN}{xa3:aT}{r:Bool}(hm:kM t ra1 d xa3=some r):RO prog 98 [] [.agg (k2 t),.mpf (bG (kv aJ) (vI .i64) ra1),.agg (k8 d),.agg (k6 xa3)] (.bool r):=by
 refine aZ func98 rfl rfl ?_;unfold kM at hm;refine qS [(0,.al 98004),(1,.al 98006),(2,.al 98007)] [(1,.mpf (bG (kv aJ) (vI .i64) ra1)),(4,.ptr 98004 0),(6,.ptr 98006 0),(7,.ptr 98007 0)] [(98004,.cells 28 (k2 t)),(98006,.cells 52 (k8 d)),(98007,.cells 36 (k6 xa3))] ?_;obtain⟨aq,h1,hm⟩:=aa hm;refine A.RYD W0 [4,9,14,15,16] [0,1,2,3,5,6,7,8,4] 9 [10,11,12,13,14,15,16] [] [(4,hro (SC.zF (r':=lf aH aq) (σ3:=[]) [500008500] (jI h1) (by kernel_rfl) (by kernel_rfl)) aii)] (qc hm) apl (by kernel_rfl) (by kernel_rfl) (by kernel_rfl) (by rintro _ _ ⟨rfl,_,_,rfl⟩;exact⟨rfl,rfl⟩) ?_;rintro _ _ ⟨rfl,aF,hm,rfl⟩
 try dsimp only at hm
 refine⟨[],[(1,.mpf (bG (kv aJ) (vI .i64) ra1)),(4,.ptr 98004 0),(6,.ptr 98006 0),(7,.ptr 98007 0),(10,i6 aF.2.1),(11,.bool aF.2.2)],[(98004,.cells 28 (k2 t)),(98006,.cells 52 (k8 d)),(98007,.cells 36 (k6 xa3))],by kernel_rfl,?_⟩;refine A.seq<|qS [] [(1,.mpf (bG (kv aJ) (vI .i64) ra1)),(4,.ptr 98004 0),(6,.ptr 98006 0),(7,.ptr 98007 0),(10,i6 aF.2.1),(31,.bool (!aF.2.2))] [(98004,.cells 28 (k2 t)),(98006,.cells 52 (k8 d)),(98007,.cells 36 (k6 xa3))] ?_
 rcases aA hm with⟨c1,hm⟩|⟨c1,hm⟩
 ·refine qT c1 ?_;obtain⟨bx,h2,hm⟩:=aa hm;refine qS [(1,hro (kK h2) ae9)] [(8,.bool bx)] [] ?_;cases hm;exact A.ret qE
 refine qF c1<|A.skip<|A.seq ?_
 obtain⟨J1,hJ1,hm⟩:=cO hm;refine A.J (J:=J1) (r:=r) (λv_1=>[(1,.mpf (bG (kv aJ) (vI .i64) ra1)),(4,.ptr 98004 0),(6,.ptr 98006 0),(7,.ptr 98007 0),(10,i6 aF.2.1),(46,.bool v_1)]) (λv_1=>[(98004,.cells 28 (k2 t)),(98006,.cells 52 (k8 d)),(98007,.cells 36 (k6 xa3))]) ?_ ?_
 ·rcases aA hm with⟨c2,hm⟩|⟨c2,hm⟩
  ·exact qGs [(5,hto (bE c2))] [31] [(46,.bool true)]<|qX true hm
  obtain⟨bV,h3,hm⟩:=aa hm;exact qGs [(5,hto (bE c2)),(10,hro (iL h3) ae5)] [31] [(46,.bool (!decide (bV=0)))]<|qX (!decide (bV=0)) hm
 rintro v_1 hm;rw[hJ1]at hm;rcases aA hm with⟨c3,hm⟩|⟨c3,hm⟩
 ·refine qT c3<|qS [] [(8,.bool false)] [] ?_
  cases hm;exact A.ret qE
 refine qF c3<|A.skip<|A.seq<|qDs [(2,hto (lnE aJ xa3.Links))] [46] [(48,lf aJ xa3.Links),(49,i6 (xa3.Links.length:Int)),(50,i6 0)]<|A.block<|A.bS 48 rfl λhb1=>?_
 obtain⟨B1,K1,hB1,hK1,hm⟩:=bh hm;refine A.lpI (l:=xa3.Links) (j0:=0) (B:=B1) (K:=K1) hm (λj1=>λ()=>[(1,.mpf (bG (kv aJ) (vI .i64) ra1)),(4,.ptr 98004 0),(6,.ptr 98006 0),(7,.ptr 98007 0),(10,i6 aF.2.1),(48,lf aJ xa3.Links),(49,i6 (xa3.Links.length:Int)),(50,i6 (j1:Int))]) (λj1=>λ()=>[(98004,.cells 28 (k2 t)),(98006,.cells 52 (k8 d)),(98007,.cells 36 (k6 xa3))]) ?_ ?_ ?_
 ·exact qW
 ·rintro j1 e1 Z1 ⟨⟩ hj1 hx1 hm;rw[hB1]at hm;refine qDs [] [] [(51,.bool (decide ((j1:Int)<(xa3.Links.length:Int))))]<|A.seq<|qT (ltT hx1)<|A.skip<|A.seq<|A.block<|qD [(0,hix (ix aJ (bu hx1))),(2,.al 98013)] [51] [(13,.ptr 98013 0)] [] [(98013,.cells 84 (k3 e1))]<|qD [(2,ah9 ra1 e1 (vI .i64) (0:Int) aft (zI (k:=.i64) zeroValue3))] [13] [(59,.bool (decide (((bZ bA ra1 e1).getD (0:Int))<d.bM)))] [98013] [] ?_
  rcases aA hm with⟨c4,hm⟩|⟨c4,hm⟩
  ·refine qT c4<|qS [] [(8,.bool false)] [] ?_
   cases hm;exact A.ret qE
  exact qF c4<|A.skip<|qGs [(0,hto (inc hx1 hb1))] [50,59] [(50,i6 ((j1+1:Nat):Int))]<|qX () hm
 rintro j1 ⟨⟩ hj1 hl1 hm;rw[hK1]at hm;refine qDs [] [] [(51,.bool (decide ((j1:Int)<(xa3.Links.length:Int))))]<|A.seq<|qF (ltF hl1)<|A.exit ?_
 obtain⟨cK,h4,hm⟩:=aa hm;refine qS [(2,hro (x8 h4) ck19)] [(10,i6 aF.2.1),(14,i6 cK.1),(15,i6 cK.2)] []<|A.mid [(8,.bool ((decide (cK.2=0))&&(decide (cK.1=aF.2.1))))] [] (λhk=>?_) ?_
 ·rcases tf (decide (cK.2=0))with c5|c5
  ·exact qS [(2,hto (bE c5)),(7,hto (oF (q:=decide (cK.1=aF.2.1)) c5))] _ _ hk
  exact qS [(2,hto (bE c5)),(7,hto (oG (q:=decide (cK.1=aF.2.1)) c5))] _ _ hk
 cases hm;exact A.ret qE
theorem qe{t:ai}{aP:List aN}{l:List aT}{r:Int}(hm:jL t aP l=some r):RO prog 34 [] [.agg (k2 t),lf bH aP,lf cr l] (i6 r):=by
 refine aZ func34 rfl rfl ?_;unfold jL at hm;refine qS [(0,.al 34003)] [(1,lf bH aP),(2,lf cr l),(3,.ptr 34003 0)] [(34003,.cells 28 (k2 t))]<|A.seq ?_
 obtain⟨aq,h1,hm⟩:=aa hm;refine qDs [(2,hro (jP h1) ae7)] [] [(7,i6 aq)]<|qDs [] [] [(15,.bool (!decide (aq=0)))] ?_
 rcases aA hm with⟨c1,hm⟩|⟨c1,hm⟩
 ·refine qT c1<|qS [] [(6,i6 aq)] [] ?_
  cases hm;exact A.ret qE
 refine qF c1<|A.skip<|A.seq<|qDs [(1,hto (lnE cr l)),(3,hto (lnE bH aP))] [7,15] [(21,.bool (!decide ((l.length:Int)=(aP.length:Int))))] ?_
 rcases aA hm with⟨c2,hm⟩|⟨c2,hm⟩
 ·refine qT c2<|qS [] [(6,i6 8)] [] ?_
  cases hm;exact A.ret qE
 refine qF c2<|A.skip ?_
 obtain⟨aF,h2,hm⟩:=aa hm;refine qD [(1,hdc [500008400] (mX h2) aih)] [21] [(8,.bX 500008400)] [] [(500008400,.map 84 3 (bG (kv aJ) (vI .i64) aF))]<|A.seq<|qDs [(1,hto (lnE bH aP))] [1] [(24,lf bH aP),(25,i6 (aP.length:Int)),(26,i6 0)]<|A.block<|A.bS 24 rfl λhb1=>?_
 obtain⟨B1,K1,hB1,hK1,hm⟩:=bh hm;refine A.lpI (l:=aP) (j0:=0) (B:=B1) (K:=K1) hm (λj1=>λm_1=>[(2,lf cr l),(3,.ptr 34003 0),(8,.bX 500008400),(24,lf bH aP),(25,i6 (aP.length:Int)),(26,i6 (j1:Int))]) (λj1=>λm_1=>[(34003,.cells 28 (k2 t)),(500008400,.map 84 3 (bG (kv aJ) (vI .i64) m_1))]) ?_ ?_ ?_
 ·exact qW
 ·rintro j1 e1 Z1 m_1 hj1 hx1 hm;rw[hB1]at hm;refine qDs [] [] [(27,.bool (decide ((j1:Int)<(aP.length:Int))))]<|A.seq<|qT (ltT hx1)<|A.skip<|A.seq<|A.block<|qD [(1,hix (ix bH (bu hx1))),(3,.al 34010)] [27] [(10,.ptr 34010 0),(9,i6 (j1:Int))] [] [(34010,.cells 52 (k8 e1))]<|A.seq ?_
  obtain⟨e_1,h3,hm⟩:=aa hm;obtain⟨bx,h4,hm⟩:=aa hm;refine qDs [(5,hix (ix cr h3)),(7,hle [500008400] (xk h4) ck98)] [] [(39,.bool (!bx))] ?_;rcases aA hm with⟨c3,hm⟩|⟨c3,hm⟩
  ·refine qT c3<|qS [] [(6,i6 1)] [] ?_
   cases hm;exact A.ret qE
  refine qF c3<|A.skip ?_
  obtain⟨bV,h5,hm⟩:=aa hm;exact qG [(3,hix (ix cr h3)),(7,hdc [] (SC.at [(540000860,500008400)] (gU h5)) ae8)] [10,9,39] [] [500008400,34010] [(500008400,.map 84 3 (bG (kv aJ) (vI .i64) bV.2))]<|qGs [(0,hto (inc hx1 hb1))] [26] [(26,i6 ((j1+1:Nat):Int))]<|qX bV.2 hm
 rintro j1 m_1 hj1 hl1 hm;rw[hK1]at hm;refine qDs [] [] [(27,.bool (decide ((j1:Int)<(aP.length:Int))))]<|A.seq<|qF (ltF hl1)<|A.exit<|qS [] [(6,i6 0)] [] ?_
 cases hm;exact A.ret qE
end Go.Proofs.YtmnbolcmepihlaaGreat
