/- The walks of cE of the program. No condition but bf aM stand in each. -/
import Derived.Test.YtmnbolcmepihlaaGreatVY
namespace Go.Proofs.YtmnbolcmepihlaaGreat
open Go Go.Proofs.Tryz
set_option maxRecDepth 100000
set_option linter.all false
variable {t:ai}
theorem xm{r:(List (List Int))×(Vec 100)}(hm:mI t=some r):b9 prog 67 [] [.agg (k2 t)] (λa σ'=>a=.tup [.own 500006700,.arr r.2.l]∧σ'=[(500006700,.b8 22 500006701 ((t.aC.length:Int).toNat) none),(500006701,.bun (encS 3 1 ak.enc r.1))]):=by
 refine aZ func67 rfl rfl ?_;unfold mI at hm;refine qS [(0,.al 67001),(2,hva 67003 (Vec.zero 100) abZ (by kernel_rfl))] [(1,.ptr 67001 0),(3,.ptr 67003 0)] [(67001,.cells 28 (k2 t)),(67003,.vec 114 (Vec.zero 100).l)]<|qD [(0,hva 67004 (Vec.zero 100) abZ (by kernel_rfl))] [] [(4,.ptr 67004 0)] [] [(67004,.vec 114 (Vec.zero 100).l)]<|A.seq<|qDs [(2,hto (lnE bt t.aC))] [] [(12,lf bt t.aC),(13,i6 (t.aC.length:Int)),(14,i6 0)]<|A.block<|A.bS 12 rfl λhb1=>?_
 obtain⟨B1,K1,hB1,hK1,hm⟩:=bh hm;refine A.lpI (l:=t.aC) (j0:=0) (B:=B1) (K:=K1) hm (λj1=>λm_1=>[(1,.ptr 67001 0),(3,.ptr 67003 0),(4,.ptr 67004 0),(12,lf bt t.aC),(13,i6 (t.aC.length:Int)),(14,i6 (j1:Int))]) (λj1=>λm_1=>[(67001,.cells 28 (k2 t)),(67003,.vec 114 (Vec.zero 100).l),(67004,.vec 114 m_1.l)]) ?_ ?_ ?_
 ·exact qW
 ·rintro j1 e1 Z1 m_1 hj1 hx1 hm;rw[hB1]at hm;refine qDs [] [] [(15,.bool (decide ((j1:Int)<(t.aC.length:Int))))]<|A.seq<|qT (ltT hx1)<|A.skip<|A.seq<|A.block<|qD [(1,hix (ix bt (bu hx1))),(3,.al 67006)] [15] [(6,.ptr 67006 0),(5,i6 (j1:Int))] [] [(67006,.cells 31 (k0 e1))] ?_
  obtain⟨e_1,h1,hm⟩:=aa hm;exact qG [(3,hvi (v:=m_1) h1 underlying114 sizeOf3),(4,hvs (v:=m_1) (j1:Int) h1 ty3)] [6,5] [] [67004,67006] [(67004,.vec 114 (Vec.put m_1 e1.ID.toNat (j1:Int)).l)]<|qGs [(0,hto (inc hx1 hb1))] [14] [(14,i6 ((j1+1:Nat):Int))]<|qX (Vec.put m_1 e1.ID.toNat (j1:Int)) hm
 rintro j1 m_1 hj1 hl1 hm;rw[hK1]at hm;refine qDs [] [] [(15,.bool (decide ((j1:Int)<(t.aC.length:Int))))]<|A.seq<|qF (ltF hl1)<|A.exit ?_
 obtain⟨h2,hm⟩:=eE hm;refine qD [(2,hto (lnE bt t.aC)),(3,hmr 67027 (t.aC.length:Int) aez aeA h2 (by decide))] [12,13,14,15] [(7,.own 67027)] [] [(67027,.slice 22 1 (List.replicate (t.aC.length:Int).toNat [.bI]) 0 false)]<|A.weak ((aU.acH (d:=67027) (e:=450067027) 3 1 ak.enc (aeS h2) rfl rfl rfl rfl rfl))<|A.seq<|qS [(1,hno 3 1 ak.enc (List.replicate (t.aC.length:Int).toNat []:List (List Int)) kT)] [(1,.ptr 67001 0),(3,.ptr 67003 0),(4,.ptr 67004 0),(7,.own 67027),(29,i6 ((List.replicate (t.aC.length:Int).toNat []:List (List Int)).length:Int)),(30,i6 0)] [(67001,.cells 28 (k2 t)),(67003,.vec 114 (Vec.zero 100).l),(67004,.vec 114 m_1.l),(67027,.b8 22 450067027 ((t.aC.length:Int).toNat) none),(450067027,.bun (encS 3 1 ak.enc (List.replicate (t.aC.length:Int).toNat []:List (List Int))))]<|A.block ?_
 obtain⟨hh2,hm⟩:=eE hm;obtain⟨B2,K2,hB2,hK2,hm⟩:=l6 hm;refine A.lpN (hi:=((List.replicate (t.aC.length:Int).toNat []:List (List Int)).length:Int)) (B:=B2) (K:=K2) hm rfl (λj2=>λm_2=>[(1,.ptr 67001 0),(3,.ptr 67003 0),(4,.ptr 67004 0),(7,.own 67027),(29,i6 ((List.replicate (t.aC.length:Int).toNat []:List (List Int)).length:Int)),(30,i6 (j2:Int))]) (λj2=>λm_2=>[(67001,.cells 28 (k2 t)),(67003,.vec 114 (Vec.zero 100).l),(67004,.vec 114 m_1.l),(67027,.b8 22 450067027 ((t.aC.length:Int).toNat) none),(450067027,.bun (encS 3 1 ak.enc m_2))]) ?_ ?_ ?_
 ·exact qW
 ·rintro j2 Z2 m_2 hj2 hx2 hm;rw[hB2]at hm;refine qDs [] [] [(31,.bool (decide ((j2:Int)<((List.replicate (t.aC.length:Int).toNat []:List (List Int)).length:Int))))]<|A.seq<|A.cT rfl (decide_eq_true hx2)<|A.skip<|A.seq<|A.block<|qDs [] [31] [(8,i6 (j2:Int))] ?_
  obtain⟨h3,hm⟩:=eE hm;obtain⟨e_2,h4,hm⟩:=aa hm;exact qG [(4,hto (lnE bt t.aC)),(5,hms (a:=i6 0) 67038 (0:Int) ak.enc (t.aC.length:Int) ab0 aey rfl (λI=>by simp[aB]) h3 (by decide)),(6,hio 3 1 ak.enc kT h4),(7,hsS 3 1 530067001 ak.enc (List.replicate ((t.aC.length:Int)).toNat (0:Int)) kS h4)] [8] [] [67027,450067027] [(67027,.b8 22 530067001 ((t.aC.length:Int).toNat) none),(530067001,.bun (encS 3 1 ak.enc (List.set m_2 (j2:Int).toNat (List.replicate ((t.aC.length:Int)).toNat (0:Int)))))]<|qGs [(0,hto (wK (by omega) hx2 (of_decide_eq_true hh2)))] [30] [(30,i6 (j2+1:Int))]<|Exists.intro (List.set m_2 (j2:Int).toNat (List.replicate ((t.aC.length:Int)).toNat (0:Int))) (And.intro hm (aU.go [.rn 530067001 450067027] [] (by kernel_rfl)))
 rintro j2 m_2 hj2 hl2 hm;rw[hK2]at hm;refine qDs [] [] [(31,.bool (decide ((j2:Int)<((List.replicate (t.aC.length:Int).toNat []:List (List Int)).length:Int))))]<|A.seq<|A.cF rfl (geF hl2)<|A.exit<|A.seq<|qD [(2,hto (lnE bD t.Links))] [1,29,30,31] [(42,lf bD t.Links),(43,i6 (t.Links.length:Int)),(44,i6 0)] [67001] []<|A.block<|A.bS 42 rfl λhb3=>?_
 obtain⟨B3,K3,hB3,hK3,hm⟩:=bh hm;refine A.lpI (l:=t.Links) (j0:=0) (B:=B3) (K:=K3) hm (λj3=>λm_3=>[(3,.ptr 67003 0),(4,.ptr 67004 0),(7,.own 67027),(42,lf bD t.Links),(43,i6 (t.Links.length:Int)),(44,i6 (j3:Int))]) (λj3=>λm_3=>[(67003,.vec 114 (Vec.zero 100).l),(67004,.vec 114 m_1.l),(67027,.b8 22 450067027 ((t.aC.length:Int).toNat) none),(450067027,.bun (encS 3 1 ak.enc m_3))]) ?_ ?_ ?_
 ·exact qW
 ·rintro j3 e3 Z3 m_3 hj3 hx3 hm;rw[hB3]at hm;refine qDs [] [] [(45,.bool (decide ((j3:Int)<(t.Links.length:Int))))]<|A.seq<|qT (ltT hx3)<|A.skip<|A.seq<|A.block<|qD [(0,hix (ix bD (bu hx3))),(2,.al 67010)] [45] [(10,.ptr 67010 0)] [] [(67010,.cells 62 (k1 e3))] ?_
  obtain⟨e_3,h5,hm⟩:=aa hm;obtain⟨e_4,h6,hm⟩:=aa hm;obtain⟨e_5,h7,hm⟩:=aa hm;obtain⟨e_6,h8,hm⟩:=aa hm;obtain⟨e_7,h9,hm⟩:=aa hm;obtain⟨e_8,h10,hm⟩:=aa hm;obtain⟨e_9,h11,hm⟩:=aa hm;exact qG [(3,hvi (v:=m_1) h5 underlying114 sizeOf3),(4,hvl (v:=m_1) h5 ty3),(5,hio 3 1 ak.enc kT h6),(6,hrw (T':=3) (sz:=1) (enc:=ak.enc) (l:=m_3) h6 kS),(9,hvi (v:=m_1) h7 underlying114 sizeOf3),(10,hvl (v:=m_1) h7 ty3),(14,hvi (v:=m_1) h7 underlying114 sizeOf3),(15,hvl (v:=m_1) h7 ty3),(16,hio 3 1 ak.enc kT h8),(17,hrw (T':=3) (sz:=1) (enc:=ak.enc) (l:=m_3) h8 kS),(20,hvi (v:=m_1) h5 underlying114 sizeOf3),(21,hvl (v:=m_1) h5 ty3),(26,hri (T':=3) (enc:=ak.enc) (l:=m_3) h6 h9 oz),(27,hrs (T':=3) (enc:=ak.enc) (f:=(AV.int .i64)) e3.eZ h6 h9 (λ_=>rfl) rfl rfl ty3),(28,hri (T':=3) (enc:=ak.enc) (l:=(List.set m_3 e_3.toNat (List.set e_4 e_5.toNat e3.eZ))) h10 h11 oz),(29,hrs (T':=3) (enc:=ak.enc) (f:=(AV.int .i64)) e3.gj h10 h11 (λ_=>rfl) rfl rfl ty3)] [10] [] [450067027,67010] [(450067027,.bun (encS 3 1 ak.enc (List.set (List.set m_3 e_3.toNat (List.set e_4 e_5.toNat e3.eZ)) e_5.toNat (List.set e_8 e_3.toNat e3.gj))))]<|qGs [(0,hto (inc hx3 hb3))] [44] [(44,i6 ((j3+1:Nat):Int))]<|qX (List.set (List.set m_3 e_3.toNat (List.set e_4 e_5.toNat e3.eZ)) e_5.toNat (List.set e_8 e_3.toNat e3.gj)) hm
 rintro j3 m_3 hj3 hl3 hm;rw[hK3]at hm;refine qDs [] [] [(45,.bool (decide ((j3:Int)<(t.Links.length:Int))))]<|A.seq<|qF (ltF hl3)<|A.exit<|A.weak (aU.refl _ _ _)<|qS [(1,hvw m_1 zK),(3,hvt (Vec.zero 100) m_1 zK.size)] [(3,.ptr 67003 0),(2,.own 67027)] [(67003,.vec 114 m_1.l),(67027,.b8 22 450067027 ((t.aC.length:Int).toNat) none),(450067027,.bun (encS 3 1 ak.enc m_3))]<|A.ret ?_
 obtain rfl:=some_inj hm;exact A.finV (x:=.tup [.own 500006700,.arr m_1.l]) (e1:=[(3,.ptr 67003 0),(2,.own 500006700)]) (s1:=[(67003,.vec 114 m_1.l),(500006700,.b8 22 500006701 ((t.aC.length:Int).toNat) none),(500006701,.bun (encS 3 1 ak.enc m_3))]) W0 [.sw 67027 500006700,.sw 450067027 500006701] rfl (by kernel_rfl) (.two (oT W0 (by kernel_rfl)) (.arr _ _ 67003 114 _ m_1.l rfl (by kernel_rfl) zK (Vec.h _))) (by kernel_rfl) (by kernel_rfl)
theorem tw{t:aT}{r:Bool}(hm:lW t=some r):RO prog 95 [] [.agg (k6 t)] (.bool r):=by
 refine aZ func95 rfl rfl ?_;unfold lW at hm;refine qS [(0,.al 95001)] [(1,.ptr 95001 0)] [(95001,.cells 36 (k6 t))]<|A.mid [(2,.bool ((decide (t.bw=0))&&(decide ((t.Links.length:Int)=(0:Int)))))] [] (λhk=>?_) ?_
 ·rcases tf (decide (t.bw=0))with c1|c1
  ·exact qS [(3,hto (bE c1)),(6,hto (lnE aJ t.Links)),(9,hto (oF (q:=decide ((t.Links.length:Int)=(0:Int))) c1))] _ _ hk
  exact qS [(3,hto (bE c1)),(9,hto (oG (q:=decide ((t.Links.length:Int)=(0:Int))) c1))] _ _ hk
 cases hm;exact A.ret qE
variable {cv dJ:Int}{l:List aR}
theorem qu{n:Int}{r:(List aR)}(hm:kZ l cv dJ n=some r):RO prog 99 [] [lf bn l,i6 cv,i6 dJ,i6 n] (lf bn r):=by
 refine aZ func99 rfl rfl ?_;unfold kZ at hm;refine qS [] [(0,lf bn l),(1,i6 cv),(2,i6 dJ),(3,i6 n)] []<|qDs [] [] [(9,i6 0)]<|A.seq<|A.block ?_
 obtain⟨F1,n1,hF1,hm⟩:=fW hm;refine A.lpW (F:=F1) hm (λk_1=>[(0,lf bn l),(1,i6 cv),(2,i6 dJ),(3,i6 n),(9,i6 k_1)]) (λk_1=>[]) ?_ ?_
 ·exact qW
 rintro Z1 k_1 hm;rw[hF1]at hm;refine A.seq ?_;obtain⟨J1,hJ1,hm⟩:=cO hm;refine A.J (J:=J1) (r:=r) (λv_1=>[(0,lf bn l),(1,i6 cv),(2,i6 dJ),(3,i6 n),(9,i6 k_1),(41,.bool v_1)]) (λv_1=>[]) ?_ ?_
 ·rcases aA hm with⟨c1,hm⟩|⟨c1,hm⟩
  ·obtain⟨e_1,h1,hm⟩:=aa hm;rcases aA hm with⟨c2,hm⟩|⟨c2,hm⟩
   ·exact qGs [(2,hto (lnE bn l)),(4,hto (bE c1)),(7,hix (ix bn h1)),(12,hto (bE c2))] [] [(41,.bool true)]<|qX true hm
   rcases aA hm with⟨c3,hm⟩|⟨c3,hm⟩
   ·exact qGs [(2,hto (lnE bn l)),(4,hto (bE c1)),(7,hix (ix bn h1)),(12,hto (bE c2)),(15,hix (ix bn h1)),(20,hto (bE c3)),(23,hix (ix bn h1))] [] [(41,.bool (decide (e_1.To<dJ)))]<|qX (decide (e_1.To<dJ)) hm
   exact qGs [(2,hto (lnE bn l)),(4,hto (bE c1)),(7,hix (ix bn h1)),(12,hto (bE c2)),(15,hix (ix bn h1)),(20,hto (bE c3))] [] [(41,.bool false)]<|qX false hm
  exact qGs [(2,hto (lnE bn l)),(4,hto (bE c1))] [] [(41,.bool false)]<|qX false hm
 rintro v_1 hm;rw[hJ1]at hm;rcases aA hm with⟨c4,hm⟩|⟨c4,hm⟩
 ·exact qT c4<|A.skip<|A.block<|qGs [] [9,41] [(9,i6 (w64 (k_1+1)))]<|qX (w64 (k_1+1)) hm
 refine qF c4<|A.exit ?_
 obtain⟨l_1,h2,hm⟩:=aa hm;refine qD [(0,.al 99044),(2,hap 99546 (ap bn (bytes:=24) (by decide) h2))] [41] [(10,.own 99546)] [] [(99546,.slice 60 3 (ml bn l_1) 0 false)]<|A.seq ?_
 obtain⟨J2,hJ2,hm⟩:=cO hm;refine A.J (J:=J2) (r:=r) (λv_2=>[(0,lf bn l),(1,i6 cv),(2,i6 dJ),(3,i6 n),(9,i6 k_1),(10,.own 99546),(68,.bool v_2)]) (λv_2=>[(99546,.slice 60 3 (ml bn l_1) 0 false)]) ?_ ?_
 ·rcases aA hm with⟨c5,hm⟩|⟨c5,hm⟩
  ·obtain⟨e_2,h3,hm⟩:=aa hm;rcases aA hm with⟨c6,hm⟩|⟨c6,hm⟩
   ·exact qGs [(2,hto (lnE bn l)),(4,hto (bE c5)),(7,hix (ix bn h3)),(13,hto (bE c6)),(16,hix (ix bn h3))] [] [(68,.bool (decide (e_2.To=dJ)))]<|qX (decide (e_2.To=dJ)) hm
   exact qGs [(2,hto (lnE bn l)),(4,hto (bE c5)),(7,hix (ix bn h3)),(13,hto (bE c6))] [] [(68,.bool false)]<|qX false hm
  exact qGs [(2,hto (lnE bn l)),(4,hto (bE c5))] [] [(68,.bool false)]<|qX false hm
 rintro v_2 hm;rw[hJ2]at hm;rcases aA hm with⟨c7,hm⟩|⟨c7,hm⟩
 ·refine qT c7 ?_;obtain⟨e_3,h4,hm⟩:=aa hm;obtain⟨l_2,h5,hm⟩:=aa hm;refine qS [(2,hix (ix bn h4)),(4,hlo 99546 2 (ix bn h4)),(7,hix (ix bn h4)),(9,hso 99546 (st bn (off:=2) (ca:=[i6 (w64 (e_3.Count+n))]) h4 h5 rfl) (oA h4).1.1)] [(10,.own 99546)] [(99546,.slice 60 3 (ml bn l_2) 0 false)]<|qDs [] [10] [(8,.own 99546)]<|A.ret ?_
  obtain rfl:=some_inj hm;exact A.fin W0 [.fz [99546]] rfl (by kernel_rfl)
 refine qF c7<|A.skip ?_
 obtain⟨l_3,h6,hm⟩:=aa hm;obtain⟨l_4,h7,hm⟩:=aa hm;obtain⟨l_5,h8,hm⟩:=aa hm;obtain⟨l_6,h9,hm⟩:=aa hm;refine A.RS W0 [.fz [99546]] [(3,hs3 (sl bn h6)),(9,hap 99588 (ap bn (bytes:=24) (by decide) h8)),(12,hsl (anz bn h7)),(13,hap 99592 (ap bn (bytes:=24) (by decide) h9))] [(8,.own 99592)] [(99592,.slice 60 3 (ml bn l_6) 0 false)] (by kernel_rfl)<|A.ret ?_
 obtain rfl:=some_inj hm;exact A.fin W0 [.fz [99592]] rfl (by kernel_rfl)
variable {d:aN}{r:Int}
theorem x9(hm:lX t d=some r):RO prog 100 [] [.agg (k2 t),.agg (k8 d)] (i6 r):=by
 refine aZ func100 rfl rfl ?_;unfold lX at hm;refine qS [(0,.al 100002),(1,.al 100003)] [(2,.ptr 100002 0),(3,.ptr 100003 0)] [(100002,.cells 28 (k2 t)),(100003,.cells 52 (k8 d))]<|A.seq<|qDs [(2,hto (lnE ak d.aV))] [] [(10,.bool (decide (6<(d.aV.length:Int))))] ?_
 rcases aA hm with⟨c1,hm⟩|⟨c1,hm⟩
 ·refine qT c1<|qS [] [(4,i6 3)] [] ?_
  cases hm;exact A.ret qE
 refine qF c1<|A.skip<|A.seq ?_
 obtain⟨aq,h1,hm⟩:=aa hm;refine qDs [(2,hro (pR h1) aps)] [10] [(14,.bool (!aq))] ?_;rcases aA hm with⟨c2,hm⟩|⟨c2,hm⟩
 ·refine qT c2<|qS [] [(4,i6 25)] [] ?_
  cases hm;exact A.ret qE
 refine qF c2<|A.skip<|A.seq ?_
 obtain⟨l_1,h2,hm⟩:=aa hm;refine qD [(2,.al 100017),(5,hap 100520 (ap ak (bytes:=8) (by decide) h2)),(6,hto (lnE ak l_1))] [14] [(20,.own 100520),(21,i6 (l_1.length:Int)),(22,i6 0)] [] [(100520,.slice 3 1 (ml ak l_1) 0 false)]<|A.block<|A.bW 20 rfl rfl λhb1=>?_
 obtain⟨B1,K1,hB1,hK1,hm⟩:=bh hm;refine A.lpI (l:=l_1) (j0:=0) (B:=B1) (K:=K1) hm (λj1=>λ()=>[(2,.ptr 100002 0),(3,.ptr 100003 0),(20,.own 100520),(21,i6 (l_1.length:Int)),(22,i6 (j1:Int))]) (λj1=>λ()=>[(100002,.cells 28 (k2 t)),(100003,.cells 52 (k8 d)),(100520,.slice 3 1 (ml ak l_1) 0 false)]) ?_ ?_ ?_
 ·exact qW
 ·rintro j1 e1 Z1 ⟨⟩ hj1 hx1 hm;rw[hB1]at hm;refine qDs [] [] [(23,.bool (decide ((j1:Int)<(l_1.length:Int))))]<|A.seq<|qT (ltT hx1)<|A.skip<|A.seq<|A.block<|qDs [(0,hix (ix ak (bu hx1))),(1,hlo 100520 0 (ix ak (bu hx1)))] [23] [(6,i6 e1)] ?_
  obtain⟨aF,h3,hm⟩:=aa hm;refine qDs [(2,hro (qp h3) aif)] [6] [(29,.bool (!aF))] ?_;rcases aA hm with⟨c3,hm⟩|⟨c3,hm⟩
  ·refine qT c3<|qS [] [(4,i6 4)] [] ?_
   cases hm;exact A.ret qE
  exact qF c3<|A.skip<|qGs [(0,hto (inc hx1 hb1))] [22,29] [(22,i6 ((j1+1:Nat):Int))]<|qX () hm
 rintro j1 ⟨⟩ hj1 hl1 hm;rw[hK1]at hm;refine qDs [] [] [(23,.bool (decide ((j1:Int)<(l_1.length:Int))))]<|A.seq<|qF (ltF hl1)<|A.exit<|A.seq<|A.mid [(38,.bool ((decide (d.bM<1))||(decide (1000<d.bM))))] [] (λhk=>?_) ?_
 ·rcases tf (decide (d.bM<1))with c4|c4
  ·exact qS [(3,hto (bE c4)),(7,hto (orT (q:=decide (1000<d.bM)) c4))] _ _ hk
  exact qS [(3,hto (bE c4)),(7,hto (orF (q:=decide (1000<d.bM)) c4))] _ _ hk
 rcases aA hm with⟨c5,hm⟩|⟨c5,hm⟩
 ·refine qT c5<|qS [] [(4,i6 2)] [] ?_
  cases hm;exact A.ret qE
 refine qF c5<|A.skip<|qS [] [(4,i6 0)] [] ?_
 cases hm;exact A.ret qE
variable {aP:List aN}
theorem y6(hm:mL t aP=some r):RO prog 92 [] [.agg (k2 t),lf bH aP] (i6 r):=by
 refine aZ func92 rfl rfl ?_;unfold mL at hm;refine qS [(0,.al 92002)] [(1,lf bH aP),(2,.ptr 92002 0)] [(92002,.cells 28 (k2 t))]<|A.seq ?_
 obtain⟨aq,h1,hm⟩:=aa hm;refine qDs [(1,hro (jF h1) acT)] [] [(10,.bool (!decide (aq=0)))] ?_;rcases aA hm with⟨c1,hm⟩|⟨c1,hm⟩
 ·refine qT c1<|qS [] [(4,i6 1)] [] ?_
  cases hm;exact A.ret qE
 refine qF c1<|A.skip<|A.seq<|qDs [(1,hto (lnE bH aP))] [10] [(13,.bool (decide (12<(aP.length:Int))))] ?_
 rcases aA hm with⟨c2,hm⟩|⟨c2,hm⟩
 ·refine qT c2<|qS [] [(4,i6 3)] [] ?_
  cases hm;exact A.ret qE
 refine qF c2<|A.skip<|A.seq<|qDs [(1,hto (lnE bH aP))] [1,13] [(14,lf bH aP),(15,i6 (aP.length:Int)),(16,i6 0)]<|A.block<|A.bS 14 rfl λhb1=>?_
 obtain⟨B1,K1,hB1,hK1,hm⟩:=bh hm;refine A.lpI (l:=aP) (j0:=0) (B:=B1) (K:=K1) hm (λj1=>λ()=>[(2,.ptr 92002 0),(14,lf bH aP),(15,i6 (aP.length:Int)),(16,i6 (j1:Int))]) (λj1=>λ()=>[(92002,.cells 28 (k2 t))]) ?_ ?_ ?_
 ·exact qW
 ·rintro j1 e1 Z1 ⟨⟩ hj1 hx1 hm;rw[hB1]at hm;refine qDs [] [] [(17,.bool (decide ((j1:Int)<(aP.length:Int))))]<|A.seq<|qT (ltT hx1)<|A.skip<|A.seq<|A.block<|qD [(0,hix (ix bH (bu hx1))),(2,.al 92006)] [17] [(6,.ptr 92006 0)] [] [(92006,.cells 52 (k8 e1))] ?_
  obtain⟨aF,h2,hm⟩:=aa hm;refine qD [(2,hro (x9 h2) ar2)] [6] [(7,i6 aF)] [92006] []<|qDs [] [] [(24,.bool (!decide (aF=0)))] ?_
  rcases aA hm with⟨c3,hm⟩|⟨c3,hm⟩
  ·refine qT c3<|qS [] [(4,i6 aF)] [] ?_
   cases hm;exact A.ret qE
  exact qF c3<|A.skip<|qGs [(0,hto (inc hx1 hb1))] [16,7,24] [(16,i6 ((j1+1:Nat):Int))]<|qX () hm
 rintro j1 ⟨⟩ hj1 hl1 hm;rw[hK1]at hm;refine qDs [] [] [(17,.bool (decide ((j1:Int)<(aP.length:Int))))]<|A.seq<|qF (ltF hl1)<|A.exit<|qS [] [(4,i6 0)] [] ?_
 cases hm;exact A.ret qE
theorem aae{r:(List aR)}(hm:nD t=some r):RO prog 93 [] [.agg (k2 t)] (lf bn r):=by
 refine aZ func93 rfl rfl ?_;unfold nD at hm;refine qS [(0,.al 93001)] [(1,.ptr 93001 0)] [(93001,.cells 28 (k2 t))]<|qDs [] [] [(3,.bI)]<|A.seq<|qS [(2,hto (lnE bD t.Links))] [(3,.bI),(7,lf bD t.Links),(8,i6 (t.Links.length:Int)),(9,i6 0)] []<|A.block<|A.bS 7 rfl λhb1=>?_
 obtain⟨B1,K1,hB1,hK1,hm⟩:=bh hm;refine A.lpI (l:=t.Links) (j0:=0) (B:=B1) (K:=K1) hm (λj1=>λbK=>[(3,lf bn bK),(7,lf bD t.Links),(8,i6 (t.Links.length:Int)),(9,i6 (j1:Int))]) (λj1=>λbK=>[]) ?_ ?_ ?_
 ·exact aU.go [] [3] (by kernel_rfl)
 ·rintro j1 e1 Z1 bK hj1 hx1 hm;rw[hB1]at hm;refine qDs [] [] [(10,.bool (decide ((j1:Int)<(t.Links.length:Int))))]<|A.seq<|qT (ltT hx1)<|A.skip<|A.seq<|A.block<|qD [(0,hix (ix bD (bu hx1))),(2,.al 93005)] [10] [(5,.ptr 93005 0)] [] [(93005,.cells 62 (k1 e1))] ?_
  obtain⟨aq,h1,hm⟩:=aa hm;obtain⟨aF,h2,hm⟩:=aa hm;exact qG [(7,hro (qu h1) aik),(14,hro (qu h2) aik)] [3,5] [(3,lf bn aF)] [93005] []<|qGs [(0,hto (inc hx1 hb1))] [9] [(9,i6 ((j1+1:Nat):Int))]<|Exists.intro aF (And.intro hm (aU.go [] [3] (by kernel_rfl)))
 rintro j1 bK hj1 hl1 hm;rw[hK1]at hm;refine qDs [] [] [(10,.bool (decide ((j1:Int)<(t.Links.length:Int))))]<|A.seq<|qF (ltF hl1)<|A.exit<|qS [] [(2,lf bn bK)] [] ?_
 cases hm;exact A.ret qE
theorem mO(hm:jl l cv dJ=some r):RO prog 159 [] [lf bn l,i6 cv,i6 dJ] (i6 r):=by
 refine aZ func159 rfl rfl ?_;unfold jl at hm;refine qS [] [(0,lf bn l),(1,i6 cv),(2,i6 dJ)] []<|A.seq<|qDs [(1,hto (lnE bn l))] [0] [(9,lf bn l),(10,i6 (l.length:Int)),(11,i6 0)]<|A.block<|A.bS 9 rfl λhb1=>?_
 obtain⟨B1,K1,hB1,hK1,hm⟩:=bh hm;refine A.lpI (l:=l) (j0:=0) (B:=B1) (K:=K1) hm (λj1=>λ()=>[(1,i6 cv),(2,i6 dJ),(9,lf bn l),(10,i6 (l.length:Int)),(11,i6 (j1:Int))]) (λj1=>λ()=>[]) ?_ ?_ ?_
 ·exact qW
 ·rintro j1 e1 Z1 ⟨⟩ hj1 hx1 hm;rw[hB1]at hm;refine qDs [] [] [(12,.bool (decide ((j1:Int)<(l.length:Int))))]<|A.seq<|qT (ltT hx1)<|A.skip<|A.seq<|A.block<|qD [(0,hix (ix bn (bu hx1))),(2,.al 159008)] [12] [(8,.ptr 159008 0)] [] [(159008,.cells 60 (k7 e1))]<|A.mid [(1,i6 cv),(2,i6 dJ),(9,lf bn l),(10,i6 (l.length:Int)),(11,i6 (j1:Int)),(8,.ptr 159008 0),(24,.bool ((decide (e1.aD=cv))&&(decide (e1.To=dJ))))] [(159008,.cells 60 (k7 e1))] (λhk=>?_) ?_
  ·rcases tf (decide (e1.aD=cv))with c1|c1
   ·exact qS [(4,hto (bE c1)),(9,hto (oF (q:=decide (e1.To=dJ)) c1))] _ _ hk
   exact qS [(4,hto (bE c1)),(9,hto (oG (q:=decide (e1.To=dJ)) c1))] _ _ hk
  rcases aA hm with⟨c2,hm⟩|⟨c2,hm⟩
  ·refine qT c2<|qS [] [(6,i6 e1.Count)] [] ?_
   cases hm;exact A.ret qE
  exact qF c2<|A.skip<|qG [(0,hto (inc hx1 hb1))] [11,8,24] [(11,i6 ((j1+1:Nat):Int))] [159008] []<|qX () hm
 rintro j1 ⟨⟩ hj1 hl1 hm;rw[hK1]at hm;refine qDs [] [] [(12,.bool (decide ((j1:Int)<(l.length:Int))))]<|A.seq<|qF (ltF hl1)<|A.exit<|qS [] [(6,i6 0)] [] ?_
 cases hm;exact A.ret qE
variable {rest:List aR}
theorem aaf{xa2:aT}{fu:Int}{r:(List aR)×Bool}(hm:nE t rest xa2 fu=some r):RO prog 96 [] [.agg (k2 t),lf bn rest,.agg (k6 xa2),i6 fu] (.tup [lf bn r.1,.bool r.2]):=by
 refine aZ func96 rfl rfl ?_;unfold nE at hm;refine qS [(0,.al 96004),(1,.al 96006)] [(1,lf bn rest),(3,i6 fu),(4,.ptr 96004 0),(6,.ptr 96006 0)] [(96004,.cells 28 (k2 t)),(96006,.cells 36 (k6 xa2))]<|A.seq ?_
 obtain⟨aq,h1,hm⟩:=aa hm;refine qDs [(1,hro (tw h1) apt)] [] [(13,.bool aq)] ?_;rcases aA hm with⟨c1,hm⟩|⟨c1,hm⟩
 ·refine qT c1<|qS [] [(8,lf bn rest),(9,.bool true)] [] ?_
  cases hm;exact A.ret qE
 refine qF c1<|A.skip<|A.seq ?_
 obtain⟨aF,h2,hm⟩:=aa hm;refine qD [(2,hro (mo h2) aib)] [4,13] [(18,.bool (!decide (aF=0)))] [96004] [] ?_;rcases aA hm with⟨c2,hm⟩|⟨c2,hm⟩
 ·refine qT c2<|qS [] [(8,.bI),(9,.bool false)] [] ?_
  cases hm;exact A.ret qE
 refine qF c2<|A.skip<|A.seq<|qD [(2,hto (lnE aJ xa2.Links))] [6,18] [(20,lf aJ xa2.Links),(21,i6 (xa2.Links.length:Int)),(22,i6 0)] [96006] []<|A.block<|A.bS 20 rfl λhb1=>?_
 obtain⟨B1,K1,hB1,hK1,hm⟩:=bh hm;refine A.lpI (l:=xa2.Links) (j0:=0) (B:=B1) (K:=K1) hm (λj1=>λgb=>[(1,lf bn gb),(3,i6 fu),(20,lf aJ xa2.Links),(21,i6 (xa2.Links.length:Int)),(22,i6 (j1:Int))]) (λj1=>λgb=>[]) ?_ ?_ ?_
 ·exact aU.go [] [1] (by kernel_rfl)
 ·rintro j1 e1 Z1 gb hj1 hx1 hm;rw[hB1]at hm;refine qDs [] [] [(23,.bool (decide ((j1:Int)<(xa2.Links.length:Int))))]<|A.seq<|qT (ltT hx1)<|A.skip<|A.seq<|A.block<|qD [(0,hix (ix aJ (bu hx1))),(2,.al 96011)] [23] [(11,.ptr 96011 0)] [] [(96011,.cells 84 (k3 e1))]<|A.seq ?_
  obtain⟨bx,h3,hm⟩:=aa hm;refine qDs [(5,hro (mO h3) zY)] [] [(33,.bool (decide (bx<fu)))] ?_;rcases aA hm with⟨c3,hm⟩|⟨c3,hm⟩
  ·refine qT c3<|qS [] [(8,.bI),(9,.bool false)] [] ?_
   cases hm;exact A.ret qE
  refine qF c3<|A.skip ?_
  obtain⟨bV,h4,hm⟩:=aa hm;exact qG [(7,hro (qu h4) aik)] [1,11,33] [(1,lf bn bV)] [96011] []<|qGs [(0,hto (inc hx1 hb1))] [22] [(22,i6 ((j1+1:Nat):Int))]<|Exists.intro bV (And.intro hm (aU.go [] [1] (by kernel_rfl)))
 rintro j1 gb hj1 hl1 hm;rw[hK1]at hm;refine qDs [] [] [(23,.bool (decide ((j1:Int)<(xa2.Links.length:Int))))]<|A.seq<|qF (ltF hl1)<|A.exit<|qS [] [(8,lf bn gb),(9,.bool true)] [] ?_
 cases hm;exact A.ret qE
theorem xo{r:(List Int)}(hm:kN t rest d=some r):RO prog 101 [] [.agg (k2 t),lf bn rest,.agg (k8 d)] (lf ak r):=by
 refine aZ func101 rfl rfl ?_;unfold kN at hm;refine qS [(0,.al 101003),(1,.al 101005)] [(1,lf bn rest),(3,.ptr 101003 0),(5,.ptr 101005 0)] [(101003,.cells 28 (k2 t)),(101005,.cells 52 (k8 d))]<|qDs [] [] [(7,.lst true (ml ak ([d.bw]:List Int)))]<|A.seq<|qDs [] [] [(8,i6 0)]<|A.block<|A.bC 3 0 rfl rfl rfl λhb1=>?_
 obtain⟨B1,K1,hB1,hK1,hm⟩:=bh hm;refine A.lpI (l:=t.aC) (j0:=0) (B:=B1) (K:=K1) hm (λj1=>λbK=>[(1,lf bn rest),(3,.ptr 101003 0),(5,.ptr 101005 0),(7,lf ak bK),(8,i6 (j1:Int))]) (λj1=>λbK=>[(101003,.cells 28 (k2 t)),(101005,.cells 52 (k8 d))]) ?_ ?_ ?_
 ·exact aU.go [] [7] (by kernel_rfl)
 ·rintro j1 e1 Z1 bK hj1 hx1 hm;rw[hB1]at hm;refine A.seq<|qDs [(3,hto (lnE bt t.aC))] [] [(18,.bool (decide ((j1:Int)<(t.aC.length:Int))))] ?_
  refine qT (ltT hx1)<|A.skip<|A.seq<|A.block<|qDs [(2,hto (lnE bD t.Links))] [18] [(22,lf bD t.Links),(23,i6 (t.Links.length:Int)),(24,i6 0)]<|A.block<|A.bS 22 rfl λhb2=>?_
  obtain⟨B2,K2,hB2,hK2,hm⟩:=bh hm;refine A.lpI (l:=t.Links) (j0:=0) (B:=B2) (K:=K2) hm (λj2=>λeR=>[(1,lf bn rest),(3,.ptr 101003 0),(5,.ptr 101005 0),(7,lf ak eR),(8,i6 (j1:Int)),(22,lf bD t.Links),(23,i6 (t.Links.length:Int)),(24,i6 (j2:Int))]) (λj2=>λeR=>[(101003,.cells 28 (k2 t)),(101005,.cells 52 (k8 d))]) ?_ ?_ ?_
  ·exact aU.go [] [7] (by kernel_rfl)
  ·rintro j2 e2 Z2 eR hj2 hx2 hm;rw[hB2]at hm;refine qDs [] [] [(25,.bool (decide ((j2:Int)<(t.Links.length:Int))))]<|A.seq<|qT (ltT hx2)<|A.skip ?_
   obtain⟨J1,hJ1,hm⟩:=cO hm;refine A.J (J:=J1) (r:=r) (λnS=>[(1,lf bn rest),(3,.ptr 101003 0),(5,.ptr 101005 0),(7,lf ak nS),(8,i6 (j1:Int)),(22,lf bD t.Links),(23,i6 (t.Links.length:Int)),(24,i6 (j2:Int))]) (λnS=>[(101003,.cells 28 (k2 t)),(101005,.cells 52 (k8 d))]) ?_ ?_
   ·refine A.block<|qD [(0,hix (ix bD (bu hx2))),(2,.al 101010)] [25] [(10,.ptr 101010 0)] [] [(101010,.cells 62 (k1 e2))] ?_
    obtain⟨J2,hJ2,hm⟩:=cO hm;refine A.J (J:=J2) (r:=r) (λqB=>[(1,lf bn rest),(3,.ptr 101003 0),(5,.ptr 101005 0),(7,lf ak qB),(8,i6 (j1:Int)),(10,.ptr 101010 0),(22,lf bD t.Links),(23,i6 (t.Links.length:Int)),(24,i6 (j2:Int))]) (λqB=>[(101003,.cells 28 (k2 t)),(101005,.cells 52 (k8 d)),(101010,.cells 62 (k1 e2))]) ?_ ?_
    ·obtain⟨J3,hJ3,hm⟩:=cO hm;refine A.J (J:=J3) (r:=r) (λv_1=>[(1,lf bn rest),(3,.ptr 101003 0),(5,.ptr 101005 0),(7,lf ak eR),(8,i6 (j1:Int)),(10,.ptr 101010 0),(22,lf bD t.Links),(23,i6 (t.Links.length:Int)),(24,i6 (j2:Int)),(42,.bool v_1)]) (λv_1=>[(101003,.cells 28 (k2 t)),(101005,.cells 52 (k8 d)),(101010,.cells 62 (k1 e2))]) ?_ ?_
     ·obtain⟨aq,h1,hm⟩:=aa hm;rcases aA hm with⟨c1,hm⟩|⟨c1,hm⟩
      ·obtain⟨aF,h2,hm⟩:=aa hm;exact qGs [(3,hro (dX h1) tM),(4,hto (bE c1)),(10,hro (mO h2) zY)] [] [(42,.bool (decide (d.bM≤aF)))]<|qX (decide (d.bM≤aF)) hm
      exact qGs [(3,hro (dX h1) tM),(4,hto (bE c1))] [] [(42,.bool false)]<|qX false hm
     rintro v_1 hm;rw[hJ3]at hm;rcases aA hm with⟨c2,hm⟩|⟨c2,hm⟩
     ·refine qT c2 ?_;obtain⟨bx,h3,hm⟩:=aa hm;exact qGs [(3,hro (jj h3) ae6)] [7,42] [(7,lf ak bx)]<|Exists.intro bx (And.intro hm (aU.go [] [7] (by kernel_rfl)))
     exact qF c2<|A.skip<|Exists.intro eR (And.intro hm (aU.go [] [7] (by kernel_rfl)))
    rintro qB hm;rw[hJ2]at hm;obtain⟨J4,hJ4,hm⟩:=cO hm;refine A.J (J:=J4) (r:=r) (λv_2=>[(1,lf bn rest),(3,.ptr 101003 0),(5,.ptr 101005 0),(7,lf ak qB),(8,i6 (j1:Int)),(10,.ptr 101010 0),(22,lf bD t.Links),(23,i6 (t.Links.length:Int)),(24,i6 (j2:Int)),(61,.bool v_2)]) (λv_2=>[(101003,.cells 28 (k2 t)),(101005,.cells 52 (k8 d)),(101010,.cells 62 (k1 e2))]) ?_ ?_
    ·obtain⟨bV,h4,hm⟩:=aa hm;rcases aA hm with⟨c3,hm⟩|⟨c3,hm⟩
     ·obtain⟨cK,h5,hm⟩:=aa hm;exact qGs [(3,hro (dX h4) tM),(4,hto (bE c3)),(10,hro (mO h5) zY)] [] [(61,.bool (decide (d.bM≤cK)))]<|qX (decide (d.bM≤cK)) hm
     exact qGs [(3,hro (dX h4) tM),(4,hto (bE c3))] [] [(61,.bool false)]<|qX false hm
    rintro v_2 hm;rw[hJ4]at hm;rcases aA hm with⟨c4,hm⟩|⟨c4,hm⟩
    ·refine qT c4 ?_;obtain⟨cQ,h6,hm⟩:=aa hm;exact qG [(3,hro (jj h6) ae6)] [7,10,61] [(7,lf ak cQ)] [101010] []<|Exists.intro cQ (And.intro hm (aU.go [] [7] (by kernel_rfl)))
    exact qF c4<|A.skip<|Exists.intro qB (And.intro hm (aU.go [] [7] (by kernel_rfl)))
   rintro nS hm;rw[hJ1]at hm;exact qGs [(0,hto (inc hx2 hb2))] [24] [(24,i6 ((j2+1:Nat):Int))]<|Exists.intro nS (And.intro hm (aU.go [] [7] (by kernel_rfl)))
  rintro j2 eR hj2 hl2 hm;rw[hK2]at hm;exact qDs [] [] [(25,.bool (decide ((j2:Int)<(t.Links.length:Int))))]<|A.seq<|qF (ltF hl2)<|A.exit<|qGs [(1,hto (inc hx1 hb1))] [8,22,23,24,25] [(8,i6 ((j1+1:Nat):Int))]<|Exists.intro eR (And.intro hm (aU.go [] [7] (by kernel_rfl)))
 rintro j1 bK hj1 hl1 hm;rw[hK1]at hm;refine A.seq<|qDs [(3,hto (lnE bt t.aC))] [] [(18,.bool (decide ((j1:Int)<(t.aC.length:Int))))] ?_
 refine qF (ltF hl1)<|A.exit<|qS [] [(6,lf ak bK)] [] ?_
 cases hm;exact A.ret qE
theorem wq{r:Bool}(hm:jM t rest d=some r):RO prog 94 [] [.agg (k2 t),lf bn rest,.agg (k8 d)] (.bool r):=by
 refine aZ func94 rfl rfl ?_;unfold jM at hm;refine qS [(0,.al 94003),(1,.al 94005)] [(1,lf bn rest),(3,.ptr 94003 0),(5,.ptr 94005 0)] [(94003,.cells 28 (k2 t)),(94005,.cells 52 (k8 d))] ?_;obtain⟨aq,h1,hm⟩:=aa hm;refine qD [(3,hro (xo h1) ar3)] [1,3] [(7,lf ak aq)] [94003] []<|A.seq<|qD [(2,hto (lnE ak d.aV))] [5] [(15,lf ak d.aV),(16,i6 (d.aV.length:Int)),(17,i6 0)] [94005] []<|A.block<|A.bS 15 rfl λhb1=>?_
 obtain⟨B1,K1,hB1,hK1,hm⟩:=bh hm;refine A.lpI (l:=d.aV) (j0:=0) (B:=B1) (K:=K1) hm (λj1=>λ()=>[(7,lf ak aq),(15,lf ak d.aV),(16,i6 (d.aV.length:Int)),(17,i6 (j1:Int))]) (λj1=>λ()=>[]) ?_ ?_ ?_
 ·exact qW
 ·rintro j1 e1 Z1 ⟨⟩ hj1 hx1 hm;rw[hB1]at hm;refine qDs [] [] [(18,.bool (decide ((j1:Int)<(d.aV.length:Int))))]<|A.seq<|qT (ltT hx1)<|A.skip<|A.seq<|A.block<|qDs [(0,hix (ix ak (bu hx1)))] [18] [(9,i6 e1)] ?_
  obtain⟨aF,h2,hm⟩:=aa hm;refine qDs [(2,hro (dX h2) tM)] [9] [(24,.bool (!aF))] ?_;rcases aA hm with⟨c1,hm⟩|⟨c1,hm⟩
  ·refine qT c1<|qS [] [(6,.bool false)] [] ?_
   cases hm;exact A.ret qE
  exact qF c1<|A.skip<|qGs [(0,hto (inc hx1 hb1))] [17,24] [(17,i6 ((j1+1:Nat):Int))]<|qX () hm
 rintro j1 ⟨⟩ hj1 hl1 hm;rw[hK1]at hm;refine qDs [] [] [(18,.bool (decide ((j1:Int)<(d.aV.length:Int))))]<|A.seq<|qF (ltF hl1)<|A.exit<|qS [] [(6,.bool true)] [] ?_
 cases hm;exact A.ret qE
theorem y7(hm:mM t rest d=some r):RO prog 97 [] [.agg (k2 t),lf bn rest,.agg (k8 d)] (i6 r):=by
 refine aZ func97 rfl rfl ?_;unfold mM at hm;refine qS [(0,.al 97003),(1,.al 97005)] [(1,lf bn rest),(3,.ptr 97003 0),(5,.ptr 97005 0)] [(97003,.cells 28 (k2 t)),(97005,.cells 52 (k8 d))] ?_;obtain⟨aq,h1,hm⟩:=aa hm;refine qD [(1,hdc [500006700,500006701] (xm h1) ck67),(5,hva 97008 (Vec.zero 100) abZ (by kernel_rfl)),(7,hvt (Vec.zero 100) aq.2 zK.size)] [] [(8,.ptr 97008 0),(7,.own 500006700)] [] [(500006700,.b8 22 500006701 ((t.aC.length:Int).toNat) none),(500006701,.bun (encS 3 1 ak.enc aq.1)),(97008,.vec 114 aq.2.l)]<|A.seq<|qD [(2,hto (lnE bD t.Links))] [3] [(20,lf bD t.Links),(21,i6 (t.Links.length:Int)),(22,i6 0)] [97003] []<|A.block<|A.bS 20 rfl λhb1=>?_
 obtain⟨B1,K1,hB1,hK1,hm⟩:=bh hm;refine A.lpI (l:=t.Links) (j0:=0) (B:=B1) (K:=K1) hm (λj1=>λm_1=>[(1,lf bn rest),(5,.ptr 97005 0),(7,.own 500006700),(8,.ptr 97008 0),(20,lf bD t.Links),(21,i6 (t.Links.length:Int)),(22,i6 (j1:Int))]) (λj1=>λm_1=>[(97005,.cells 52 (k8 d)),(500006700,.b8 22 950006700 ((t.aC.length:Int).toNat) none),(950006700,.bun (encS 3 1 ak.enc m_1)),(97008,.vec 114 aq.2.l)]) ?_ ?_ ?_
 ·exact aU.go [.rn 500006701 950006700] [] (by kernel_rfl)
 ·rintro j1 e1 Z1 m_1 hj1 hx1 hm;rw[hB1]at hm;refine qDs [] [] [(23,.bool (decide ((j1:Int)<(t.Links.length:Int))))]<|A.seq<|qT (ltT hx1)<|A.skip ?_
  obtain⟨J1,hJ1,hm⟩:=cO hm;refine A.J (J:=J1) (r:=r) (λm_2=>[(1,lf bn rest),(5,.ptr 97005 0),(7,.own 500006700),(8,.ptr 97008 0),(20,lf bD t.Links),(21,i6 (t.Links.length:Int)),(22,i6 (j1:Int))]) (λm_2=>[(97005,.cells 52 (k8 d)),(500006700,.b8 22 950006700 ((t.aC.length:Int).toNat) none),(950006700,.bun (encS 3 1 ak.enc m_2)),(97008,.vec 114 aq.2.l)]) ?_ ?_
  ·refine A.block<|qD [(0,hix (ix bD (bu hx1))),(2,.al 97010)] [23] [(10,.ptr 97010 0)] [] [(97010,.cells 62 (k1 e1))] ?_
   obtain⟨J2,hJ2,hm⟩:=cO hm;refine A.J (J:=J2) (r:=r) (λm_3=>[(1,lf bn rest),(5,.ptr 97005 0),(7,.own 500006700),(8,.ptr 97008 0),(10,.ptr 97010 0),(20,lf bD t.Links),(21,i6 (t.Links.length:Int)),(22,i6 (j1:Int))]) (λm_3=>[(97005,.cells 52 (k8 d)),(500006700,.b8 22 950006700 ((t.aC.length:Int).toNat) none),(950006700,.bun (encS 3 1 ak.enc m_3)),(97008,.vec 114 aq.2.l),(97010,.cells 62 (k1 e1))]) ?_ ?_
   ·obtain⟨aF,h2,hm⟩:=aa hm;refine qDs [(5,hro (mO h2) zY)] [] [(34,.bool (decide (aF<d.bM)))] ?_;rcases aA hm with⟨c1,hm⟩|⟨c1,hm⟩
    ·refine qT c1 ?_;obtain⟨e_1,h3,hm⟩:=aa hm;obtain⟨e_2,h4,hm⟩:=aa hm;obtain⟨e_3,h5,hm⟩:=aa hm;obtain⟨e_4,h6,hm⟩:=aa hm;obtain⟨l_1,h7,hm⟩:=aa hm;refine A.late (A.R W0 [] [(3,hvi (v:=aq.2) h3 underlying114 sizeOf3),(4,hvl (v:=aq.2) h3 ty3),(5,hio 3 1 ak.enc kT h4),(6,hlS 3 1 530097002 530097001 ak.enc kS h4),(9,hvi (v:=aq.2) h5 underlying114 sizeOf3),(10,hvl (v:=aq.2) h5 ty3),(11,hix (ix ak h6)),(12,hso 530097001 (st ak (off:=0) (ca:=[i6 0]) h6 h7 rfl) (oA h6).1.1)] [(1,lf bn rest),(5,.ptr 97005 0),(7,.own 500006700),(8,.ptr 97008 0),(20,lf bD t.Links),(21,i6 (t.Links.length:Int)),(22,i6 (j1:Int)),(10,.ptr 97010 0)] [(97005,.cells 52 (k8 d)),(500006700,.b8 22 530097002 ((t.aC.length:Int).toNat) (some (some e_1.toNat,530097001))),(530097002,.bun (encS 3 1 ak.enc (List.set m_1 e_1.toNat []))),(97008,.vec 114 aq.2.l),(97010,.cells 62 (k1 e1)),(530097001,.slice 3 1 (ml ak l_1) 0 false)] (by kernel_rfl) ?_);refine⟨_,_,(aU.zV (d:=500006700) (e:=530097002) (e2:=530097003) (t:=530097001) m_1 ak.enc l_1 rfl rfl rfl rfl rfl rfl rfl),?_⟩;exact Exists.intro (List.set m_1 e_1.toNat l_1) (And.intro hm (aU.go [.rn 530097003 950006700] [] (by kernel_rfl)))
    exact qF c1<|A.skip<|qX m_1 hm
   rintro m_3 hm;rw[hJ2]at hm;obtain⟨bx,h8,hm⟩:=aa hm;refine qDs [(5,hro (mO h8) zY)] [] [(55,.bool (decide (bx<d.bM)))] ?_;rcases aA hm with⟨c2,hm⟩|⟨c2,hm⟩
   ·refine qT c2 ?_;obtain⟨e_5,h9,hm⟩:=aa hm;obtain⟨e_6,h10,hm⟩:=aa hm;obtain⟨e_7,h11,hm⟩:=aa hm;obtain⟨e_8,h12,hm⟩:=aa hm;obtain⟨l_2,h13,hm⟩:=aa hm;refine A.late (A.R W0 [] [(3,hvi (v:=aq.2) h9 underlying114 sizeOf3),(4,hvl (v:=aq.2) h9 ty3),(5,hio 3 1 ak.enc kT h10),(6,hlS 3 1 530097005 530097004 ak.enc kS h10),(9,hvi (v:=aq.2) h11 underlying114 sizeOf3),(10,hvl (v:=aq.2) h11 ty3),(11,hix (ix ak h12)),(12,hso 530097004 (st ak (off:=0) (ca:=[i6 0]) h12 h13 rfl) (oA h12).1.1)] [(1,lf bn rest),(5,.ptr 97005 0),(7,.own 500006700),(8,.ptr 97008 0),(20,lf bD t.Links),(21,i6 (t.Links.length:Int)),(22,i6 (j1:Int))] [(97005,.cells 52 (k8 d)),(500006700,.b8 22 530097005 ((t.aC.length:Int).toNat) (some (some e_5.toNat,530097004))),(530097005,.bun (encS 3 1 ak.enc (List.set m_3 e_5.toNat []))),(97008,.vec 114 aq.2.l),(530097004,.slice 3 1 (ml ak l_2) 0 false)] (by kernel_rfl) ?_);refine⟨_,_,(aU.zV (d:=500006700) (e:=530097005) (e2:=530097006) (t:=530097004) m_3 ak.enc l_2 rfl rfl rfl rfl rfl rfl rfl),?_⟩;exact Exists.intro (List.set m_3 e_5.toNat l_2) (And.intro hm (aU.go [.rn 530097006 950006700] [] (by kernel_rfl)))
   exact qF c2<|A.skip<|qX m_3 hm
  rintro m_2 hm;rw[hJ1]at hm;exact qGs [(0,hto (inc hx1 hb1))] [22] [(22,i6 ((j1+1:Nat):Int))]<|qX m_2 hm
 rintro j1 m_1 hj1 hl1 hm;rw[hK1]at hm;refine qDs [] [] [(23,.bool (decide ((j1:Int)<(t.Links.length:Int))))]<|A.seq<|qF (ltF hl1)<|A.exit<|qDs [] [1,20,21,22,23] [(11,.bI)]<|A.seq<|qDs [(2,hto (lnE ak d.aV))] [] [(70,lf ak d.aV),(71,i6 (d.aV.length:Int)),(72,i6 0)]<|A.block<|A.bS 70 rfl λhb2=>?_
 obtain⟨B2,K2,hB2,hK2,hm⟩:=bh hm;refine A.lpI (l:=d.aV) (j0:=0) (B:=B2) (K:=K2) hm (λj2=>λtv=>[(5,.ptr 97005 0),(7,.own 500006700),(8,.ptr 97008 0),(11,.own 600097011),(70,lf ak d.aV),(71,i6 (d.aV.length:Int)),(72,i6 (j2:Int))]) (λj2=>λtv=>[(97005,.cells 52 (k8 d)),(500006700,.b8 22 950006700 ((t.aC.length:Int).toNat) none),(950006700,.bun (encS 3 1 ak.enc m_1)),(97008,.vec 114 aq.2.l),(600097011,.slice 3 1 (ml ak tv) 0 false)]) ?_ ?_ ?_
 ·exact aU.go [.ad 11 600097011 3 1] [] (by kernel_rfl)
 ·rintro j2 e2 Z2 tv hj2 hx2 hm;rw[hB2]at hm;refine qDs [] [] [(73,.bool (decide ((j2:Int)<(d.aV.length:Int))))]<|A.seq<|qT (ltT hx2)<|A.skip<|A.seq<|A.block<|qDs [(0,hix (ix ak (bu hx2)))] [73] [(13,i6 e2)] ?_
  obtain⟨e_9,h14,hm⟩:=aa hm;obtain⟨l_3,h15,hm⟩:=aa hm;exact qG [(2,hvi (v:=aq.2) h14 underlying114 sizeOf3),(3,hvl (v:=aq.2) h14 ty3),(5,hap 97581 (ap ak (bytes:=8) (by decide) h15))] [11,13] [(11,.own 97581)] [600097011] [(97581,.slice 3 1 (ml ak l_3) 0 false)]<|qGs [(0,hto (inc hx2 hb2))] [72] [(72,i6 ((j2+1:Nat):Int))]<|Exists.intro l_3 (And.intro hm (aU.go [.sw 97581 600097011] [] (by kernel_rfl)))
 rintro j2 tv hj2 hl2 hm;rw[hK2]at hm;refine qDs [] [] [(73,.bool (decide ((j2:Int)<(d.aV.length:Int))))]<|A.seq<|qF (ltF hl2)<|A.exit<|A.weak (aU.ah4 (d:=500006700) (e:=950006700) m_1 ak.enc rfl rfl) ?_
 obtain⟨rD,h16,hm⟩:=aa hm;obtain⟨bV,h17,hm⟩:=aa hm;refine qS [(3,hvi (v:=aq.2) h16 underlying114 sizeOf3),(4,hvl (v:=aq.2) h16 ty3),(6,hle [500006700,600097011] (yY h17) ck68)] [(6,i6 bV)] [] ?_;cases hm;exact A.ret qE
theorem oI{l:List aT}(hm:mN t aP l=some r):RO prog 33 [] [.agg (k2 t),lf bH aP,lf cr l] (i6 r):=by
 refine aZ func33 rfl rfl ?_;unfold mN at hm;refine qS [(0,.al 33003)] [(1,lf bH aP),(2,lf cr l),(3,.ptr 33003 0)] [(33003,.cells 28 (k2 t))]<|A.seq ?_
 obtain⟨aq,h1,hm⟩:=aa hm;refine qDs [(2,hro (y6 h1) ck92)] [] [(7,i6 aq)]<|qDs [] [] [(21,.bool (!decide (aq=0)))] ?_
 rcases aA hm with⟨c1,hm⟩|⟨c1,hm⟩
 ·refine qT c1<|qS [] [(6,i6 aq)] [] ?_
  cases hm;exact A.ret qE
 refine qF c1<|A.skip<|A.seq<|qDs [(1,hto (lnE cr l)),(3,hto (lnE bH aP))] [7,21] [(27,.bool (!decide ((l.length:Int)=(aP.length:Int))))] ?_
 rcases aA hm with⟨c2,hm⟩|⟨c2,hm⟩
 ·refine qT c2<|qS [] [(6,i6 8)] [] ?_
  cases hm;exact A.ret qE
 refine qF c2<|A.skip ?_
 obtain⟨aF,h2,hm⟩:=aa hm;refine qDs [(1,hro (aae h2) ck93)] [27] [(8,lf bn aF)]<|A.seq<|qDs [(1,hto (lnE bH aP))] [1] [(30,lf bH aP),(31,i6 (aP.length:Int)),(32,i6 0)]<|A.block<|A.bS 30 rfl λhb1=>?_
 obtain⟨B1,K1,hB1,hK1,hm⟩:=bh hm;refine A.lpI (l:=aP) (j0:=0) (B:=B1) (K:=K1) hm (λj1=>λgb=>[(2,lf cr l),(3,.ptr 33003 0),(8,lf bn gb),(30,lf bH aP),(31,i6 (aP.length:Int)),(32,i6 (j1:Int))]) (λj1=>λgb=>[(33003,.cells 28 (k2 t))]) ?_ ?_ ?_
 ·exact aU.go [] [8] (by kernel_rfl)
 ·rintro j1 e1 Z1 gb hj1 hx1 hm;rw[hB1]at hm;refine qDs [] [] [(33,.bool (decide ((j1:Int)<(aP.length:Int))))]<|A.seq<|qT (ltT hx1)<|A.skip ?_
  obtain⟨J1,hJ1,hm⟩:=cO hm;refine A.J (J:=J1) (r:=r) (λux=>[(2,lf cr l),(3,.ptr 33003 0),(8,lf bn ux),(30,lf bH aP),(31,i6 (aP.length:Int)),(32,i6 (j1:Int))]) (λux=>[(33003,.cells 28 (k2 t))]) ?_ ?_
  ·refine A.block<|qD [(1,hix (ix bH (bu hx1))),(3,.al 33010)] [33] [(10,.ptr 33010 0),(9,i6 (j1:Int))] [] [(33010,.cells 52 (k8 e1))] ?_
   obtain⟨e_1,h3,hm⟩:=aa hm;refine qD [(2,hix (ix cr h3)),(4,.al 33011)] [9] [(11,.ptr 33011 0)] [] [(33011,.cells 36 (k6 e_1))] ?_;obtain⟨bx,h4,hm⟩:=aa hm;refine qDs [(3,hro (wq h4) ck94)] [] [(12,.bool bx)]<|A.seq ?_
   obtain⟨bV,h5,hm⟩:=aa hm;refine qDs [(2,hro (tw h5) apt)] [] [(48,.bool (bx==bV))] ?_;rcases aA hm with⟨c3,hm⟩|⟨c3,hm⟩
   ·refine qT c3<|qS [] [(6,i6 1)] [] ?_
    cases hm;exact A.ret qE
   refine qF c3<|A.skip<|A.seq<|qDs [] [12,48] [(50,.bool (!bx))] ?_
   rcases aA hm with⟨c4,hm⟩|⟨c4,hm⟩
   ·exact qT c4<|A.exit<|Exists.intro gb (And.intro hm (aU.go [] [8] (by kernel_rfl)))
   refine qF c4<|A.skip ?_
   obtain⟨cK,h6,hm⟩:=aa hm;refine qDs [(5,hro (aaf h6) ck96)] [50] [(13,lf bn cK.1),(14,.bool cK.2)]<|A.seq ?_
   obtain⟨J2,hJ2,hm⟩:=cO hm;refine A.J (J:=J2) (r:=r) (λv_1=>[(2,lf cr l),(3,.ptr 33003 0),(8,lf bn gb),(10,.ptr 33010 0),(11,.ptr 33011 0),(13,lf bn cK.1),(30,lf bH aP),(31,i6 (aP.length:Int)),(32,i6 (j1:Int)),(76,.bool v_1)]) (λv_1=>[(33003,.cells 28 (k2 t)),(33010,.cells 52 (k8 e1)),(33011,.cells 36 (k6 e_1))]) ?_ ?_
   ·rcases aA hm with⟨c5,hm⟩|⟨c5,hm⟩
    ·exact qGs [(2,hto (bE c5))] [14] [(76,.bool true)]<|qX true hm
    rcases aA hm with⟨c6,hm⟩|⟨c6,hm⟩
    ·exact qGs [(2,hto (bE c5)),(9,hto (bE c6))] [14] [(76,.bool true)]<|qX true hm
    obtain⟨cQ,h7,hm⟩:=aa hm;exact qGs [(2,hto (bE c5)),(9,hto (bE c6)),(14,hro (mo h7) aib)] [14] [(76,.bool (!decide (cQ=0)))]<|qX (!decide (cQ=0)) hm
   rintro v_1 hm;rw[hJ2]at hm;rcases aA hm with⟨c7,hm⟩|⟨c7,hm⟩
   ·refine qT c7<|qS [] [(6,i6 1)] [] ?_
    cases hm;exact A.ret qE
   refine qF c7<|A.skip<|A.seq ?_
   obtain⟨dy,h8,hm⟩:=aa hm;refine qD [(2,hro (z7 h8) ck29)] [11,76] [(15,i6 dy.1)] [33011] [] ?_;obtain⟨lR,h9,hm⟩:=aa hm;refine qD [(4,hro (y7 h9) ck97)] [8,10,15] [(88,.bool (!decide (dy.1=lR)))] [33010] [] ?_;rcases aA hm with⟨c8,hm⟩|⟨c8,hm⟩
   ·refine qT c8<|qS [] [(6,i6 1)] [] ?_
    cases hm;exact A.ret qE
   exact qF c8<|A.skip<|qGs [] [13,88] [(8,lf bn cK.1)]<|Exists.intro cK.1 (And.intro hm (aU.go [] [8] (by kernel_rfl)))
  rintro ux hm;rw[hJ1]at hm;exact qGs [(0,hto (inc hx1 hb1))] [32] [(32,i6 ((j1+1:Nat):Int))]<|Exists.intro ux (And.intro hm (aU.go [] [8] (by kernel_rfl)))
 rintro j1 gb hj1 hl1 hm;rw[hK1]at hm;refine qDs [] [] [(33,.bool (decide ((j1:Int)<(aP.length:Int))))]<|A.seq<|qF (ltF hl1)<|A.exit<|qS [] [(6,i6 0)] [] ?_
 cases hm;exact A.ret qE
end Go.Proofs.YtmnbolcmepihlaaGreat
