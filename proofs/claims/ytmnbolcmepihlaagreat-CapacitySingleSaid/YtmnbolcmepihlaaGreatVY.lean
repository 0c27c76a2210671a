/- The walks of cz of the program. No condition but aX aL stand in each. -/
import Derived.Test.YtmnbolcmepihlaaGreatVE
namespace Go.Proofs.YtmnbolcmepihlaaGreat
open Go Go.Proofs.Tryz
set_option maxRecDepth 100000
set_option linter.all false
variable {t:af}
theorem sI{ra1:Int}{r:Int}(hm:mD t ra1=some r):RO prog 172 [] [.agg (k2 t),i6 ra1] (i6 r):=by
 refine aY func172 rfl rfl ?_;unfold mD at hm;refine qS [(0,.al 172002)] [(1,i6 ra1),(2,.ptr 172002 0)] [(172002,.cells 28 (k2 t))]<|A.seq<|qDs [] [] [(5,i6 0)]<|A.block<|A.bC 2 0 rfl rfl rfl λhb1=>?_
 obtain⟨B1,K1,hB1,hK1,hm⟩:=bh hm;refine A.lpI (l:=t.ay) (j0:=0) (B:=B1) (K:=K1) hm (λj1=>λ()=>[(1,i6 ra1),(2,.ptr 172002 0),(5,i6 (j1:Int))]) (λj1=>λ()=>[(172002,.cells 28 (k2 t))]) ?_ ?_ ?_
 ·exact qW
 ·rintro j1 e1 Z1 ⟨⟩ hj1 hx1 hm;rw[hB1]at hm;refine A.seq<|qDs [(3,hto (lnE aV t.ay))] [] [(10,.bool (decide ((j1:Int)<(t.ay.length:Int))))] ?_
  refine qT (ltT hx1)<|A.skip<|A.seq<|A.block<|qDs [(3,hix (ix aV (bn hx1)))] [10] [(20,.bool (decide (e1.ID=ra1)))] ?_
  rcases aB hm with⟨c1,hm⟩|⟨c1,hm⟩
  ·refine qT c1<|qS [] [(4,i6 (j1:Int))] [] ?_
   cases hm;exact A.ret qE
  exact qF c1<|A.skip<|qGs [(1,hto (inc hx1 hb1))] [5,20] [(5,i6 ((j1+1:Nat):Int))]<|qX () hm
 rintro j1 ⟨⟩ hj1 hl1 hm;rw[hK1]at hm;refine A.seq<|qDs [(3,hto (lnE aV t.ay))] [] [(10,.bool (decide ((j1:Int)<(t.ay.length:Int))))] ?_
 refine qF (ltF hl1)<|A.exit<|qS [] [(4,i6 0)] [] ?_
 cases hm;exact A.ret qE
theorem abN{wW:Int}{r:(List Int)}(hm:pL t wW=some r):RO prog 110 [] [.agg (k2 t),i6 wW] (lf aj r):=by
 refine aY func110 rfl rfl ?_;unfold pL at hm;refine qS [(0,.al 110002)] [(1,i6 wW),(2,.ptr 110002 0)] [(110002,.cells 28 (k2 t))] ?_;obtain⟨h1,hm⟩:=en hm;refine qD [(2,hto (lnE aV t.ay)),(3,hms (a:=i6 0) 110015 (0:Int) aj.enc (t.ay.length:Int) zv abW rfl (λI=>by simp[aA]) h1 (by decide))] [] [(5,.own 110015)] [] [(110015,.slice 3 1 (ml aj (List.replicate ((t.ay.length:Int)).toNat (0:Int))) 0 false)]<|A.seq<|qDs [] [] [(6,i6 0)]<|A.block ?_
 obtain⟨F1,n1,hF1,hm⟩:=fP hm;refine A.lpW (F:=F1) hm (λ(d_1,i_1)=>[(1,i6 wW),(2,.ptr 110002 0),(5,.own 600110005),(6,i6 i_1)]) (λ(d_1,i_1)=>[(110002,.cells 28 (k2 t)),(600110005,.slice 3 1 (ml aj d_1) 0 false)]) ?_ ?_
 ·exact aZ.go [.sw 110015 600110005] [] (by kernel_rfl)
 rintro Z1 ⟨d_1,i_1⟩ hm;rw[hF1]at hm;refine A.seq<|qDs [(2,hto (lnE aj d_1))] [] [(19,.bool (decide (i_1<(d_1.length:Int))))] ?_
 rcases aB hm with⟨c1,hm⟩|⟨c1,hm⟩
 ·refine qT c1<|A.skip ?_
  obtain⟨J1,hJ1,hm⟩:=dF hm;refine A.J (J:=J1) (r:=r) (λd_2=>[(1,i6 wW),(2,.ptr 110002 0),(5,.own 600110005),(6,i6 i_1)]) (λd_2=>[(110002,.cells 28 (k2 t)),(600110005,.slice 3 1 (ml aj d_2) 0 false)]) ?_ ?_
  ·refine A.block ?_;obtain⟨e_1,h2,hm⟩:=aa hm;obtain⟨l_1,h3,hm⟩:=aa hm;refine qD [(2,hix (ix aj h2)),(3,hso 600110005 (st aj (off:=0) (ca:=[i6 1073741824]) h2 h3 rfl) (l9 h2).1.1)] [19] [] [600110005] [(600110005,.slice 3 1 (ml aj l_1) 0 false)] ?_;obtain⟨e_2,h4,hm⟩:=aa hm;refine qDs [(3,hix (ix aV h4))] [] [(32,.bool (decide (e_2.ID=wW)))] ?_;rcases aB hm with⟨c2,hm⟩|⟨c2,hm⟩
   ·refine qT c2 ?_;obtain⟨e_3,h5,hm⟩:=aa hm;obtain⟨l_2,h6,hm⟩:=aa hm;exact qG [(2,hix (ix aj h5)),(3,hso 600110005 (st aj (off:=0) (ca:=[i6 0]) h5 h6 rfl) (l9 h5).1.1)] [32] [] [600110005] [(600110005,.slice 3 1 (ml aj l_2) 0 false)]<|qX l_2 hm
   exact qF c2<|A.skip<|qX l_1 hm
  rintro d_2 hm;rw[hJ1]at hm;exact qGs [] [6] [(6,i6 (w64 (i_1+1)))]<|qX (d_2,w64 (i_1+1)) hm
 refine qF c1<|A.exit<|A.seq<|qDs [] [1,6,19] [(7,i6 0)]<|A.block ?_
 obtain⟨F2,n2,hF2,hm⟩:=fP hm;refine A.lpW (F:=F2) hm (λ(d_3,jY)=>[(2,.ptr 110002 0),(5,.own 600110005),(7,i6 jY)]) (λ(d_3,jY)=>[(110002,.cells 28 (k2 t)),(600110005,.slice 3 1 (ml aj d_3) 0 false)]) ?_ ?_
 ·exact qW
 rintro Z2 ⟨d_3,jY⟩ hm;rw[hF2]at hm;refine A.seq<|qDs [(2,hto (lnE aj d_3))] [] [(39,.bool (decide (jY<(d_3.length:Int))))] ?_
 rcases aB hm with⟨c3,hm⟩|⟨c3,hm⟩
 ·refine qT c3<|A.skip<|A.seq<|A.block<|qDs [] [39] [(8,i6 0)]<|A.block<|A.bC 2 1 rfl rfl rfl λhb3=>?_
  obtain⟨B3,K3,hB3,hK3,hm⟩:=bh hm;refine A.lpI (l:=t.Links) (j0:=0) (B:=B3) (K:=K3) hm (λj3=>λd_4=>[(2,.ptr 110002 0),(5,.own 600110005),(7,i6 jY),(8,i6 (j3:Int))]) (λj3=>λd_4=>[(110002,.cells 28 (k2 t)),(600110005,.slice 3 1 (ml aj d_4) 0 false)]) ?_ ?_ ?_
  ·exact qW
  ·rintro j3 e3 Z3 d_4 hj3 hx3 hm;rw[hB3]at hm;refine A.seq<|qDs [(3,hto (lnE bw t.Links))] [] [(46,.bool (decide ((j3:Int)<(t.Links.length:Int))))] ?_
   refine qT (ltT hx3)<|A.skip ?_
   obtain⟨J2,hJ2,hm⟩:=dF hm;refine A.J (J:=J2) (r:=r) (λd_5=>[(2,.ptr 110002 0),(5,.own 600110005),(7,i6 jY),(8,i6 (j3:Int))]) (λd_5=>[(110002,.cells 28 (k2 t)),(600110005,.slice 3 1 (ml aj d_5) 0 false)]) ?_ ?_
   ·refine A.block<|qD [(3,hix (ix bw (bn hx3))),(5,.al 110009)] [46] [(9,.ptr 110009 0)] [] [(110009,.cells 62 (k1 e3))] ?_
    obtain⟨az,h7,hm⟩:=aa hm;obtain⟨aH,h8,hm⟩:=aa hm;refine qDs [(3,hro (sI h7) ajO),(7,hro (sI h8) ajO)] [] [(10,i6 az),(11,i6 aH)] ?_;obtain⟨J3,hJ3,hm⟩:=dF hm;refine A.J (J:=J3) (r:=r) (λd_6=>[(2,.ptr 110002 0),(5,.own 600110005),(7,i6 jY),(8,i6 (j3:Int)),(9,.ptr 110009 0),(10,i6 az),(11,i6 aH)]) (λd_6=>[(110002,.cells 28 (k2 t)),(600110005,.slice 3 1 (ml aj d_6) 0 false),(110009,.cells 62 (k1 e3))]) ?_ ?_
    ·obtain⟨e_4,h9,hm⟩:=aa hm;refine qDs [(2,hix (ix aj h9)),(3,hlo 600110005 0 (ix aj h9))] [] [(66,.bool (decide (e_4<1073741824)))] ?_;rcases aB hm with⟨c4,hm⟩|⟨c4,hm⟩
     ·refine qT c4 ?_;obtain⟨e_5,h10,hm⟩:=aa hm;obtain⟨l_3,h11,hm⟩:=aa hm;exact qG [(4,hix (ix aj h10)),(5,hlo 600110005 0 (ix aj h10)),(10,hix (ix aj h9)),(11,hlo 600110005 0 (ix aj h9)),(14,hix (ix aj h10)),(15,hso 600110005 (st aj (off:=0) (ca:=[i6 (if(w64 (e3.ec+e_4))<e_5 then w64 (e3.ec+e_4)else e_5)]) h10 h11 rfl) (l9 h10).1.1)] [66] [] [600110005] [(600110005,.slice 3 1 (ml aj l_3) 0 false)]<|qX l_3 hm
     exact qF c4<|A.skip<|qX d_4 hm
    rintro d_6 hm;rw[hJ3]at hm;obtain⟨e_6,h12,hm⟩:=aa hm;refine qDs [(2,hix (ix aj h12)),(3,hlo 600110005 0 (ix aj h12))] [] [(86,.bool (decide (e_6<1073741824)))] ?_;rcases aB hm with⟨c5,hm⟩|⟨c5,hm⟩
    ·refine qT c5 ?_;obtain⟨e_7,h13,hm⟩:=aa hm;obtain⟨l_4,h14,hm⟩:=aa hm;exact qG [(4,hix (ix aj h13)),(5,hlo 600110005 0 (ix aj h13)),(10,hix (ix aj h12)),(11,hlo 600110005 0 (ix aj h12)),(14,hix (ix aj h13)),(15,hso 600110005 (st aj (off:=0) (ca:=[i6 (if(w64 (e3.eB+e_6))<e_7 then w64 (e3.eB+e_6)else e_7)]) h13 h14 rfl) (l9 h13).1.1)] [9,10,11,86] [] [600110005,110009] [(600110005,.slice 3 1 (ml aj l_4) 0 false)]<|qX l_4 hm
    exact qF c5<|A.skip<|qX d_6 hm
   rintro d_5 hm;rw[hJ2]at hm;exact qGs [(1,hto (inc hx3 hb3))] [8] [(8,i6 ((j3+1:Nat):Int))]<|qX d_5 hm
  rintro j3 d_4 hj3 hl3 hm;rw[hK3]at hm;refine A.seq<|qDs [(3,hto (lnE bw t.Links))] [] [(46,.bool (decide ((j3:Int)<(t.Links.length:Int))))] ?_
  exact qF (ltF hl3)<|A.exit<|qGs [] [7,8,46] [(7,i6 (w64 (jY+1)))]<|qX (d_4,w64 (jY+1)) hm
 refine qF c3<|A.exit<|qD [] [2,5,7,39] [(4,.own 600110005)] [110002] []<|A.ret ?_
 obtain rfl:=some_inj hm;exact A.fin W0 [.fz [600110005]] rfl (by kernel_rfl)
theorem abO{d:List Int}{ra2:Int}{r:Int}(hm:nK t d ra2=some r):RO prog 109 [] [.agg (k2 t),lf aj d,i6 ra2] (i6 r):=by
 refine aY func109 rfl rfl ?_;unfold nK at hm;refine qS [(0,.al 109003)] [(1,lf aj d),(2,i6 ra2),(3,.ptr 109003 0)] [(109003,.cells 28 (k2 t))]<|A.seq<|qDs [] [] [(7,i6 0)]<|A.block<|A.bC 3 0 rfl rfl rfl λhb1=>?_
 obtain⟨B1,K1,hB1,hK1,hm⟩:=bh hm;refine A.lpI (l:=t.ay) (j0:=0) (B:=B1) (K:=K1) hm (λj1=>λ()=>[(1,lf aj d),(2,i6 ra2),(3,.ptr 109003 0),(7,i6 (j1:Int))]) (λj1=>λ()=>[(109003,.cells 28 (k2 t))]) ?_ ?_ ?_
 ·exact qW
 ·rintro j1 e1 Z1 ⟨⟩ hj1 hx1 hm;rw[hB1]at hm;refine A.seq<|qDs [(3,hto (lnE aV t.ay))] [] [(12,.bool (decide ((j1:Int)<(t.ay.length:Int))))] ?_
  refine qT (ltT hx1)<|A.skip<|A.seq<|A.block<|qDs [(3,hix (ix aV (bn hx1)))] [12] [(22,.bool (decide (e1.ID=ra2)))] ?_
  rcases aB hm with⟨c1,hm⟩|⟨c1,hm⟩
  ·refine qT c1 ?_;obtain⟨e_1,h1,hm⟩:=aa hm;refine qS [(2,hix (ix aj h1))] [(6,i6 e_1)] [] ?_;cases hm;exact A.ret qE
  exact qF c1<|A.skip<|qGs [(1,hto (inc hx1 hb1))] [7,22] [(7,i6 ((j1+1:Nat):Int))]<|qX () hm
 rintro j1 ⟨⟩ hj1 hl1 hm;rw[hK1]at hm;refine A.seq<|qDs [(3,hto (lnE aV t.ay))] [] [(12,.bool (decide ((j1:Int)<(t.ay.length:Int))))] ?_
 refine qF (ltF hl1)<|A.exit<|qS [] [(6,i6 1073741824)] [] ?_
 cases hm;exact A.ret qE
theorem zQ{dA:Int}{ff:Int}{r:Int×Bool}(hm:nj t dA ff=some r):RO prog 49 [] [.agg (k2 t),i6 dA,i6 ff] (.tup [i6 r.1,.bool r.2]):=by
 refine aY func49 rfl rfl ?_;unfold nj at hm;refine qS [(0,.al 49003)] [(1,i6 dA),(2,i6 ff),(3,.ptr 49003 0)] [(49003,.cells 28 (k2 t))]<|A.seq ?_
 obtain⟨J1,hJ1,hm⟩:=dF hm;refine A.J (J:=J1) (r:=r) (λv_1=>[(1,i6 dA),(2,i6 ff),(3,.ptr 49003 0),(18,.bool v_1)]) (λv_1=>[(49003,.cells 28 (k2 t))]) ?_ ?_
 ·obtain⟨az,h1,hm⟩:=aa hm;rcases aB hm with⟨c1,hm⟩|⟨c1,hm⟩
  ·exact qGs [(2,hro (jv h1) aas),(4,hto (bE c1))] [] [(18,.bool true)]<|qX true hm
  obtain⟨aH,h2,hm⟩:=aa hm;exact qGs [(2,hro (jv h1) aas),(4,hto (bE c1)),(7,hro (jv h2) aas)] [] [(18,.bool (!aH))]<|qX (!aH) hm
 rintro v_1 hm;rw[hJ1]at hm;rcases aB hm with⟨c2,hm⟩|⟨c2,hm⟩
 ·refine qT c2<|qS [] [(6,i6 0),(7,.bool false)] [] ?_
  cases hm;exact A.ret qE
 refine qF c2<|A.skip ?_
 obtain⟨bA,h3,hm⟩:=aa hm;obtain⟨bU,h4,hm⟩:=aa hm;refine qS [(3,hro (abN h3) ar5),(5,hro (abO h4) ar4)] [(8,i6 bU)] []<|A.seq<|qDs [] [] [(26,.bool (decide (bU=1073741824)))] ?_
 rcases aB hm with⟨c3,hm⟩|⟨c3,hm⟩
 ·refine qT c3<|qS [] [(6,i6 0),(7,.bool false)] [] ?_
  cases hm;exact A.ret qE
 refine qF c3<|A.skip<|qS [] [(6,i6 bU),(7,.bool true)] [] ?_
 cases hm;exact A.ret qE
variable {receivers:List Int}
theorem vn{root:Int}{r:Bool}(hm:jk t root receivers=some r):RO prog 66 [] [.agg (k2 t),i6 root,lf aj receivers] (.bool r):=by
 refine aY func66 rfl rfl ?_;unfold jk at hm;refine qS [(0,.al 66003)] [(1,i6 root),(2,lf aj receivers),(3,.ptr 66003 0)] [(66003,.cells 28 (k2 t))]<|A.seq<|qDs [(1,hto (lnE aj receivers))] [2] [(11,lf aj receivers),(12,i6 (receivers.length:Int)),(13,i6 0)]<|A.block<|A.bS 11 rfl λhb1=>?_
 obtain⟨B1,K1,hB1,hK1,hm⟩:=bh hm;refine A.lpI (l:=receivers) (j0:=0) (B:=B1) (K:=K1) hm (λj1=>λ()=>[(1,i6 root),(3,.ptr 66003 0),(11,lf aj receivers),(12,i6 (receivers.length:Int)),(13,i6 (j1:Int))]) (λj1=>λ()=>[(66003,.cells 28 (k2 t))]) ?_ ?_ ?_
 ·exact qW
 ·rintro j1 e1 Z1 ⟨⟩ hj1 hx1 hm;rw[hB1]at hm;refine qDs [] [] [(14,.bool (decide ((j1:Int)<(receivers.length:Int))))]<|A.seq<|qT (ltT hx1)<|A.skip<|A.seq<|A.block<|qDs [(0,hix (ix aj (bn hx1)))] [14] [(8,i6 e1)] ?_
  obtain⟨az,h1,hm⟩:=aa hm;refine qDs [(3,hro (zQ h1) ck49)] [8] [(10,.bool az.2)]<|qDs [] [10] [(25,.bool (!az.2))] ?_
  rcases aB hm with⟨c1,hm⟩|⟨c1,hm⟩
  ·refine qT c1<|qS [] [(6,.bool false)] [] ?_
   cases hm;exact A.ret qE
  exact qF c1<|A.skip<|qGs [(0,hto (inc hx1 hb1))] [13,25] [(13,i6 ((j1+1:Nat):Int))]<|qX () hm
 rintro j1 ⟨⟩ hj1 hl1 hm;rw[hK1]at hm;refine qDs [] [] [(14,.bool (decide ((j1:Int)<(receivers.length:Int))))]<|A.seq<|qF (ltF hl1)<|A.exit<|qS [] [(6,.bool true)] [] ?_
 cases hm;exact A.ret qE
theorem yS{r:(List (List Int))×(Vec 100)}(hm:mE t=some r):RO prog 67 [] [.agg (k2 t)] (.tup [lf (eL aj) r.1,.arr r.2.l]):=by
 refine aY func67 rfl rfl ?_;unfold mE at hm;refine qS [(0,.al 67001),(2,hva 67003 (Vec.zero 100) abV (by kernel_rfl))] [(1,.ptr 67001 0),(3,.ptr 67003 0)] [(67001,.cells 28 (k2 t)),(67003,.vec 114 (Vec.zero 100).l)]<|qD [(0,hva 67004 (Vec.zero 100) abV (by kernel_rfl))] [] [(4,.ptr 67004 0)] [] [(67004,.vec 114 (Vec.zero 100).l)]<|A.seq<|qDs [(2,hto (lnE aV t.ay))] [] [(12,lf aV t.ay),(13,i6 (t.ay.length:Int)),(14,i6 0)]<|A.block<|A.bS 12 rfl λhb1=>?_
 obtain⟨B1,K1,hB1,hK1,hm⟩:=bh hm;refine A.lpI (l:=t.ay) (j0:=0) (B:=B1) (K:=K1) hm (λj1=>λm_1=>[(1,.ptr 67001 0),(3,.ptr 67003 0),(4,.ptr 67004 0),(12,lf aV t.ay),(13,i6 (t.ay.length:Int)),(14,i6 (j1:Int))]) (λj1=>λm_1=>[(67001,.cells 28 (k2 t)),(67003,.vec 114 (Vec.zero 100).l),(67004,.vec 114 m_1.l)]) ?_ ?_ ?_
 ·exact qW
 ·rintro j1 e1 Z1 m_1 hj1 hx1 hm;rw[hB1]at hm;refine qDs [] [] [(15,.bool (decide ((j1:Int)<(t.ay.length:Int))))]<|A.seq<|qT (ltT hx1)<|A.skip<|A.seq<|A.block<|qD [(1,hix (ix aV (bn hx1))),(3,.al 67006)] [15] [(6,.ptr 67006 0),(5,i6 (j1:Int))] [] [(67006,.cells 31 (k0 e1))] ?_
  obtain⟨e_1,h1,hm⟩:=aa hm;exact qG [(3,hvi (v:=m_1) h1 underlying114 sizeOf3),(4,hvs (v:=m_1) (j1:Int) h1 ty3)] [6,5] [] [67004,67006] [(67004,.vec 114 (Vec.put m_1 e1.ID.toNat (j1:Int)).l)]<|qGs [(0,hto (inc hx1 hb1))] [14] [(14,i6 ((j1+1:Nat):Int))]<|qX (Vec.put m_1 e1.ID.toNat (j1:Int)) hm
 rintro j1 m_1 hj1 hl1 hm;rw[hK1]at hm;refine qDs [] [] [(15,.bool (decide ((j1:Int)<(t.ay.length:Int))))]<|A.seq<|qF (ltF hl1)<|A.exit ?_
 obtain⟨h2,hm⟩:=en hm;refine qD [(2,hto (lnE aV t.ay)),(3,hmr 67027 (t.ay.length:Int) aeq aer h2 (by decide))] [12,13,14,15] [(7,.own 67027)] [] [(67027,.slice 22 1 (List.replicate (t.ay.length:Int).toNat [.bF]) 0 false)]<|A.weak ((aZ.acE (d:=67027) (e:=450067027) 3 1 aj.enc (aeK h2) rfl rfl rfl rfl rfl))<|A.seq<|qS [(1,hno 3 1 aj.enc (List.replicate (t.ay.length:Int).toNat []:List (List Int)) l8)] [(1,.ptr 67001 0),(3,.ptr 67003 0),(4,.ptr 67004 0),(7,.own 67027),(29,i6 ((List.replicate (t.ay.length:Int).toNat []:List (List Int)).length:Int)),(30,i6 0)] [(67001,.cells 28 (k2 t)),(67003,.vec 114 (Vec.zero 100).l),(67004,.vec 114 m_1.l),(67027,.cg 22 450067027 ((t.ay.length:Int).toNat) none),(450067027,.bun (encS 3 1 aj.enc (List.replicate (t.ay.length:Int).toNat []:List (List Int))))]<|A.block ?_
 obtain⟨hh2,hm⟩:=en hm;obtain⟨B2,K2,hB2,hK2,hm⟩:=lV hm;refine A.lpN (hi:=((List.replicate (t.ay.length:Int).toNat []:List (List Int)).length:Int)) (B:=B2) (K:=K2) hm rfl (λj2=>λm_2=>[(1,.ptr 67001 0),(3,.ptr 67003 0),(4,.ptr 67004 0),(7,.own 67027),(29,i6 ((List.replicate (t.ay.length:Int).toNat []:List (List Int)).length:Int)),(30,i6 (j2:Int))]) (λj2=>λm_2=>[(67001,.cells 28 (k2 t)),(67003,.vec 114 (Vec.zero 100).l),(67004,.vec 114 m_1.l),(67027,.cg 22 450067027 ((t.ay.length:Int).toNat) none),(450067027,.bun (encS 3 1 aj.enc m_2))]) ?_ ?_ ?_
 ·exact qW
 ·rintro j2 Z2 m_2 hj2 hx2 hm;rw[hB2]at hm;refine qDs [] [] [(31,.bool (decide ((j2:Int)<((List.replicate (t.ay.length:Int).toNat []:List (List Int)).length:Int))))]<|A.seq<|A.cT rfl (decide_eq_true hx2)<|A.skip<|A.seq<|A.block<|qDs [] [31] [(8,i6 (j2:Int))] ?_
  obtain⟨h3,hm⟩:=en hm;obtain⟨e_2,h4,hm⟩:=aa hm;exact qG [(4,hto (lnE aV t.ay)),(5,hms (a:=i6 0) 67038 (0:Int) aj.enc (t.ay.length:Int) zv abW rfl (λI=>by simp[aA]) h3 (by decide)),(6,hio 3 1 aj.enc l8 h4),(7,hsS 3 1 530067001 aj.enc (List.replicate ((t.ay.length:Int)).toNat (0:Int)) l7 h4)] [8] [] [67027,450067027] [(67027,.cg 22 530067001 ((t.ay.length:Int).toNat) none),(530067001,.bun (encS 3 1 aj.enc (List.set m_2 (j2:Int).toNat (List.replicate ((t.ay.length:Int)).toNat (0:Int)))))]<|qGs [(0,hto (wE (by omega) hx2 (of_decide_eq_true hh2)))] [30] [(30,i6 (j2+1:Int))]<|Exists.intro (List.set m_2 (j2:Int).toNat (List.replicate ((t.ay.length:Int)).toNat (0:Int))) (And.intro hm (aZ.go [.rn 530067001 450067027] [] (by kernel_rfl)))
 rintro j2 m_2 hj2 hl2 hm;rw[hK2]at hm;refine qDs [] [] [(31,.bool (decide ((j2:Int)<((List.replicate (t.ay.length:Int).toNat []:List (List Int)).length:Int))))]<|A.seq<|A.cF rfl (geF hl2)<|A.exit<|A.seq<|qD [(2,hto (lnE bw t.Links))] [1,29,30,31] [(42,lf bw t.Links),(43,i6 (t.Links.length:Int)),(44,i6 0)] [67001] []<|A.block<|A.bS 42 rfl λhb3=>?_
 obtain⟨B3,K3,hB3,hK3,hm⟩:=bh hm;refine A.lpI (l:=t.Links) (j0:=0) (B:=B3) (K:=K3) hm (λj3=>λm_3=>[(3,.ptr 67003 0),(4,.ptr 67004 0),(7,.own 67027),(42,lf bw t.Links),(43,i6 (t.Links.length:Int)),(44,i6 (j3:Int))]) (λj3=>λm_3=>[(67003,.vec 114 (Vec.zero 100).l),(67004,.vec 114 m_1.l),(67027,.cg 22 450067027 ((t.ay.length:Int).toNat) none),(450067027,.bun (encS 3 1 aj.enc m_3))]) ?_ ?_ ?_
 ·exact qW
 ·rintro j3 e3 Z3 m_3 hj3 hx3 hm;rw[hB3]at hm;refine qDs [] [] [(45,.bool (decide ((j3:Int)<(t.Links.length:Int))))]<|A.seq<|qT (ltT hx3)<|A.skip<|A.seq<|A.block<|qD [(0,hix (ix bw (bn hx3))),(2,.al 67010)] [45] [(10,.ptr 67010 0)] [] [(67010,.cells 62 (k1 e3))] ?_
  obtain⟨e_3,h5,hm⟩:=aa hm;obtain⟨e_4,h6,hm⟩:=aa hm;obtain⟨e_5,h7,hm⟩:=aa hm;obtain⟨e_6,h8,hm⟩:=aa hm;obtain⟨e_7,h9,hm⟩:=aa hm;obtain⟨e_8,h10,hm⟩:=aa hm;obtain⟨e_9,h11,hm⟩:=aa hm;exact qG [(3,hvi (v:=m_1) h5 underlying114 sizeOf3),(4,hvl (v:=m_1) h5 ty3),(5,hio 3 1 aj.enc l8 h6),(6,hrw (T':=3) (sz:=1) (enc:=aj.enc) (l:=m_3) h6 l7),(9,hvi (v:=m_1) h7 underlying114 sizeOf3),(10,hvl (v:=m_1) h7 ty3),(14,hvi (v:=m_1) h7 underlying114 sizeOf3),(15,hvl (v:=m_1) h7 ty3),(16,hio 3 1 aj.enc l8 h8),(17,hrw (T':=3) (sz:=1) (enc:=aj.enc) (l:=m_3) h8 l7),(20,hvi (v:=m_1) h5 underlying114 sizeOf3),(21,hvl (v:=m_1) h5 ty3),(26,hri (T':=3) (enc:=aj.enc) (l:=m_3) h6 h9 ot),(27,hrs (T':=3) (enc:=aj.enc) (f:=(AV.int .i64)) e3.ec h6 h9 (λ_=>rfl) rfl rfl ty3),(28,hri (T':=3) (enc:=aj.enc) (l:=(List.set m_3 e_3.toNat (List.set e_4 e_5.toNat e3.ec))) h10 h11 ot),(29,hrs (T':=3) (enc:=aj.enc) (f:=(AV.int .i64)) e3.eB h10 h11 (λ_=>rfl) rfl rfl ty3)] [10] [] [450067027,67010] [(450067027,.bun (encS 3 1 aj.enc (List.set (List.set m_3 e_3.toNat (List.set e_4 e_5.toNat e3.ec)) e_5.toNat (List.set e_8 e_3.toNat e3.eB))))]<|qGs [(0,hto (inc hx3 hb3))] [44] [(44,i6 ((j3+1:Nat):Int))]<|qX (List.set (List.set m_3 e_3.toNat (List.set e_4 e_5.toNat e3.ec)) e_5.toNat (List.set e_8 e_3.toNat e3.eB)) hm
 rintro j3 m_3 hj3 hl3 hm;rw[hK3]at hm;refine qDs [] [] [(45,.bool (decide ((j3:Int)<(t.Links.length:Int))))]<|A.seq<|qF (ltF hl3)<|A.exit<|A.weak (aZ.ahT (d:=67027) (e:=450067027) m_3 aj.enc rfl rfl)<|qS [(1,hvw m_1 zy),(3,hvt (Vec.zero 100) m_1 zy.size)] [(3,.ptr 67003 0),(2,.own 67027)] [(67003,.vec 114 m_1.l),(67027,.slice 22 1 (ml (eL aj) m_3) 0 false)]<|A.ret ?_
 obtain rfl:=some_inj hm;exact A.finV (x:=.tup [.own 67027,.arr m_1.l]) (e1:=[(3,.ptr 67003 0),(2,.own 67027)]) (s1:=[(67003,.vec 114 m_1.l),(67027,.slice 22 1 (ml (eL aj) m_3) (ml (eL aj) m_3).length true)]) W0 [.fz [67027]] rfl (by kernel_rfl) (.two (oH W0 (by kernel_rfl)) (.arr _ _ 67003 114 _ m_1.l rfl (by kernel_rfl) zy (Vec.h _))) (by kernel_rfl) (by kernel_rfl)
theorem yT{ck:List (List Int)}{root:Int}{r:Int}(hm:mF ck root receivers=some r):RO prog 68 [] [lf (eL aj) ck,i6 root,lf aj receivers] (i6 r):=by
 refine aY func68 rfl rfl ?_;unfold mF at hm;refine qS [] [(0,lf (eL aj) ck),(1,i6 root),(2,lf aj receivers)] []<|qDs [(1,hto (lnE (eL aj) ck))] [] [(7,i6 (ck.length:Int))] ?_
 obtain⟨h1,hm⟩:=en hm;obtain⟨h2,hm⟩:=en hm;refine qD [(1,hto (lnE aj receivers)),(3,.sh (IntKind.wrap .u64 (receivers.length:Int)) (of_decide_eq_true h1)),(4,hmr 68024 (IntKind.wrap .i64 ((1:Int)*2 ^ min (IntKind.wrap .u64 (receivers.length:Int)).toNat 64)) aeq aer h2 (by decide))] [] [(8,.own 68024)] [] [(68024,.slice 22 1 (List.replicate (IntKind.wrap .i64 ((1:Int)*2 ^ min (IntKind.wrap .u64 (receivers.length:Int)).toNat 64)).toNat [.bF]) 0 false)]<|A.weak ((aZ.acE (d:=68024) (e:=450068024) 3 1 aj.enc (aeK h2) rfl rfl rfl rfl rfl))<|A.seq<|qS [(1,hno 3 1 aj.enc (List.replicate (IntKind.wrap .i64 ((1:Int)*2 ^ min (IntKind.wrap .u64 (receivers.length:Int)).toNat 64)).toNat []:List (List Int)) l8)] [(0,lf (eL aj) ck),(1,i6 root),(2,lf aj receivers),(7,i6 (ck.length:Int)),(8,.own 68024),(26,i6 ((List.replicate (IntKind.wrap .i64 ((1:Int)*2 ^ min (IntKind.wrap .u64 (receivers.length:Int)).toNat 64)).toNat []:List (List Int)).length:Int)),(27,i6 0)] [(68024,.cg 22 450068024 ((IntKind.wrap .i64 ((1:Int)*2 ^ min (IntKind.wrap .u64 (receivers.length:Int)).toNat 64)).toNat) none),(450068024,.bun (encS 3 1 aj.enc (List.replicate (IntKind.wrap .i64 ((1:Int)*2 ^ min (IntKind.wrap .u64 (receivers.length:Int)).toNat 64)).toNat []:List (List Int))))]<|A.block ?_
 obtain⟨hh1,hm⟩:=en hm;obtain⟨B1,K1,hB1,hK1,hm⟩:=lV hm;refine A.lpN (hi:=((List.replicate (IntKind.wrap .i64 ((1:Int)*2 ^ min (IntKind.wrap .u64 (receivers.length:Int)).toNat 64)).toNat []:List (List Int)).length:Int)) (B:=B1) (K:=K1) hm rfl (λj1=>λm_1=>[(0,lf (eL aj) ck),(1,i6 root),(2,lf aj receivers),(7,i6 (ck.length:Int)),(8,.own 68024),(26,i6 ((List.replicate (IntKind.wrap .i64 ((1:Int)*2 ^ min (IntKind.wrap .u64 (receivers.length:Int)).toNat 64)).toNat []:List (List Int)).length:Int)),(27,i6 (j1:Int))]) (λj1=>λm_1=>[(68024,.cg 22 450068024 ((IntKind.wrap .i64 ((1:Int)*2 ^ min (IntKind.wrap .u64 (receivers.length:Int)).toNat 64)).toNat) none),(450068024,.bun (encS 3 1 aj.enc m_1))]) ?_ ?_ ?_
 ·exact qW
 ·rintro j1 Z1 m_1 hj1 hx1 hm;rw[hB1]at hm;refine qDs [] [] [(28,.bool (decide ((j1:Int)<((List.replicate (IntKind.wrap .i64 ((1:Int)*2 ^ min (IntKind.wrap .u64 (receivers.length:Int)).toNat 64)).toNat []:List (List Int)).length:Int))))]<|A.seq<|A.cT rfl (decide_eq_true hx1)<|A.skip<|A.seq<|A.block<|qDs [] [28] [(9,i6 (j1:Int))] ?_
  obtain⟨h3,hm⟩:=en hm;obtain⟨e_1,h4,hm⟩:=aa hm;refine qD [(3,hms (a:=i6 0) 68033 (0:Int) aj.enc (ck.length:Int) zv abW rfl (λI=>by simp[aA]) h3 (by decide)),(4,hio 3 1 aj.enc l8 h4),(5,hsS 3 1 530068001 aj.enc (List.replicate ((ck.length:Int)).toNat (0:Int)) l7 h4)] [] [] [68024,450068024] [(68024,.cg 22 530068001 ((IntKind.wrap .i64 ((1:Int)*2 ^ min (IntKind.wrap .u64 (receivers.length:Int)).toNat 64)).toNat) none),(530068001,.bun (encS 3 1 aj.enc (List.set m_1 (j1:Int).toNat (List.replicate ((ck.length:Int)).toNat (0:Int)))))]<|A.seq ?_
  obtain⟨e_2,h5,hm⟩:=aa hm;refine qDs [(2,hio 3 1 aj.enc l8 h5),(3,hrw (T':=3) (sz:=1) (enc:=aj.enc) (l:=(List.set m_1 (j1:Int).toNat (List.replicate ((ck.length:Int)).toNat (0:Int)))) h5 l7),(4,hrn (T':=3) (sz:=1) (enc:=aj.enc) (l:=(List.set m_1 (j1:Int).toNat (List.replicate ((ck.length:Int)).toNat (0:Int)))) h5 ot.und)] [] [(39,i6 (e_2.length:Int)),(40,i6 0)]<|A.block ?_
  obtain⟨hh2,hm⟩:=en hm;obtain⟨B2,K2,hB2,hK2,hm⟩:=lV hm;refine A.lpN (hi:=(e_2.length:Int)) (B:=B2) (K:=K2) hm rfl (λj2=>λm_2=>[(0,lf (eL aj) ck),(1,i6 root),(2,lf aj receivers),(7,i6 (ck.length:Int)),(8,.own 68024),(9,i6 (j1:Int)),(26,i6 ((List.replicate (IntKind.wrap .i64 ((1:Int)*2 ^ min (IntKind.wrap .u64 (receivers.length:Int)).toNat 64)).toNat []:List (List Int)).length:Int)),(27,i6 (j1:Int)),(39,i6 (e_2.length:Int)),(40,i6 (j2:Int))]) (λj2=>λm_2=>[(68024,.cg 22 450068024 ((IntKind.wrap .i64 ((1:Int)*2 ^ min (IntKind.wrap .u64 (receivers.length:Int)).toNat 64)).toNat) none),(450068024,.bun (encS 3 1 aj.enc m_2))]) ?_ ?_ ?_
  ·exact aZ.go [.rn 530068001 450068024] [] (by kernel_rfl)
  ·rintro j2 Z2 m_2 hj2 hx2 hm;rw[hB2]at hm;refine qDs [] [] [(41,.bool (decide ((j2:Int)<(e_2.length:Int))))]<|A.seq<|A.cT rfl (decide_eq_true hx2)<|A.skip ?_
   obtain⟨J1,hJ1,hm⟩:=dF hm;refine A.J (J:=J1) (r:=r) (λm_3=>[(0,lf (eL aj) ck),(1,i6 root),(2,lf aj receivers),(7,i6 (ck.length:Int)),(8,.own 68024),(9,i6 (j1:Int)),(26,i6 ((List.replicate (IntKind.wrap .i64 ((1:Int)*2 ^ min (IntKind.wrap .u64 (receivers.length:Int)).toNat 64)).toNat []:List (List Int)).length:Int)),(27,i6 (j1:Int)),(39,i6 (e_2.length:Int)),(40,i6 (j2:Int))]) (λm_3=>[(68024,.cg 22 450068024 ((IntKind.wrap .i64 ((1:Int)*2 ^ min (IntKind.wrap .u64 (receivers.length:Int)).toNat 64)).toNat) none),(450068024,.bun (encS 3 1 aj.enc m_3))]) ?_ ?_
   ·refine A.block<|qDs [] [41] [(10,i6 (j2:Int))] ?_
    obtain⟨e_3,h6,hm⟩:=aa hm;obtain⟨e_4,h7,hm⟩:=aa hm;refine qD [(2,hio 3 1 aj.enc l8 h6),(3,hrw (T':=3) (sz:=1) (enc:=aj.enc) (l:=m_2) h6 l7),(5,hri (T':=3) (enc:=aj.enc) (l:=m_2) h6 h7 ot),(6,hrs (T':=3) (enc:=aj.enc) (f:=(AV.int .i64)) (1099511627776:Int) h6 h7 (λ_=>rfl) rfl rfl ty3)] [] [] [450068024] [(450068024,.bun (encS 3 1 aj.enc (List.set m_2 (j1:Int).toNat (List.set e_3 (j2:Int).toNat (1099511627776:Int)))))]<|qDs [] [] [(50,.bool (decide ((j1:Int)=(0:Int))))] ?_
    rcases aB hm with⟨c1,hm⟩|⟨c1,hm⟩
    ·refine qT c1 ?_;obtain⟨e_5,h8,hm⟩:=aa hm;obtain⟨e_6,h9,hm⟩:=aa hm;exact qG [(2,hio 3 1 aj.enc l8 h8),(3,hrw (T':=3) (sz:=1) (enc:=aj.enc) (l:=(List.set m_2 (j1:Int).toNat (List.set e_3 (j2:Int).toNat (1099511627776:Int)))) h8 l7),(5,hri (T':=3) (enc:=aj.enc) (l:=(List.set m_2 (j1:Int).toNat (List.set e_3 (j2:Int).toNat (1099511627776:Int)))) h8 h9 ot),(6,hrs (T':=3) (enc:=aj.enc) (f:=(AV.int .i64)) (0:Int) h8 h9 (λ_=>rfl) rfl rfl ty3)] [10,50] [] [450068024] [(450068024,.bun (encS 3 1 aj.enc (List.set (List.set m_2 (j1:Int).toNat (List.set e_3 (j2:Int).toNat (1099511627776:Int))) (j1:Int).toNat (List.set e_5 (j2:Int).toNat (0:Int)))))]<|qX (List.set (List.set m_2 (j1:Int).toNat (List.set e_3 (j2:Int).toNat (1099511627776:Int))) (j1:Int).toNat (List.set e_5 (j2:Int).toNat (0:Int))) hm
    exact qF c1<|A.skip<|qX (List.set m_2 (j1:Int).toNat (List.set e_3 (j2:Int).toNat (1099511627776:Int))) hm
   rintro m_3 hm;rw[hJ1]at hm;exact qGs [(0,hto (wE (by omega) hx2 (of_decide_eq_true hh2)))] [40] [(40,i6 (j2+1:Int))]<|qX m_3 hm
  rintro j2 m_2 hj2 hl2 hm;rw[hK2]at hm;refine qDs [] [] [(41,.bool (decide ((j2:Int)<(e_2.length:Int))))]<|A.seq<|A.cF rfl (geF hl2)<|A.exit<|A.seq<|qDs [(1,hto (lnE aj receivers))] [39,40,41] [(58,lf aj receivers),(59,i6 (receivers.length:Int)),(60,i6 0)]<|A.block<|A.bS 2 rfl λhb3=>?_
  obtain⟨B3,K3,hB3,hK3,hm⟩:=bh hm;refine A.lpI (l:=receivers) (j0:=0) (B:=B3) (K:=K3) hm (λj3=>λm_4=>[(0,lf (eL aj) ck),(1,i6 root),(2,lf aj receivers),(7,i6 (ck.length:Int)),(8,.own 68024),(9,i6 (j1:Int)),(26,i6 ((List.replicate (IntKind.wrap .i64 ((1:Int)*2 ^ min (IntKind.wrap .u64 (receivers.length:Int)).toNat 64)).toNat []:List (List Int)).length:Int)),(27,i6 (j1:Int)),(58,lf aj receivers),(59,i6 (receivers.length:Int)),(60,i6 (j3:Int))]) (λj3=>λm_4=>[(68024,.cg 22 450068024 ((IntKind.wrap .i64 ((1:Int)*2 ^ min (IntKind.wrap .u64 (receivers.length:Int)).toNat 64)).toNat) none),(450068024,.bun (encS 3 1 aj.enc m_4))]) ?_ ?_ ?_
  ·exact qW
  ·rintro j3 e3 Z3 m_4 hj3 hx3 hm;rw[hB3]at hm;refine qDs [] [] [(61,.bool (decide ((j3:Int)<(receivers.length:Int))))]<|A.seq<|qT (ltT hx3)<|A.skip ?_
   obtain⟨J2,hJ2,hm⟩:=dF hm;refine A.J (J:=J2) (r:=r) (λm_5=>[(0,lf (eL aj) ck),(1,i6 root),(2,lf aj receivers),(7,i6 (ck.length:Int)),(8,.own 68024),(9,i6 (j1:Int)),(26,i6 ((List.replicate (IntKind.wrap .i64 ((1:Int)*2 ^ min (IntKind.wrap .u64 (receivers.length:Int)).toNat 64)).toNat []:List (List Int)).length:Int)),(27,i6 (j1:Int)),(58,lf aj receivers),(59,i6 (receivers.length:Int)),(60,i6 (j3:Int))]) (λm_5=>[(68024,.cg 22 450068024 ((IntKind.wrap .i64 ((1:Int)*2 ^ min (IntKind.wrap .u64 (receivers.length:Int)).toNat 64)).toNat) none),(450068024,.bun (encS 3 1 aj.enc m_5))]) ?_ ?_
   ·refine A.block<|qDs [(1,hix (ix aj (bn hx3)))] [61] [(11,i6 (j3:Int)),(12,i6 e3)] ?_
    obtain⟨h10,hm⟩:=en hm;refine qDs [(3,.sh (IntKind.wrap .u64 (j3:Int)) (of_decide_eq_true h10))] [11] [(69,.bool (decide ((j1:Int)=IntKind.wrap .i64 ((1:Int)*2 ^ min (IntKind.wrap .u64 (j3:Int)).toNat 64))))] ?_;rcases aB hm with⟨c2,hm⟩|⟨c2,hm⟩
    ·refine qT c2 ?_;obtain⟨e_7,h11,hm⟩:=aa hm;obtain⟨e_8,h12,hm⟩:=aa hm;exact qG [(2,hio 3 1 aj.enc l8 h11),(3,hrw (T':=3) (sz:=1) (enc:=aj.enc) (l:=m_4) h11 l7),(5,hri (T':=3) (enc:=aj.enc) (l:=m_4) h11 h12 ot),(6,hrs (T':=3) (enc:=aj.enc) (f:=(AV.int .i64)) (0:Int) h11 h12 (λ_=>rfl) rfl rfl ty3)] [12,69] [] [450068024] [(450068024,.bun (encS 3 1 aj.enc (List.set m_4 (j1:Int).toNat (List.set e_7 e3.toNat (0:Int)))))]<|qX (List.set m_4 (j1:Int).toNat (List.set e_7 e3.toNat (0:Int))) hm
    exact qF c2<|A.skip<|qX m_4 hm
   rintro m_5 hm;rw[hJ2]at hm;exact qGs [(0,hto (inc hx3 hb3))] [60] [(60,i6 ((j3+1:Nat):Int))]<|qX m_5 hm
  rintro j3 m_4 hj3 hl3 hm;rw[hK3]at hm;refine qDs [] [] [(61,.bool (decide ((j3:Int)<(receivers.length:Int))))]<|A.seq<|qF (ltF hl3)<|A.exit<|A.seq<|qDs [] [58,59,60,61] [(13,i6 0)]<|A.block ?_
  obtain⟨F4,n4,hF4,hm⟩:=fP hm;refine A.lpW (F:=F4) hm (λ(v_1,m_6)=>[(0,lf (eL aj) ck),(1,i6 root),(2,lf aj receivers),(7,i6 (ck.length:Int)),(8,.own 68024),(9,i6 (j1:Int)),(13,i6 v_1),(26,i6 ((List.replicate (IntKind.wrap .i64 ((1:Int)*2 ^ min (IntKind.wrap .u64 (receivers.length:Int)).toNat 64)).toNat []:List (List Int)).length:Int)),(27,i6 (j1:Int))]) (λ(v_1,m_6)=>[(68024,.cg 22 450068024 ((IntKind.wrap .i64 ((1:Int)*2 ^ min (IntKind.wrap .u64 (receivers.length:Int)).toNat 64)).toNat) none),(450068024,.bun (encS 3 1 aj.enc m_6))]) ?_ ?_
  ·exact qW
  rintro Z4 ⟨v_1,m_6⟩ hm;rw[hF4]at hm;refine A.seq<|A.mid [(0,lf (eL aj) ck),(1,i6 root),(2,lf aj receivers),(7,i6 (ck.length:Int)),(8,.own 68024),(9,i6 (j1:Int)),(13,i6 v_1),(26,i6 ((List.replicate (IntKind.wrap .i64 ((1:Int)*2 ^ min (IntKind.wrap .u64 (receivers.length:Int)).toNat 64)).toNat []:List (List Int)).length:Int)),(27,i6 (j1:Int)),(83,.bool ((decide (v_1<(ck.length:Int)))&&(decide (0<(j1:Int)))))] [(68024,.cg 22 450068024 ((IntKind.wrap .i64 ((1:Int)*2 ^ min (IntKind.wrap .u64 (receivers.length:Int)).toNat 64)).toNat) none),(450068024,.bun (encS 3 1 aj.enc m_6))] (λhk=>?_) ?_
  ·rcases tf (decide (v_1<(ck.length:Int)))with c3|c3
   ·exact qS [(3,hto (bE c3)),(6,hto (o9 (q:=decide (0<(j1:Int))) c3))] _ _ hk
   exact qS [(3,hto (bE c3)),(6,hto (qf (q:=decide (0<(j1:Int))) c3))] _ _ hk
  rcases aB hm with⟨c4,hm⟩|⟨c4,hm⟩
  ·refine qT c4<|A.skip<|A.seq<|A.block<|qDs [] [83] [(14,i6 (eZ .and .i64 (w64 ((j1:Int)-(1:Int))) (j1:Int)))]<|A.block ?_
   obtain⟨F5,n5,hF5,hm⟩:=fP hm;refine A.lpW (F:=F5) hm (λ(nk,m_7)=>[(0,lf (eL aj) ck),(1,i6 root),(2,lf aj receivers),(7,i6 (ck.length:Int)),(8,.own 68024),(9,i6 (j1:Int)),(13,i6 v_1),(14,i6 nk),(26,i6 ((List.replicate (IntKind.wrap .i64 ((1:Int)*2 ^ min (IntKind.wrap .u64 (receivers.length:Int)).toNat 64)).toNat []:List (List Int)).length:Int)),(27,i6 (j1:Int))]) (λ(nk,m_7)=>[(68024,.cg 22 450068024 ((IntKind.wrap .i64 ((1:Int)*2 ^ min (IntKind.wrap .u64 (receivers.length:Int)).toNat 64)).toNat) none),(450068024,.bun (encS 3 1 aj.enc m_7))]) ?_ ?_
   ·exact qW
   rintro Z5 ⟨nk,m_7⟩ hm;rw[hF5]at hm;refine A.seq<|qDs [] [] [(91,.bool (decide (0<nk)))] ?_
   rcases aB hm with⟨c5,hm⟩|⟨c5,hm⟩
   ·refine qT c5<|A.skip<|A.seq<|A.block ?_
    obtain⟨e_9,h13,hm⟩:=aa hm;obtain⟨vk,h14,hm⟩:=aa hm;obtain⟨aps,h15,hm⟩:=aa hm;obtain⟨vl,h16,hm⟩:=aa hm;obtain⟨apt,h17,hm⟩:=aa hm;obtain⟨vm,h18,hm⟩:=aa hm;exact qG [(2,hio 3 1 aj.enc l8 h13),(3,hrw (T':=3) (sz:=1) (enc:=aj.enc) (l:=m_7) h13 l7),(7,hio 3 1 aj.enc l8 h13),(8,hrw (T':=3) (sz:=1) (enc:=aj.enc) (l:=m_7) h13 l7),(10,hri (T':=3) (enc:=aj.enc) (l:=m_7) h13 h14 ot),(11,hrl (T':=3) (enc:=aj.enc) (f:=(AV.int .i64)) h13 h14 (λ_=>rfl) ty3),(14,hio 3 1 aj.enc l8 h15),(15,hrw (T':=3) (sz:=1) (enc:=aj.enc) (l:=m_7) h15 l7),(17,hri (T':=3) (enc:=aj.enc) (l:=m_7) h15 h16 ot),(18,hrl (T':=3) (enc:=aj.enc) (f:=(AV.int .i64)) h15 h16 (λ_=>rfl) ty3),(23,hio 3 1 aj.enc l8 h17),(24,hrw (T':=3) (sz:=1) (enc:=aj.enc) (l:=m_7) h17 l7),(26,hri (T':=3) (enc:=aj.enc) (l:=m_7) h17 h18 ot),(27,hrl (T':=3) (enc:=aj.enc) (f:=(AV.int .i64)) h17 h18 (λ_=>rfl) ty3),(30,hri (T':=3) (enc:=aj.enc) (l:=m_7) h13 h14 ot),(31,hrs (T':=3) (enc:=aj.enc) (f:=(AV.int .i64)) (if(w64 (vl+vm))<vk then w64 (vl+vm)else vk) h13 h14 (λ_=>rfl) rfl rfl ty3)] [91] [] [450068024] [(450068024,.bun (encS 3 1 aj.enc (List.set m_7 (j1:Int).toNat (List.set e_9 v_1.toNat (if(w64 (vl+vm))<vk then w64 (vl+vm)else vk)))))]<|qGs [] [14] [(14,i6 (eZ .and .i64 (w64 (nk-1)) (j1:Int)))]<|qX (eZ .and .i64 (w64 (nk-1)) (j1:Int),(List.set m_7 (j1:Int).toNat (List.set e_9 v_1.toNat (if(w64 (vl+vm))<vk then w64 (vl+vm)else vk)))) hm
   exact qF c5<|A.exit<|qGs [] [13,14,91] [(13,i6 (w64 (v_1+1)))]<|qX (w64 (v_1+1),m_7) hm
  refine qF c4<|A.exit<|qDs [] [13,83] [(15,.bool (decide (0<(j1:Int))))]<|A.block ?_
  obtain⟨F6,n6,hF6,hm⟩:=fP hm;refine A.lpW (F:=F6) hm (λ(gC,m_8)=>[(0,lf (eL aj) ck),(1,i6 root),(2,lf aj receivers),(7,i6 (ck.length:Int)),(8,.own 68024),(9,i6 (j1:Int)),(15,.bool gC),(26,i6 ((List.replicate (IntKind.wrap .i64 ((1:Int)*2 ^ min (IntKind.wrap .u64 (receivers.length:Int)).toNat 64)).toNat []:List (List Int)).length:Int)),(27,i6 (j1:Int))]) (λ(gC,m_8)=>[(68024,.cg 22 450068024 ((IntKind.wrap .i64 ((1:Int)*2 ^ min (IntKind.wrap .u64 (receivers.length:Int)).toNat 64)).toNat) none),(450068024,.bun (encS 3 1 aj.enc m_8))]) ?_ ?_
  ·exact qW
  rintro Z6 ⟨gC,m_8⟩ hm;rw[hF6]at hm;refine A.seq<|qDs [] [] [(129,.bool gC)] ?_
  rcases aB hm with⟨c6,hm⟩|⟨c6,hm⟩
  ·refine qT c6<|A.skip<|A.block<|qDs [] [15,129] [(15,.bool false)]<|qDs [] [] [(16,i6 0)]<|A.block<|A.bS 0 rfl λhb7=>?_
   obtain⟨B7,K7,hB7,hK7,hm⟩:=bh hm;refine A.lpI (l:=ck) (j0:=0) (B:=B7) (K:=K7) hm (λj7=>λ(ef,m_9)=>[(0,lf (eL aj) ck),(1,i6 root),(2,lf aj receivers),(7,i6 (ck.length:Int)),(8,.own 68024),(9,i6 (j1:Int)),(15,.bool ef),(16,i6 (j7:Int)),(26,i6 ((List.replicate (IntKind.wrap .i64 ((1:Int)*2 ^ min (IntKind.wrap .u64 (receivers.length:Int)).toNat 64)).toNat []:List (List Int)).length:Int)),(27,i6 (j1:Int))]) (λj7=>λ(ef,m_9)=>[(68024,.cg 22 450068024 ((IntKind.wrap .i64 ((1:Int)*2 ^ min (IntKind.wrap .u64 (receivers.length:Int)).toNat 64)).toNat) none),(450068024,.bun (encS 3 1 aj.enc m_9))]) ?_ ?_ ?_
   ·exact qW
   ·rintro j7 e7 Z7 ⟨ef,m_9⟩ hj7 hx7 hm;rw[hB7]at hm;refine A.seq<|qDs [] [] [(132,.bool (decide ((j7:Int)<(ck.length:Int))))] ?_
    refine qT (ltT hx7)<|A.skip<|A.seq<|A.block<|qDs [] [132] [(17,i6 0)]<|A.block<|A.bS 0 rfl λhb8=>?_
    obtain⟨B8,K8,hB8,hK8,hm⟩:=bh hm;refine A.lpI (l:=ck) (j0:=0) (B:=B8) (K:=K8) hm (λj8=>λ(eR,gw)=>[(0,lf (eL aj) ck),(1,i6 root),(2,lf aj receivers),(7,i6 (ck.length:Int)),(8,.own 68024),(9,i6 (j1:Int)),(15,.bool eR),(16,i6 (j7:Int)),(17,i6 (j8:Int)),(26,i6 ((List.replicate (IntKind.wrap .i64 ((1:Int)*2 ^ min (IntKind.wrap .u64 (receivers.length:Int)).toNat 64)).toNat []:List (List Int)).length:Int)),(27,i6 (j1:Int))]) (λj8=>λ(eR,gw)=>[(68024,.cg 22 450068024 ((IntKind.wrap .i64 ((1:Int)*2 ^ min (IntKind.wrap .u64 (receivers.length:Int)).toNat 64)).toNat) none),(450068024,.bun (encS 3 1 aj.enc gw))]) ?_ ?_ ?_
    ·exact qW
    ·rintro j8 e8 Z8 ⟨eR,gw⟩ hj8 hx8 hm;rw[hB8]at hm;refine A.seq<|qDs [] [] [(137,.bool (decide ((j8:Int)<(ck.length:Int))))] ?_
     refine qT (ltT hx8)<|A.skip ?_
     obtain⟨J3,hJ3,hm⟩:=dF hm;refine A.J (J:=J3) (r:=r) (λ(oM,qh)=>[(0,lf (eL aj) ck),(1,i6 root),(2,lf aj receivers),(7,i6 (ck.length:Int)),(8,.own 68024),(9,i6 (j1:Int)),(15,.bool oM),(16,i6 (j7:Int)),(17,i6 (j8:Int)),(26,i6 ((List.replicate (IntKind.wrap .i64 ((1:Int)*2 ^ min (IntKind.wrap .u64 (receivers.length:Int)).toNat 64)).toNat []:List (List Int)).length:Int)),(27,i6 (j1:Int))]) (λ(oM,qh)=>[(68024,.cg 22 450068024 ((IntKind.wrap .i64 ((1:Int)*2 ^ min (IntKind.wrap .u64 (receivers.length:Int)).toNat 64)).toNat) none),(450068024,.bun (encS 3 1 aj.enc qh))]) ?_ ?_
     ·refine A.block ?_;obtain⟨J4,hJ4,hm⟩:=dF hm;refine A.J (J:=J4) (r:=r) (λv_2=>[(0,lf (eL aj) ck),(1,i6 root),(2,lf aj receivers),(7,i6 (ck.length:Int)),(8,.own 68024),(9,i6 (j1:Int)),(15,.bool eR),(16,i6 (j7:Int)),(17,i6 (j8:Int)),(26,i6 ((List.replicate (IntKind.wrap .i64 ((1:Int)*2 ^ min (IntKind.wrap .u64 (receivers.length:Int)).toNat 64)).toNat []:List (List Int)).length:Int)),(27,i6 (j1:Int)),(172,.bool v_2)]) (λv_2=>[(68024,.cg 22 450068024 ((IntKind.wrap .i64 ((1:Int)*2 ^ min (IntKind.wrap .u64 (receivers.length:Int)).toNat 64)).toNat) none),(450068024,.bun (encS 3 1 aj.enc gw))]) ?_ ?_
      ·obtain⟨acW,h19,hm⟩:=aa hm;rcases aB hm with⟨c7,hm⟩|⟨c7,hm⟩
       ·obtain⟨aic,h20,hm⟩:=aa hm;obtain⟨ae3,h21,hm⟩:=aa hm;obtain⟨ae4,h22,hm⟩:=aa hm;exact qGs [(2,hix (ix (eL aj) (bn hx7))),(5,hix (ix aj h19)),(8,hto (bE c7)),(11,hix (ix (eL aj) (bn hx7))),(14,hix (ix aj h19)),(18,hio 3 1 aj.enc l8 h20),(19,hrw (T':=3) (sz:=1) (enc:=aj.enc) (l:=gw) h20 l7),(21,hri (T':=3) (enc:=aj.enc) (l:=gw) h20 h21 ot),(22,hrl (T':=3) (enc:=aj.enc) (f:=(AV.int .i64)) h20 h21 (λ_=>rfl) ty3),(26,hio 3 1 aj.enc l8 h20),(27,hrw (T':=3) (sz:=1) (enc:=aj.enc) (l:=gw) h20 l7),(29,hri (T':=3) (enc:=aj.enc) (l:=gw) h20 h22 ot),(30,hrl (T':=3) (enc:=aj.enc) (f:=(AV.int .i64)) h20 h22 (λ_=>rfl) ty3)] [137] [(172,.bool (decide (w64 (acW+ae3)<ae4)))]<|qX (decide (w64 (acW+ae3)<ae4)) hm
       exact qGs [(2,hix (ix (eL aj) (bn hx7))),(5,hix (ix aj h19)),(8,hto (bE c7))] [137] [(172,.bool false)]<|qX false hm
      rintro v_2 hm;rw[hJ4]at hm;rcases aB hm with⟨c8,hm⟩|⟨c8,hm⟩
      ·refine qT c8 ?_;obtain⟨aaD,h23,hm⟩:=aa hm;obtain⟨acU,h24,hm⟩:=aa hm;obtain⟨acV,h25,hm⟩:=aa hm;obtain⟨e_22,h26,hm⟩:=aa hm;exact qG [(2,hio 3 1 aj.enc l8 h23),(3,hrw (T':=3) (sz:=1) (enc:=aj.enc) (l:=gw) h23 l7),(7,hix (ix (eL aj) (bn hx7))),(10,hix (ix aj h24)),(14,hio 3 1 aj.enc l8 h23),(15,hrw (T':=3) (sz:=1) (enc:=aj.enc) (l:=gw) h23 l7),(17,hri (T':=3) (enc:=aj.enc) (l:=gw) h23 h25 ot),(18,hrl (T':=3) (enc:=aj.enc) (f:=(AV.int .i64)) h23 h25 (λ_=>rfl) ty3),(20,hri (T':=3) (enc:=aj.enc) (l:=gw) h23 h26 ot),(21,hrs (T':=3) (enc:=aj.enc) (f:=(AV.int .i64)) (w64 (acU+acV)) h23 h26 (λ_=>rfl) rfl rfl ty3)] [15,172] [(15,.bool true)] [450068024] [(450068024,.bun (encS 3 1 aj.enc (List.set gw (j1:Int).toNat (List.set aaD (j7:Int).toNat (w64 (acU+acV))))))]<|qX (true,(List.set gw (j1:Int).toNat (List.set aaD (j7:Int).toNat (w64 (acU+acV))))) hm
      exact qF c8<|A.skip<|qX (eR,gw) hm
     rintro⟨oM,qh⟩ hm;rw[hJ3]at hm;exact qGs [(1,hto (inc hx8 hb8))] [17] [(17,i6 ((j8+1:Nat):Int))]<|qX (oM,qh) hm
    rintro j8 ⟨eR,gw⟩ hj8 hl8 hm;rw[hK8]at hm;refine A.seq<|qDs [] [] [(137,.bool (decide ((j8:Int)<(ck.length:Int))))] ?_
    exact qF (ltF hl8)<|A.exit<|qGs [(1,hto (inc hx7 hb7))] [16,17,137] [(16,i6 ((j7+1:Nat):Int))]<|qX (eR,gw) hm
   rintro j7 ⟨ef,m_9⟩ hj7 hl7 hm;rw[hK7]at hm;refine A.seq<|qDs [] [] [(132,.bool (decide ((j7:Int)<(ck.length:Int))))] ?_
   exact qF (ltF hl7)<|A.exit<|qX (ef,m_9) hm
  exact qF c6<|A.exit<|qGs [(0,hto (wE (by omega) hx1 (of_decide_eq_true hh1)))] [9,15,27,129] [(27,i6 (j1+1:Int))]<|qX m_8 hm
 rintro j1 m_1 hj1 hl1 hm;rw[hK1]at hm;refine qDs [] [] [(28,.bool (decide ((j1:Int)<((List.replicate (IntKind.wrap .i64 ((1:Int)*2 ^ min (IntKind.wrap .u64 (receivers.length:Int)).toNat 64)).toNat []:List (List Int)).length:Int))))]<|A.seq<|A.cF rfl (geF hl1)<|A.exit<|A.weak (aZ.ahT (d:=68024) (e:=450068024) m_1 aj.enc rfl rfl) ?_
 obtain⟨apu,h27,hm⟩:=aa hm;obtain⟨aid,h28,hm⟩:=aa hm;refine qS [(2,hto (lnE (eL aj) m_1)),(4,hix (ix (eL aj) h27)),(5,hlo 68024 0 (ix (eL aj) h27)),(7,hix (ix aj h28))] [(6,i6 aid)] [] ?_;cases hm;exact A.ret qE
theorem vX{root:Int}{r:Int×Int}(hm:iJ t root receivers=some r):RO prog 17 [] [.agg (k2 t),i6 root,lf aj receivers] (.tup [i6 r.1,i6 r.2]):=by
 refine aY func17 rfl rfl ?_;unfold iJ at hm;refine qS [(0,.al 17003)] [(1,i6 root),(2,lf aj receivers),(3,.ptr 17003 0)] [(17003,.cells 28 (k2 t))]<|A.seq ?_
 obtain⟨az,h1,hm⟩:=aa hm;refine qDs [(3,hro (yR h1) ck65)] [] [(8,i6 az)]<|qDs [] [] [(19,.bool (!decide (az=0)))] ?_
 rcases aB hm with⟨c1,hm⟩|⟨c1,hm⟩
 ·refine qT c1<|qS [] [(6,i6 0),(7,i6 az)] [] ?_
  cases hm;exact A.ret qE
 refine qF c1<|A.skip<|A.seq<|qDs [(1,hto (lnE aj receivers))] [8,19] [(23,.bool (decide (6<(receivers.length:Int))))] ?_
 rcases aB hm with⟨c2,hm⟩|⟨c2,hm⟩
 ·refine qT c2<|qS [] [(6,i6 0),(7,i6 3)] [] ?_
  cases hm;exact A.ret qE
 refine qF c2<|A.skip<|A.seq ?_
 obtain⟨aH,h2,hm⟩:=aa hm;refine qDs [(3,hro (vn h2) ck66)] [23] [(28,.bool (!aH))] ?_;rcases aB hm with⟨c3,hm⟩|⟨c3,hm⟩
 ·refine qT c3<|qS [] [(6,i6 0),(7,i6 9)] [] ?_
  cases hm;exact A.ret qE
 refine qF c3<|A.skip ?_
 obtain⟨bA,h3,hm⟩:=aa hm;refine qD [(1,hro (yS h3) ck67),(5,hva 17010 (Vec.zero 100) abV (by kernel_rfl)),(7,hvt (Vec.zero 100) bA.2 zy.size)] [3,28] [(10,.ptr 17010 0),(9,lf (eL aj) bA.1)] [17003] [(17010,.vec 114 bA.2.l)]<|qDs [] [] [(11,.bF)]<|A.seq<|qDs [(1,hto (lnE aj receivers))] [2] [(34,lf aj receivers),(35,i6 (receivers.length:Int)),(36,i6 0)]<|A.block<|A.bS 34 rfl λhb1=>?_
 obtain⟨B1,K1,hB1,hK1,hm⟩:=bh hm;refine A.lpI (l:=receivers) (j0:=0) (B:=B1) (K:=K1) hm (λj1=>λl_1=>[(1,i6 root),(9,lf (eL aj) bA.1),(10,.ptr 17010 0),(11,.own 600017011),(34,lf aj receivers),(35,i6 (receivers.length:Int)),(36,i6 (j1:Int))]) (λj1=>λl_1=>[(17010,.vec 114 bA.2.l),(600017011,.slice 3 1 (ml aj l_1) 0 false)]) ?_ ?_ ?_
 ·exact aZ.go [.ad 11 600017011 3 1] [] (by kernel_rfl)
 ·rintro j1 e1 Z1 l_1 hj1 hx1 hm;rw[hB1]at hm;refine qDs [] [] [(37,.bool (decide ((j1:Int)<(receivers.length:Int))))]<|A.seq<|qT (ltT hx1)<|A.skip<|A.seq<|A.block<|qDs [(0,hix (ix aj (bn hx1)))] [37] [(13,i6 e1)] ?_
  obtain⟨e_1,h4,hm⟩:=aa hm;obtain⟨l_2,h5,hm⟩:=aa hm;exact qG [(2,hvi (v:=bA.2) h4 underlying114 sizeOf3),(3,hvl (v:=bA.2) h4 ty3),(5,hap 17545 (ap aj (bytes:=8) (by decide) h5))] [11,13] [(11,.own 17545)] [600017011] [(17545,.slice 3 1 (ml aj l_2) 0 false)]<|qGs [(0,hto (inc hx1 hb1))] [36] [(36,i6 ((j1+1:Nat):Int))]<|Exists.intro l_2 (And.intro hm (aZ.go [.sw 17545 600017011] [] (by kernel_rfl)))
 rintro j1 l_1 hj1 hl1 hm;rw[hK1]at hm;refine qDs [] [] [(37,.bool (decide ((j1:Int)<(receivers.length:Int))))]<|A.seq<|qF (ltF hl1)<|A.exit ?_
 obtain⟨e_2,h6,hm⟩:=aa hm;obtain⟨bU,h7,hm⟩:=aa hm;refine qS [(2,hvi (v:=bA.2) h6 underlying114 sizeOf3),(3,hvl (v:=bA.2) h6 ty3),(5,hle [600017011] (yT h7) ck68)] [(6,i6 bU),(7,i6 0)] [] ?_;cases hm;exact A.ret qE
end Go.Proofs.YtmnbolcmepihlaaGreat
