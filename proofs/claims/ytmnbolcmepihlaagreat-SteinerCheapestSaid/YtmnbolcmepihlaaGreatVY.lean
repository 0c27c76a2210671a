/- The gW of dB of the program. No condition but bk aJ stand in each. -/
import Derived.Test.YtmnbolcmepihlaaGreatVE
namespace Go.Proofs.YtmnbolcmepihlaaGreat
open Go Go.Proofs.Tryz
set_option maxRecDepth 100000
set_option linter.all false
variable {t:aj}
theorem qp{ra1:Int}{r:Int}(hm:kR t ra1=some r):RO prog 172 [] [.agg (k2 t),i6 ra1] (i6 r):=by
 refine aY func172 rfl rfl ?_
 unfold kR at hm
 refine qS [(0,.al 172002)] [(1,i6 ra1),(2,.ptr 172002 0)] [(172002,.cells 28 (k2 t))]<|A.seq<|qDs [] [] [(5,i6 0)]<|A.block<|A.bC 2 0 rfl rfl rfl λhb1=>?_
 obtain⟨B1,K1,hB1,hK1,hm⟩:=bf hm
 refine A.lpI (l:=t.ak) (j0:=0) (B:=B1) (K:=K1) hm (λj1=>λ()=>[(1,i6 ra1),(2,.ptr 172002 0),(5,i6 (j1:Int))]) (λj1=>λ()=>[(172002,.cells 28 (k2 t))]) ?_ ?_ ?_
 ·exact qW
 ·rintro j1 e1 Z1 ⟨⟩ hj1 hx1 hm
  rw[hB1]at hm
  refine A.seq<|qDs [(3,hto (lnE aQ t.ak))] [] [(10,.bool (decide ((j1:Int)<(t.ak.length:Int))))] ?_
  refine qT (ltT hx1)<|A.skip<|A.seq<|A.block<|qDs [(3,hix (ix aQ (bh hx1)))] [10] [(20,.bool (decide (e1.ID=ra1)))] ?_
  rcases aB hm with⟨c1,hm⟩|⟨c1,hm⟩
  ·refine qT c1<|qS [] [(4,i6 (j1:Int))] [] ?_
   cases hm
   exact A.ret qE
  exact qF c1<|A.skip<|qGs [(1,hto (inc hx1 hb1))] [5,20] [(5,i6 ((j1+1:Nat):Int))]<|qX () hm
 rintro j1 ⟨⟩ hj1 hl1 hm
 rw[hK1]at hm
 refine A.seq<|qDs [(3,hto (lnE aQ t.ak))] [] [(10,.bool (decide ((j1:Int)<(t.ak.length:Int))))] ?_
 refine qF (ltF hl1)<|A.exit<|qS [] [(4,i6 0)] [] ?_
 cases hm
 exact A.ret qE
theorem zp{uD:Int}{r:(List Int)}(hm:nV t uD=some r):RO prog 110 [] [.agg (k2 t),i6 uD] (lf ai r):=by
 refine aY func110 rfl rfl ?_
 unfold nV at hm
 refine qS [(0,.al 110002)] [(1,i6 uD),(2,.ptr 110002 0)] [(110002,.cells 28 (k2 t))] ?_
 obtain⟨h1,hm⟩:=eC hm
 refine qD [(2,hto (lnE aQ t.ak)),(3,hms (a:=i6 0) 110015 (0:Int) ai.enc (t.ak.length:Int) w6 zz rfl (λI=>by simp[aA]) h1 (by decide))] [] [(5,.own 110015)] [] [(110015,.slice 3 1 (ml ai (List.replicate ((t.ak.length:Int)).toNat (0:Int))) 0 false)]<|A.seq<|qDs [] [] [(6,i6 0)]<|A.block ?_
 obtain⟨F1,n1,hF1,hm⟩:=fW hm
 refine A.lpW (F:=F1) hm (λ(d_1,i_1)=>[(1,i6 uD),(2,.ptr 110002 0),(5,.own 600110005),(6,i6 i_1)]) (λ(d_1,i_1)=>[(110002,.cells 28 (k2 t)),(600110005,.slice 3 1 (ml ai d_1) 0 false)]) ?_ ?_
 ·exact aV.go [.sw 110015 600110005] [] (by kernel_rfl)
 rintro Z1 ⟨d_1,i_1⟩ hm
 rw[hF1]at hm
 refine A.seq<|qDs [(2,hto (lnE ai d_1))] [] [(19,.bool (decide (i_1<(d_1.length:Int))))] ?_
 rcases aB hm with⟨c1,hm⟩|⟨c1,hm⟩
 ·refine qT c1<|A.skip ?_
  obtain⟨J1,hJ1,hm⟩:=cV hm
  refine A.J (J:=J1) (r:=r) (λd_2=>[(1,i6 uD),(2,.ptr 110002 0),(5,.own 600110005),(6,i6 i_1)]) (λd_2=>[(110002,.cells 28 (k2 t)),(600110005,.slice 3 1 (ml ai d_2) 0 false)]) ?_ ?_
  ·refine A.block ?_
   obtain⟨e_1,h2,hm⟩:=aa hm
   obtain⟨l_1,h3,hm⟩:=aa hm
   refine qD [(2,hix (ix ai h2)),(3,hso 600110005 (st ai (off:=0) (ca:=[i6 1073741824]) h2 h3 rfl) (ov h2).1.1)] [19] [] [600110005] [(600110005,.slice 3 1 (ml ai l_1) 0 false)] ?_
   obtain⟨e_2,h4,hm⟩:=aa hm
   refine qDs [(3,hix (ix aQ h4))] [] [(32,.bool (decide (e_2.ID=uD)))] ?_
   rcases aB hm with⟨c2,hm⟩|⟨c2,hm⟩
   ·refine qT c2 ?_
    obtain⟨e_3,h5,hm⟩:=aa hm
    obtain⟨l_2,h6,hm⟩:=aa hm
    exact qG [(2,hix (ix ai h5)),(3,hso 600110005 (st ai (off:=0) (ca:=[i6 0]) h5 h6 rfl) (ov h5).1.1)] [32] [] [600110005] [(600110005,.slice 3 1 (ml ai l_2) 0 false)]<|qX l_2 hm
   exact qF c2<|A.skip<|qX l_1 hm
  rintro d_2 hm
  rw[hJ1]at hm
  exact qGs [] [6] [(6,i6 (w64 (i_1+1)))]<|qX (d_2,w64 (i_1+1)) hm
 refine qF c1<|A.exit<|A.seq<|qDs [] [1,6,19] [(7,i6 0)]<|A.block ?_
 obtain⟨F2,n2,hF2,hm⟩:=fW hm
 refine A.lpW (F:=F2) hm (λ(d_3,iX)=>[(2,.ptr 110002 0),(5,.own 600110005),(7,i6 iX)]) (λ(d_3,iX)=>[(110002,.cells 28 (k2 t)),(600110005,.slice 3 1 (ml ai d_3) 0 false)]) ?_ ?_
 ·exact qW
 rintro Z2 ⟨d_3,iX⟩ hm
 rw[hF2]at hm
 refine A.seq<|qDs [(2,hto (lnE ai d_3))] [] [(39,.bool (decide (iX<(d_3.length:Int))))] ?_
 rcases aB hm with⟨c3,hm⟩|⟨c3,hm⟩
 ·refine qT c3<|A.skip<|A.seq<|A.block<|qDs [] [39] [(8,i6 0)]<|A.block<|A.bC 2 1 rfl rfl rfl λhb3=>?_
  obtain⟨B3,K3,hB3,hK3,hm⟩:=bf hm
  refine A.lpI (l:=t.Links) (j0:=0) (B:=B3) (K:=K3) hm (λj3=>λd_4=>[(2,.ptr 110002 0),(5,.own 600110005),(7,i6 iX),(8,i6 (j3:Int))]) (λj3=>λd_4=>[(110002,.cells 28 (k2 t)),(600110005,.slice 3 1 (ml ai d_4) 0 false)]) ?_ ?_ ?_
  ·exact qW
  ·rintro j3 e3 Z3 d_4 hj3 hx3 hm
   rw[hB3]at hm
   refine A.seq<|qDs [(3,hto (lnE bG t.Links))] [] [(46,.bool (decide ((j3:Int)<(t.Links.length:Int))))] ?_
   refine qT (ltT hx3)<|A.skip ?_
   obtain⟨J2,hJ2,hm⟩:=cV hm
   refine A.J (J:=J2) (r:=r) (λd_5=>[(2,.ptr 110002 0),(5,.own 600110005),(7,i6 iX),(8,i6 (j3:Int))]) (λd_5=>[(110002,.cells 28 (k2 t)),(600110005,.slice 3 1 (ml ai d_5) 0 false)]) ?_ ?_
   ·refine A.block<|qD [(3,hix (ix bG (bh hx3))),(5,.al 110009)] [46] [(9,.ptr 110009 0)] [] [(110009,.cells 62 (k1 e3))] ?_
    obtain⟨az,h7,hm⟩:=aa hm
    obtain⟨aD,h8,hm⟩:=aa hm
    refine qDs [(3,hro (qp h7) agN),(7,hro (qp h8) agN)] [] [(10,i6 az),(11,i6 aD)] ?_
    obtain⟨J3,hJ3,hm⟩:=cV hm
    refine A.J (J:=J3) (r:=r) (λd_6=>[(2,.ptr 110002 0),(5,.own 600110005),(7,i6 iX),(8,i6 (j3:Int)),(9,.ptr 110009 0),(10,i6 az),(11,i6 aD)]) (λd_6=>[(110002,.cells 28 (k2 t)),(600110005,.slice 3 1 (ml ai d_6) 0 false),(110009,.cells 62 (k1 e3))]) ?_ ?_
    ·obtain⟨e_4,h9,hm⟩:=aa hm
     refine qDs [(2,hix (ix ai h9)),(3,hlo 600110005 0 (ix ai h9))] [] [(66,.bool (decide (e_4<1073741824)))] ?_
     rcases aB hm with⟨c4,hm⟩|⟨c4,hm⟩
     ·refine qT c4 ?_
      obtain⟨e_5,h10,hm⟩:=aa hm
      obtain⟨l_3,h11,hm⟩:=aa hm
      exact qG [(4,hix (ix ai h10)),(5,hlo 600110005 0 (ix ai h10)),(10,hix (ix ai h9)),(11,hlo 600110005 0 (ix ai h9)),(14,hix (ix ai h10)),(15,hso 600110005 (st ai (off:=0) (ca:=[i6 (if(w64 (e3.dL+e_4))<e_5 then w64 (e3.dL+e_4)else e_5)]) h10 h11 rfl) (ov h10).1.1)] [66] [] [600110005] [(600110005,.slice 3 1 (ml ai l_3) 0 false)]<|qX l_3 hm
     exact qF c4<|A.skip<|qX d_4 hm
    rintro d_6 hm
    rw[hJ3]at hm
    obtain⟨e_6,h12,hm⟩:=aa hm
    refine qDs [(2,hix (ix ai h12)),(3,hlo 600110005 0 (ix ai h12))] [] [(86,.bool (decide (e_6<1073741824)))] ?_
    rcases aB hm with⟨c5,hm⟩|⟨c5,hm⟩
    ·refine qT c5 ?_
     obtain⟨e_7,h13,hm⟩:=aa hm
     obtain⟨l_4,h14,hm⟩:=aa hm
     exact qG [(4,hix (ix ai h13)),(5,hlo 600110005 0 (ix ai h13)),(10,hix (ix ai h12)),(11,hlo 600110005 0 (ix ai h12)),(14,hix (ix ai h13)),(15,hso 600110005 (st ai (off:=0) (ca:=[i6 (if(w64 (e3.ep+e_6))<e_7 then w64 (e3.ep+e_6)else e_7)]) h13 h14 rfl) (ov h13).1.1)] [9,10,11,86] [] [600110005,110009] [(600110005,.slice 3 1 (ml ai l_4) 0 false)]<|qX l_4 hm
    exact qF c5<|A.skip<|qX d_6 hm
   rintro d_5 hm
   rw[hJ2]at hm
   exact qGs [(1,hto (inc hx3 hb3))] [8] [(8,i6 ((j3+1:Nat):Int))]<|qX d_5 hm
  rintro j3 d_4 hj3 hl3 hm
  rw[hK3]at hm
  refine A.seq<|qDs [(3,hto (lnE bG t.Links))] [] [(46,.bool (decide ((j3:Int)<(t.Links.length:Int))))] ?_
  exact qF (ltF hl3)<|A.exit<|qGs [] [7,8,46] [(7,i6 (w64 (iX+1)))]<|qX (d_4,w64 (iX+1)) hm
 refine qF c3<|A.exit<|qD [] [2,5,7,39] [(4,.own 600110005)] [110002] []<|A.ret ?_
 obtain rfl:=some_inj hm
 exact A.fin W0 [.fz [600110005]] rfl (by kernel_rfl)
theorem zq{d:List Int}{ra2:Int}{r:Int}(hm:l7 t d ra2=some r):RO prog 109 [] [.agg (k2 t),lf ai d,i6 ra2] (i6 r):=by
 refine aY func109 rfl rfl ?_
 unfold l7 at hm
 refine qS [(0,.al 109003)] [(1,lf ai d),(2,i6 ra2),(3,.ptr 109003 0)] [(109003,.cells 28 (k2 t))]<|A.seq<|qDs [] [] [(7,i6 0)]<|A.block<|A.bC 3 0 rfl rfl rfl λhb1=>?_
 obtain⟨B1,K1,hB1,hK1,hm⟩:=bf hm
 refine A.lpI (l:=t.ak) (j0:=0) (B:=B1) (K:=K1) hm (λj1=>λ()=>[(1,lf ai d),(2,i6 ra2),(3,.ptr 109003 0),(7,i6 (j1:Int))]) (λj1=>λ()=>[(109003,.cells 28 (k2 t))]) ?_ ?_ ?_
 ·exact qW
 ·rintro j1 e1 Z1 ⟨⟩ hj1 hx1 hm
  rw[hB1]at hm
  refine A.seq<|qDs [(3,hto (lnE aQ t.ak))] [] [(12,.bool (decide ((j1:Int)<(t.ak.length:Int))))] ?_
  refine qT (ltT hx1)<|A.skip<|A.seq<|A.block<|qDs [(3,hix (ix aQ (bh hx1)))] [12] [(22,.bool (decide (e1.ID=ra2)))] ?_
  rcases aB hm with⟨c1,hm⟩|⟨c1,hm⟩
  ·refine qT c1 ?_
   obtain⟨e_1,h1,hm⟩:=aa hm
   refine qS [(2,hix (ix ai h1))] [(6,i6 e_1)] [] ?_
   cases hm
   exact A.ret qE
  exact qF c1<|A.skip<|qGs [(1,hto (inc hx1 hb1))] [7,22] [(7,i6 ((j1+1:Nat):Int))]<|qX () hm
 rintro j1 ⟨⟩ hj1 hl1 hm
 rw[hK1]at hm
 refine A.seq<|qDs [(3,hto (lnE aQ t.ak))] [] [(12,.bool (decide ((j1:Int)<(t.ak.length:Int))))] ?_
 refine qF (ltF hl1)<|A.exit<|qS [] [(6,i6 1073741824)] [] ?_
 cases hm
 exact A.ret qE
theorem xy{cH:Int}{ez:Int}{r:Int×Bool}(hm:lQ t cH ez=some r):RO prog 49 [] [.agg (k2 t),i6 cH,i6 ez] (.tup [i6 r.1,.bool r.2]):=by
 refine aY func49 rfl rfl ?_
 unfold lQ at hm
 refine qS [(0,.al 49003)] [(1,i6 cH),(2,i6 ez),(3,.ptr 49003 0)] [(49003,.cells 28 (k2 t))]<|A.seq ?_
 obtain⟨J1,hJ1,hm⟩:=cV hm
 refine A.J (J:=J1) (r:=r) (λv_1=>[(1,i6 cH),(2,i6 ez),(3,.ptr 49003 0),(18,.bool v_1)]) (λv_1=>[(49003,.cells 28 (k2 t))]) ?_ ?_
 ·obtain⟨az,h1,hm⟩:=aa hm
  rcases aB hm with⟨c1,hm⟩|⟨c1,hm⟩
  ·exact qGs [(2,hro (iF h1) x6),(4,hto (bE c1))] [] [(18,.bool true)]<|qX true hm
  obtain⟨aD,h2,hm⟩:=aa hm
  exact qGs [(2,hro (iF h1) x6),(4,hto (bE c1)),(7,hro (iF h2) x6)] [] [(18,.bool (!aD))]<|qX (!aD) hm
 rintro v_1 hm
 rw[hJ1]at hm
 rcases aB hm with⟨c2,hm⟩|⟨c2,hm⟩
 ·refine qT c2<|qS [] [(6,i6 0),(7,.bool false)] [] ?_
  cases hm
  exact A.ret qE
 refine qF c2<|A.skip ?_
 obtain⟨bt,h3,hm⟩:=aa hm
 obtain⟨bJ,h4,hm⟩:=aa hm
 refine qS [(3,hro (zp h3) an9),(5,hro (zq h4) an8)] [(8,i6 bJ)] []<|A.seq<|qDs [] [] [(26,.bool (decide (bJ=1073741824)))] ?_
 rcases aB hm with⟨c3,hm⟩|⟨c3,hm⟩
 ·refine qT c3<|qS [] [(6,i6 0),(7,.bool false)] [] ?_
  cases hm
  exact A.ret qE
 refine qF c3<|A.skip<|qS [] [(6,i6 bJ),(7,.bool true)] [] ?_
 cases hm
 exact A.ret qE
variable {receivers:List Int}
theorem s8{root:Int}{r:Bool}(hm:iy t root receivers=some r):RO prog 66 [] [.agg (k2 t),i6 root,lf ai receivers] (.bool r):=by
 refine aY func66 rfl rfl ?_
 unfold iy at hm
 refine qS [(0,.al 66003)] [(1,i6 root),(2,lf ai receivers),(3,.ptr 66003 0)] [(66003,.cells 28 (k2 t))]<|A.seq<|qDs [(1,hto (lnE ai receivers))] [2] [(11,lf ai receivers),(12,i6 (receivers.length:Int)),(13,i6 0)]<|A.block<|A.bS 11 rfl λhb1=>?_
 obtain⟨B1,K1,hB1,hK1,hm⟩:=bf hm
 refine A.lpI (l:=receivers) (j0:=0) (B:=B1) (K:=K1) hm (λj1=>λ()=>[(1,i6 root),(3,.ptr 66003 0),(11,lf ai receivers),(12,i6 (receivers.length:Int)),(13,i6 (j1:Int))]) (λj1=>λ()=>[(66003,.cells 28 (k2 t))]) ?_ ?_ ?_
 ·exact qW
 ·rintro j1 e1 Z1 ⟨⟩ hj1 hx1 hm
  rw[hB1]at hm
  refine qDs [] [] [(14,.bool (decide ((j1:Int)<(receivers.length:Int))))]<|A.seq<|qT (ltT hx1)<|A.skip<|A.seq<|A.block<|qDs [(0,hix (ix ai (bh hx1)))] [14] [(8,i6 e1)] ?_
  obtain⟨az,h1,hm⟩:=aa hm
  refine qDs [(3,hro (xy h1) ck49)] [8] [(10,.bool az.2)]<|qDs [] [10] [(25,.bool (!az.2))] ?_
  rcases aB hm with⟨c1,hm⟩|⟨c1,hm⟩
  ·refine qT c1<|qS [] [(6,.bool false)] [] ?_
   cases hm
   exact A.ret qE
  exact qF c1<|A.skip<|qGs [(0,hto (inc hx1 hb1))] [13,25] [(13,i6 ((j1+1:Nat):Int))]<|qX () hm
 rintro j1 ⟨⟩ hj1 hl1 hm
 rw[hK1]at hm
 refine qDs [] [] [(14,.bool (decide ((j1:Int)<(receivers.length:Int))))]<|A.seq<|qF (ltF hl1)<|A.exit<|qS [] [(6,.bool true)] [] ?_
 cases hm
 exact A.ret qE
theorem wE{r:(List (List Int))×(Vec 100)}(hm:kS t=some r):RO prog 67 [] [.agg (k2 t)] (.tup [lf (eL ai) r.1,.arr r.2.l]):=by
 refine aY func67 rfl rfl ?_
 unfold kS at hm
 refine qS [(0,.al 67001),(2,hva 67003 (Vec.zero 100) zy (by kernel_rfl))] [(1,.ptr 67001 0),(3,.ptr 67003 0)] [(67001,.cells 28 (k2 t)),(67003,.vec 114 (Vec.zero 100).l)]<|qD [(0,hva 67004 (Vec.zero 100) zy (by kernel_rfl))] [] [(4,.ptr 67004 0)] [] [(67004,.vec 114 (Vec.zero 100).l)]<|A.seq<|qDs [(2,hto (lnE aQ t.ak))] [] [(12,lf aQ t.ak),(13,i6 (t.ak.length:Int)),(14,i6 0)]<|A.block<|A.bS 12 rfl λhb1=>?_
 obtain⟨B1,K1,hB1,hK1,hm⟩:=bf hm
 refine A.lpI (l:=t.ak) (j0:=0) (B:=B1) (K:=K1) hm (λj1=>λm_1=>[(1,.ptr 67001 0),(3,.ptr 67003 0),(4,.ptr 67004 0),(12,lf aQ t.ak),(13,i6 (t.ak.length:Int)),(14,i6 (j1:Int))]) (λj1=>λm_1=>[(67001,.cells 28 (k2 t)),(67003,.vec 114 (Vec.zero 100).l),(67004,.vec 114 m_1.l)]) ?_ ?_ ?_
 ·exact qW
 ·rintro j1 e1 Z1 m_1 hj1 hx1 hm
  rw[hB1]at hm
  refine qDs [] [] [(15,.bool (decide ((j1:Int)<(t.ak.length:Int))))]<|A.seq<|qT (ltT hx1)<|A.skip<|A.seq<|A.block<|qD [(1,hix (ix aQ (bh hx1))),(3,.al 67006)] [15] [(6,.ptr 67006 0),(5,i6 (j1:Int))] [] [(67006,.cells 31 (k0 e1))] ?_
  obtain⟨e_1,h1,hm⟩:=aa hm
  exact qG [(3,hvi (v:=m_1) h1 underlying114 sizeOf3),(4,hvs (v:=m_1) (j1:Int) h1 ty3)] [6,5] [] [67004,67006] [(67004,.vec 114 (Vec.put m_1 e1.ID.toNat (j1:Int)).l)]<|qGs [(0,hto (inc hx1 hb1))] [14] [(14,i6 ((j1+1:Nat):Int))]<|qX (Vec.put m_1 e1.ID.toNat (j1:Int)) hm
 rintro j1 m_1 hj1 hl1 hm
 rw[hK1]at hm
 refine qDs [] [] [(15,.bool (decide ((j1:Int)<(t.ak.length:Int))))]<|A.seq<|qF (ltF hl1)<|A.exit ?_
 obtain⟨h2,hm⟩:=eC hm
 refine qD [(2,hto (lnE aQ t.ak)),(3,hmr 67027 (t.ak.length:Int) abU abV h2 (by decide))] [12,13,14,15] [(7,.own 67027)] [] [(67027,.slice 22 1 (List.replicate (t.ak.length:Int).toNat [.bn]) 0 false)]<|A.weak ((aV.aai (d:=67027) (e:=450067027) 3 1 ai.enc (ach h2) rfl rfl rfl rfl rfl))<|A.seq<|qS [(1,hno 3 1 ai.enc (List.replicate (t.ak.length:Int).toNat []:List (List Int)) ko)] [(1,.ptr 67001 0),(3,.ptr 67003 0),(4,.ptr 67004 0),(7,.own 67027),(29,i6 ((List.replicate (t.ak.length:Int).toNat []:List (List Int)).length:Int)),(30,i6 0)] [(67001,.cells 28 (k2 t)),(67003,.vec 114 (Vec.zero 100).l),(67004,.vec 114 m_1.l),(67027,.bM 22 450067027 ((t.ak.length:Int).toNat) none),(450067027,.bun (encS 3 1 ai.enc (List.replicate (t.ak.length:Int).toNat []:List (List Int))))]<|A.block ?_
 obtain⟨hh2,hm⟩:=eC hm
 obtain⟨B2,K2,hB2,hK2,hm⟩:=jg hm
 refine A.lpN (hi:=((List.replicate (t.ak.length:Int).toNat []:List (List Int)).length:Int)) (B:=B2) (K:=K2) hm rfl (λj2=>λm_2=>[(1,.ptr 67001 0),(3,.ptr 67003 0),(4,.ptr 67004 0),(7,.own 67027),(29,i6 ((List.replicate (t.ak.length:Int).toNat []:List (List Int)).length:Int)),(30,i6 (j2:Int))]) (λj2=>λm_2=>[(67001,.cells 28 (k2 t)),(67003,.vec 114 (Vec.zero 100).l),(67004,.vec 114 m_1.l),(67027,.bM 22 450067027 ((t.ak.length:Int).toNat) none),(450067027,.bun (encS 3 1 ai.enc m_2))]) ?_ ?_ ?_
 ·exact qW
 ·rintro j2 Z2 m_2 hj2 hx2 hm
  rw[hB2]at hm
  refine qDs [] [] [(31,.bool (decide ((j2:Int)<((List.replicate (t.ak.length:Int).toNat []:List (List Int)).length:Int))))]<|A.seq<|A.cT rfl (decide_eq_true hx2)<|A.skip<|A.seq<|A.block<|qDs [] [31] [(8,i6 (j2:Int))] ?_
  obtain⟨h3,hm⟩:=eC hm
  obtain⟨e_2,h4,hm⟩:=aa hm
  exact qG [(4,hto (lnE aQ t.ak)),(5,hms (a:=i6 0) 67038 (0:Int) ai.enc (t.ak.length:Int) w6 zz rfl (λI=>by simp[aA]) h3 (by decide)),(6,hio 3 1 ai.enc ko h4),(7,hsS 3 1 530067001 ai.enc (List.replicate ((t.ak.length:Int)).toNat (0:Int)) kj h4)] [8] [] [67027,450067027] [(67027,.bM 22 530067001 ((t.ak.length:Int).toNat) none),(530067001,.bun (encS 3 1 ai.enc (List.set m_2 (j2:Int).toNat (List.replicate ((t.ak.length:Int)).toNat (0:Int)))))]<|qGs [(0,hto (sE (by omega) hx2 (of_decide_eq_true hh2)))] [30] [(30,i6 (j2+1:Int))]<|Exists.intro (List.set m_2 (j2:Int).toNat (List.replicate ((t.ak.length:Int)).toNat (0:Int))) (And.intro hm (aV.go [.rn 530067001 450067027] [] (by kernel_rfl)))
 rintro j2 m_2 hj2 hl2 hm
 rw[hK2]at hm
 refine qDs [] [] [(31,.bool (decide ((j2:Int)<((List.replicate (t.ak.length:Int).toNat []:List (List Int)).length:Int))))]<|A.seq<|A.cF rfl (geF hl2)<|A.exit<|A.seq<|qD [(2,hto (lnE bG t.Links))] [1,29,30,31] [(42,lf bG t.Links),(43,i6 (t.Links.length:Int)),(44,i6 0)] [67001] []<|A.block<|A.bS 42 rfl λhb3=>?_
 obtain⟨B3,K3,hB3,hK3,hm⟩:=bf hm
 refine A.lpI (l:=t.Links) (j0:=0) (B:=B3) (K:=K3) hm (λj3=>λm_3=>[(3,.ptr 67003 0),(4,.ptr 67004 0),(7,.own 67027),(42,lf bG t.Links),(43,i6 (t.Links.length:Int)),(44,i6 (j3:Int))]) (λj3=>λm_3=>[(67003,.vec 114 (Vec.zero 100).l),(67004,.vec 114 m_1.l),(67027,.bM 22 450067027 ((t.ak.length:Int).toNat) none),(450067027,.bun (encS 3 1 ai.enc m_3))]) ?_ ?_ ?_
 ·exact qW
 ·rintro j3 e3 Z3 m_3 hj3 hx3 hm
  rw[hB3]at hm
  refine qDs [] [] [(45,.bool (decide ((j3:Int)<(t.Links.length:Int))))]<|A.seq<|qT (ltT hx3)<|A.skip<|A.seq<|A.block<|qD [(0,hix (ix bG (bh hx3))),(2,.al 67010)] [45] [(10,.ptr 67010 0)] [] [(67010,.cells 62 (k1 e3))] ?_
  obtain⟨e_3,h5,hm⟩:=aa hm
  obtain⟨e_4,h6,hm⟩:=aa hm
  obtain⟨e_5,h7,hm⟩:=aa hm
  obtain⟨e_6,h8,hm⟩:=aa hm
  obtain⟨e_7,h9,hm⟩:=aa hm
  obtain⟨e_8,h10,hm⟩:=aa hm
  obtain⟨e_9,h11,hm⟩:=aa hm
  exact qG [(3,hvi (v:=m_1) h5 underlying114 sizeOf3),(4,hvl (v:=m_1) h5 ty3),(5,hio 3 1 ai.enc ko h6),(6,hrw (T':=3) (sz:=1) (enc:=ai.enc) (l:=m_3) h6 kj),(9,hvi (v:=m_1) h7 underlying114 sizeOf3),(10,hvl (v:=m_1) h7 ty3),(14,hvi (v:=m_1) h7 underlying114 sizeOf3),(15,hvl (v:=m_1) h7 ty3),(16,hio 3 1 ai.enc ko h8),(17,hrw (T':=3) (sz:=1) (enc:=ai.enc) (l:=m_3) h8 kj),(20,hvi (v:=m_1) h5 underlying114 sizeOf3),(21,hvl (v:=m_1) h5 ty3),(26,hri (T':=3) (enc:=ai.enc) (l:=m_3) h6 h9 mK),(27,hrs (T':=3) (enc:=ai.enc) (f:=(AV.int .i64)) e3.dL h6 h9 (λ_=>rfl) rfl rfl ty3),(28,hri (T':=3) (enc:=ai.enc) (l:=(List.set m_3 e_3.toNat (List.set e_4 e_5.toNat e3.dL))) h10 h11 mK),(29,hrs (T':=3) (enc:=ai.enc) (f:=(AV.int .i64)) e3.ep h10 h11 (λ_=>rfl) rfl rfl ty3)] [10] [] [450067027,67010] [(450067027,.bun (encS 3 1 ai.enc (List.set (List.set m_3 e_3.toNat (List.set e_4 e_5.toNat e3.dL)) e_5.toNat (List.set e_8 e_3.toNat e3.ep))))]<|qGs [(0,hto (inc hx3 hb3))] [44] [(44,i6 ((j3+1:Nat):Int))]<|qX (List.set (List.set m_3 e_3.toNat (List.set e_4 e_5.toNat e3.dL)) e_5.toNat (List.set e_8 e_3.toNat e3.ep)) hm
 rintro j3 m_3 hj3 hl3 hm
 rw[hK3]at hm
 refine qDs [] [] [(45,.bool (decide ((j3:Int)<(t.Links.length:Int))))]<|A.seq<|qF (ltF hl3)<|A.exit<|A.weak (aV.ae0 (d:=67027) (e:=450067027) m_3 ai.enc rfl rfl)<|qS [(1,hvw m_1 w9),(3,hvt (Vec.zero 100) m_1 w9.size)] [(3,.ptr 67003 0),(2,.own 67027)] [(67003,.vec 114 m_1.l),(67027,.slice 22 1 (ml (eL ai) m_3) 0 false)]<|A.ret ?_
 obtain rfl:=some_inj hm
 exact A.finV (x:=.tup [.own 67027,.arr m_1.l]) (e1:=[(3,.ptr 67003 0),(2,.own 67027)]) (s1:=[(67003,.vec 114 m_1.l),(67027,.slice 22 1 (ml (eL ai) m_3) (ml (eL ai) m_3).length true)]) W0 [.fz [67027]] rfl (by kernel_rfl) (.two (mY W0 (by kernel_rfl)) (.arr _ _ 67003 114 _ m_1.l rfl (by kernel_rfl) w9 (Vec.h _))) (by kernel_rfl) (by kernel_rfl)
theorem wF{bN:List (List Int)}{root:Int}{r:Int}(hm:kT bN root receivers=some r):RO prog 68 [] [lf (eL ai) bN,i6 root,lf ai receivers] (i6 r):=by
 refine aY func68 rfl rfl ?_
 unfold kT at hm
 refine qS [] [(0,lf (eL ai) bN),(1,i6 root),(2,lf ai receivers)] []<|qDs [(1,hto (lnE (eL ai) bN))] [] [(7,i6 (bN.length:Int))] ?_
 obtain⟨h1,hm⟩:=eC hm
 obtain⟨h2,hm⟩:=eC hm
 refine qD [(1,hto (lnE ai receivers)),(3,.sh (IntKind.wrap .u64 (receivers.length:Int)) (of_decide_eq_true h1)),(4,hmr 68024 (IntKind.wrap .i64 ((1:Int)*2 ^ min (IntKind.wrap .u64 (receivers.length:Int)).toNat 64)) abU abV h2 (by decide))] [] [(8,.own 68024)] [] [(68024,.slice 22 1 (List.replicate (IntKind.wrap .i64 ((1:Int)*2 ^ min (IntKind.wrap .u64 (receivers.length:Int)).toNat 64)).toNat [.bn]) 0 false)]<|A.weak ((aV.aai (d:=68024) (e:=450068024) 3 1 ai.enc (ach h2) rfl rfl rfl rfl rfl))<|A.seq<|qS [(1,hno 3 1 ai.enc (List.replicate (IntKind.wrap .i64 ((1:Int)*2 ^ min (IntKind.wrap .u64 (receivers.length:Int)).toNat 64)).toNat []:List (List Int)) ko)] [(0,lf (eL ai) bN),(1,i6 root),(2,lf ai receivers),(7,i6 (bN.length:Int)),(8,.own 68024),(26,i6 ((List.replicate (IntKind.wrap .i64 ((1:Int)*2 ^ min (IntKind.wrap .u64 (receivers.length:Int)).toNat 64)).toNat []:List (List Int)).length:Int)),(27,i6 0)] [(68024,.bM 22 450068024 ((IntKind.wrap .i64 ((1:Int)*2 ^ min (IntKind.wrap .u64 (receivers.length:Int)).toNat 64)).toNat) none),(450068024,.bun (encS 3 1 ai.enc (List.replicate (IntKind.wrap .i64 ((1:Int)*2 ^ min (IntKind.wrap .u64 (receivers.length:Int)).toNat 64)).toNat []:List (List Int))))]<|A.block ?_
 obtain⟨hh1,hm⟩:=eC hm
 obtain⟨B1,K1,hB1,hK1,hm⟩:=jg hm
 refine A.lpN (hi:=((List.replicate (IntKind.wrap .i64 ((1:Int)*2 ^ min (IntKind.wrap .u64 (receivers.length:Int)).toNat 64)).toNat []:List (List Int)).length:Int)) (B:=B1) (K:=K1) hm rfl (λj1=>λm_1=>[(0,lf (eL ai) bN),(1,i6 root),(2,lf ai receivers),(7,i6 (bN.length:Int)),(8,.own 68024),(26,i6 ((List.replicate (IntKind.wrap .i64 ((1:Int)*2 ^ min (IntKind.wrap .u64 (receivers.length:Int)).toNat 64)).toNat []:List (List Int)).length:Int)),(27,i6 (j1:Int))]) (λj1=>λm_1=>[(68024,.bM 22 450068024 ((IntKind.wrap .i64 ((1:Int)*2 ^ min (IntKind.wrap .u64 (receivers.length:Int)).toNat 64)).toNat) none),(450068024,.bun (encS 3 1 ai.enc m_1))]) ?_ ?_ ?_
 ·exact qW
 ·rintro j1 Z1 m_1 hj1 hx1 hm
  rw[hB1]at hm
  refine qDs [] [] [(28,.bool (decide ((j1:Int)<((List.replicate (IntKind.wrap .i64 ((1:Int)*2 ^ min (IntKind.wrap .u64 (receivers.length:Int)).toNat 64)).toNat []:List (List Int)).length:Int))))]<|A.seq<|A.cT rfl (decide_eq_true hx1)<|A.skip<|A.seq<|A.block<|qDs [] [28] [(9,i6 (j1:Int))] ?_
  obtain⟨h3,hm⟩:=eC hm
  obtain⟨e_1,h4,hm⟩:=aa hm
  refine qD [(3,hms (a:=i6 0) 68033 (0:Int) ai.enc (bN.length:Int) w6 zz rfl (λI=>by simp[aA]) h3 (by decide)),(4,hio 3 1 ai.enc ko h4),(5,hsS 3 1 530068001 ai.enc (List.replicate ((bN.length:Int)).toNat (0:Int)) kj h4)] [] [] [68024,450068024] [(68024,.bM 22 530068001 ((IntKind.wrap .i64 ((1:Int)*2 ^ min (IntKind.wrap .u64 (receivers.length:Int)).toNat 64)).toNat) none),(530068001,.bun (encS 3 1 ai.enc (List.set m_1 (j1:Int).toNat (List.replicate ((bN.length:Int)).toNat (0:Int)))))]<|A.seq ?_
  obtain⟨e_2,h5,hm⟩:=aa hm
  refine qDs [(2,hio 3 1 ai.enc ko h5),(3,hrw (T':=3) (sz:=1) (enc:=ai.enc) (l:=(List.set m_1 (j1:Int).toNat (List.replicate ((bN.length:Int)).toNat (0:Int)))) h5 kj),(4,hrn (T':=3) (sz:=1) (enc:=ai.enc) (l:=(List.set m_1 (j1:Int).toNat (List.replicate ((bN.length:Int)).toNat (0:Int)))) h5 mK.und)] [] [(39,i6 (e_2.length:Int)),(40,i6 0)]<|A.block ?_
  obtain⟨hh2,hm⟩:=eC hm
  obtain⟨B2,K2,hB2,hK2,hm⟩:=jg hm
  refine A.lpN (hi:=(e_2.length:Int)) (B:=B2) (K:=K2) hm rfl (λj2=>λm_2=>[(0,lf (eL ai) bN),(1,i6 root),(2,lf ai receivers),(7,i6 (bN.length:Int)),(8,.own 68024),(9,i6 (j1:Int)),(26,i6 ((List.replicate (IntKind.wrap .i64 ((1:Int)*2 ^ min (IntKind.wrap .u64 (receivers.length:Int)).toNat 64)).toNat []:List (List Int)).length:Int)),(27,i6 (j1:Int)),(39,i6 (e_2.length:Int)),(40,i6 (j2:Int))]) (λj2=>λm_2=>[(68024,.bM 22 450068024 ((IntKind.wrap .i64 ((1:Int)*2 ^ min (IntKind.wrap .u64 (receivers.length:Int)).toNat 64)).toNat) none),(450068024,.bun (encS 3 1 ai.enc m_2))]) ?_ ?_ ?_
  ·exact aV.go [.rn 530068001 450068024] [] (by kernel_rfl)
  ·rintro j2 Z2 m_2 hj2 hx2 hm
   rw[hB2]at hm
   refine qDs [] [] [(41,.bool (decide ((j2:Int)<(e_2.length:Int))))]<|A.seq<|A.cT rfl (decide_eq_true hx2)<|A.skip ?_
   obtain⟨J1,hJ1,hm⟩:=cV hm
   refine A.J (J:=J1) (r:=r) (λm_3=>[(0,lf (eL ai) bN),(1,i6 root),(2,lf ai receivers),(7,i6 (bN.length:Int)),(8,.own 68024),(9,i6 (j1:Int)),(26,i6 ((List.replicate (IntKind.wrap .i64 ((1:Int)*2 ^ min (IntKind.wrap .u64 (receivers.length:Int)).toNat 64)).toNat []:List (List Int)).length:Int)),(27,i6 (j1:Int)),(39,i6 (e_2.length:Int)),(40,i6 (j2:Int))]) (λm_3=>[(68024,.bM 22 450068024 ((IntKind.wrap .i64 ((1:Int)*2 ^ min (IntKind.wrap .u64 (receivers.length:Int)).toNat 64)).toNat) none),(450068024,.bun (encS 3 1 ai.enc m_3))]) ?_ ?_
   ·refine A.block<|qDs [] [41] [(10,i6 (j2:Int))] ?_
    obtain⟨e_3,h6,hm⟩:=aa hm
    obtain⟨e_4,h7,hm⟩:=aa hm
    refine qD [(2,hio 3 1 ai.enc ko h6),(3,hrw (T':=3) (sz:=1) (enc:=ai.enc) (l:=m_2) h6 kj),(5,hri (T':=3) (enc:=ai.enc) (l:=m_2) h6 h7 mK),(6,hrs (T':=3) (enc:=ai.enc) (f:=(AV.int .i64)) (1099511627776:Int) h6 h7 (λ_=>rfl) rfl rfl ty3)] [] [] [450068024] [(450068024,.bun (encS 3 1 ai.enc (List.set m_2 (j1:Int).toNat (List.set e_3 (j2:Int).toNat (1099511627776:Int)))))]<|qDs [] [] [(50,.bool (decide ((j1:Int)=(0:Int))))] ?_
    rcases aB hm with⟨c1,hm⟩|⟨c1,hm⟩
    ·refine qT c1 ?_
     obtain⟨e_5,h8,hm⟩:=aa hm
     obtain⟨e_6,h9,hm⟩:=aa hm
     exact qG [(2,hio 3 1 ai.enc ko h8),(3,hrw (T':=3) (sz:=1) (enc:=ai.enc) (l:=(List.set m_2 (j1:Int).toNat (List.set e_3 (j2:Int).toNat (1099511627776:Int)))) h8 kj),(5,hri (T':=3) (enc:=ai.enc) (l:=(List.set m_2 (j1:Int).toNat (List.set e_3 (j2:Int).toNat (1099511627776:Int)))) h8 h9 mK),(6,hrs (T':=3) (enc:=ai.enc) (f:=(AV.int .i64)) (0:Int) h8 h9 (λ_=>rfl) rfl rfl ty3)] [10,50] [] [450068024] [(450068024,.bun (encS 3 1 ai.enc (List.set (List.set m_2 (j1:Int).toNat (List.set e_3 (j2:Int).toNat (1099511627776:Int))) (j1:Int).toNat (List.set e_5 (j2:Int).toNat (0:Int)))))]<|qX (List.set (List.set m_2 (j1:Int).toNat (List.set e_3 (j2:Int).toNat (1099511627776:Int))) (j1:Int).toNat (List.set e_5 (j2:Int).toNat (0:Int))) hm
    exact qF c1<|A.skip<|qX (List.set m_2 (j1:Int).toNat (List.set e_3 (j2:Int).toNat (1099511627776:Int))) hm
   rintro m_3 hm
   rw[hJ1]at hm
   exact qGs [(0,hto (sE (by omega) hx2 (of_decide_eq_true hh2)))] [40] [(40,i6 (j2+1:Int))]<|qX m_3 hm
  rintro j2 m_2 hj2 hl2 hm
  rw[hK2]at hm
  refine qDs [] [] [(41,.bool (decide ((j2:Int)<(e_2.length:Int))))]<|A.seq<|A.cF rfl (geF hl2)<|A.exit<|A.seq<|qDs [(1,hto (lnE ai receivers))] [39,40,41] [(58,lf ai receivers),(59,i6 (receivers.length:Int)),(60,i6 0)]<|A.block<|A.bS 2 rfl λhb3=>?_
  obtain⟨B3,K3,hB3,hK3,hm⟩:=bf hm
  refine A.lpI (l:=receivers) (j0:=0) (B:=B3) (K:=K3) hm (λj3=>λm_4=>[(0,lf (eL ai) bN),(1,i6 root),(2,lf ai receivers),(7,i6 (bN.length:Int)),(8,.own 68024),(9,i6 (j1:Int)),(26,i6 ((List.replicate (IntKind.wrap .i64 ((1:Int)*2 ^ min (IntKind.wrap .u64 (receivers.length:Int)).toNat 64)).toNat []:List (List Int)).length:Int)),(27,i6 (j1:Int)),(58,lf ai receivers),(59,i6 (receivers.length:Int)),(60,i6 (j3:Int))]) (λj3=>λm_4=>[(68024,.bM 22 450068024 ((IntKind.wrap .i64 ((1:Int)*2 ^ min (IntKind.wrap .u64 (receivers.length:Int)).toNat 64)).toNat) none),(450068024,.bun (encS 3 1 ai.enc m_4))]) ?_ ?_ ?_
  ·exact qW
  ·rintro j3 e3 Z3 m_4 hj3 hx3 hm
   rw[hB3]at hm
   refine qDs [] [] [(61,.bool (decide ((j3:Int)<(receivers.length:Int))))]<|A.seq<|qT (ltT hx3)<|A.skip ?_
   obtain⟨J2,hJ2,hm⟩:=cV hm
   refine A.J (J:=J2) (r:=r) (λm_5=>[(0,lf (eL ai) bN),(1,i6 root),(2,lf ai receivers),(7,i6 (bN.length:Int)),(8,.own 68024),(9,i6 (j1:Int)),(26,i6 ((List.replicate (IntKind.wrap .i64 ((1:Int)*2 ^ min (IntKind.wrap .u64 (receivers.length:Int)).toNat 64)).toNat []:List (List Int)).length:Int)),(27,i6 (j1:Int)),(58,lf ai receivers),(59,i6 (receivers.length:Int)),(60,i6 (j3:Int))]) (λm_5=>[(68024,.bM 22 450068024 ((IntKind.wrap .i64 ((1:Int)*2 ^ min (IntKind.wrap .u64 (receivers.length:Int)).toNat 64)).toNat) none),(450068024,.bun (encS 3 1 ai.enc m_5))]) ?_ ?_
   ·refine A.block<|qDs [(1,hix (ix ai (bh hx3)))] [61] [(11,i6 (j3:Int)),(12,i6 e3)] ?_
    obtain⟨h10,hm⟩:=eC hm
    refine qDs [(3,.sh (IntKind.wrap .u64 (j3:Int)) (of_decide_eq_true h10))] [11] [(69,.bool (decide ((j1:Int)=IntKind.wrap .i64 ((1:Int)*2 ^ min (IntKind.wrap .u64 (j3:Int)).toNat 64))))] ?_
    rcases aB hm with⟨c2,hm⟩|⟨c2,hm⟩
    ·refine qT c2 ?_
     obtain⟨e_7,h11,hm⟩:=aa hm
     obtain⟨e_8,h12,hm⟩:=aa hm
     exact qG [(2,hio 3 1 ai.enc ko h11),(3,hrw (T':=3) (sz:=1) (enc:=ai.enc) (l:=m_4) h11 kj),(5,hri (T':=3) (enc:=ai.enc) (l:=m_4) h11 h12 mK),(6,hrs (T':=3) (enc:=ai.enc) (f:=(AV.int .i64)) (0:Int) h11 h12 (λ_=>rfl) rfl rfl ty3)] [12,69] [] [450068024] [(450068024,.bun (encS 3 1 ai.enc (List.set m_4 (j1:Int).toNat (List.set e_7 e3.toNat (0:Int)))))]<|qX (List.set m_4 (j1:Int).toNat (List.set e_7 e3.toNat (0:Int))) hm
    exact qF c2<|A.skip<|qX m_4 hm
   rintro m_5 hm
   rw[hJ2]at hm
   exact qGs [(0,hto (inc hx3 hb3))] [60] [(60,i6 ((j3+1:Nat):Int))]<|qX m_5 hm
  rintro j3 m_4 hj3 hl3 hm
  rw[hK3]at hm
  refine qDs [] [] [(61,.bool (decide ((j3:Int)<(receivers.length:Int))))]<|A.seq<|qF (ltF hl3)<|A.exit<|A.seq<|qDs [] [58,59,60,61] [(13,i6 0)]<|A.block ?_
  obtain⟨F4,n4,hF4,hm⟩:=fW hm
  refine A.lpW (F:=F4) hm (λ(v_1,m_6)=>[(0,lf (eL ai) bN),(1,i6 root),(2,lf ai receivers),(7,i6 (bN.length:Int)),(8,.own 68024),(9,i6 (j1:Int)),(13,i6 v_1),(26,i6 ((List.replicate (IntKind.wrap .i64 ((1:Int)*2 ^ min (IntKind.wrap .u64 (receivers.length:Int)).toNat 64)).toNat []:List (List Int)).length:Int)),(27,i6 (j1:Int))]) (λ(v_1,m_6)=>[(68024,.bM 22 450068024 ((IntKind.wrap .i64 ((1:Int)*2 ^ min (IntKind.wrap .u64 (receivers.length:Int)).toNat 64)).toNat) none),(450068024,.bun (encS 3 1 ai.enc m_6))]) ?_ ?_
  ·exact qW
  rintro Z4 ⟨v_1,m_6⟩ hm
  rw[hF4]at hm
  refine A.seq<|A.mid [(0,lf (eL ai) bN),(1,i6 root),(2,lf ai receivers),(7,i6 (bN.length:Int)),(8,.own 68024),(9,i6 (j1:Int)),(13,i6 v_1),(26,i6 ((List.replicate (IntKind.wrap .i64 ((1:Int)*2 ^ min (IntKind.wrap .u64 (receivers.length:Int)).toNat 64)).toNat []:List (List Int)).length:Int)),(27,i6 (j1:Int)),(83,.bool ((decide (v_1<(bN.length:Int)))&&(decide (0<(j1:Int)))))] [(68024,.bM 22 450068024 ((IntKind.wrap .i64 ((1:Int)*2 ^ min (IntKind.wrap .u64 (receivers.length:Int)).toNat 64)).toNat) none),(450068024,.bun (encS 3 1 ai.enc m_6))] (λhk=>?_) ?_
  ·rcases tf (decide (v_1<(bN.length:Int)))with c3|c3
   ·exact qS [(3,hto (bE c3)),(6,hto (jC (q:=decide (0<(j1:Int))) c3))] _ _ hk
   exact qS [(3,hto (bE c3)),(6,hto (mN (q:=decide (0<(j1:Int))) c3))] _ _ hk
  rcases aB hm with⟨c4,hm⟩|⟨c4,hm⟩
  ·refine qT c4<|A.skip<|A.seq<|A.block<|qDs [] [83] [(14,i6 (en .and .i64 (w64 ((j1:Int)-(1:Int))) (j1:Int)))]<|A.block ?_
   obtain⟨F5,n5,hF5,hm⟩:=fW hm
   refine A.lpW (F:=F5) hm (λ(lR,m_7)=>[(0,lf (eL ai) bN),(1,i6 root),(2,lf ai receivers),(7,i6 (bN.length:Int)),(8,.own 68024),(9,i6 (j1:Int)),(13,i6 v_1),(14,i6 lR),(26,i6 ((List.replicate (IntKind.wrap .i64 ((1:Int)*2 ^ min (IntKind.wrap .u64 (receivers.length:Int)).toNat 64)).toNat []:List (List Int)).length:Int)),(27,i6 (j1:Int))]) (λ(lR,m_7)=>[(68024,.bM 22 450068024 ((IntKind.wrap .i64 ((1:Int)*2 ^ min (IntKind.wrap .u64 (receivers.length:Int)).toNat 64)).toNat) none),(450068024,.bun (encS 3 1 ai.enc m_7))]) ?_ ?_
   ·exact qW
   rintro Z5 ⟨lR,m_7⟩ hm
   rw[hF5]at hm
   refine A.seq<|qDs [] [] [(91,.bool (decide (0<lR)))] ?_
   rcases aB hm with⟨c5,hm⟩|⟨c5,hm⟩
   ·refine qT c5<|A.skip<|A.seq<|A.block ?_
    obtain⟨e_9,h13,hm⟩:=aa hm
    obtain⟨s5,h14,hm⟩:=aa hm
    obtain⟨alD,h15,hm⟩:=aa hm
    obtain⟨s6,h16,hm⟩:=aa hm
    obtain⟨alF,h17,hm⟩:=aa hm
    obtain⟨s7,h18,hm⟩:=aa hm
    exact qG [(2,hio 3 1 ai.enc ko h13),(3,hrw (T':=3) (sz:=1) (enc:=ai.enc) (l:=m_7) h13 kj),(7,hio 3 1 ai.enc ko h13),(8,hrw (T':=3) (sz:=1) (enc:=ai.enc) (l:=m_7) h13 kj),(10,hri (T':=3) (enc:=ai.enc) (l:=m_7) h13 h14 mK),(11,hrl (T':=3) (enc:=ai.enc) (f:=(AV.int .i64)) h13 h14 (λ_=>rfl) ty3),(14,hio 3 1 ai.enc ko h15),(15,hrw (T':=3) (sz:=1) (enc:=ai.enc) (l:=m_7) h15 kj),(17,hri (T':=3) (enc:=ai.enc) (l:=m_7) h15 h16 mK),(18,hrl (T':=3) (enc:=ai.enc) (f:=(AV.int .i64)) h15 h16 (λ_=>rfl) ty3),(23,hio 3 1 ai.enc ko h17),(24,hrw (T':=3) (sz:=1) (enc:=ai.enc) (l:=m_7) h17 kj),(26,hri (T':=3) (enc:=ai.enc) (l:=m_7) h17 h18 mK),(27,hrl (T':=3) (enc:=ai.enc) (f:=(AV.int .i64)) h17 h18 (λ_=>rfl) ty3),(30,hri (T':=3) (enc:=ai.enc) (l:=m_7) h13 h14 mK),(31,hrs (T':=3) (enc:=ai.enc) (f:=(AV.int .i64)) (if(w64 (s6+s7))<s5 then w64 (s6+s7)else s5) h13 h14 (λ_=>rfl) rfl rfl ty3)] [91] [] [450068024] [(450068024,.bun (encS 3 1 ai.enc (List.set m_7 (j1:Int).toNat (List.set e_9 v_1.toNat (if(w64 (s6+s7))<s5 then w64 (s6+s7)else s5)))))]<|qGs [] [14] [(14,i6 (en .and .i64 (w64 (lR-1)) (j1:Int)))]<|qX (en .and .i64 (w64 (lR-1)) (j1:Int),(List.set m_7 (j1:Int).toNat (List.set e_9 v_1.toNat (if(w64 (s6+s7))<s5 then w64 (s6+s7)else s5)))) hm
   exact qF c5<|A.exit<|qGs [] [13,14,91] [(13,i6 (w64 (v_1+1)))]<|qX (w64 (v_1+1),m_7) hm
  refine qF c4<|A.exit<|qDs [] [13,83] [(15,.bool (decide (0<(j1:Int))))]<|A.block ?_
  obtain⟨F6,n6,hF6,hm⟩:=fW hm
  refine A.lpW (F:=F6) hm (λ(fP,m_8)=>[(0,lf (eL ai) bN),(1,i6 root),(2,lf ai receivers),(7,i6 (bN.length:Int)),(8,.own 68024),(9,i6 (j1:Int)),(15,.bool fP),(26,i6 ((List.replicate (IntKind.wrap .i64 ((1:Int)*2 ^ min (IntKind.wrap .u64 (receivers.length:Int)).toNat 64)).toNat []:List (List Int)).length:Int)),(27,i6 (j1:Int))]) (λ(fP,m_8)=>[(68024,.bM 22 450068024 ((IntKind.wrap .i64 ((1:Int)*2 ^ min (IntKind.wrap .u64 (receivers.length:Int)).toNat 64)).toNat) none),(450068024,.bun (encS 3 1 ai.enc m_8))]) ?_ ?_
  ·exact qW
  rintro Z6 ⟨fP,m_8⟩ hm
  rw[hF6]at hm
  refine A.seq<|qDs [] [] [(129,.bool fP)] ?_
  rcases aB hm with⟨c6,hm⟩|⟨c6,hm⟩
  ·refine qT c6<|A.skip<|A.block<|qDs [] [15,129] [(15,.bool false)]<|qDs [] [] [(16,i6 0)]<|A.block<|A.bS 0 rfl λhb7=>?_
   obtain⟨B7,K7,hB7,hK7,hm⟩:=bf hm
   refine A.lpI (l:=bN) (j0:=0) (B:=B7) (K:=K7) hm (λj7=>λ(dD,m_9)=>[(0,lf (eL ai) bN),(1,i6 root),(2,lf ai receivers),(7,i6 (bN.length:Int)),(8,.own 68024),(9,i6 (j1:Int)),(15,.bool dD),(16,i6 (j7:Int)),(26,i6 ((List.replicate (IntKind.wrap .i64 ((1:Int)*2 ^ min (IntKind.wrap .u64 (receivers.length:Int)).toNat 64)).toNat []:List (List Int)).length:Int)),(27,i6 (j1:Int))]) (λj7=>λ(dD,m_9)=>[(68024,.bM 22 450068024 ((IntKind.wrap .i64 ((1:Int)*2 ^ min (IntKind.wrap .u64 (receivers.length:Int)).toNat 64)).toNat) none),(450068024,.bun (encS 3 1 ai.enc m_9))]) ?_ ?_ ?_
   ·exact qW
   ·rintro j7 e7 Z7 ⟨dD,m_9⟩ hj7 hx7 hm
    rw[hB7]at hm
    refine A.seq<|qDs [] [] [(132,.bool (decide ((j7:Int)<(bN.length:Int))))] ?_
    refine qT (ltT hx7)<|A.skip<|A.seq<|A.block<|qDs [] [132] [(17,i6 0)]<|A.block<|A.bS 0 rfl λhb8=>?_
    obtain⟨B8,K8,hB8,hK8,hm⟩:=bf hm
    refine A.lpI (l:=bN) (j0:=0) (B:=B8) (K:=K8) hm (λj8=>λ(dY,fI)=>[(0,lf (eL ai) bN),(1,i6 root),(2,lf ai receivers),(7,i6 (bN.length:Int)),(8,.own 68024),(9,i6 (j1:Int)),(15,.bool dY),(16,i6 (j7:Int)),(17,i6 (j8:Int)),(26,i6 ((List.replicate (IntKind.wrap .i64 ((1:Int)*2 ^ min (IntKind.wrap .u64 (receivers.length:Int)).toNat 64)).toNat []:List (List Int)).length:Int)),(27,i6 (j1:Int))]) (λj8=>λ(dY,fI)=>[(68024,.bM 22 450068024 ((IntKind.wrap .i64 ((1:Int)*2 ^ min (IntKind.wrap .u64 (receivers.length:Int)).toNat 64)).toNat) none),(450068024,.bun (encS 3 1 ai.enc fI))]) ?_ ?_ ?_
    ·exact qW
    ·rintro j8 e8 Z8 ⟨dY,fI⟩ hj8 hx8 hm
     rw[hB8]at hm
     refine A.seq<|qDs [] [] [(137,.bool (decide ((j8:Int)<(bN.length:Int))))] ?_
     refine qT (ltT hx8)<|A.skip ?_
     obtain⟨J3,hJ3,hm⟩:=cV hm
     refine A.J (J:=J3) (r:=r) (λ(nh,oy)=>[(0,lf (eL ai) bN),(1,i6 root),(2,lf ai receivers),(7,i6 (bN.length:Int)),(8,.own 68024),(9,i6 (j1:Int)),(15,.bool nh),(16,i6 (j7:Int)),(17,i6 (j8:Int)),(26,i6 ((List.replicate (IntKind.wrap .i64 ((1:Int)*2 ^ min (IntKind.wrap .u64 (receivers.length:Int)).toNat 64)).toNat []:List (List Int)).length:Int)),(27,i6 (j1:Int))]) (λ(nh,oy)=>[(68024,.bM 22 450068024 ((IntKind.wrap .i64 ((1:Int)*2 ^ min (IntKind.wrap .u64 (receivers.length:Int)).toNat 64)).toNat) none),(450068024,.bun (encS 3 1 ai.enc oy))]) ?_ ?_
     ·refine A.block ?_
      obtain⟨J4,hJ4,hm⟩:=cV hm
      refine A.J (J:=J4) (r:=r) (λv_2=>[(0,lf (eL ai) bN),(1,i6 root),(2,lf ai receivers),(7,i6 (bN.length:Int)),(8,.own 68024),(9,i6 (j1:Int)),(15,.bool dY),(16,i6 (j7:Int)),(17,i6 (j8:Int)),(26,i6 ((List.replicate (IntKind.wrap .i64 ((1:Int)*2 ^ min (IntKind.wrap .u64 (receivers.length:Int)).toNat 64)).toNat []:List (List Int)).length:Int)),(27,i6 (j1:Int)),(172,.bool v_2)]) (λv_2=>[(68024,.bM 22 450068024 ((IntKind.wrap .i64 ((1:Int)*2 ^ min (IntKind.wrap .u64 (receivers.length:Int)).toNat 64)).toNat) none),(450068024,.bun (encS 3 1 ai.enc fI))]) ?_ ?_
      ·obtain⟨aav,h19,hm⟩:=aa hm
       rcases aB hm with⟨c7,hm⟩|⟨c7,hm⟩
       ·obtain⟨afc,h20,hm⟩:=aa hm
        obtain⟨acv,h21,hm⟩:=aa hm
        obtain⟨acw,h22,hm⟩:=aa hm
        exact qGs [(2,hix (ix (eL ai) (bh hx7))),(5,hix (ix ai h19)),(8,hto (bE c7)),(11,hix (ix (eL ai) (bh hx7))),(14,hix (ix ai h19)),(18,hio 3 1 ai.enc ko h20),(19,hrw (T':=3) (sz:=1) (enc:=ai.enc) (l:=fI) h20 kj),(21,hri (T':=3) (enc:=ai.enc) (l:=fI) h20 h21 mK),(22,hrl (T':=3) (enc:=ai.enc) (f:=(AV.int .i64)) h20 h21 (λ_=>rfl) ty3),(26,hio 3 1 ai.enc ko h20),(27,hrw (T':=3) (sz:=1) (enc:=ai.enc) (l:=fI) h20 kj),(29,hri (T':=3) (enc:=ai.enc) (l:=fI) h20 h22 mK),(30,hrl (T':=3) (enc:=ai.enc) (f:=(AV.int .i64)) h20 h22 (λ_=>rfl) ty3)] [137] [(172,.bool (decide (w64 (aav+acv)<acw)))]<|qX (decide (w64 (aav+acv)<acw)) hm
       exact qGs [(2,hix (ix (eL ai) (bh hx7))),(5,hix (ix ai h19)),(8,hto (bE c7))] [137] [(172,.bool false)]<|qX false hm
      rintro v_2 hm
      rw[hJ4]at hm
      rcases aB hm with⟨c8,hm⟩|⟨c8,hm⟩
      ·refine qT c8 ?_
       obtain⟨yg,h23,hm⟩:=aa hm
       obtain⟨aat,h24,hm⟩:=aa hm
       obtain⟨aau,h25,hm⟩:=aa hm
       obtain⟨e_22,h26,hm⟩:=aa hm
       exact qG [(2,hio 3 1 ai.enc ko h23),(3,hrw (T':=3) (sz:=1) (enc:=ai.enc) (l:=fI) h23 kj),(7,hix (ix (eL ai) (bh hx7))),(10,hix (ix ai h24)),(14,hio 3 1 ai.enc ko h23),(15,hrw (T':=3) (sz:=1) (enc:=ai.enc) (l:=fI) h23 kj),(17,hri (T':=3) (enc:=ai.enc) (l:=fI) h23 h25 mK),(18,hrl (T':=3) (enc:=ai.enc) (f:=(AV.int .i64)) h23 h25 (λ_=>rfl) ty3),(20,hri (T':=3) (enc:=ai.enc) (l:=fI) h23 h26 mK),(21,hrs (T':=3) (enc:=ai.enc) (f:=(AV.int .i64)) (w64 (aat+aau)) h23 h26 (λ_=>rfl) rfl rfl ty3)] [15,172] [(15,.bool true)] [450068024] [(450068024,.bun (encS 3 1 ai.enc (List.set fI (j1:Int).toNat (List.set yg (j7:Int).toNat (w64 (aat+aau))))))]<|qX (true,(List.set fI (j1:Int).toNat (List.set yg (j7:Int).toNat (w64 (aat+aau))))) hm
      exact qF c8<|A.skip<|qX (dY,fI) hm
     rintro⟨nh,oy⟩ hm
     rw[hJ3]at hm
     exact qGs [(1,hto (inc hx8 hb8))] [17] [(17,i6 ((j8+1:Nat):Int))]<|qX (nh,oy) hm
    rintro j8 ⟨dY,fI⟩ hj8 hl8 hm
    rw[hK8]at hm
    refine A.seq<|qDs [] [] [(137,.bool (decide ((j8:Int)<(bN.length:Int))))] ?_
    exact qF (ltF hl8)<|A.exit<|qGs [(1,hto (inc hx7 hb7))] [16,17,137] [(16,i6 ((j7+1:Nat):Int))]<|qX (dY,fI) hm
   rintro j7 ⟨dD,m_9⟩ hj7 hl7 hm
   rw[hK7]at hm
   refine A.seq<|qDs [] [] [(132,.bool (decide ((j7:Int)<(bN.length:Int))))] ?_
   exact qF (ltF hl7)<|A.exit<|qX (dD,m_9) hm
  exact qF c6<|A.exit<|qGs [(0,hto (sE (by omega) hx1 (of_decide_eq_true hh1)))] [9,15,27,129] [(27,i6 (j1+1:Int))]<|qX m_8 hm
 rintro j1 m_1 hj1 hl1 hm
 rw[hK1]at hm
 refine qDs [] [] [(28,.bool (decide ((j1:Int)<((List.replicate (IntKind.wrap .i64 ((1:Int)*2 ^ min (IntKind.wrap .u64 (receivers.length:Int)).toNat 64)).toNat []:List (List Int)).length:Int))))]<|A.seq<|A.cF rfl (geF hl1)<|A.exit<|A.weak (aV.ae0 (d:=68024) (e:=450068024) m_1 ai.enc rfl rfl) ?_
 obtain⟨alG,h27,hm⟩:=aa hm
 obtain⟨afd,h28,hm⟩:=aa hm
 refine qS [(2,hto (lnE (eL ai) m_1)),(4,hix (ix (eL ai) h27)),(5,hlo 68024 0 (ix (eL ai) h27)),(7,hix (ix ai h28))] [(6,i6 afd)] [] ?_
 cases hm
 exact A.ret qE
theorem tP{root:Int}{r:Int×Int}(hm:iO t root receivers=some r):RO prog 17 [] [.agg (k2 t),i6 root,lf ai receivers] (.tup [i6 r.1,i6 r.2]):=by
 refine aY func17 rfl rfl ?_
 unfold iO at hm
 refine qS [(0,.al 17003)] [(1,i6 root),(2,lf ai receivers),(3,.ptr 17003 0)] [(17003,.cells 28 (k2 t))]<|A.seq ?_
 obtain⟨az,h1,hm⟩:=aa hm
 refine qDs [(3,hro (wD h1) ck65)] [] [(8,i6 az)]<|qDs [] [] [(19,.bool (!decide (az=0)))] ?_
 rcases aB hm with⟨c1,hm⟩|⟨c1,hm⟩
 ·refine qT c1<|qS [] [(6,i6 0),(7,i6 az)] [] ?_
  cases hm
  exact A.ret qE
 refine qF c1<|A.skip<|A.seq<|qDs [(1,hto (lnE ai receivers))] [8,19] [(23,.bool (decide (6<(receivers.length:Int))))] ?_
 rcases aB hm with⟨c2,hm⟩|⟨c2,hm⟩
 ·refine qT c2<|qS [] [(6,i6 0),(7,i6 3)] [] ?_
  cases hm
  exact A.ret qE
 refine qF c2<|A.skip<|A.seq ?_
 obtain⟨aD,h2,hm⟩:=aa hm
 refine qDs [(3,hro (s8 h2) ck66)] [23] [(28,.bool (!aD))] ?_
 rcases aB hm with⟨c3,hm⟩|⟨c3,hm⟩
 ·refine qT c3<|qS [] [(6,i6 0),(7,i6 9)] [] ?_
  cases hm
  exact A.ret qE
 refine qF c3<|A.skip ?_
 obtain⟨bt,h3,hm⟩:=aa hm
 refine qD [(1,hro (wE h3) ck67),(5,hva 17010 (Vec.zero 100) zy (by kernel_rfl)),(7,hvt (Vec.zero 100) bt.2 w9.size)] [3,28] [(10,.ptr 17010 0),(9,lf (eL ai) bt.1)] [17003] [(17010,.vec 114 bt.2.l)]<|qDs [] [] [(11,.bn)]<|A.seq<|qDs [(1,hto (lnE ai receivers))] [2] [(34,lf ai receivers),(35,i6 (receivers.length:Int)),(36,i6 0)]<|A.block<|A.bS 34 rfl λhb1=>?_
 obtain⟨B1,K1,hB1,hK1,hm⟩:=bf hm
 refine A.lpI (l:=receivers) (j0:=0) (B:=B1) (K:=K1) hm (λj1=>λl_1=>[(1,i6 root),(9,lf (eL ai) bt.1),(10,.ptr 17010 0),(11,.own 600017011),(34,lf ai receivers),(35,i6 (receivers.length:Int)),(36,i6 (j1:Int))]) (λj1=>λl_1=>[(17010,.vec 114 bt.2.l),(600017011,.slice 3 1 (ml ai l_1) 0 false)]) ?_ ?_ ?_
 ·exact aV.go [.ad 11 600017011 3 1] [] (by kernel_rfl)
 ·rintro j1 e1 Z1 l_1 hj1 hx1 hm
  rw[hB1]at hm
  refine qDs [] [] [(37,.bool (decide ((j1:Int)<(receivers.length:Int))))]<|A.seq<|qT (ltT hx1)<|A.skip<|A.seq<|A.block<|qDs [(0,hix (ix ai (bh hx1)))] [37] [(13,i6 e1)] ?_
  obtain⟨e_1,h4,hm⟩:=aa hm
  obtain⟨l_2,h5,hm⟩:=aa hm
  exact qG [(2,hvi (v:=bt.2) h4 underlying114 sizeOf3),(3,hvl (v:=bt.2) h4 ty3),(5,hap 17545 (ap ai (bytes:=8) (by decide) h5))] [11,13] [(11,.own 17545)] [600017011] [(17545,.slice 3 1 (ml ai l_2) 0 false)]<|qGs [(0,hto (inc hx1 hb1))] [36] [(36,i6 ((j1+1:Nat):Int))]<|Exists.intro l_2 (And.intro hm (aV.go [.sw 17545 600017011] [] (by kernel_rfl)))
 rintro j1 l_1 hj1 hl1 hm
 rw[hK1]at hm
 refine qDs [] [] [(37,.bool (decide ((j1:Int)<(receivers.length:Int))))]<|A.seq<|qF (ltF hl1)<|A.exit ?_
 obtain⟨e_2,h6,hm⟩:=aa hm
 obtain⟨bJ,h7,hm⟩:=aa hm
 refine qS [(2,hvi (v:=bt.2) h6 underlying114 sizeOf3),(3,hvl (v:=bt.2) h6 ty3),(5,hle [600017011] (wF h7) ck68)] [(6,i6 bJ),(7,i6 0)] [] ?_
 cases hm
 exact A.ret qE
end Go.Proofs.YtmnbolcmepihlaaGreat
