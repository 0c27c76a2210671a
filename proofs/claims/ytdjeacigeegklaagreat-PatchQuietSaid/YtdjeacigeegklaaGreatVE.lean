/- The iJ of ez of the program. No condition but bK bn stand in each. -/
import Derived.Test.YtdjeacigeegklaaGreatVX
namespace Go.Proofs.YtdjeacigeegklaaGreat
open Go Go.Proofs.Tryz
set_option maxRecDepth 100000
set_option linter.all false
theorem nV{n:Int}{r:Bool}(hm:mW n=some r):RO prog 133 [] [i6 n] (.bool r):=by
 refine aY func133 rfl rfl ?_
 unfold mW at hm
 refine qS [] [(0,i6 n)] []<|A.mid [(2,.bool ((decide (n=8))||((decide (n=16))||((decide (n=32))||(decide (n=64))))))] [] (λhk=>?_) ?_
 ·rcases tf (decide (n=8))with c1|c1
  ·exact qS [(2,hto (bE c1)),(14,hto (orT (q:=((decide (n=16))||((decide (n=32))||(decide (n=64))))) c1))] _ _ hk
  rcases tf (decide (n=16))with c2|c2
  ·exact qS [(2,hto (bE c1)),(6,hto (bE c2)),(14,hto ((orT (q:=((decide (n=32))||(decide (n=64)))) c2).trans (orF (q:=((decide (n=16))||((decide (n=32))||(decide (n=64))))) c1)))] _ _ hk
  rcases tf (decide (n=32))with c3|c3
  ·exact qS [(2,hto (bE c1)),(6,hto (bE c2)),(10,hto (bE c3)),(14,hto (((orT (q:=decide (n=64)) c3).trans (orF (q:=((decide (n=32))||(decide (n=64)))) c2)).trans (orF (q:=((decide (n=16))||((decide (n=32))||(decide (n=64))))) c1)))] _ _ hk
  exact qS [(2,hto (bE c1)),(6,hto (bE c2)),(10,hto (bE c3)),(14,hto (((orF (q:=decide (n=64)) c3).trans (orF (q:=((decide (n=32))||(decide (n=64)))) c2)).trans (orF (q:=((decide (n=16))||((decide (n=32))||(decide (n=64))))) c1)))] _ _ hk
 cases hm
 exact A.ret qE
theorem adS{k:Int}{r:Int}(hm:xG k=some r):RO prog 157 [] [i6 k] (.int .u64 r):=by
 refine aY func157 rfl rfl ?_
 unfold xG at hm
 refine qS [] [(0,i6 k)] []<|A.seq<|A.mid [(0,i6 k),(8,.bool ((decide (k<0))||(decide (63<k))))] [] (λhk=>?_) ?_
 ·rcases tf (decide (k<0))with c1|c1
  ·exact qS [(2,hto (bE c1)),(5,hto (orT (q:=decide (63<k)) c1))] _ _ hk
  exact qS [(2,hto (bE c1)),(5,hto (orF (q:=decide (63<k)) c1))] _ _ hk
 rcases ak hm with⟨c2,hm⟩|⟨c2,hm⟩
 ·refine qT c2<|qS [] [(2,.int .u64 (0:Int))] [] ?_
  cases hm
  exact A.ret qE
 refine qF c2<|A.skip ?_
 obtain⟨h1,hm⟩:=eE hm
 refine qS [(2,.sh (IntKind.wrap .u64 k) (of_decide_eq_true h1))] [(2,.int .u64 (IntKind.wrap .u64 ((1:Int)*2 ^ min (IntKind.wrap .u64 k).toNat 64)))] [] ?_
 cases hm
 exact A.ret qE
theorem ac2{length:Int}{r:Int}(hm:tj length=some r):RO prog 134 [] [i6 length] (.int .u64 r):=by
 refine aY func134 rfl rfl ?_
 unfold tj at hm
 refine qS [] [(0,i6 length)] []<|A.seq ?_
 obtain⟨ai,h1,hm⟩:=af hm
 refine qDs [(1,hro (nV h1) ail)] [] [(7,.bool (!ai))] ?_
 rcases ak hm with⟨c1,hm⟩|⟨c1,hm⟩
 ·refine qT c1<|qS [] [(2,.int .u64 (0:Int))] [] ?_
  cases hm
  exact A.ret qE
 refine qF c1<|A.skip<|qDs [] [7] [(3,.int .u64 (0:Int))]<|A.seq<|qDs [] [] [(4,i6 0)]<|A.block ?_
 obtain⟨hh1,hm⟩:=eE hm
 obtain⟨B1,K1,hB1,hK1,hm⟩:=oJ hm
 refine A.lpN (hi:=length) (B:=B1) (K:=K1) hm rfl (λj1=>λb_1=>[(0,i6 length),(3,.int .u64 b_1),(4,i6 (j1:Int))]) (λj1=>λb_1=>[]) ?_ ?_ ?_
 ·exact qW
 ·rintro j1 Z1 b_1 hj1 hx1 hm
  rw[hB1]at hm
  refine A.seq<|qDs [] [] [(10,.bool (decide ((j1:Int)<length)))] ?_
  refine A.cT rfl (decide_eq_true hx1)<|A.skip<|A.seq<|A.block ?_
  obtain⟨aD,h2,hm⟩:=af hm
  exact qGs [(2,hro (adS h2) axP)] [3,10] [(3,.int .u64 (aS .or .u64 b_1 aD))]<|qGs [(1,hto (zT (by omega) hx1 (of_decide_eq_true hh1)))] [4] [(4,i6 (j1+1:Int))]<|qX (aS .or .u64 b_1 aD) hm
 rintro j1 b_1 hj1 hl1 hm
 rw[hK1]at hm
 refine A.seq<|qDs [] [] [(10,.bool (decide ((j1:Int)<length)))] ?_
 refine A.cF rfl (geF hl1)<|A.exit<|qS [] [(2,.int .u64 b_1)] [] ?_
 cases hm
 exact A.ret qE
theorem kS{b:Int}{length:Int}{r:Bool}(hm:pe b length=some r):RO prog 92 [] [.int .u64 b,i6 length] (.bool r):=by
 refine aY func92 rfl rfl ?_
 unfold pe at hm
 refine qS [] [(0,.int .u64 b),(1,i6 length)] [] ?_
 obtain⟨ai,h1,hm⟩:=af hm
 rcases ak hm with⟨c1,hm⟩|⟨c1,hm⟩
 ·obtain⟨aD,h2,hm⟩:=af hm
  refine qS [(1,hro (nV h1) ail),(2,hto (bE c1)),(5,hro (ac2 h2) axz)] [(4,.bool (decide (aS .andNot .u64 b aD=0)))] [] ?_
  cases hm
  exact A.ret qE
 refine qS [(1,hro (nV h1) ail),(2,hto (bE c1))] [(4,.bool false)] [] ?_
 cases hm
 exact A.ret qE
theorem bQ{n:Int}{most:Int}{r:Bool}(hm:iw n most=some r):RO prog 91 [] [i6 n,i6 most] (.bool r):=by
 refine aY func91 rfl rfl ?_
 unfold iw at hm
 refine qS [] [(0,i6 n),(1,i6 most)] []<|A.mid [(4,.bool ((decide (0≤n))&&(decide (n≤most))))] [] (λhk=>?_) ?_
 ·rcases tf (decide (0≤n))with c1|c1
  ·exact qS [(2,hto (bE c1)),(7,hto (oP (q:=decide (n≤most)) c1))] _ _ hk
  exact qS [(2,hto (bE c1)),(7,hto (qa (q:=decide (n≤most)) c1))] _ _ hk
 cases hm
 exact A.ret qE
variable {p:aH}
theorem rL{r:Bool}(hm:l6 p=some r):RO prog 55 [] [.agg (k10 p)] (.bool r):=by
 refine aY func55 rfl rfl ?_
 unfold l6 at hm
 refine qS [(0,.al 55001)] [(1,.ptr 55001 0)] [(55001,.cells 36 (k10 p))] ?_
 rcases ak hm with⟨c1,hm⟩|⟨c1,hm⟩
 ·rcases ak hm with⟨c2,hm⟩|⟨c2,hm⟩
  ·obtain⟨ai,h1,hm⟩:=af hm
   rcases ak hm with⟨c3,hm⟩|⟨c3,hm⟩
   ·obtain⟨aD,h2,hm⟩:=af hm
    rcases ak hm with⟨c4,hm⟩|⟨c4,hm⟩
    ·obtain⟨aX,h3,hm⟩:=af hm
     rcases ak hm with⟨c5,hm⟩|⟨c5,hm⟩
     ·obtain⟨bu,h4,hm⟩:=af hm
      rcases ak hm with⟨c6,hm⟩|⟨c6,hm⟩
      ·obtain⟨bz,h5,hm⟩:=af hm
       rcases ak hm with⟨c7,hm⟩|⟨c7,hm⟩
       ·obtain⟨cw,h6,hm⟩:=af hm
        rcases ak hm with⟨c8,hm⟩|⟨c8,hm⟩
        ·obtain⟨bN,h7,hm⟩:=af hm
         rcases ak hm with⟨c9,hm⟩|⟨c9,hm⟩
         ·refine qS [(3,hto (bE c1)),(8,hto (bE c2)),(11,hro (bQ h1) jH),(13,hto (bE c3)),(16,hro (bQ h2) jH),(18,hto (bE c4)),(23,hro (kS h3) adK),(25,hto (bE c5)),(28,hro (bQ h4) jH),(30,hto (bE c6)),(33,hro (bQ h5) jH),(35,hto (bE c7)),(38,hro (bQ h6) jH),(40,hto (bE c8)),(43,hro (bQ h7) jH),(45,hto (bE c9))] [(2,.bool (decide ((p.cu.size:Int)≤(64:Int))))] [] ?_
          cases hm
          exact A.ret qE
         refine qS [(3,hto (bE c1)),(8,hto (bE c2)),(11,hro (bQ h1) jH),(13,hto (bE c3)),(16,hro (bQ h2) jH),(18,hto (bE c4)),(23,hro (kS h3) adK),(25,hto (bE c5)),(28,hro (bQ h4) jH),(30,hto (bE c6)),(33,hro (bQ h5) jH),(35,hto (bE c7)),(38,hro (bQ h6) jH),(40,hto (bE c8)),(43,hro (bQ h7) jH),(45,hto (bE c9))] [(2,.bool false)] [] ?_
         cases hm
         exact A.ret qE
        refine qS [(3,hto (bE c1)),(8,hto (bE c2)),(11,hro (bQ h1) jH),(13,hto (bE c3)),(16,hro (bQ h2) jH),(18,hto (bE c4)),(23,hro (kS h3) adK),(25,hto (bE c5)),(28,hro (bQ h4) jH),(30,hto (bE c6)),(33,hro (bQ h5) jH),(35,hto (bE c7)),(38,hro (bQ h6) jH),(40,hto (bE c8))] [(2,.bool false)] [] ?_
        cases hm
        exact A.ret qE
       refine qS [(3,hto (bE c1)),(8,hto (bE c2)),(11,hro (bQ h1) jH),(13,hto (bE c3)),(16,hro (bQ h2) jH),(18,hto (bE c4)),(23,hro (kS h3) adK),(25,hto (bE c5)),(28,hro (bQ h4) jH),(30,hto (bE c6)),(33,hro (bQ h5) jH),(35,hto (bE c7))] [(2,.bool false)] [] ?_
       cases hm
       exact A.ret qE
      refine qS [(3,hto (bE c1)),(8,hto (bE c2)),(11,hro (bQ h1) jH),(13,hto (bE c3)),(16,hro (bQ h2) jH),(18,hto (bE c4)),(23,hro (kS h3) adK),(25,hto (bE c5)),(28,hro (bQ h4) jH),(30,hto (bE c6))] [(2,.bool false)] [] ?_
      cases hm
      exact A.ret qE
     refine qS [(3,hto (bE c1)),(8,hto (bE c2)),(11,hro (bQ h1) jH),(13,hto (bE c3)),(16,hro (bQ h2) jH),(18,hto (bE c4)),(23,hro (kS h3) adK),(25,hto (bE c5))] [(2,.bool false)] [] ?_
     cases hm
     exact A.ret qE
    refine qS [(3,hto (bE c1)),(8,hto (bE c2)),(11,hro (bQ h1) jH),(13,hto (bE c3)),(16,hro (bQ h2) jH),(18,hto (bE c4))] [(2,.bool false)] [] ?_
    cases hm
    exact A.ret qE
   refine qS [(3,hto (bE c1)),(8,hto (bE c2)),(11,hro (bQ h1) jH),(13,hto (bE c3))] [(2,.bool false)] [] ?_
   cases hm
   exact A.ret qE
  refine qS [(3,hto (bE c1)),(8,hto (bE c2))] [(2,.bool false)] [] ?_
  cases hm
  exact A.ret qE
 refine qS [(3,hto (bE c1))] [(2,.bool false)] [] ?_
 cases hm
 exact A.ret qE
variable {t:aa}
theorem wj{ra1:Int}{r:Int}(hm:pg t ra1=some r):RO prog 165 [] [.agg (k2 t),i6 ra1] (i6 r):=by
 refine aY func165 rfl rfl ?_
 unfold pg at hm
 refine qS [(0,.al 165002)] [(1,i6 ra1),(2,.ptr 165002 0)] [(165002,.cells 28 (k2 t))]<|A.seq<|qDs [] [] [(5,i6 0)]<|A.block<|A.bC 2 0 rfl rfl rfl λhb1=>?_
 obtain⟨B1,K1,hB1,hK1,hm⟩:=bq hm
 refine A.lpI (l:=t.aj) (j0:=0) (B:=B1) (K:=K1) hm (λj1=>λ()=>[(1,i6 ra1),(2,.ptr 165002 0),(5,i6 (j1:Int))]) (λj1=>λ()=>[(165002,.cells 28 (k2 t))]) ?_ ?_ ?_
 ·exact qW
 ·rintro j1 e1 Z1 ⟨⟩ hj1 hx1 hm
  rw[hB1]at hm
  refine A.seq<|qDs [(3,hto (lnE aI t.aj))] [] [(10,.bool (decide ((j1:Int)<(t.aj.length:Int))))] ?_
  refine qT (ltT hx1)<|A.skip<|A.seq<|A.block<|qDs [(3,hix (ix aI (bA hx1)))] [10] [(20,.bool (decide (e1.ID=ra1)))] ?_
  rcases ak hm with⟨c1,hm⟩|⟨c1,hm⟩
  ·refine qT c1<|qS [] [(4,i6 (j1:Int))] [] ?_
   cases hm
   exact A.ret qE
  exact qF c1<|A.skip<|qGs [(1,hto (inc hx1 hb1))] [5,20] [(5,i6 ((j1+1:Nat):Int))]<|qX () hm
 rintro j1 ⟨⟩ hj1 hl1 hm
 rw[hK1]at hm
 refine A.seq<|qDs [(3,hto (lnE aI t.aj))] [] [(10,.bool (decide ((j1:Int)<(t.aj.length:Int))))] ?_
 refine qF (ltF hl1)<|A.exit<|qS [] [(4,i6 0)] [] ?_
 cases hm
 exact A.ret qE
variable {r:(List Int)}
theorem ae5{aal:Int}(hm:tq t aal=some r):RO prog 152 [] [.agg (k2 t),i6 aal] (lf aA r):=by
 refine aY func152 rfl rfl ?_
 unfold tq at hm
 refine qS [(0,.al 152002)] [(1,i6 aal),(2,.ptr 152002 0)] [(152002,.cells 28 (k2 t))] ?_
 obtain⟨h1,hm⟩:=eE hm
 refine qD [(2,hto (lnE aI t.aj)),(3,hms (a:=i6 0) 152015 (0:Int) aA.enc (t.aj.length:Int) ahS amD rfl (λI=>by simp[aL]) h1 (by decide))] [] [(5,.own 152015)] [] [(152015,.slice 3 1 (ml aA (List.replicate ((t.aj.length:Int)).toNat (0:Int))) 0 false)]<|A.seq<|qDs [] [] [(6,i6 0)]<|A.block ?_
 obtain⟨F1,n1,hF1,hm⟩:=iE hm
 refine A.lpW (F:=F1) hm (λ(d_1,i_1)=>[(1,i6 aal),(2,.ptr 152002 0),(5,.own 600152005),(6,i6 i_1)]) (λ(d_1,i_1)=>[(152002,.cells 28 (k2 t)),(600152005,.slice 3 1 (ml aA d_1) 0 false)]) ?_ ?_
 ·exact bt.go [.sw 152015 600152005] [] (by kernel_rfl)
 rintro Z1 ⟨d_1,i_1⟩ hm
 rw[hF1]at hm
 refine A.seq<|qDs [(2,hto (lnE aA d_1))] [] [(19,.bool (decide (i_1<(d_1.length:Int))))] ?_
 rcases ak hm with⟨c1,hm⟩|⟨c1,hm⟩
 ·refine qT c1<|A.skip ?_
  obtain⟨J1,hJ1,hm⟩:=bZ hm
  refine A.J (J:=J1) (r:=r) (λd_2=>[(1,i6 aal),(2,.ptr 152002 0),(5,.own 600152005),(6,i6 i_1)]) (λd_2=>[(152002,.cells 28 (k2 t)),(600152005,.slice 3 1 (ml aA d_2) 0 false)]) ?_ ?_
  ·refine A.block ?_
   obtain⟨e_1,h2,hm⟩:=af hm
   obtain⟨l_1,h3,hm⟩:=af hm
   refine qD [(2,hix (ix aA h2)),(3,hso 600152005 (st aA (off:=0) (ca:=[i6 1073741824]) h2 h3 rfl) (tU h2).1.1)] [19] [] [600152005] [(600152005,.slice 3 1 (ml aA l_1) 0 false)] ?_
   obtain⟨e_2,h4,hm⟩:=af hm
   refine qDs [(3,hix (ix aI h4))] [] [(32,.bool (decide (e_2.ID=aal)))] ?_
   rcases ak hm with⟨c2,hm⟩|⟨c2,hm⟩
   ·refine qT c2 ?_
    obtain⟨e_3,h5,hm⟩:=af hm
    obtain⟨l_2,h6,hm⟩:=af hm
    exact qG [(2,hix (ix aA h5)),(3,hso 600152005 (st aA (off:=0) (ca:=[i6 0]) h5 h6 rfl) (tU h5).1.1)] [32] [] [600152005] [(600152005,.slice 3 1 (ml aA l_2) 0 false)]<|qX l_2 hm
   exact qF c2<|A.skip<|qX l_1 hm
  rintro d_2 hm
  rw[hJ1]at hm
  exact qGs [] [6] [(6,i6 (w64 (i_1+1)))]<|qX (d_2,w64 (i_1+1)) hm
 refine qF c1<|A.exit<|A.seq<|qDs [] [1,6,19] [(7,i6 0)]<|A.block ?_
 obtain⟨F2,n2,hF2,hm⟩:=iE hm
 refine A.lpW (F:=F2) hm (λ(d_3,ng)=>[(2,.ptr 152002 0),(5,.own 600152005),(7,i6 ng)]) (λ(d_3,ng)=>[(152002,.cells 28 (k2 t)),(600152005,.slice 3 1 (ml aA d_3) 0 false)]) ?_ ?_
 ·exact qW
 rintro Z2 ⟨d_3,ng⟩ hm
 rw[hF2]at hm
 refine A.seq<|qDs [(2,hto (lnE aA d_3))] [] [(39,.bool (decide (ng<(d_3.length:Int))))] ?_
 rcases ak hm with⟨c3,hm⟩|⟨c3,hm⟩
 ·refine qT c3<|A.skip<|A.seq<|A.block<|qDs [] [39] [(8,i6 0)]<|A.block<|A.bC 2 1 rfl rfl rfl λhb3=>?_
  obtain⟨B3,K3,hB3,hK3,hm⟩:=bq hm
  refine A.lpI (l:=t.Links) (j0:=0) (B:=B3) (K:=K3) hm (λj3=>λd_4=>[(2,.ptr 152002 0),(5,.own 600152005),(7,i6 ng),(8,i6 (j3:Int))]) (λj3=>λd_4=>[(152002,.cells 28 (k2 t)),(600152005,.slice 3 1 (ml aA d_4) 0 false)]) ?_ ?_ ?_
  ·exact qW
  ·rintro j3 e3 Z3 d_4 hj3 hx3 hm
   rw[hB3]at hm
   refine A.seq<|qDs [(3,hto (lnE aT t.Links))] [] [(46,.bool (decide ((j3:Int)<(t.Links.length:Int))))] ?_
   refine qT (ltT hx3)<|A.skip ?_
   obtain⟨J2,hJ2,hm⟩:=bZ hm
   refine A.J (J:=J2) (r:=r) (λd_5=>[(2,.ptr 152002 0),(5,.own 600152005),(7,i6 ng),(8,i6 (j3:Int))]) (λd_5=>[(152002,.cells 28 (k2 t)),(600152005,.slice 3 1 (ml aA d_5) 0 false)]) ?_ ?_
   ·refine A.block<|qD [(3,hix (ix aT (bA hx3))),(5,.al 152009)] [46] [(9,.ptr 152009 0)] [] [(152009,.cells 89 (k1 e3))] ?_
    obtain⟨ai,h7,hm⟩:=af hm
    obtain⟨aD,h8,hm⟩:=af hm
    refine qDs [(3,hro (wj h7) ans),(7,hro (wj h8) ans)] [] [(10,i6 ai),(11,i6 aD)] ?_
    obtain⟨J3,hJ3,hm⟩:=bZ hm
    refine A.J (J:=J3) (r:=r) (λd_6=>[(2,.ptr 152002 0),(5,.own 600152005),(7,i6 ng),(8,i6 (j3:Int)),(9,.ptr 152009 0),(10,i6 ai),(11,i6 aD)]) (λd_6=>[(152002,.cells 28 (k2 t)),(600152005,.slice 3 1 (ml aA d_6) 0 false),(152009,.cells 89 (k1 e3))]) ?_ ?_
    ·obtain⟨e_4,h9,hm⟩:=af hm
     refine qDs [(2,hix (ix aA h9)),(3,hlo 600152005 0 (ix aA h9))] [] [(66,.bool (decide (e_4<1073741824)))] ?_
     rcases ak hm with⟨c4,hm⟩|⟨c4,hm⟩
     ·refine qT c4 ?_
      obtain⟨e_5,h10,hm⟩:=af hm
      obtain⟨l_3,h11,hm⟩:=af hm
      exact qG [(4,hix (ix aA h10)),(5,hlo 600152005 0 (ix aA h10)),(10,hix (ix aA h9)),(11,hlo 600152005 0 (ix aA h9)),(14,hix (ix aA h10)),(15,hso 600152005 (st aA (off:=0) (ca:=[i6 (if(w64 (e3.iK+e_4))<e_5 then w64 (e3.iK+e_4)else e_5)]) h10 h11 rfl) (tU h10).1.1)] [66] [] [600152005] [(600152005,.slice 3 1 (ml aA l_3) 0 false)]<|qX l_3 hm
     exact qF c4<|A.skip<|qX d_4 hm
    rintro d_6 hm
    rw[hJ3]at hm
    obtain⟨e_6,h12,hm⟩:=af hm
    refine qDs [(2,hix (ix aA h12)),(3,hlo 600152005 0 (ix aA h12))] [] [(86,.bool (decide (e_6<1073741824)))] ?_
    rcases ak hm with⟨c5,hm⟩|⟨c5,hm⟩
    ·refine qT c5 ?_
     obtain⟨e_7,h13,hm⟩:=af hm
     obtain⟨l_4,h14,hm⟩:=af hm
     exact qG [(4,hix (ix aA h13)),(5,hlo 600152005 0 (ix aA h13)),(10,hix (ix aA h12)),(11,hlo 600152005 0 (ix aA h12)),(14,hix (ix aA h13)),(15,hso 600152005 (st aA (off:=0) (ca:=[i6 (if(w64 (e3.iL+e_6))<e_7 then w64 (e3.iL+e_6)else e_7)]) h13 h14 rfl) (tU h13).1.1)] [9,10,11,86] [] [600152005,152009] [(600152005,.slice 3 1 (ml aA l_4) 0 false)]<|qX l_4 hm
    exact qF c5<|A.skip<|qX d_6 hm
   rintro d_5 hm
   rw[hJ2]at hm
   exact qGs [(1,hto (inc hx3 hb3))] [8] [(8,i6 ((j3+1:Nat):Int))]<|qX d_5 hm
  rintro j3 d_4 hj3 hl3 hm
  rw[hK3]at hm
  refine A.seq<|qDs [(3,hto (lnE aT t.Links))] [] [(46,.bool (decide ((j3:Int)<(t.Links.length:Int))))] ?_
  exact qF (ltF hl3)<|A.exit<|qGs [] [7,8,46] [(7,i6 (w64 (ng+1)))]<|qX (d_4,w64 (ng+1)) hm
 refine qF c3<|A.exit<|qD [] [2,5,7,39] [(4,.own 600152005)] [152002] []<|A.ret ?_
 obtain rfl:=some_inj hm
 exact A.fin W0 [.fz [600152005]] rfl (by kernel_rfl)
variable {d:List Int}
theorem rE{ra2:Int}{r:Int}(hm:nE t d ra2=some r):RO prog 166 [] [.agg (k2 t),lf aA d,i6 ra2] (i6 r):=by
 refine aY func166 rfl rfl ?_
 unfold nE at hm
 refine qS [(0,.al 166003)] [(1,lf aA d),(2,i6 ra2),(3,.ptr 166003 0)] [(166003,.cells 28 (k2 t))]<|A.seq<|qDs [] [] [(7,i6 0)]<|A.block<|A.bC 3 0 rfl rfl rfl λhb1=>?_
 obtain⟨B1,K1,hB1,hK1,hm⟩:=bq hm
 refine A.lpI (l:=t.aj) (j0:=0) (B:=B1) (K:=K1) hm (λj1=>λ()=>[(1,lf aA d),(2,i6 ra2),(3,.ptr 166003 0),(7,i6 (j1:Int))]) (λj1=>λ()=>[(166003,.cells 28 (k2 t))]) ?_ ?_ ?_
 ·exact qW
 ·rintro j1 e1 Z1 ⟨⟩ hj1 hx1 hm
  rw[hB1]at hm
  refine A.seq<|qDs [(3,hto (lnE aI t.aj))] [] [(12,.bool (decide ((j1:Int)<(t.aj.length:Int))))] ?_
  refine qT (ltT hx1)<|A.skip<|A.seq<|A.block<|qDs [(3,hix (ix aI (bA hx1)))] [12] [(22,.bool (decide (e1.ID=ra2)))] ?_
  rcases ak hm with⟨c1,hm⟩|⟨c1,hm⟩
  ·refine qT c1 ?_
   obtain⟨e_1,h1,hm⟩:=af hm
   refine qS [(2,hix (ix aA h1))] [(6,i6 e_1)] [] ?_
   cases hm
   exact A.ret qE
  exact qF c1<|A.skip<|qGs [(1,hto (inc hx1 hb1))] [7,22] [(7,i6 ((j1+1:Nat):Int))]<|qX () hm
 rintro j1 ⟨⟩ hj1 hl1 hm
 rw[hK1]at hm
 refine A.seq<|qDs [(3,hto (lnE aI t.aj))] [] [(12,.bool (decide ((j1:Int)<(t.aj.length:Int))))] ?_
 refine qF (ltF hl1)<|A.exit<|qS [] [(6,i6 1073741824)] [] ?_
 cases hm
 exact A.ret qE
theorem acd{eo:Int}(hm:pq t d eo=some r):RO prog 153 [] [.agg (k2 t),lf aA d,i6 eo] (lf aA r):=by
 refine aY func153 rfl rfl ?_
 unfold pq at hm
 refine qS [(0,.al 153003)] [(1,lf aA d),(2,i6 eo),(3,.ptr 153003 0)] [(153003,.cells 28 (k2 t))]<|qDs [] [] [(7,.aO)] ?_
 obtain⟨ai,h1,hm⟩:=af hm
 refine qDs [(3,hro (rE h1) afj)] [] [(8,i6 ai)]<|A.seq<|A.mid [(1,lf aA d),(2,i6 eo),(3,.ptr 153003 0),(7,.aO),(8,i6 ai),(22,.bool ((decide (ai=1073741824))||(decide (ai=0))))] [(153003,.cells 28 (k2 t))] (λhk=>?_) ?_
 ·rcases tf (decide (ai=1073741824))with c1|c1
  ·exact qS [(2,hto (bE c1)),(5,hto (orT (q:=decide (ai=0)) c1))] _ _ hk
  exact qS [(2,hto (bE c1)),(5,hto (orF (q:=decide (ai=0)) c1))] _ _ hk
 rcases ak hm with⟨c2,hm⟩|⟨c2,hm⟩
 ·refine qT c2<|qS [] [(6,.aO)] [] ?_
  cases hm
  exact A.ret qE
 refine qF c2<|A.skip ?_
 obtain⟨aD,h2,hm⟩:=af hm
 refine qDs [(2,hro (wX h2) auk)] [22] [(9,lf aA aD)]<|A.seq<|qDs [] [] [(10,i6 0)]<|A.block<|A.bS 9 rfl λhb1=>?_
 obtain⟨B1,K1,hB1,hK1,hm⟩:=bq hm
 refine A.lpI (l:=aD) (j0:=0) (B:=B1) (K:=K1) hm (λj1=>λaZ=>[(1,lf aA d),(2,i6 eo),(3,.ptr 153003 0),(7,.own 600153007),(8,i6 ai),(9,lf aA aD),(10,i6 (j1:Int))]) (λj1=>λaZ=>[(153003,.cells 28 (k2 t)),(600153007,.slice 3 1 (ml aA aZ) 0 false)]) ?_ ?_ ?_
 ·exact bt.go [.ad 7 600153007 3 1] [] (by kernel_rfl)
 ·rintro j1 e1 Z1 aZ hj1 hx1 hm
  rw[hB1]at hm
  refine A.seq<|qDs [(2,hto (lnE aA aD))] [] [(29,.bool (decide ((j1:Int)<(aD.length:Int))))] ?_
  refine qT (ltT hx1)<|A.skip ?_
  obtain⟨J1,hJ1,hm⟩:=bZ hm
  refine A.J (J:=J1) (r:=r) (λcQ=>[(1,lf aA d),(2,i6 eo),(3,.ptr 153003 0),(7,.own 600153007),(8,i6 ai),(9,lf aA aD),(10,i6 (j1:Int))]) (λcQ=>[(153003,.cells 28 (k2 t)),(600153007,.slice 3 1 (ml aA cQ) 0 false)]) ?_ ?_
  ·refine A.block ?_
   obtain⟨aX,h3,hm⟩:=af hm
   refine qDs [(4,hix (ix aA (bA hx1))),(6,hro (rI h3) alD)] [29] [(11,i6 aX.1)] ?_
   obtain⟨J2,hJ2,hm⟩:=bZ hm
   refine A.J (J:=J2) (r:=r) (λv_1=>[(1,lf aA d),(2,i6 eo),(3,.ptr 153003 0),(7,.own 600153007),(8,i6 ai),(9,lf aA aD),(10,i6 (j1:Int)),(62,.bool v_1)]) (λv_1=>[(153003,.cells 28 (k2 t)),(600153007,.slice 3 1 (ml aA aZ) 0 false)]) ?_ ?_
   ·obtain⟨bu,h4,hm⟩:=af hm
    rcases ak hm with⟨c3,hm⟩|⟨c3,hm⟩
    ·obtain⟨bz,h5,hm⟩:=af hm
     exact qGs [(4,hix (ix aA (bA hx1))),(6,hro (rE h4) afj),(8,hto (bE c3)),(14,hix (ix aA (bA hx1))),(16,hro (rE h5) afj)] [11] [(62,.bool (decide (w64 (aX.1+bz)=ai)))]<|qX (decide (w64 (aX.1+bz)=ai)) hm
    exact qGs [(4,hix (ix aA (bA hx1))),(6,hro (rE h4) afj),(8,hto (bE c3))] [11] [(62,.bool false)]<|qX false hm
   rintro v_1 hm
   rw[hJ2]at hm
   rcases ak hm with⟨c4,hm⟩|⟨c4,hm⟩
   ·refine qT c4 ?_
    obtain⟨l_1,h6,hm⟩:=af hm
    exact qG [(3,hix (ix aA (bA hx1))),(6,hap 153569 (ap aA (bytes:=8) (by decide) h6))] [7,62] [(7,.own 153569)] [600153007] [(153569,.slice 3 1 (ml aA l_1) 0 false)]<|Exists.intro l_1 (And.intro hm (bt.go [.sw 153569 600153007] [] (by kernel_rfl)))
   exact qF c4<|A.skip<|qX aZ hm
  rintro cQ hm
  rw[hJ1]at hm
  exact qGs [(1,hto (inc hx1 hb1))] [10] [(10,i6 ((j1+1:Nat):Int))]<|qX cQ hm
 rintro j1 aZ hj1 hl1 hm
 rw[hK1]at hm
 refine A.seq<|qDs [(2,hto (lnE aA aD))] [] [(29,.bool (decide ((j1:Int)<(aD.length:Int))))] ?_
 refine qF (ltF hl1)<|A.exit<|qD [] [1,2,3,7,8,9,10,29] [(6,.own 600153007)] [153003] []<|A.ret ?_
 obtain rfl:=some_inj hm
 exact A.fin W0 [.fz [600153007]] rfl (by kernel_rfl)
theorem ace{cE:Int}{eR:Int}(hm:l7 t cE eR=some r):RO prog 126 [] [.agg (k2 t),i6 cE,i6 eR] (lf aA r):=by
 refine aY func126 rfl rfl ?_
 unfold l7 at hm
 refine qS [(0,.al 126003)] [(1,i6 cE),(2,i6 eR),(3,.ptr 126003 0)] [(126003,.cells 28 (k2 t))]<|A.seq ?_
 obtain⟨J1,hJ1,hm⟩:=bZ hm
 refine A.J (J:=J1) (r:=r) (λv_1=>[(1,i6 cE),(2,i6 eR),(3,.ptr 126003 0),(19,.bool v_1)]) (λv_1=>[(126003,.cells 28 (k2 t))]) ?_ ?_
 ·obtain⟨ai,h1,hm⟩:=af hm
  rcases ak hm with⟨c1,hm⟩|⟨c1,hm⟩
  ·exact qGs [(2,hro (qs h1) aii),(4,hto (bE c1))] [] [(19,.bool true)]<|qX true hm
  obtain⟨aD,h2,hm⟩:=af hm
  exact qGs [(2,hro (qs h1) aii),(4,hto (bE c1)),(7,hro (qs h2) aii)] [] [(19,.bool (!aD))]<|qX (!aD) hm
 rintro v_1 hm
 rw[hJ1]at hm
 rcases ak hm with⟨c2,hm⟩|⟨c2,hm⟩
 ·refine qT c2<|qS [] [(6,.aO)] [] ?_
  cases hm
  exact A.ret qE
 refine qF c2<|A.skip ?_
 obtain⟨aX,h3,hm⟩:=af hm
 refine qDs [(2,hro (ae5 h3) axK)] [19] [(7,lf aA aX)]<|qDs [] [] [(8,.aO)]<|A.seq<|A.block ?_
 obtain⟨F1,n1,hF1,hm⟩:=iE hm
 refine A.lpW (F:=F1) hm (λ(gn,aZ)=>[(1,i6 gn),(2,i6 eR),(3,.ptr 126003 0),(7,lf aA aX),(8,.own 600126008)]) (λ(gn,aZ)=>[(126003,.cells 28 (k2 t)),(600126008,.slice 3 1 (ml aA aZ) 0 false)]) ?_ ?_
 ·exact bt.go [.ad 8 600126008 3 1] [] (by kernel_rfl)
 rintro Z1 ⟨gn,aZ⟩ hm
 rw[hF1]at hm
 refine A.seq<|qDs [] [] [(25,.bool (!decide (gn=eR)))] ?_
 rcases ak hm with⟨c3,hm⟩|⟨c3,hm⟩
 ·refine qT c3<|A.skip<|A.block ?_
  obtain⟨bu,h4,hm⟩:=af hm
  refine qDs [(3,hro (acd h4) axL)] [1,25] [(9,lf aA bu)]<|A.seq<|qDs [(1,hto (lnE aA bu))] [] [(32,.bool (decide ((bu.length:Int)=(0:Int))))] ?_
  rcases ak hm with⟨c4,hm⟩|⟨c4,hm⟩
  ·refine qT c4<|qS [] [(6,.aO)] [] ?_
   cases hm
   exact A.ret qE
  refine qF c4<|A.skip ?_
  obtain⟨e_1,h5,hm⟩:=af hm
  refine qDs [(1,hix (ix aA h5))] [9,32] [(1,i6 e_1)] ?_
  obtain⟨l_1,h6,hm⟩:=af hm
  exact qG [(3,hap 126539 (ap aA (bytes:=8) (by decide) h6))] [8] [(8,.own 126539)] [600126008] [(126539,.slice 3 1 (ml aA l_1) 0 false)]<|Exists.intro (e_1,l_1) (And.intro hm (bt.go [.sw 126539 600126008] [] (by kernel_rfl)))
 refine qF c3<|A.exit<|qD [] [1,2,3,7,8,25] [(6,.own 600126008)] [126003] []<|A.ret ?_
 obtain rfl:=some_inj hm
 exact A.fin W0 [.fz [600126008]] rfl (by kernel_rfl)
theorem tJ{e:aC}{r:Int}(hm:kR e p=some r):RO prog 56 [] [.agg (k7 e),.agg (k10 p)] (i6 r):=by
 refine aY func56 rfl rfl ?_
 unfold kR at hm
 refine qS [(0,.al 56002),(1,.al 56003)] [(2,.ptr 56002 0),(3,.ptr 56003 0)] [(56002,.cells 32 (k7 e)),(56003,.cells 36 (k10 p))]<|A.seq<|qDs [] [] [(7,.bool (!decide (p.Mode=2)))] ?_
 rcases ak hm with⟨c1,hm⟩|⟨c1,hm⟩
 ·refine qT c1<|qS [] [(4,i6 7)] [] ?_
  cases hm
  exact A.ret qE
 refine qF c1<|A.skip<|A.seq<|qS [] [(12,.bool (!decide (p.Length=e.Length)))] [] ?_
 rcases ak hm with⟨c2,hm⟩|⟨c2,hm⟩
 ·refine qT c2<|qS [] [(4,i6 8)] [] ?_
  cases hm
  exact A.ret qE
 refine qF c2<|A.skip<|qS [] [(4,i6 0)] [] ?_
 cases hm
 exact A.ret qE
variable {aN:Int}
theorem aan{e:aC}{r:cG×Int}(hm:lT e aN p=some r):RO prog 14 [] [.agg (k7 e),i6 aN,.agg (k10 p)] (.tup [.agg (k12 r.1),i6 r.2]):=by
 refine aY func14 rfl rfl ?_
 unfold lT at hm
 refine qS [(0,.al 14003),(1,.al 14005),(2,.al 14006)] [(1,i6 aN),(3,.ptr 14003 0),(5,.ptr 14005 0),(6,.ptr 14006 0)] [(14003,.cells 32 (k7 e)),(14005,.cells 36 (k10 p)),(14006,.cells 46 [.int .u64 (0:Int),.int .u64 (0:Int),.aO])]<|A.seq ?_
 obtain⟨J1,hJ1,hm⟩:=bZ hm
 refine A.J (J:=J1) (r:=r) (λv_1=>[(1,i6 aN),(3,.ptr 14003 0),(5,.ptr 14005 0),(6,.ptr 14006 0),(22,.bool v_1)]) (λv_1=>[(14003,.cells 32 (k7 e)),(14005,.cells 36 (k10 p)),(14006,.cells 46 [.int .u64 (0:Int),.int .u64 (0:Int),.aO])]) ?_ ?_
 ·obtain⟨ai,h1,hm⟩:=af hm
  rcases ak hm with⟨c1,hm⟩|⟨c1,hm⟩
  ·exact qGs [(1,hro (gi h1) aad),(3,hto (bE c1))] [] [(22,.bool true)]<|qX true hm
  obtain⟨aD,h2,hm⟩:=af hm
  exact qGs [(1,hro (gi h1) aad),(3,hto (bE c1)),(5,hro (rL h2) alB)] [] [(22,.bool (!aD))]<|qX (!aD) hm
 rintro v_1 hm
 rw[hJ1]at hm
 rcases ak hm with⟨c2,hm⟩|⟨c2,hm⟩
 ·refine qT c2<|qD [] [1,3,5,22] [(7,i6 1)] [14003,14005] [] ?_
  cases hm
  exact A.ret qE
 refine qF c2<|A.skip<|A.seq ?_
 obtain⟨aX,h3,hm⟩:=af hm
 refine qDs [(2,hro (tJ h3) auf)] [22] [(8,i6 aX)]<|qDs [] [] [(28,.bool (!decide (aX=0)))] ?_
 rcases ak hm with⟨c3,hm⟩|⟨c3,hm⟩
 ·refine qT c3<|qD [] [1,3,5,8,28] [(7,i6 aX)] [14003,14005] [] ?_
  cases hm
  exact A.ret qE
 refine qF c3<|A.skip<|qD [(0,.al 14009)] [8,28] [(9,.ptr 14009 0)] [] [(14009,.cells 46 [.int .u64 (0:Int),.int .u64 (0:Int),.aO])] ?_
 obtain⟨bu,h4,hm⟩:=af hm
 refine qDs [(4,hro (adL h4) ck57)] [] [(10,.int .u64 (aS .andNot .u64 p.Bits bu))]<|A.seq<|qD [(2,hto (lnE aB e.List))] [3] [(38,lf aB e.List),(39,i6 (e.List.length:Int)),(40,i6 0)] [14003] []<|A.block<|A.bS 38 rfl λhb1=>?_
 obtain⟨B1,K1,hB1,hK1,hm⟩:=bq hm
 refine A.lpI (l:=e.List) (j0:=0) (B:=B1) (K:=K1) hm (λj1=>λ(m_1,m_2,m_3)=>[(1,i6 aN),(5,.ptr 14005 0),(6,.ptr 14006 0),(9,.ptr 14009 0),(10,.int .u64 (aS .andNot .u64 p.Bits bu)),(38,lf aB e.List),(39,i6 (e.List.length:Int)),(40,i6 (j1:Int))]) (λj1=>λ(m_1,m_2,m_3)=>[(14005,.cells 36 (k10 p)),(14006,.cells 46 [.int .u64 (0:Int),.int .u64 (0:Int),.aO]),(14009,.cells 46 [.int .u64 m_1,.int .u64 m_2,.own 701400902]),(701400902,.slice 54 12 (ml dn m_3) 0 false)]) ?_ ?_ ?_
 ·exact bt.go [.ac 14009 701400902 54 12 2] [] (by kernel_rfl)
 ·rintro j1 e1 Z1 ⟨m_1,m_2,m_3⟩ hj1 hx1 hm
  rw[hB1]at hm
  refine qDs [] [] [(41,.bool (decide ((j1:Int)<(e.List.length:Int))))]<|A.seq<|qT (ltT hx1)<|A.skip ?_
  obtain⟨J2,hJ2,hm⟩:=bZ hm
  refine A.J (J:=J2) (r:=r) (λ(m_4,m_5,m_6)=>[(1,i6 aN),(5,.ptr 14005 0),(6,.ptr 14006 0),(9,.ptr 14009 0),(10,.int .u64 (aS .andNot .u64 p.Bits bu)),(38,lf aB e.List),(39,i6 (e.List.length:Int)),(40,i6 (j1:Int))]) (λ(m_4,m_5,m_6)=>[(14005,.cells 36 (k10 p)),(14006,.cells 46 [.int .u64 (0:Int),.int .u64 (0:Int),.aO]),(14009,.cells 46 [.int .u64 m_4,.int .u64 m_5,.own 701400902]),(701400902,.slice 54 12 (ml dn m_6) 0 false)]) ?_ ?_
  ·refine A.block<|qD [(0,hix (ix aB (bA hx1))),(2,.al 14012)] [41] [(12,.ptr 14012 0)] [] [(14012,.cells 38 (k5 e1))] ?_
   obtain⟨h5,hm⟩:=eE hm
   refine qDs [(3,.sh (IntKind.wrap .u64 e1.Bit) (of_decide_eq_true h5))] [] [(13,.int .u64 (IntKind.wrap .u64 ((1:Int)*2 ^ min (IntKind.wrap .u64 e1.Bit).toNat 64)))]<|A.seq<|A.mid [(1,i6 aN),(5,.ptr 14005 0),(6,.ptr 14006 0),(9,.ptr 14009 0),(10,.int .u64 (aS .andNot .u64 p.Bits bu)),(38,lf aB e.List),(39,i6 (e.List.length:Int)),(40,i6 (j1:Int)),(12,.ptr 14012 0),(13,.int .u64 (IntKind.wrap .u64 ((1:Int)*2 ^ min (IntKind.wrap .u64 e1.Bit).toNat 64))),(58,.bool ((!decide (e1.aK=aN))||(decide (aS .and .u64 p.Bits (IntKind.wrap .u64 ((1:Int)*2 ^ min (IntKind.wrap .u64 e1.Bit).toNat 64))=(0:Int)))))] [(14005,.cells 36 (k10 p)),(14006,.cells 46 [.int .u64 (0:Int),.int .u64 (0:Int),.aO]),(14009,.cells 46 [.int .u64 m_1,.int .u64 m_2,.own 701400902]),(701400902,.slice 54 12 (ml dn m_3) 0 false),(14012,.cells 38 (k5 e1))] (λhk=>?_) ?_
   ·rcases tf (!decide (e1.aK=aN))with c4|c4
    ·exact qS [(4,hto (bE c4)),(10,hto (orT (q:=decide (aS .and .u64 p.Bits (IntKind.wrap .u64 ((1:Int)*2 ^ min (IntKind.wrap .u64 e1.Bit).toNat 64))=(0:Int))) c4))] _ _ hk
    exact qS [(4,hto (bE c4)),(10,hto (orF (q:=decide (aS .and .u64 p.Bits (IntKind.wrap .u64 ((1:Int)*2 ^ min (IntKind.wrap .u64 e1.Bit).toNat 64))=(0:Int))) c4))] _ _ hk
   rcases ak hm with⟨c5,hm⟩|⟨c5,hm⟩
   ·exact qT c5<|A.exit<|qX (m_1,m_2,m_3) hm
   refine qF c5<|A.skip<|A.block<|qDs [] [58] [(59,.bool (decide (e1.Kind=3)))] ?_
   rcases ak hm with⟨c6,hm⟩|⟨c6,hm⟩
   ·exact qT c6<|qG [] [12,13,59] [] [14009,14012] [(14009,.cells 46 [.int .u64 (aS .or .u64 m_1 (IntKind.wrap .u64 ((1:Int)*2 ^ min (IntKind.wrap .u64 e1.Bit).toNat 64))),.int .u64 m_2,.own 701400902])]<|qX (aS .or .u64 m_1 (IntKind.wrap .u64 ((1:Int)*2 ^ min (IntKind.wrap .u64 e1.Bit).toNat 64)),m_2,m_3) hm
   refine qF c6<|qDs [] [59] [(68,.bool (decide (p.TTL=0)))] ?_
   rcases ak hm with⟨c7,hm⟩|⟨c7,hm⟩
   ·exact qT c7<|qG [] [12,13,68] [] [14009,14012] [(14009,.cells 46 [.int .u64 m_1,.int .u64 (aS .or .u64 m_2 (IntKind.wrap .u64 ((1:Int)*2 ^ min (IntKind.wrap .u64 e1.Bit).toNat 64))),.own 701400902])]<|qX (m_1,aS .or .u64 m_2 (IntKind.wrap .u64 ((1:Int)*2 ^ min (IntKind.wrap .u64 e1.Bit).toNat 64)),m_3) hm
   refine qF c7<|qDs [] [13,68] [(77,.bool (!decide (aS .andNot .u64 p.Bits bu=0)))] ?_
   rcases ak hm with⟨c8,hm⟩|⟨c8,hm⟩
   ·refine qT c8<|qD [(5,.al 14014)] [77] [(14,.ptr 14014 0)] [] [(14014,.cells 54 [i6 e1.To,.aO,i6 p.Mode,i6 p.bU,i6 p.Set,i6 p.Length,i6 p.TTL,i6 p.cR,i6 p.cS,i6 p.dV,.int .u64 p.Bits,.str p.cu])]<|qD [] [] [] [14014] [(14014,.cells 54 [i6 e1.To,.aO,i6 p.Mode,i6 p.bU,i6 p.Set,i6 p.Length,i6 p.TTL,i6 p.cR,i6 p.cS,i6 p.dV,.int .u64 (aS .andNot .u64 p.Bits bu),.str p.cu])]<|qD [] [] [] [14014] [(14014,.cells 54 [i6 e1.To,.aO,i6 p.Mode,i6 p.bU,i6 p.Set,i6 p.Length,i6 (w64 (p.TTL-1)),i6 p.cR,i6 p.cS,i6 p.dV,.int .u64 (aS .andNot .u64 p.Bits bu),.str p.cu])] ?_
    obtain⟨J3,hJ3,hm⟩:=bZ hm
    refine A.J (J:=J3) (r:=r) (λm_7=>[(1,i6 aN),(5,.ptr 14005 0),(6,.ptr 14006 0),(9,.ptr 14009 0),(10,.int .u64 (aS .andNot .u64 p.Bits bu)),(14,.ptr 14014 0),(38,lf aB e.List),(39,i6 (e.List.length:Int)),(40,i6 (j1:Int))]) (λm_7=>[(14005,.cells 36 (k10 p)),(14006,.cells 46 [.int .u64 (0:Int),.int .u64 (0:Int),.aO]),(14009,.cells 46 [.int .u64 m_1,.int .u64 m_2,.own 701400902]),(701400902,.slice 54 12 (ml dn m_3) 0 false),(14014,.cells 54 [i6 e1.To,.own 701401401,i6 p.Mode,i6 p.bU,i6 p.Set,i6 p.Length,i6 (w64 (p.TTL-1)),i6 p.cR,i6 p.cS,i6 p.dV,.int .u64 (aS .andNot .u64 p.Bits bu),.str p.cu]),(701401401,.slice 3 1 (ml aA m_7) 0 false)]) ?_ ?_
    ·refine qDs [] [] [(99,.bool (decide (e1.Kind=2)))] ?_
     rcases ak hm with⟨c9,hm⟩|⟨c9,hm⟩
     ·exact qT c9<|qG [(2,.al 14102)] [12,99] [] [14012,14014] [(14014,.cells 54 [i6 e1.To,.own 14102,i6 p.Mode,i6 p.bU,i6 p.Set,i6 p.Length,i6 (w64 (p.TTL-1)),i6 p.cR,i6 p.cS,i6 p.dV,.int .u64 (aS .andNot .u64 p.Bits bu),.str p.cu]),(14102,.slice 3 1 (ml aA ([e1.To]:List Int)) 0 false)]<|Exists.intro ([e1.To]:List Int) (And.intro hm (bt.go [.sw 14102 701401401] [] (by kernel_rfl)))
     exact qF c9<|A.skip<|Exists.intro [] (And.intro hm (bt.go [.ac 14014 701401401 3 1 1] [] (by kernel_rfl)))
    rintro m_7 hm
    rw[hJ3]at hm
    obtain⟨l_1,h6,hm⟩:=af hm
    exact A.R W0 [.fz [701401401],.sc 14014 [14005,14006,14009,701400902,14014]] [(4,hap 14609 (ap dn (bytes:=120) (by decide) h6))] [(1,i6 aN),(5,.ptr 14005 0),(6,.ptr 14006 0),(9,.ptr 14009 0),(10,.int .u64 (aS .andNot .u64 p.Bits bu)),(38,lf aB e.List),(39,i6 (e.List.length:Int)),(40,i6 (j1:Int))] [(14005,.cells 36 (k10 p)),(14006,.cells 46 [.int .u64 (0:Int),.int .u64 (0:Int),.aO]),(14009,.cells 46 [.int .u64 m_1,.int .u64 m_2,.own 14609]),(14609,.slice 54 12 (ml dn l_1) 0 false)] (by kernel_rfl)<|Exists.intro (m_1,m_2,l_1) (And.intro hm (bt.go [.sw 14609 701400902] [] (by kernel_rfl)))
   exact qF c8<|A.skip<|qX (m_1,m_2,m_3) hm
  rintro⟨m_4,m_5,m_6⟩ hm
  rw[hJ2]at hm
  exact qGs [(0,hto (inc hx1 hb1))] [40] [(40,i6 ((j1+1:Nat):Int))]<|qX (m_4,m_5,m_6) hm
 rintro j1 ⟨m_1,m_2,m_3⟩ hj1 hl1 hm
 rw[hK1]at hm
 refine qDs [] [] [(41,.bool (decide ((j1:Int)<(e.List.length:Int))))]<|A.seq<|qF (ltF hl1)<|A.exit<|qD [] [1,5,9,10,38,39,40,41] [(7,i6 0)] [14005,14006,14009] [(14006,.cells 46 [.int .u64 m_1,.int .u64 m_2,.own 701400902])]<|A.ret ?_
 obtain rfl:=some_inj hm
 exact A.fin W0 [.fz [701400902]] rfl (by kernel_rfl)
variable {c:bg}
theorem adT{e:aC}{r:Int}(hm:nT e aN c=some r):RO prog 78 [] [.agg (k7 e),i6 aN,.agg (k11 c)] (.int .u64 r):=by
 refine aY func78 rfl rfl ?_
 unfold nT at hm
 refine qS [(0,.al 78003),(1,.al 78005)] [(1,i6 aN),(3,.ptr 78003 0),(5,.ptr 78005 0)] [(78003,.cells 32 (k7 e)),(78005,.cells 54 (k11 c))]<|qDs [] [] [(7,i6 1)] ?_
 obtain⟨J1,hJ1,hm⟩:=bZ hm
 refine A.J (J:=J1) (r:=r) (λaam=>[(1,i6 aN),(3,.ptr 78003 0),(5,.ptr 78005 0),(7,i6 aam)]) (λaam=>[(78003,.cells 32 (k7 e)),(78005,.cells 54 (k11 c))]) ?_ ?_
 ·refine qDs [(3,hto (lnE aA c.Frame.gZ))] [] [(14,.bool (decide (0<(c.Frame.gZ.length:Int))))] ?_
  rcases ak hm with⟨c1,hm⟩|⟨c1,hm⟩
  ·exact qT c1<|qGs [] [7,14] [(7,i6 2)]<|qX (2:Int) hm
  exact qF c1<|A.skip<|qX (1:Int) hm
 rintro aam hm
 rw[hJ1]at hm
 obtain⟨ai,h1,hm⟩:=af hm
 refine qS [(5,hro (tc h1) aij)] [(8,i6 ai.1)] [] ?_
 obtain⟨h2,hm⟩:=eE hm
 refine qS [(2,.sh (IntKind.wrap .u64 ai.1) (of_decide_eq_true h2))] [(6,.int .u64 (IntKind.wrap .u64 ((1:Int)*2 ^ min (IntKind.wrap .u64 ai.1).toNat 64)))] [] ?_
 cases hm
 exact A.ret qE
theorem adU(hm:nU t aN c=some r):RO prog 77 [] [.agg (k2 t),i6 aN,.agg (k11 c)] (lf aA r):=by
 refine aY func77 rfl rfl ?_
 unfold nU at hm
 refine qS [(0,.al 77003),(1,.al 77005)] [(1,i6 aN),(3,.ptr 77003 0),(5,.ptr 77005 0)] [(77003,.cells 28 (k2 t)),(77005,.cells 54 (k11 c))]<|A.seq<|qDs [(3,hto (lnE aA c.Frame.gZ))] [] [(13,.bool (decide (0<(c.Frame.gZ.length:Int))))] ?_
 rcases ak hm with⟨c1,hm⟩|⟨c1,hm⟩
 ·refine qT c1 ?_
  obtain⟨ai,h1,hm⟩:=af hm
  refine qS [(4,hro (ace h1) axw)] [(6,lf aA ai)] [] ?_
  cases hm
  exact A.ret qE
 refine qF c1<|A.skip<|A.seq ?_
 obtain⟨aD,h2,hm⟩:=af hm
 refine qD [(4,hro (acZ h2) ck50)] [1,3,13] [(8,.bool aD.2)] [77003] []<|qDs [] [8] [(27,.bool aD.2)] ?_
 rcases ak hm with⟨c2,hm⟩|⟨c2,hm⟩
 ·refine qT c2<|qS [] [(6,.lst true (ml aA ([c.To]:List Int)))] [] ?_
  cases hm
  exact A.ret qE
 refine qF c2<|A.skip<|qS [] [(6,.aO)] [] ?_
 cases hm
 exact A.ret qE
theorem yd{bits:Int}{r:(List bO)}(hm:lM aN bits p=some r):RO prog 76 [] [i6 aN,.int .u64 bits,.agg (k10 p)] (lf cO r):=by
 refine aY func76 rfl rfl ?_
 unfold lM at hm
 refine qS [(0,.al 76005)] [(0,i6 aN),(1,.int .u64 bits),(5,.ptr 76005 0)] [(76005,.cells 36 (k10 p))]<|qDs [] [] [(7,.aO)]<|A.seq<|qDs [] [] [(8,i6 0)]<|A.block ?_
 obtain⟨B1,K1,hB1,hK1,hm⟩:=oJ hm
 refine A.lpN (hi:=(64:Int)) (B:=B1) (K:=K1) hm rfl (λj1=>λaZ=>[(0,i6 aN),(1,.int .u64 bits),(5,.ptr 76005 0),(7,.own 600076007),(8,i6 (j1:Int))]) (λj1=>λaZ=>[(76005,.cells 36 (k10 p)),(600076007,.slice 78 11 (ml cO aZ) 0 false)]) ?_ ?_ ?_
 ·exact bt.go [.ad 7 600076007 78 11] [] (by kernel_rfl)
 ·rintro j1 Z1 aZ hj1 hx1 hm
  rw[hB1]at hm
  refine A.seq<|qDs [] [] [(11,.bool (decide ((j1:Int)<(64:Int))))] ?_
  refine A.cT rfl (decide_eq_true hx1)<|A.skip ?_
  obtain⟨J1,hJ1,hm⟩:=bZ hm
  refine A.J (J:=J1) (r:=r) (λcQ=>[(0,i6 aN),(1,.int .u64 bits),(5,.ptr 76005 0),(7,.own 600076007),(8,i6 (j1:Int))]) (λcQ=>[(76005,.cells 36 (k10 p)),(600076007,.slice 78 11 (ml cO cQ) 0 false)]) ?_ ?_
  ·refine A.block ?_
   obtain⟨h1,hm⟩:=eE hm
   refine qDs [(3,.sh (IntKind.wrap .u64 (j1:Int)) (of_decide_eq_true h1))] [11] [(19,.bool (decide (aS .and .u64 (Int.fdiv bits (2 ^ min (IntKind.wrap .u64 (j1:Int)).toNat 64)) (1:Int)=(1:Int))))] ?_
   rcases ak hm with⟨c1,hm⟩|⟨c1,hm⟩
   ·refine qT c1<|qD [(1,.al 76009)] [19] [(9,.ptr 76009 0)] [] [(76009,.cells 36 (k10 p))] ?_
    obtain⟨h2,hm⟩:=eE hm
    refine qD [(2,.sh (IntKind.wrap .u64 (j1:Int)) (of_decide_eq_true h2))] [] [] [76009] [(76009,.cells 36 [i6 p.Mode,i6 p.bU,i6 p.Set,i6 p.Length,i6 p.TTL,i6 p.cR,i6 p.cS,i6 p.dV,.int .u64 (IntKind.wrap .u64 ((1:Int)*2 ^ min (IntKind.wrap .u64 (j1:Int)).toNat 64)),.str p.cu])] ?_
    obtain⟨l_1,h3,hm⟩:=af hm
    exact qG [(5,hap 76530 (ap cO (bytes:=96) (by decide) h3))] [7,9] [(7,.own 76530)] [600076007,76009] [(76530,.slice 78 11 (ml cO l_1) 0 false)]<|Exists.intro l_1 (And.intro hm (bt.go [.sw 76530 600076007] [] (by kernel_rfl)))
   exact qF c1<|A.skip<|qX aZ hm
  rintro cQ hm
  rw[hJ1]at hm
  exact qGs [(1,hto (zT (by omega) hx1 (by decide)))] [8] [(8,i6 (j1+1:Int))]<|qX cQ hm
 rintro j1 aZ hj1 hl1 hm
 rw[hK1]at hm
 refine A.seq<|qDs [] [] [(11,.bool (decide ((j1:Int)<(64:Int))))] ?_
 refine A.cF rfl (geF hl1)<|A.exit<|qD [] [0,1,5,7,8,11] [(6,.own 600076007)] [76005] []<|A.ret ?_
 obtain rfl:=some_inj hm
 exact A.fin W0 [.fz [600076007]] rfl (by kernel_rfl)
theorem adV{e:aC}{r:cC×Int}(hm:kX e t p aN=some r):RO prog 36 [] [.agg (k7 e),.agg (k2 t),.agg (k10 p),i6 aN] (.tup [.agg (k14 r.1),i6 r.2]):=by
 refine aY func36 rfl rfl ?_
 unfold kX at hm
 refine qS [(0,.al 36004),(1,.al 36005),(2,.al 36006),(3,.al 36008)] [(3,i6 aN),(4,.ptr 36004 0),(5,.ptr 36005 0),(6,.ptr 36006 0),(8,.ptr 36008 0)] [(36004,.cells 32 (k7 e)),(36005,.cells 28 (k2 t)),(36006,.cells 36 (k10 p)),(36008,.cells 74 [.aO,.aO,.aO])]<|A.seq ?_
 obtain⟨J1,hJ1,hm⟩:=bZ hm
 refine A.J (J:=J1) (r:=r) (λv_1=>[(3,i6 aN),(4,.ptr 36004 0),(5,.ptr 36005 0),(6,.ptr 36006 0),(8,.ptr 36008 0),(35,.bool v_1)]) (λv_1=>[(36004,.cells 32 (k7 e)),(36005,.cells 28 (k2 t)),(36006,.cells 36 (k10 p)),(36008,.cells 74 [.aO,.aO,.aO])]) ?_ ?_
 ·obtain⟨ai,h1,hm⟩:=af hm
  rcases ak hm with⟨c1,hm⟩|⟨c1,hm⟩
  ·exact qGs [(1,hro (gi h1) aad),(3,hto (bE c1))] [] [(35,.bool true)]<|qX true hm
  obtain⟨aD,h2,hm⟩:=af hm
  rcases ak hm with⟨c2,hm⟩|⟨c2,hm⟩
  ·exact qGs [(1,hro (gi h1) aad),(3,hto (bE c1)),(5,hro (ja h2) ab5),(8,hto (bE c2))] [] [(35,.bool true)]<|qX true hm
  obtain⟨aX,h3,hm⟩:=af hm
  exact qGs [(1,hro (gi h1) aad),(3,hto (bE c1)),(5,hro (ja h2) ab5),(8,hto (bE c2)),(10,hro (rL h3) alB)] [] [(35,.bool (!aX))]<|qX (!aX) hm
 rintro v_1 hm
 rw[hJ1]at hm
 rcases ak hm with⟨c3,hm⟩|⟨c3,hm⟩
 ·refine qT c3<|qD [] [3,4,5,6,35] [(9,i6 1)] [36004,36005,36006] [] ?_
  cases hm
  exact A.ret qE
 refine qF c3<|A.skip<|A.seq ?_
 obtain⟨bu,h4,hm⟩:=af hm
 refine qDs [(2,hro (qs h4) aii)] [35] [(40,.bool (!bu))] ?_
 rcases ak hm with⟨c4,hm⟩|⟨c4,hm⟩
 ·refine qT c4<|qD [] [3,4,5,6,40] [(9,i6 4)] [36004,36005,36006] [] ?_
  cases hm
  exact A.ret qE
 refine qF c4<|A.skip<|A.seq ?_
 obtain⟨bz,h5,hm⟩:=af hm
 refine qDs [(2,hro (tJ h5) auf)] [40] [(10,i6 bz)]<|qDs [] [] [(46,.bool (!decide (bz=0)))] ?_
 rcases ak hm with⟨c5,hm⟩|⟨c5,hm⟩
 ·refine qT c5<|qD [] [3,4,5,6,10,46] [(9,i6 bz)] [36004,36005,36006] [] ?_
  cases hm
  exact A.ret qE
 refine qF c5<|A.skip<|qD [(0,.al 36011)] [10,46] [(11,.ptr 36011 0)] [] [(36011,.cells 74 [.aO,.aO,.aO])]<|qD [(3,.al 36052)] [3,6] [(12,.own 36052)] [36006] [(36052,.slice 146 11 (ml jG ([(dD.mk aN p)]:List dD)) 0 false)]<|A.seq<|qDs [] [] [(13,i6 0)]<|A.block ?_
 obtain⟨F1,n1,hF1,hm⟩:=iE hm
 refine A.lpW (F:=F1) hm (λ(pF,i_1,m_1,m_2,m_3)=>[(4,.ptr 36004 0),(5,.ptr 36005 0),(8,.ptr 36008 0),(11,.ptr 36011 0),(12,.own 600036012),(13,i6 i_1)]) (λ(pF,i_1,m_1,m_2,m_3)=>[(36004,.cells 32 (k7 e)),(36005,.cells 28 (k2 t)),(36008,.cells 74 [.aO,.aO,.aO]),(36011,.cells 74 [.own 703601100,.own 703601101,.own 703601102]),(600036012,.slice 146 11 (ml jG pF) 0 false),(703601100,.slice 78 11 (ml cO m_1) 0 false),(703601101,.slice 81 3 (ml dz m_2) 0 false),(703601102,.slice 141 2 (ml fc m_3) 0 false)]) ?_ ?_
 ·exact bt.go [.sw 36052 600036012,.ac 36011 703601100 78 11 0,.ac 36011 703601101 81 3 1,.ac 36011 703601102 141 2 2] [] (by kernel_rfl)
 rintro Z1 ⟨pF,i_1,m_1,m_2,m_3⟩ hm
 rw[hF1]at hm
 refine A.seq<|qDs [(2,hto (lnE jG pF))] [] [(56,.bool (decide (i_1<(pF.length:Int))))] ?_
 rcases ak hm with⟨c6,hm⟩|⟨c6,hm⟩
 ·refine qT c6<|A.skip<|A.seq<|A.block ?_
  obtain⟨e_1,h6,hm⟩:=af hm
  refine qD [(2,hix (ix jG h6)),(3,hlo 600036012 0 (ix jG h6)),(4,.al 36014)] [56] [(14,.ptr 36014 0)] [] [(36014,.cells 146 (k13 e_1.aK e_1.aq))] ?_
  obtain⟨cw,h7,hm⟩:=af hm
  refine qD [(5,hro (aan h7) ck14),(9,.al 36015)] [] [(15,.ptr 36015 0)] [] [(36015,.cells 46 (k12 cw.1))] ?_
  obtain⟨bN,h8,hm⟩:=af hm
  obtain⟨l_1,h9,hm⟩:=af hm
  refine qD [(8,hro (yd h8) ck76),(9,hap 36581 (ap cO (bytes:=96) (by decide) h9))] [] [] [36011,703601100] [(36011,.cells 74 [.own 36581,.own 703601101,.own 703601102]),(36581,.slice 78 11 (ml cO l_1) 0 false)] ?_
  obtain⟨J2,hJ2,hm⟩:=bZ hm
  refine A.J (J:=J2) (r:=r) (λm_4=>[(4,.ptr 36004 0),(5,.ptr 36005 0),(8,.ptr 36008 0),(11,.ptr 36011 0),(12,.own 600036012),(13,i6 i_1),(14,.ptr 36014 0),(15,.ptr 36015 0)]) (λm_4=>[(36004,.cells 32 (k7 e)),(36005,.cells 28 (k2 t)),(36008,.cells 74 [.aO,.aO,.aO]),(36011,.cells 74 [.own 36581,.own 703601101,.own 703601102]),(600036012,.slice 146 11 (ml jG pF) 0 false),(703601101,.slice 81 3 (ml dz m_2) 0 false),(703601102,.slice 141 2 (ml fc m_4) 0 false),(36014,.cells 146 (k13 e_1.aK e_1.aq)),(36015,.cells 46 (k12 cw.1)),(36581,.slice 78 11 (ml cO l_1) 0 false)]) ?_ ?_
  ·refine qDs [] [] [(85,.bool (!decide (cw.1.jF=0)))] ?_
   rcases ak hm with⟨c7,hm⟩|⟨c7,hm⟩
   ·refine qT c7 ?_
    obtain⟨l_2,h10,hm⟩:=af hm
    exact qG [(8,hap 36594 (ap fc (bytes:=16) (by decide) h10))] [85] [] [36011,703601102] [(36011,.cells 74 [.own 36581,.own 703601101,.own 36594]),(36594,.slice 141 2 (ml fc l_2) 0 false)]<|Exists.intro l_2 (And.intro hm (bt.go [.sw 36594 703601102] [] (by kernel_rfl)))
   exact qF c7<|A.skip<|qX m_3 hm
  rintro m_4 hm
  rw[hJ2]at hm
  refine qD [(2,hto (lnE dn cw.1.bY))] [15] [(97,lf dn cw.1.bY),(98,i6 (cw.1.bY.length:Int)),(99,i6 0)] [36015] []<|A.block<|A.bS 97 rfl λhb2=>?_
  obtain⟨B2,K2,hB2,hK2,hm⟩:=bq hm
  refine A.lpI (l:=cw.1.bY) (j0:=0) (B:=B2) (K:=K2) hm (λj2=>λ(iO,m_5,m_6)=>[(4,.ptr 36004 0),(5,.ptr 36005 0),(8,.ptr 36008 0),(11,.ptr 36011 0),(12,.own 600036012),(13,i6 i_1),(14,.ptr 36014 0),(97,lf dn cw.1.bY),(98,i6 (cw.1.bY.length:Int)),(99,i6 (j2:Int))]) (λj2=>λ(iO,m_5,m_6)=>[(36004,.cells 32 (k7 e)),(36005,.cells 28 (k2 t)),(36008,.cells 74 [.aO,.aO,.aO]),(36011,.cells 74 [.own 36581,.own 703601101,.own 703601102]),(600036012,.slice 146 11 (ml jG iO) 0 false),(703601101,.slice 81 3 (ml dz m_5) 0 false),(703601102,.slice 141 2 (ml fc m_6) 0 false),(36014,.cells 146 (k13 e_1.aK e_1.aq)),(36581,.slice 78 11 (ml cO l_1) 0 false)]) ?_ ?_ ?_
  ·exact qW
  ·rintro j2 e2 Z2 ⟨iO,m_5,m_6⟩ hj2 hx2 hm
   rw[hB2]at hm
   refine qDs [] [] [(100,.bool (decide ((j2:Int)<(cw.1.bY.length:Int))))]<|A.seq<|qT (ltT hx2)<|A.skip ?_
   obtain⟨J3,hJ3,hm⟩:=bZ hm
   refine A.J (J:=J3) (r:=r) (λ(su,m_7,m_8)=>[(4,.ptr 36004 0),(5,.ptr 36005 0),(8,.ptr 36008 0),(11,.ptr 36011 0),(12,.own 600036012),(13,i6 i_1),(14,.ptr 36014 0),(97,lf dn cw.1.bY),(98,i6 (cw.1.bY.length:Int)),(99,i6 (j2:Int))]) (λ(su,m_7,m_8)=>[(36004,.cells 32 (k7 e)),(36005,.cells 28 (k2 t)),(36008,.cells 74 [.aO,.aO,.aO]),(36011,.cells 74 [.own 36581,.own 703601101,.own 703601102]),(600036012,.slice 146 11 (ml jG su) 0 false),(703601101,.slice 81 3 (ml dz m_7) 0 false),(703601102,.slice 141 2 (ml fc m_8) 0 false),(36014,.cells 146 (k13 e_1.aK e_1.aq)),(36581,.slice 78 11 (ml cO l_1) 0 false)]) ?_ ?_
   ·refine A.block<|qD [(0,hix (ix dn (bA hx2))),(2,.al 36018)] [100] [(18,.ptr 36018 0)] [] [(36018,.cells 54 (k11 e2))] ?_
    obtain⟨fq,h11,hm⟩:=af hm
    refine qDs [(4,hro (adU h11) ck77)] [] [(19,lf aA fq)]<|A.seq<|qDs [(1,hto (lnE aA fq))] [] [(110,.bool (decide ((fq.length:Int)=(0:Int))))] ?_
    rcases ak hm with⟨c8,hm⟩|⟨c8,hm⟩
    ·refine qT c8 ?_
     obtain⟨lI,h12,hm⟩:=af hm
     obtain⟨l_3,h13,hm⟩:=af hm
     exact qD [(8,hro (adT h12) ck78),(11,hap 36622 (ap fc (bytes:=16) (by decide) h13))] [110] [] [36011,703601102] [(36011,.cells 74 [.own 36581,.own 703601101,.own 36622]),(36622,.slice 141 2 (ml fc l_3) 0 false)]<|A.exit<|Exists.intro (iO,m_5,l_3) (And.intro hm (bt.go [.sw 36622 703601102] [] (by kernel_rfl)))
    refine qF c8<|A.skip<|qDs [] [110] [(20,i6 e_1.aK)]<|A.seq<|qDs [(1,hto (lnE aA fq))] [19] [(126,lf aA fq),(127,i6 (fq.length:Int)),(128,i6 0)]<|A.block<|A.bS 126 rfl λhb3=>?_
    obtain⟨B3,K3,hB3,hK3,hm⟩:=bq hm
    refine A.lpI (l:=fq) (j0:=0) (B:=B3) (K:=K3) hm (λj3=>λ(gn,m_9)=>[(4,.ptr 36004 0),(5,.ptr 36005 0),(8,.ptr 36008 0),(11,.ptr 36011 0),(12,.own 600036012),(13,i6 i_1),(14,.ptr 36014 0),(18,.ptr 36018 0),(20,i6 gn),(97,lf dn cw.1.bY),(98,i6 (cw.1.bY.length:Int)),(99,i6 (j2:Int)),(126,lf aA fq),(127,i6 (fq.length:Int)),(128,i6 (j3:Int))]) (λj3=>λ(gn,m_9)=>[(36004,.cells 32 (k7 e)),(36005,.cells 28 (k2 t)),(36008,.cells 74 [.aO,.aO,.aO]),(36011,.cells 74 [.own 36581,.own 703601101,.own 703601102]),(600036012,.slice 146 11 (ml jG iO) 0 false),(703601101,.slice 81 3 (ml dz m_9) 0 false),(703601102,.slice 141 2 (ml fc m_6) 0 false),(36014,.cells 146 (k13 e_1.aK e_1.aq)),(36581,.slice 78 11 (ml cO l_1) 0 false),(36018,.cells 54 (k11 e2))]) ?_ ?_ ?_
    ·exact qW
    ·rintro j3 e3 Z3 ⟨gn,m_9⟩ hj3 hx3 hm
     rw[hB3]at hm
     refine qDs [] [] [(129,.bool (decide ((j3:Int)<(fq.length:Int))))]<|A.seq<|qT (ltT hx3)<|A.skip<|A.seq<|A.block<|qDs [(0,hix (ix aA (bA hx3)))] [129] [(22,i6 e3)] ?_
     obtain⟨l_4,h14,hm⟩:=af hm
     exact qD [(10,hap 36642 (ap dz (bytes:=24) (by decide) h14))] [20] [] [36011,703601101] [(36011,.cells 74 [.own 36581,.own 36642,.own 703601102]),(36642,.slice 81 3 (ml dz l_4) 0 false)]<|qGs [] [22] [(20,i6 e3)]<|qGs [(0,hto (inc hx3 hb3))] [128] [(128,i6 ((j3+1:Nat):Int))]<|Exists.intro (e3,l_4) (And.intro hm (bt.go [.sw 36642 703601101] [] (by kernel_rfl)))
    rintro j3 ⟨gn,m_9⟩ hj3 hl3 hm
    rw[hK3]at hm
    refine qDs [] [] [(129,.bool (decide ((j3:Int)<(fq.length:Int))))]<|A.seq<|qF (ltF hl3)<|A.exit<|A.seq<|qDs [(2,hto (lnE dz m_9))] [20,126,127,128,129] [(149,.bool (decide (2000<(m_9.length:Int))))] ?_
    rcases ak hm with⟨c9,hm⟩|⟨c9,hm⟩
    ·refine qT c9<|qS [] [(8,.ptr 36008 0),(9,i6 11)] [(36008,.cells 74 [.aO,.aO,.aO])] ?_
     cases hm
     exact A.ret qE
    refine qF c9<|A.skip ?_
    obtain⟨l_5,h15,hm⟩:=af hm
    exact qG [(8,hap 36659 (ap jG (bytes:=96) (by decide) h15))] [12,18,149] [(12,.own 36659)] [600036012,36018] [(36659,.slice 146 11 (ml jG l_5) 0 false)]<|Exists.intro (l_5,m_9,m_6) (And.intro hm (bt.go [.sw 36659 600036012] [] (by kernel_rfl)))
   rintro⟨su,m_7,m_8⟩ hm
   rw[hJ3]at hm
   exact qGs [(0,hto (inc hx2 hb2))] [99] [(99,i6 ((j2+1:Nat):Int))]<|qX (su,m_7,m_8) hm
  rintro j2 ⟨iO,m_5,m_6⟩ hj2 hl2 hm
  rw[hK2]at hm
  exact qDs [] [] [(100,.bool (decide ((j2:Int)<(cw.1.bY.length:Int))))]<|A.seq<|qF (ltF hl2)<|A.exit<|qG [] [13,14,97,98,99,100] [(13,i6 (w64 (i_1+1)))] [36014] []<|Exists.intro (iO,w64 (i_1+1),l_1,m_5,m_6) (And.intro hm (bt.go [.sw 36581 703601100] [] (by kernel_rfl)))
 refine qF c6<|A.exit<|qD [] [4,5,11,12,13,56] [(9,i6 0)] [36004,36005,36008,36011,600036012] [(36008,.cells 74 [.own 703601100,.own 703601101,.own 703601102])]<|A.ret ?_
 obtain rfl:=some_inj hm
 exact A.fin W0 [.fz [703601100,703601101,703601102]] rfl (by kernel_rfl)
theorem abl{e:aC}{t:dY}{receivers:List Int}{r:aH×Int}(hm:qu e t receivers p=some r):RO prog 38 [] [.agg (k7 e),.agg (k8 t),lf aA receivers,.agg (k10 p)] (.tup [.agg (k10 r.1),i6 r.2]):=by
 refine aY func38 rfl rfl ?_
 unfold qu at hm
 refine qS [(0,.al 38004),(1,.al 38005),(2,.al 38007),(3,.al 38008)] [(2,lf aA receivers),(4,.ptr 38004 0),(5,.ptr 38005 0),(7,.ptr 38007 0),(8,.ptr 38008 0)] [(38004,.cells 32 (k7 e)),(38005,.cells 63 (k8 t)),(38007,.cells 36 (k10 p)),(38008,.cells 36 [i6 0,i6 0,i6 0,i6 0,i6 0,i6 0,i6 0,i6 0,.int .u64 (0:Int),.str (⟨#[]⟩:ByteArray)])] ?_
 obtain⟨ai,h1,hm⟩:=af hm
 refine qD [(3,hro (w6 h1) auh)] [2,5] [(10,.int .u64 ai.1),(11,i6 ai.2)] [38005] []<|A.seq<|qDs [] [] [(20,.bool (!decide (ai.2=0)))] ?_
 rcases ak hm with⟨c1,hm⟩|⟨c1,hm⟩
 ·refine qT c1<|qD [] [4,7,10,11,20] [(9,i6 ai.2)] [38004,38007] [] ?_
  cases hm
  exact A.ret qE
 refine qF c1<|A.skip<|qD [] [4,10,11,20] [] [38004,38007] [(38007,.cells 36 [i6 2,i6 p.bU,i6 p.Set,i6 e.Length,i6 p.TTL,i6 p.cR,i6 p.cS,i6 p.dV,.int .u64 ai.1,.str p.cu])]<|A.seq ?_
 obtain⟨aD,h2,hm⟩:=af hm
 refine qDs [(1,hro (rL h2) alB)] [] [(31,.bool (!aD))] ?_
 rcases ak hm with⟨c2,hm⟩|⟨c2,hm⟩
 ·refine qT c2<|qD [] [7,31] [(9,i6 1)] [38007] [] ?_
  cases hm
  exact A.ret qE
 refine qF c2<|A.skip<|qS [] [(8,.ptr 38008 0),(9,i6 0)] [(38008,.cells 36 [i6 2,i6 p.bU,i6 p.Set,i6 e.Length,i6 p.TTL,i6 p.cR,i6 p.cS,i6 p.dV,.int .u64 ai.1,.str p.cu])] ?_
 cases hm
 exact A.ret qE
theorem oW{a:cC}{b:cC}{r:Bool}(hm:jW a b=some r):RO prog 37 [] [.agg (k14 a),.agg (k14 b)] (.bool r):=by
 refine aY func37 rfl rfl ?_
 unfold jW at hm
 refine qS [(0,.al 37002),(1,.al 37003)] [(2,.ptr 37002 0),(3,.ptr 37003 0)] [(37002,.cells 74 (k14 a)),(37003,.cells 74 (k14 b))]<|A.seq<|A.mid [(2,.ptr 37002 0),(3,.ptr 37003 0),(32,.bool ((!decide ((a.cK.length:Int)=(b.cK.length:Int)))||((!decide ((a.cn.length:Int)=(b.cn.length:Int)))||(!decide ((a.dP.length:Int)=(b.dP.length:Int))))))] [(37002,.cells 74 (k14 a)),(37003,.cells 74 (k14 b))] (λhk=>?_) ?_
 ·rcases tf (!decide ((a.cK.length:Int)=(b.cK.length:Int)))with c1|c1
  ·exact qS [(2,hto (lnE cO a.cK)),(5,hto (lnE cO b.cK)),(7,hto (bE c1)),(24,hto (orT (q:=((!decide ((a.cn.length:Int)=(b.cn.length:Int)))||(!decide ((a.dP.length:Int)=(b.dP.length:Int))))) c1))] _ _ hk
  rcases tf (!decide ((a.cn.length:Int)=(b.cn.length:Int)))with c2|c2
  ·exact qS [(2,hto (lnE cO a.cK)),(5,hto (lnE cO b.cK)),(7,hto (bE c1)),(10,hto (lnE dz a.cn)),(13,hto (lnE dz b.cn)),(16,hto (bE c2)),(24,hto ((orT (q:=!decide ((a.dP.length:Int)=(b.dP.length:Int))) c2).trans (orF (q:=((!decide ((a.cn.length:Int)=(b.cn.length:Int)))||(!decide ((a.dP.length:Int)=(b.dP.length:Int))))) c1)))] _ _ hk
  exact qS [(2,hto (lnE cO a.cK)),(5,hto (lnE cO b.cK)),(7,hto (bE c1)),(10,hto (lnE dz a.cn)),(13,hto (lnE dz b.cn)),(16,hto (bE c2)),(19,hto (lnE fc a.dP)),(22,hto (lnE fc b.dP)),(24,hto ((orF (q:=!decide ((a.dP.length:Int)=(b.dP.length:Int))) c2).trans (orF (q:=((!decide ((a.cn.length:Int)=(b.cn.length:Int)))||(!decide ((a.dP.length:Int)=(b.dP.length:Int))))) c1)))] _ _ hk
 rcases ak hm with⟨c3,hm⟩|⟨c3,hm⟩
 ·refine qT c3<|qS [] [(4,.bool false)] [] ?_
  cases hm
  exact A.ret qE
 refine qF c3<|A.skip<|A.seq<|qDs [(2,hto (lnE cO a.cK))] [32] [(35,i6 (a.cK.length:Int)),(36,i6 0)]<|A.block<|A.bC 2 0 rfl rfl rfl λhb1=>?_
 obtain⟨B1,K1,hB1,hK1,hm⟩:=bq hm
 refine A.lpI (l:=a.cK) (j0:=0) (B:=B1) (K:=K1) hm (λj1=>λ()=>[(2,.ptr 37002 0),(3,.ptr 37003 0),(35,i6 (a.cK.length:Int)),(36,i6 (j1:Int))]) (λj1=>λ()=>[(37002,.cells 74 (k14 a)),(37003,.cells 74 (k14 b))]) ?_ ?_ ?_
 ·exact qW
 ·rintro j1 e1 Z1 ⟨⟩ hj1 hx1 hm
  rw[hB1]at hm
  refine qDs [] [] [(37,.bool (decide ((j1:Int)<(a.cK.length:Int))))]<|A.seq<|qT (ltT hx1)<|A.skip<|A.seq<|A.block<|qDs [] [37] [(5,i6 (j1:Int))] ?_
  obtain⟨e_1,h1,hm⟩:=af hm
  refine qDs [(3,hix (ix cO (bA hx1))),(8,hix (ix cO h1)),(10,.sq true 78 (.agg (k13 e1.aK e1.aq)) (.agg (k13 e_1.aK e_1.aq)) (!(qY e1 e_1)) (λx y w=>akg x y _ _ _ _ _ _ _ _ _ _ _ _ _ _ _ _ _ _ _ _ _ _ w))] [5] [(49,.bool (!(qY e1 e_1)))] ?_
  rcases ak hm with⟨c4,hm⟩|⟨c4,hm⟩
  ·refine qT c4<|qS [] [(4,.bool false)] [] ?_
   cases hm
   exact A.ret qE
  exact qF c4<|A.skip<|qGs [(0,hto (inc hx1 hb1))] [36,49] [(36,i6 ((j1+1:Nat):Int))]<|qX () hm
 rintro j1 ⟨⟩ hj1 hl1 hm
 rw[hK1]at hm
 refine qDs [] [] [(37,.bool (decide ((j1:Int)<(a.cK.length:Int))))]<|A.seq<|qF (ltF hl1)<|A.exit<|A.seq<|qDs [(2,hto (lnE dz a.cn))] [35,36,37] [(53,i6 (a.cn.length:Int)),(54,i6 0)]<|A.block<|A.bC 2 1 rfl rfl rfl λhb2=>?_
 obtain⟨B2,K2,hB2,hK2,hm⟩:=bq hm
 refine A.lpI (l:=a.cn) (j0:=0) (B:=B2) (K:=K2) hm (λj2=>λ()=>[(2,.ptr 37002 0),(3,.ptr 37003 0),(53,i6 (a.cn.length:Int)),(54,i6 (j2:Int))]) (λj2=>λ()=>[(37002,.cells 74 (k14 a)),(37003,.cells 74 (k14 b))]) ?_ ?_ ?_
 ·exact qW
 ·rintro j2 e2 Z2 ⟨⟩ hj2 hx2 hm
  rw[hB2]at hm
  refine qDs [] [] [(55,.bool (decide ((j2:Int)<(a.cn.length:Int))))]<|A.seq<|qT (ltT hx2)<|A.skip<|A.seq<|A.block<|qDs [] [55] [(6,i6 (j2:Int))] ?_
  obtain⟨e_2,h2,hm⟩:=af hm
  refine qDs [(3,hix (ix dz (bA hx2))),(8,hix (ix dz h2)),(10,.sq true 81 (.agg [i6 e2.bx,i6 e2.To,.int .u64 e2.Bits]) (.agg [i6 e_2.bx,i6 e_2.To,.int .u64 e_2.Bits]) (!(qZ e2 e_2)) (λx y w=>akh x y _ _ _ _ _ _ w))] [6] [(67,.bool (!(qZ e2 e_2)))] ?_
  rcases ak hm with⟨c5,hm⟩|⟨c5,hm⟩
  ·refine qT c5<|qS [] [(4,.bool false)] [] ?_
   cases hm
   exact A.ret qE
  exact qF c5<|A.skip<|qGs [(0,hto (inc hx2 hb2))] [54,67] [(54,i6 ((j2+1:Nat):Int))]<|qX () hm
 rintro j2 ⟨⟩ hj2 hl2 hm
 rw[hK2]at hm
 refine qDs [] [] [(55,.bool (decide ((j2:Int)<(a.cn.length:Int))))]<|A.seq<|qF (ltF hl2)<|A.exit<|A.seq<|qDs [(2,hto (lnE fc a.dP))] [53,54,55] [(71,i6 (a.dP.length:Int)),(72,i6 0)]<|A.block<|A.bC 2 2 rfl rfl rfl λhb3=>?_
 obtain⟨B3,K3,hB3,hK3,hm⟩:=bq hm
 refine A.lpI (l:=a.dP) (j0:=0) (B:=B3) (K:=K3) hm (λj3=>λ()=>[(2,.ptr 37002 0),(3,.ptr 37003 0),(71,i6 (a.dP.length:Int)),(72,i6 (j3:Int))]) (λj3=>λ()=>[(37002,.cells 74 (k14 a)),(37003,.cells 74 (k14 b))]) ?_ ?_ ?_
 ·exact qW
 ·rintro j3 e3 Z3 ⟨⟩ hj3 hx3 hm
  rw[hB3]at hm
  refine qDs [] [] [(73,.bool (decide ((j3:Int)<(a.dP.length:Int))))]<|A.seq<|qT (ltT hx3)<|A.skip<|A.seq<|A.block<|qDs [] [73] [(7,i6 (j3:Int))] ?_
  obtain⟨e_3,h3,hm⟩:=af hm
  refine qDs [(3,hix (ix fc (bA hx3))),(8,hix (ix fc h3)),(10,.sq true 141 (.agg [i6 e3.aK,.int .u64 e3.Bits]) (.agg [i6 e_3.aK,.int .u64 e_3.Bits]) (!(xZ e3 e_3)) (λx y w=>ai2 x y _ _ _ _ w))] [7] [(85,.bool (!(xZ e3 e_3)))] ?_
  rcases ak hm with⟨c6,hm⟩|⟨c6,hm⟩
  ·refine qT c6<|qS [] [(4,.bool false)] [] ?_
   cases hm
   exact A.ret qE
  exact qF c6<|A.skip<|qGs [(0,hto (inc hx3 hb3))] [72,85] [(72,i6 ((j3+1:Nat):Int))]<|qX () hm
 rintro j3 ⟨⟩ hj3 hl3 hm
 rw[hK3]at hm
 refine qDs [] [] [(73,.bool (decide ((j3:Int)<(a.dP.length:Int))))]<|A.seq<|qF (ltF hl3)<|A.exit<|qS [] [(4,.bool true)] [] ?_
 cases hm
 exact A.ret qE
end Go.Proofs.YtdjeacigeegklaaGreat
