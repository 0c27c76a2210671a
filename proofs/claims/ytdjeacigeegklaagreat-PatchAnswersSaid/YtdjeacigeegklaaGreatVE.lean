/- The iD of er of the program. No condition but bO bx stand in each. -/
import Derived.Test.YtdjeacigeegklaaGreatVX
namespace Go.Proofs.YtdjeacigeegklaaGreat
open Go Go.Proofs.Tryz
set_option maxRecDepth 100000
set_option linter.all false
variable {r:Bool}
theorem nU{n:Int}(hm:mX n=some r):RO prog 133 [] [i6 n] (.bool r):=by
 refine bf func133 rfl rfl ?_
 unfold mX at hm
 refine qS [] [(0,i6 n)] []<|A.mid [(2,.bool ((decide (n=8))||((decide (n=16))||((decide (n=32))||(decide (n=64))))))] [] (λhk=>?_) ?_
 ·rcases tf (decide (n=8))with c1|c1
  ·exact qS [(2,hto (bE c1)),(14,hto (orT (q:=((decide (n=16))||((decide (n=32))||(decide (n=64))))) c1))] _ _ hk
  rcases tf (decide (n=16))with c2|c2
  ·exact qS [(2,hto (bE c1)),(6,hto (bE c2)),(14,hto ((orT (q:=((decide (n=32))||(decide (n=64)))) c2).trans (orF (q:=((decide (n=16))||((decide (n=32))||(decide (n=64))))) c1)))] _ _ hk
  rcases tf (decide (n=32))with c3|c3
  ·exact qS [(2,hto (bE c1)),(6,hto (bE c2)),(10,hto (bE c3)),(14,hto (((orT (q:=decide (n=64)) c3).trans (orF (q:=((decide (n=32))||(decide (n=64)))) c2)).trans (orF (q:=((decide (n=16))||((decide (n=32))||(decide (n=64))))) c1)))] _ _ hk
  exact qS [(2,hto (bE c1)),(6,hto (bE c2)),(10,hto (bE c3)),(14,hto (((orF (q:=decide (n=64)) c3).trans (orF (q:=((decide (n=32))||(decide (n=64)))) c2)).trans (orF (q:=((decide (n=16))||((decide (n=32))||(decide (n=64))))) c1)))] _ _ hk
 cases hm
 exact A.ret qE
theorem adn{k:Int}{r:Int}(hm:xM k=some r):RO prog 157 [] [i6 k] (.int .u64 r):=by
 refine bf func157 rfl rfl ?_
 unfold xM at hm
 refine qS [] [(0,i6 k)] []<|A.seq<|A.mid [(0,i6 k),(8,.bool ((decide (k<0))||(decide (63<k))))] [] (λhk=>?_) ?_
 ·rcases tf (decide (k<0))with c1|c1
  ·exact qS [(2,hto (bE c1)),(5,hto (orT (q:=decide (63<k)) c1))] _ _ hk
  exact qS [(2,hto (bE c1)),(5,hto (orF (q:=decide (63<k)) c1))] _ _ hk
 rcases aq hm with⟨c2,hm⟩|⟨c2,hm⟩
 ·refine qT c2<|qS [] [(2,.int .u64 (0:Int))] [] ?_
  cases hm
  exact A.ret qE
 refine qF c2<|A.skip ?_
 obtain⟨h1,hm⟩:=eB hm
 refine qS [(2,.sh (IntKind.wrap .u64 k) (of_decide_eq_true h1))] [(2,.int .u64 (IntKind.wrap .u64 ((1:Int)*2 ^ min (IntKind.wrap .u64 k).toNat 64)))] [] ?_
 cases hm
 exact A.ret qE
theorem acw{length:Int}{r:Int}(hm:tc length=some r):RO prog 134 [] [i6 length] (.int .u64 r):=by
 refine bf func134 rfl rfl ?_
 unfold tc at hm
 refine qS [] [(0,i6 length)] []<|A.seq ?_
 obtain⟨ai,h1,hm⟩:=af hm
 refine qDs [(1,hro (nU h1) ahC)] [] [(7,.bool (!ai))] ?_
 rcases aq hm with⟨c1,hm⟩|⟨c1,hm⟩
 ·refine qT c1<|qS [] [(2,.int .u64 (0:Int))] [] ?_
  cases hm
  exact A.ret qE
 refine qF c1<|A.skip<|qDs [] [7] [(3,.int .u64 (0:Int))]<|A.seq<|qDs [] [] [(4,i6 0)]<|A.block ?_
 obtain⟨hh1,hm⟩:=eB hm
 obtain⟨B1,K1,hB1,hK1,hm⟩:=oP hm
 refine A.lpN (hi:=length) (B:=B1) (K:=K1) hm rfl (λj1=>λb_1=>[(0,i6 length),(3,.int .u64 b_1),(4,i6 (j1:Int))]) (λj1=>λb_1=>[]) ?_ ?_ ?_
 ·exact qW
 ·rintro j1 Z1 b_1 hj1 hx1 hm
  rw[hB1]at hm
  refine A.seq<|qDs [] [] [(10,.bool (decide ((j1:Int)<length)))] ?_
  refine A.cT rfl (decide_eq_true hx1)<|A.skip<|A.seq<|A.block ?_
  obtain⟨aK,h2,hm⟩:=af hm
  exact qGs [(2,hro (adn h2) aw6)] [3,10] [(3,.int .u64 (aU .or .u64 b_1 aK))]<|qGs [(1,hto (zJ (by omega) hx1 (of_decide_eq_true hh1)))] [4] [(4,i6 (j1+1:Int))]<|qX (aU .or .u64 b_1 aK) hm
 rintro j1 b_1 hj1 hl1 hm
 rw[hK1]at hm
 refine A.seq<|qDs [] [] [(10,.bool (decide ((j1:Int)<length)))] ?_
 refine A.cF rfl (geF hl1)<|A.exit<|qS [] [(2,.int .u64 b_1)] [] ?_
 cases hm
 exact A.ret qE
theorem kL{b:Int}{length:Int}(hm:pg b length=some r):RO prog 92 [] [.int .u64 b,i6 length] (.bool r):=by
 refine bf func92 rfl rfl ?_
 unfold pg at hm
 refine qS [] [(0,.int .u64 b),(1,i6 length)] [] ?_
 obtain⟨ai,h1,hm⟩:=af hm
 rcases aq hm with⟨c1,hm⟩|⟨c1,hm⟩
 ·obtain⟨aK,h2,hm⟩:=af hm
  refine qS [(1,hro (nU h1) ahC),(2,hto (bE c1)),(5,hro (acw h2) awQ)] [(4,.bool (decide (aU .andNot .u64 b aK=0)))] [] ?_
  cases hm
  exact A.ret qE
 refine qS [(1,hro (nU h1) ahC),(2,hto (bE c1))] [(4,.bool false)] [] ?_
 cases hm
 exact A.ret qE
theorem bR{n:Int}{most:Int}(hm:ij n most=some r):RO prog 91 [] [i6 n,i6 most] (.bool r):=by
 refine bf func91 rfl rfl ?_
 unfold ij at hm
 refine qS [] [(0,i6 n),(1,i6 most)] []<|A.mid [(4,.bool ((decide (0≤n))&&(decide (n≤most))))] [] (λhk=>?_) ?_
 ·rcases tf (decide (0≤n))with c1|c1
  ·exact qS [(2,hto (bE c1)),(7,hto (nc (q:=decide (n≤most)) c1))] _ _ hk
  exact qS [(2,hto (bE c1)),(7,hto (ov (q:=decide (n≤most)) c1))] _ _ hk
 cases hm
 exact A.ret qE
variable {p:aH}
theorem wB(hm:nt p=some r):RO prog 55 [] [.agg (k10 p)] (.bool r):=by
 refine bf func55 rfl rfl ?_
 unfold nt at hm
 refine qS [(0,.al 55001)] [(1,.ptr 55001 0)] [(55001,.cells 36 (k10 p))] ?_
 rcases aq hm with⟨c1,hm⟩|⟨c1,hm⟩
 ·rcases aq hm with⟨c2,hm⟩|⟨c2,hm⟩
  ·obtain⟨ai,h1,hm⟩:=af hm
   rcases aq hm with⟨c3,hm⟩|⟨c3,hm⟩
   ·obtain⟨aK,h2,hm⟩:=af hm
    rcases aq hm with⟨c4,hm⟩|⟨c4,hm⟩
    ·obtain⟨aV,h3,hm⟩:=af hm
     rcases aq hm with⟨c5,hm⟩|⟨c5,hm⟩
     ·obtain⟨bq,h4,hm⟩:=af hm
      rcases aq hm with⟨c6,hm⟩|⟨c6,hm⟩
      ·obtain⟨aT,h5,hm⟩:=af hm
       rcases aq hm with⟨c7,hm⟩|⟨c7,hm⟩
       ·obtain⟨cu,h6,hm⟩:=af hm
        rcases aq hm with⟨c8,hm⟩|⟨c8,hm⟩
        ·obtain⟨bA,h7,hm⟩:=af hm
         rcases aq hm with⟨c9,hm⟩|⟨c9,hm⟩
         ·refine qS [(3,hto (bE c1)),(8,hto (bE c2)),(11,hro (bR h1) jB),(13,hto (bE c3)),(16,hro (bR h2) jB),(18,hto (bE c4)),(23,hro (kL h3) adm),(25,hto (bE c5)),(28,hro (bR h4) jB),(30,hto (bE c6)),(33,hro (bR h5) jB),(35,hto (bE c7)),(38,hro (bR h6) jB),(40,hto (bE c8)),(43,hro (bR h7) jB),(45,hto (bE c9))] [(2,.bool (decide ((p.cD.size:Int)≤(64:Int))))] [] ?_
          cases hm
          exact A.ret qE
         refine qS [(3,hto (bE c1)),(8,hto (bE c2)),(11,hro (bR h1) jB),(13,hto (bE c3)),(16,hro (bR h2) jB),(18,hto (bE c4)),(23,hro (kL h3) adm),(25,hto (bE c5)),(28,hro (bR h4) jB),(30,hto (bE c6)),(33,hro (bR h5) jB),(35,hto (bE c7)),(38,hro (bR h6) jB),(40,hto (bE c8)),(43,hro (bR h7) jB),(45,hto (bE c9))] [(2,.bool false)] [] ?_
         cases hm
         exact A.ret qE
        refine qS [(3,hto (bE c1)),(8,hto (bE c2)),(11,hro (bR h1) jB),(13,hto (bE c3)),(16,hro (bR h2) jB),(18,hto (bE c4)),(23,hro (kL h3) adm),(25,hto (bE c5)),(28,hro (bR h4) jB),(30,hto (bE c6)),(33,hro (bR h5) jB),(35,hto (bE c7)),(38,hro (bR h6) jB),(40,hto (bE c8))] [(2,.bool false)] [] ?_
        cases hm
        exact A.ret qE
       refine qS [(3,hto (bE c1)),(8,hto (bE c2)),(11,hro (bR h1) jB),(13,hto (bE c3)),(16,hro (bR h2) jB),(18,hto (bE c4)),(23,hro (kL h3) adm),(25,hto (bE c5)),(28,hro (bR h4) jB),(30,hto (bE c6)),(33,hro (bR h5) jB),(35,hto (bE c7))] [(2,.bool false)] [] ?_
       cases hm
       exact A.ret qE
      refine qS [(3,hto (bE c1)),(8,hto (bE c2)),(11,hro (bR h1) jB),(13,hto (bE c3)),(16,hro (bR h2) jB),(18,hto (bE c4)),(23,hro (kL h3) adm),(25,hto (bE c5)),(28,hro (bR h4) jB),(30,hto (bE c6))] [(2,.bool false)] [] ?_
      cases hm
      exact A.ret qE
     refine qS [(3,hto (bE c1)),(8,hto (bE c2)),(11,hro (bR h1) jB),(13,hto (bE c3)),(16,hro (bR h2) jB),(18,hto (bE c4)),(23,hro (kL h3) adm),(25,hto (bE c5))] [(2,.bool false)] [] ?_
     cases hm
     exact A.ret qE
    refine qS [(3,hto (bE c1)),(8,hto (bE c2)),(11,hro (bR h1) jB),(13,hto (bE c3)),(16,hro (bR h2) jB),(18,hto (bE c4))] [(2,.bool false)] [] ?_
    cases hm
    exact A.ret qE
   refine qS [(3,hto (bE c1)),(8,hto (bE c2)),(11,hro (bR h1) jB),(13,hto (bE c3))] [(2,.bool false)] [] ?_
   cases hm
   exact A.ret qE
  refine qS [(3,hto (bE c1)),(8,hto (bE c2))] [(2,.bool false)] [] ?_
  cases hm
  exact A.ret qE
 refine qS [(3,hto (bE c1))] [(2,.bool false)] [] ?_
 cases hm
 exact A.ret qE
variable {t:aa}
theorem wC{ra1:Int}{r:Int}(hm:pq t ra1=some r):RO prog 165 [] [.agg (k2 t),i6 ra1] (i6 r):=by
 refine bf func165 rfl rfl ?_
 unfold pq at hm
 refine qS [(0,.al 165002)] [(1,i6 ra1),(2,.ptr 165002 0)] [(165002,.cells 28 (k2 t))]<|A.seq<|qDs [] [] [(5,i6 0)]<|A.block<|A.bC 2 0 rfl rfl rfl λhb1=>?_
 obtain⟨B1,K1,hB1,hK1,hm⟩:=aW hm
 refine A.lpI (l:=t.ah) (j0:=0) (B:=B1) (K:=K1) hm (λj1=>λ()=>[(1,i6 ra1),(2,.ptr 165002 0),(5,i6 (j1:Int))]) (λj1=>λ()=>[(165002,.cells 28 (k2 t))]) ?_ ?_ ?_
 ·exact qW
 ·rintro j1 e1 Z1 ⟨⟩ hj1 hx1 hm
  rw[hB1]at hm
  refine A.seq<|qDs [(3,hto (lnE aC t.ah))] [] [(10,.bool (decide ((j1:Int)<(t.ah.length:Int))))] ?_
  refine qT (ltT hx1)<|A.skip<|A.seq<|A.block<|qDs [(3,hix (ix aC (aY hx1)))] [10] [(20,.bool (decide (e1.ID=ra1)))] ?_
  rcases aq hm with⟨c1,hm⟩|⟨c1,hm⟩
  ·refine qT c1<|qS [] [(4,i6 (j1:Int))] [] ?_
   cases hm
   exact A.ret qE
  exact qF c1<|A.skip<|qGs [(1,hto (inc hx1 hb1))] [5,20] [(5,i6 ((j1+1:Nat):Int))]<|qX () hm
 rintro j1 ⟨⟩ hj1 hl1 hm
 rw[hK1]at hm
 refine A.seq<|qDs [(3,hto (lnE aC t.ah))] [] [(10,.bool (decide ((j1:Int)<(t.ah.length:Int))))] ?_
 refine qF (ltF hl1)<|A.exit<|qS [] [(4,i6 0)] [] ?_
 cases hm
 exact A.ret qE
theorem aen{aab:Int}{r:(List Int)}(hm:td t aab=some r):RO prog 152 [] [.agg (k2 t),i6 aab] (lf aA r):=by
 refine bf func152 rfl rfl ?_
 unfold td at hm
 refine qS [(0,.al 152002)] [(1,i6 aab),(2,.ptr 152002 0)] [(152002,.cells 28 (k2 t))] ?_
 obtain⟨h1,hm⟩:=eB hm
 refine qD [(2,hto (lnE aC t.ah)),(3,hms (a:=i6 0) 152015 (0:Int) aA.enc (t.ah.length:Int) ahc alF rfl (λI=>by simp[aL]) h1 (by decide))] [] [(5,.own 152015)] [] [(152015,.slice 3 1 (ml aA (List.replicate ((t.ah.length:Int)).toNat (0:Int))) 0 false)]<|A.seq<|qDs [] [] [(6,i6 0)]<|A.block ?_
 obtain⟨F1,n1,hF1,hm⟩:=iR hm
 refine A.lpW (F:=F1) hm (λ(d_1,i_1)=>[(1,i6 aab),(2,.ptr 152002 0),(5,.own 600152005),(6,i6 i_1)]) (λ(d_1,i_1)=>[(152002,.cells 28 (k2 t)),(600152005,.slice 3 1 (ml aA d_1) 0 false)]) ?_ ?_
 ·exact bt.go [.sw 152015 600152005] [] (by kernel_rfl)
 rintro Z1 ⟨d_1,i_1⟩ hm
 rw[hF1]at hm
 refine A.seq<|qDs [(2,hto (lnE aA d_1))] [] [(19,.bool (decide (i_1<(d_1.length:Int))))] ?_
 rcases aq hm with⟨c1,hm⟩|⟨c1,hm⟩
 ·refine qT c1<|A.skip ?_
  obtain⟨J1,hJ1,hm⟩:=bG hm
  refine A.J (J:=J1) (r:=r) (λd_2=>[(1,i6 aab),(2,.ptr 152002 0),(5,.own 600152005),(6,i6 i_1)]) (λd_2=>[(152002,.cells 28 (k2 t)),(600152005,.slice 3 1 (ml aA d_2) 0 false)]) ?_ ?_
  ·refine A.block ?_
   obtain⟨e_1,h2,hm⟩:=af hm
   obtain⟨l_1,h3,hm⟩:=af hm
   refine qD [(2,hix (ix aA h2)),(3,hso 600152005 (st aA (off:=0) (ca:=[i6 1073741824]) h2 h3 rfl) (rJ h2).1.1)] [19] [] [600152005] [(600152005,.slice 3 1 (ml aA l_1) 0 false)] ?_
   obtain⟨e_2,h4,hm⟩:=af hm
   refine qDs [(3,hix (ix aC h4))] [] [(32,.bool (decide (e_2.ID=aab)))] ?_
   rcases aq hm with⟨c2,hm⟩|⟨c2,hm⟩
   ·refine qT c2 ?_
    obtain⟨e_3,h5,hm⟩:=af hm
    obtain⟨l_2,h6,hm⟩:=af hm
    exact qG [(2,hix (ix aA h5)),(3,hso 600152005 (st aA (off:=0) (ca:=[i6 0]) h5 h6 rfl) (rJ h5).1.1)] [32] [] [600152005] [(600152005,.slice 3 1 (ml aA l_2) 0 false)]<|qX l_2 hm
   exact qF c2<|A.skip<|qX l_1 hm
  rintro d_2 hm
  rw[hJ1]at hm
  exact qGs [] [6] [(6,i6 (w64 (i_1+1)))]<|qX (d_2,w64 (i_1+1)) hm
 refine qF c1<|A.exit<|A.seq<|qDs [] [1,6,19] [(7,i6 0)]<|A.block ?_
 obtain⟨F2,n2,hF2,hm⟩:=iR hm
 refine A.lpW (F:=F2) hm (λ(d_3,nu)=>[(2,.ptr 152002 0),(5,.own 600152005),(7,i6 nu)]) (λ(d_3,nu)=>[(152002,.cells 28 (k2 t)),(600152005,.slice 3 1 (ml aA d_3) 0 false)]) ?_ ?_
 ·exact qW
 rintro Z2 ⟨d_3,nu⟩ hm
 rw[hF2]at hm
 refine A.seq<|qDs [(2,hto (lnE aA d_3))] [] [(39,.bool (decide (nu<(d_3.length:Int))))] ?_
 rcases aq hm with⟨c3,hm⟩|⟨c3,hm⟩
 ·refine qT c3<|A.skip<|A.seq<|A.block<|qDs [] [39] [(8,i6 0)]<|A.block<|A.bC 2 1 rfl rfl rfl λhb3=>?_
  obtain⟨B3,K3,hB3,hK3,hm⟩:=aW hm
  refine A.lpI (l:=t.Links) (j0:=0) (B:=B3) (K:=K3) hm (λj3=>λd_4=>[(2,.ptr 152002 0),(5,.own 600152005),(7,i6 nu),(8,i6 (j3:Int))]) (λj3=>λd_4=>[(152002,.cells 28 (k2 t)),(600152005,.slice 3 1 (ml aA d_4) 0 false)]) ?_ ?_ ?_
  ·exact qW
  ·rintro j3 e3 Z3 d_4 hj3 hx3 hm
   rw[hB3]at hm
   refine A.seq<|qDs [(3,hto (lnE aS t.Links))] [] [(46,.bool (decide ((j3:Int)<(t.Links.length:Int))))] ?_
   refine qT (ltT hx3)<|A.skip ?_
   obtain⟨J2,hJ2,hm⟩:=bG hm
   refine A.J (J:=J2) (r:=r) (λd_5=>[(2,.ptr 152002 0),(5,.own 600152005),(7,i6 nu),(8,i6 (j3:Int))]) (λd_5=>[(152002,.cells 28 (k2 t)),(600152005,.slice 3 1 (ml aA d_5) 0 false)]) ?_ ?_
   ·refine A.block<|qD [(3,hix (ix aS (aY hx3))),(5,.al 152009)] [46] [(9,.ptr 152009 0)] [] [(152009,.cells 89 (k1 e3))] ?_
    obtain⟨ai,h7,hm⟩:=af hm
    obtain⟨aK,h8,hm⟩:=af hm
    refine qDs [(3,hro (wC h7) amw),(7,hro (wC h8) amw)] [] [(10,i6 ai),(11,i6 aK)] ?_
    obtain⟨J3,hJ3,hm⟩:=bG hm
    refine A.J (J:=J3) (r:=r) (λd_6=>[(2,.ptr 152002 0),(5,.own 600152005),(7,i6 nu),(8,i6 (j3:Int)),(9,.ptr 152009 0),(10,i6 ai),(11,i6 aK)]) (λd_6=>[(152002,.cells 28 (k2 t)),(600152005,.slice 3 1 (ml aA d_6) 0 false),(152009,.cells 89 (k1 e3))]) ?_ ?_
    ·obtain⟨e_4,h9,hm⟩:=af hm
     refine qDs [(2,hix (ix aA h9)),(3,hlo 600152005 0 (ix aA h9))] [] [(66,.bool (decide (e_4<1073741824)))] ?_
     rcases aq hm with⟨c4,hm⟩|⟨c4,hm⟩
     ·refine qT c4 ?_
      obtain⟨e_5,h10,hm⟩:=af hm
      obtain⟨l_3,h11,hm⟩:=af hm
      exact qG [(4,hix (ix aA h10)),(5,hlo 600152005 0 (ix aA h10)),(10,hix (ix aA h9)),(11,hlo 600152005 0 (ix aA h9)),(14,hix (ix aA h10)),(15,hso 600152005 (st aA (off:=0) (ca:=[i6 (if(w64 (e3.iE+e_4))<e_5 then w64 (e3.iE+e_4)else e_5)]) h10 h11 rfl) (rJ h10).1.1)] [66] [] [600152005] [(600152005,.slice 3 1 (ml aA l_3) 0 false)]<|qX l_3 hm
     exact qF c4<|A.skip<|qX d_4 hm
    rintro d_6 hm
    rw[hJ3]at hm
    obtain⟨e_6,h12,hm⟩:=af hm
    refine qDs [(2,hix (ix aA h12)),(3,hlo 600152005 0 (ix aA h12))] [] [(86,.bool (decide (e_6<1073741824)))] ?_
    rcases aq hm with⟨c5,hm⟩|⟨c5,hm⟩
    ·refine qT c5 ?_
     obtain⟨e_7,h13,hm⟩:=af hm
     obtain⟨l_4,h14,hm⟩:=af hm
     exact qG [(4,hix (ix aA h13)),(5,hlo 600152005 0 (ix aA h13)),(10,hix (ix aA h12)),(11,hlo 600152005 0 (ix aA h12)),(14,hix (ix aA h13)),(15,hso 600152005 (st aA (off:=0) (ca:=[i6 (if(w64 (e3.iF+e_6))<e_7 then w64 (e3.iF+e_6)else e_7)]) h13 h14 rfl) (rJ h13).1.1)] [9,10,11,86] [] [600152005,152009] [(600152005,.slice 3 1 (ml aA l_4) 0 false)]<|qX l_4 hm
    exact qF c5<|A.skip<|qX d_6 hm
   rintro d_5 hm
   rw[hJ2]at hm
   exact qGs [(1,hto (inc hx3 hb3))] [8] [(8,i6 ((j3+1:Nat):Int))]<|qX d_5 hm
  rintro j3 d_4 hj3 hl3 hm
  rw[hK3]at hm
  refine A.seq<|qDs [(3,hto (lnE aS t.Links))] [] [(46,.bool (decide ((j3:Int)<(t.Links.length:Int))))] ?_
  exact qF (ltF hl3)<|A.exit<|qGs [] [7,8,46] [(7,i6 (w64 (nu+1)))]<|qX (d_4,w64 (nu+1)) hm
 refine qF c3<|A.exit<|qD [] [2,5,7,39] [(4,.own 600152005)] [152002] []<|A.ret ?_
 obtain rfl:=some_inj hm
 exact A.fin W0 [.fz [600152005]] rfl (by kernel_rfl)
variable {d:List Int}
theorem rF{ra2:Int}{r:Int}(hm:nI t d ra2=some r):RO prog 166 [] [.agg (k2 t),lf aA d,i6 ra2] (i6 r):=by
 refine bf func166 rfl rfl ?_
 unfold nI at hm
 refine qS [(0,.al 166003)] [(1,lf aA d),(2,i6 ra2),(3,.ptr 166003 0)] [(166003,.cells 28 (k2 t))]<|A.seq<|qDs [] [] [(7,i6 0)]<|A.block<|A.bC 3 0 rfl rfl rfl λhb1=>?_
 obtain⟨B1,K1,hB1,hK1,hm⟩:=aW hm
 refine A.lpI (l:=t.ah) (j0:=0) (B:=B1) (K:=K1) hm (λj1=>λ()=>[(1,lf aA d),(2,i6 ra2),(3,.ptr 166003 0),(7,i6 (j1:Int))]) (λj1=>λ()=>[(166003,.cells 28 (k2 t))]) ?_ ?_ ?_
 ·exact qW
 ·rintro j1 e1 Z1 ⟨⟩ hj1 hx1 hm
  rw[hB1]at hm
  refine A.seq<|qDs [(3,hto (lnE aC t.ah))] [] [(12,.bool (decide ((j1:Int)<(t.ah.length:Int))))] ?_
  refine qT (ltT hx1)<|A.skip<|A.seq<|A.block<|qDs [(3,hix (ix aC (aY hx1)))] [12] [(22,.bool (decide (e1.ID=ra2)))] ?_
  rcases aq hm with⟨c1,hm⟩|⟨c1,hm⟩
  ·refine qT c1 ?_
   obtain⟨e_1,h1,hm⟩:=af hm
   refine qS [(2,hix (ix aA h1))] [(6,i6 e_1)] [] ?_
   cases hm
   exact A.ret qE
  exact qF c1<|A.skip<|qGs [(1,hto (inc hx1 hb1))] [7,22] [(7,i6 ((j1+1:Nat):Int))]<|qX () hm
 rintro j1 ⟨⟩ hj1 hl1 hm
 rw[hK1]at hm
 refine A.seq<|qDs [(3,hto (lnE aC t.ah))] [] [(12,.bool (decide ((j1:Int)<(t.ah.length:Int))))] ?_
 refine qF (ltF hl1)<|A.exit<|qS [] [(6,i6 1073741824)] [] ?_
 cases hm
 exact A.ret qE
theorem abK{ep:Int}{r:(List Int)}(hm:pz t d ep=some r):RO prog 153 [] [.agg (k2 t),lf aA d,i6 ep] (lf aA r):=by
 refine bf func153 rfl rfl ?_
 unfold pz at hm
 refine qS [(0,.al 153003)] [(1,lf aA d),(2,i6 ep),(3,.ptr 153003 0)] [(153003,.cells 28 (k2 t))]<|qDs [] [] [(7,.aM)] ?_
 obtain⟨ai,h1,hm⟩:=af hm
 refine qDs [(3,hro (rF h1) aeB)] [] [(8,i6 ai)]<|A.seq<|A.mid [(1,lf aA d),(2,i6 ep),(3,.ptr 153003 0),(7,.aM),(8,i6 ai),(22,.bool ((decide (ai=1073741824))||(decide (ai=0))))] [(153003,.cells 28 (k2 t))] (λhk=>?_) ?_
 ·rcases tf (decide (ai=1073741824))with c1|c1
  ·exact qS [(2,hto (bE c1)),(5,hto (orT (q:=decide (ai=0)) c1))] _ _ hk
  exact qS [(2,hto (bE c1)),(5,hto (orF (q:=decide (ai=0)) c1))] _ _ hk
 rcases aq hm with⟨c2,hm⟩|⟨c2,hm⟩
 ·refine qT c2<|qS [] [(6,.aM)] [] ?_
  cases hm
  exact A.ret qE
 refine qF c2<|A.skip ?_
 obtain⟨aK,h2,hm⟩:=af hm
 refine qDs [(2,hro (xe h2) atv)] [22] [(9,lf aA aK)]<|A.seq<|qDs [] [] [(10,i6 0)]<|A.block<|A.bS 9 rfl λhb1=>?_
 obtain⟨B1,K1,hB1,hK1,hm⟩:=aW hm
 refine A.lpI (l:=aK) (j0:=0) (B:=B1) (K:=K1) hm (λj1=>λaR=>[(1,lf aA d),(2,i6 ep),(3,.ptr 153003 0),(7,.own 600153007),(8,i6 ai),(9,lf aA aK),(10,i6 (j1:Int))]) (λj1=>λaR=>[(153003,.cells 28 (k2 t)),(600153007,.slice 3 1 (ml aA aR) 0 false)]) ?_ ?_ ?_
 ·exact bt.go [.ad 7 600153007 3 1] [] (by kernel_rfl)
 ·rintro j1 e1 Z1 aR hj1 hx1 hm
  rw[hB1]at hm
  refine A.seq<|qDs [(2,hto (lnE aA aK))] [] [(29,.bool (decide ((j1:Int)<(aK.length:Int))))] ?_
  refine qT (ltT hx1)<|A.skip ?_
  obtain⟨J1,hJ1,hm⟩:=bG hm
  refine A.J (J:=J1) (r:=r) (λcv=>[(1,lf aA d),(2,i6 ep),(3,.ptr 153003 0),(7,.own 600153007),(8,i6 ai),(9,lf aA aK),(10,i6 (j1:Int))]) (λcv=>[(153003,.cells 28 (k2 t)),(600153007,.slice 3 1 (ml aA cv) 0 false)]) ?_ ?_
  ·refine A.block ?_
   obtain⟨aV,h3,hm⟩:=af hm
   refine qDs [(4,hix (ix aA (aY hx1))),(6,hro (rM h3) akM)] [29] [(11,i6 aV.1)] ?_
   obtain⟨J2,hJ2,hm⟩:=bG hm
   refine A.J (J:=J2) (r:=r) (λv_1=>[(1,lf aA d),(2,i6 ep),(3,.ptr 153003 0),(7,.own 600153007),(8,i6 ai),(9,lf aA aK),(10,i6 (j1:Int)),(62,.bool v_1)]) (λv_1=>[(153003,.cells 28 (k2 t)),(600153007,.slice 3 1 (ml aA aR) 0 false)]) ?_ ?_
   ·obtain⟨bq,h4,hm⟩:=af hm
    rcases aq hm with⟨c3,hm⟩|⟨c3,hm⟩
    ·obtain⟨aT,h5,hm⟩:=af hm
     exact qGs [(4,hix (ix aA (aY hx1))),(6,hro (rF h4) aeB),(8,hto (bE c3)),(14,hix (ix aA (aY hx1))),(16,hro (rF h5) aeB)] [11] [(62,.bool (decide (w64 (aV.1+aT)=ai)))]<|qX (decide (w64 (aV.1+aT)=ai)) hm
    exact qGs [(4,hix (ix aA (aY hx1))),(6,hro (rF h4) aeB),(8,hto (bE c3))] [11] [(62,.bool false)]<|qX false hm
   rintro v_1 hm
   rw[hJ2]at hm
   rcases aq hm with⟨c4,hm⟩|⟨c4,hm⟩
   ·refine qT c4 ?_
    obtain⟨l_1,h6,hm⟩:=af hm
    exact qG [(3,hix (ix aA (aY hx1))),(6,hap 153569 (ap aA (bytes:=8) (by decide) h6))] [7,62] [(7,.own 153569)] [600153007] [(153569,.slice 3 1 (ml aA l_1) 0 false)]<|Exists.intro l_1 (And.intro hm (bt.go [.sw 153569 600153007] [] (by kernel_rfl)))
   exact qF c4<|A.skip<|qX aR hm
  rintro cv hm
  rw[hJ1]at hm
  exact qGs [(1,hto (inc hx1 hb1))] [10] [(10,i6 ((j1+1:Nat):Int))]<|qX cv hm
 rintro j1 aR hj1 hl1 hm
 rw[hK1]at hm
 refine A.seq<|qDs [(2,hto (lnE aA aK))] [] [(29,.bool (decide ((j1:Int)<(aK.length:Int))))] ?_
 refine qF (ltF hl1)<|A.exit<|qD [] [1,2,3,7,8,9,10,29] [(6,.own 600153007)] [153003] []<|A.ret ?_
 obtain rfl:=some_inj hm
 exact A.fin W0 [.fz [600153007]] rfl (by kernel_rfl)
theorem wD{cB:Int}{eO:Int}{r:(List Int)}(hm:nv t cB eO=some r):RO prog 126 [] [.agg (k2 t),i6 cB,i6 eO] (lf aA r):=by
 refine bf func126 rfl rfl ?_
 unfold nv at hm
 refine qS [(0,.al 126003)] [(1,i6 cB),(2,i6 eO),(3,.ptr 126003 0)] [(126003,.cells 28 (k2 t))]<|A.seq ?_
 obtain⟨J1,hJ1,hm⟩:=bG hm
 refine A.J (J:=J1) (r:=r) (λv_1=>[(1,i6 cB),(2,i6 eO),(3,.ptr 126003 0),(19,.bool v_1)]) (λv_1=>[(126003,.cells 28 (k2 t))]) ?_ ?_
 ·obtain⟨ai,h1,hm⟩:=af hm
  rcases aq hm with⟨c1,hm⟩|⟨c1,hm⟩
  ·exact qGs [(2,hro (qx h1) ahA),(4,hto (bE c1))] [] [(19,.bool true)]<|qX true hm
  obtain⟨aK,h2,hm⟩:=af hm
  exact qGs [(2,hro (qx h1) ahA),(4,hto (bE c1)),(7,hro (qx h2) ahA)] [] [(19,.bool (!aK))]<|qX (!aK) hm
 rintro v_1 hm
 rw[hJ1]at hm
 rcases aq hm with⟨c2,hm⟩|⟨c2,hm⟩
 ·refine qT c2<|qS [] [(6,.aM)] [] ?_
  cases hm
  exact A.ret qE
 refine qF c2<|A.skip ?_
 obtain⟨aV,h3,hm⟩:=af hm
 refine qDs [(2,hro (aen h3) aw1)] [19] [(7,lf aA aV)]<|qDs [] [] [(8,.aM)]<|A.seq<|A.block ?_
 obtain⟨F1,n1,hF1,hm⟩:=iR hm
 refine A.lpW (F:=F1) hm (λ(tU,aR)=>[(1,i6 tU),(2,i6 eO),(3,.ptr 126003 0),(7,lf aA aV),(8,.own 600126008)]) (λ(tU,aR)=>[(126003,.cells 28 (k2 t)),(600126008,.slice 3 1 (ml aA aR) 0 false)]) ?_ ?_
 ·exact bt.go [.ad 8 600126008 3 1] [] (by kernel_rfl)
 rintro Z1 ⟨tU,aR⟩ hm
 rw[hF1]at hm
 refine A.seq<|qDs [] [] [(25,.bool (!decide (tU=eO)))] ?_
 rcases aq hm with⟨c3,hm⟩|⟨c3,hm⟩
 ·refine qT c3<|A.skip<|A.block ?_
  obtain⟨bq,h4,hm⟩:=af hm
  refine qDs [(3,hro (abK h4) aw2)] [1,25] [(9,lf aA bq)]<|A.seq<|qDs [(1,hto (lnE aA bq))] [] [(32,.bool (decide ((bq.length:Int)=(0:Int))))] ?_
  rcases aq hm with⟨c4,hm⟩|⟨c4,hm⟩
  ·refine qT c4<|qS [] [(6,.aM)] [] ?_
   cases hm
   exact A.ret qE
  refine qF c4<|A.skip ?_
  obtain⟨e_1,h5,hm⟩:=af hm
  refine qDs [(1,hix (ix aA h5))] [9,32] [(1,i6 e_1)] ?_
  obtain⟨l_1,h6,hm⟩:=af hm
  exact qG [(3,hap 126539 (ap aA (bytes:=8) (by decide) h6))] [8] [(8,.own 126539)] [600126008] [(126539,.slice 3 1 (ml aA l_1) 0 false)]<|Exists.intro (e_1,l_1) (And.intro hm (bt.go [.sw 126539 600126008] [] (by kernel_rfl)))
 refine qF c3<|A.exit<|qD [] [1,2,3,7,8,25] [(6,.own 600126008)] [126003] []<|A.ret ?_
 obtain rfl:=some_inj hm
 exact A.fin W0 [.fz [600126008]] rfl (by kernel_rfl)
theorem zn{e:aF}{r:Int}(hm:mO e p=some r):RO prog 56 [] [.agg (k7 e),.agg (k10 p)] (i6 r):=by
 refine bf func56 rfl rfl ?_
 unfold mO at hm
 refine qS [(0,.al 56002),(1,.al 56003)] [(2,.ptr 56002 0),(3,.ptr 56003 0)] [(56002,.cells 32 (k7 e)),(56003,.cells 36 (k10 p))]<|A.seq<|qDs [] [] [(7,.bool (!decide (p.Mode=2)))] ?_
 rcases aq hm with⟨c1,hm⟩|⟨c1,hm⟩
 ·refine qT c1<|qS [] [(4,i6 7)] [] ?_
  cases hm
  exact A.ret qE
 refine qF c1<|A.skip<|A.seq<|qS [] [(12,.bool (!decide (p.Length=e.Length)))] [] ?_
 rcases aq hm with⟨c2,hm⟩|⟨c2,hm⟩
 ·refine qT c2<|qS [] [(4,i6 8)] [] ?_
  cases hm
  exact A.ret qE
 refine qF c2<|A.skip<|qS [] [(4,i6 0)] [] ?_
 cases hm
 exact A.ret qE
variable {aD:Int}
theorem uB{e:aF}{r:cg×Int}(hm:lK e aD p=some r):RO prog 14 [] [.agg (k7 e),i6 aD,.agg (k10 p)] (.tup [.agg (k12 r.1),i6 r.2]):=by
 refine bf func14 rfl rfl ?_
 unfold lK at hm
 refine qS [(0,.al 14003),(1,.al 14005),(2,.al 14006)] [(1,i6 aD),(3,.ptr 14003 0),(5,.ptr 14005 0),(6,.ptr 14006 0)] [(14003,.cells 32 (k7 e)),(14005,.cells 36 (k10 p)),(14006,.cells 46 [.int .u64 (0:Int),.int .u64 (0:Int),.aM])]<|A.seq ?_
 obtain⟨J1,hJ1,hm⟩:=bG hm
 refine A.J (J:=J1) (r:=r) (λv_1=>[(1,i6 aD),(3,.ptr 14003 0),(5,.ptr 14005 0),(6,.ptr 14006 0),(22,.bool v_1)]) (λv_1=>[(14003,.cells 32 (k7 e)),(14005,.cells 36 (k10 p)),(14006,.cells 46 [.int .u64 (0:Int),.int .u64 (0:Int),.aM])]) ?_ ?_
 ·obtain⟨ai,h1,hm⟩:=af hm
  rcases aq hm with⟨c1,hm⟩|⟨c1,hm⟩
  ·exact qGs [(1,hro (iI h1) adi),(3,hto (bE c1))] [] [(22,.bool true)]<|qX true hm
  obtain⟨aK,h2,hm⟩:=af hm
  exact qGs [(1,hro (iI h1) adi),(3,hto (bE c1)),(5,hro (wB h2) atp)] [] [(22,.bool (!aK))]<|qX (!aK) hm
 rintro v_1 hm
 rw[hJ1]at hm
 rcases aq hm with⟨c2,hm⟩|⟨c2,hm⟩
 ·refine qT c2<|qD [] [1,3,5,22] [(7,i6 1)] [14003,14005] [] ?_
  cases hm
  exact A.ret qE
 refine qF c2<|A.skip<|A.seq ?_
 obtain⟨aV,h3,hm⟩:=af hm
 refine qDs [(2,hro (zn h3) ck56)] [22] [(8,i6 aV)]<|qDs [] [] [(28,.bool (!decide (aV=0)))] ?_
 rcases aq hm with⟨c3,hm⟩|⟨c3,hm⟩
 ·refine qT c3<|qD [] [1,3,5,8,28] [(7,i6 aV)] [14003,14005] [] ?_
  cases hm
  exact A.ret qE
 refine qF c3<|A.skip<|qD [(0,.al 14009)] [8,28] [(9,.ptr 14009 0)] [] [(14009,.cells 46 [.int .u64 (0:Int),.int .u64 (0:Int),.aM])] ?_
 obtain⟨bq,h4,hm⟩:=af hm
 refine qDs [(4,hro (yd h4) atq)] [] [(10,.int .u64 (aU .andNot .u64 p.Bits bq))]<|A.seq<|qD [(2,hto (lnE ak e.List))] [3] [(38,lf ak e.List),(39,i6 (e.List.length:Int)),(40,i6 0)] [14003] []<|A.block<|A.bS 38 rfl λhb1=>?_
 obtain⟨B1,K1,hB1,hK1,hm⟩:=aW hm
 refine A.lpI (l:=e.List) (j0:=0) (B:=B1) (K:=K1) hm (λj1=>λ(m_1,m_2,m_3)=>[(1,i6 aD),(5,.ptr 14005 0),(6,.ptr 14006 0),(9,.ptr 14009 0),(10,.int .u64 (aU .andNot .u64 p.Bits bq)),(38,lf ak e.List),(39,i6 (e.List.length:Int)),(40,i6 (j1:Int))]) (λj1=>λ(m_1,m_2,m_3)=>[(14005,.cells 36 (k10 p)),(14006,.cells 46 [.int .u64 (0:Int),.int .u64 (0:Int),.aM]),(14009,.cells 46 [.int .u64 m_1,.int .u64 m_2,.own 701400902]),(701400902,.slice 54 12 (ml bP m_3) 0 false)]) ?_ ?_ ?_
 ·exact bt.go [.ac 14009 701400902 54 12 2] [] (by kernel_rfl)
 ·rintro j1 e1 Z1 ⟨m_1,m_2,m_3⟩ hj1 hx1 hm
  rw[hB1]at hm
  refine qDs [] [] [(41,.bool (decide ((j1:Int)<(e.List.length:Int))))]<|A.seq<|qT (ltT hx1)<|A.skip ?_
  obtain⟨J2,hJ2,hm⟩:=bG hm
  refine A.J (J:=J2) (r:=r) (λ(m_4,m_5,m_6)=>[(1,i6 aD),(5,.ptr 14005 0),(6,.ptr 14006 0),(9,.ptr 14009 0),(10,.int .u64 (aU .andNot .u64 p.Bits bq)),(38,lf ak e.List),(39,i6 (e.List.length:Int)),(40,i6 (j1:Int))]) (λ(m_4,m_5,m_6)=>[(14005,.cells 36 (k10 p)),(14006,.cells 46 [.int .u64 (0:Int),.int .u64 (0:Int),.aM]),(14009,.cells 46 [.int .u64 m_4,.int .u64 m_5,.own 701400902]),(701400902,.slice 54 12 (ml bP m_6) 0 false)]) ?_ ?_
  ·refine A.block<|qD [(0,hix (ix ak (aY hx1))),(2,.al 14012)] [41] [(12,.ptr 14012 0)] [] [(14012,.cells 38 (k5 e1))] ?_
   obtain⟨h5,hm⟩:=eB hm
   refine qDs [(3,.sh (IntKind.wrap .u64 e1.Bit) (of_decide_eq_true h5))] [] [(13,.int .u64 (IntKind.wrap .u64 ((1:Int)*2 ^ min (IntKind.wrap .u64 e1.Bit).toNat 64)))]<|A.seq<|A.mid [(1,i6 aD),(5,.ptr 14005 0),(6,.ptr 14006 0),(9,.ptr 14009 0),(10,.int .u64 (aU .andNot .u64 p.Bits bq)),(38,lf ak e.List),(39,i6 (e.List.length:Int)),(40,i6 (j1:Int)),(12,.ptr 14012 0),(13,.int .u64 (IntKind.wrap .u64 ((1:Int)*2 ^ min (IntKind.wrap .u64 e1.Bit).toNat 64))),(58,.bool ((!decide (e1.br=aD))||(decide (aU .and .u64 p.Bits (IntKind.wrap .u64 ((1:Int)*2 ^ min (IntKind.wrap .u64 e1.Bit).toNat 64))=(0:Int)))))] [(14005,.cells 36 (k10 p)),(14006,.cells 46 [.int .u64 (0:Int),.int .u64 (0:Int),.aM]),(14009,.cells 46 [.int .u64 m_1,.int .u64 m_2,.own 701400902]),(701400902,.slice 54 12 (ml bP m_3) 0 false),(14012,.cells 38 (k5 e1))] (λhk=>?_) ?_
   ·rcases tf (!decide (e1.br=aD))with c4|c4
    ·exact qS [(4,hto (bE c4)),(10,hto (orT (q:=decide (aU .and .u64 p.Bits (IntKind.wrap .u64 ((1:Int)*2 ^ min (IntKind.wrap .u64 e1.Bit).toNat 64))=(0:Int))) c4))] _ _ hk
    exact qS [(4,hto (bE c4)),(10,hto (orF (q:=decide (aU .and .u64 p.Bits (IntKind.wrap .u64 ((1:Int)*2 ^ min (IntKind.wrap .u64 e1.Bit).toNat 64))=(0:Int))) c4))] _ _ hk
   rcases aq hm with⟨c5,hm⟩|⟨c5,hm⟩
   ·exact qT c5<|A.exit<|qX (m_1,m_2,m_3) hm
   refine qF c5<|A.skip<|A.block<|qDs [] [58] [(59,.bool (decide (e1.Kind=3)))] ?_
   rcases aq hm with⟨c6,hm⟩|⟨c6,hm⟩
   ·exact qT c6<|qG [] [12,13,59] [] [14009,14012] [(14009,.cells 46 [.int .u64 (aU .or .u64 m_1 (IntKind.wrap .u64 ((1:Int)*2 ^ min (IntKind.wrap .u64 e1.Bit).toNat 64))),.int .u64 m_2,.own 701400902])]<|qX (aU .or .u64 m_1 (IntKind.wrap .u64 ((1:Int)*2 ^ min (IntKind.wrap .u64 e1.Bit).toNat 64)),m_2,m_3) hm
   refine qF c6<|qDs [] [59] [(68,.bool (decide (p.TTL=0)))] ?_
   rcases aq hm with⟨c7,hm⟩|⟨c7,hm⟩
   ·exact qT c7<|qG [] [12,13,68] [] [14009,14012] [(14009,.cells 46 [.int .u64 m_1,.int .u64 (aU .or .u64 m_2 (IntKind.wrap .u64 ((1:Int)*2 ^ min (IntKind.wrap .u64 e1.Bit).toNat 64))),.own 701400902])]<|qX (m_1,aU .or .u64 m_2 (IntKind.wrap .u64 ((1:Int)*2 ^ min (IntKind.wrap .u64 e1.Bit).toNat 64)),m_3) hm
   refine qF c7<|qDs [] [13,68] [(77,.bool (!decide (aU .andNot .u64 p.Bits bq=0)))] ?_
   rcases aq hm with⟨c8,hm⟩|⟨c8,hm⟩
   ·refine qT c8<|qD [(5,.al 14014)] [77] [(14,.ptr 14014 0)] [] [(14014,.cells 54 [i6 e1.To,.aM,i6 p.Mode,i6 p.bQ,i6 p.Set,i6 p.Length,i6 p.TTL,i6 p.cI,i6 p.cK,i6 p.dU,.int .u64 p.Bits,.str p.cD])]<|qD [] [] [] [14014] [(14014,.cells 54 [i6 e1.To,.aM,i6 p.Mode,i6 p.bQ,i6 p.Set,i6 p.Length,i6 p.TTL,i6 p.cI,i6 p.cK,i6 p.dU,.int .u64 (aU .andNot .u64 p.Bits bq),.str p.cD])]<|qD [] [] [] [14014] [(14014,.cells 54 [i6 e1.To,.aM,i6 p.Mode,i6 p.bQ,i6 p.Set,i6 p.Length,i6 (w64 (p.TTL-1)),i6 p.cI,i6 p.cK,i6 p.dU,.int .u64 (aU .andNot .u64 p.Bits bq),.str p.cD])] ?_
    obtain⟨J3,hJ3,hm⟩:=bG hm
    refine A.J (J:=J3) (r:=r) (λm_7=>[(1,i6 aD),(5,.ptr 14005 0),(6,.ptr 14006 0),(9,.ptr 14009 0),(10,.int .u64 (aU .andNot .u64 p.Bits bq)),(14,.ptr 14014 0),(38,lf ak e.List),(39,i6 (e.List.length:Int)),(40,i6 (j1:Int))]) (λm_7=>[(14005,.cells 36 (k10 p)),(14006,.cells 46 [.int .u64 (0:Int),.int .u64 (0:Int),.aM]),(14009,.cells 46 [.int .u64 m_1,.int .u64 m_2,.own 701400902]),(701400902,.slice 54 12 (ml bP m_3) 0 false),(14014,.cells 54 [i6 e1.To,.own 701401401,i6 p.Mode,i6 p.bQ,i6 p.Set,i6 p.Length,i6 (w64 (p.TTL-1)),i6 p.cI,i6 p.cK,i6 p.dU,.int .u64 (aU .andNot .u64 p.Bits bq),.str p.cD]),(701401401,.slice 3 1 (ml aA m_7) 0 false)]) ?_ ?_
    ·refine qDs [] [] [(99,.bool (decide (e1.Kind=2)))] ?_
     rcases aq hm with⟨c9,hm⟩|⟨c9,hm⟩
     ·exact qT c9<|qG [(2,.al 14102)] [12,99] [] [14012,14014] [(14014,.cells 54 [i6 e1.To,.own 14102,i6 p.Mode,i6 p.bQ,i6 p.Set,i6 p.Length,i6 (w64 (p.TTL-1)),i6 p.cI,i6 p.cK,i6 p.dU,.int .u64 (aU .andNot .u64 p.Bits bq),.str p.cD]),(14102,.slice 3 1 (ml aA ([e1.To]:List Int)) 0 false)]<|Exists.intro ([e1.To]:List Int) (And.intro hm (bt.go [.sw 14102 701401401] [] (by kernel_rfl)))
     exact qF c9<|A.skip<|Exists.intro [] (And.intro hm (bt.go [.ac 14014 701401401 3 1 1] [] (by kernel_rfl)))
    rintro m_7 hm
    rw[hJ3]at hm
    obtain⟨l_1,h6,hm⟩:=af hm
    exact A.R W0 [.fz [701401401],.sc 14014 [14005,14006,14009,701400902,14014]] [(4,hap 14609 (ap bP (bytes:=120) (by decide) h6))] [(1,i6 aD),(5,.ptr 14005 0),(6,.ptr 14006 0),(9,.ptr 14009 0),(10,.int .u64 (aU .andNot .u64 p.Bits bq)),(38,lf ak e.List),(39,i6 (e.List.length:Int)),(40,i6 (j1:Int))] [(14005,.cells 36 (k10 p)),(14006,.cells 46 [.int .u64 (0:Int),.int .u64 (0:Int),.aM]),(14009,.cells 46 [.int .u64 m_1,.int .u64 m_2,.own 14609]),(14609,.slice 54 12 (ml bP l_1) 0 false)] (by kernel_rfl)<|Exists.intro (m_1,m_2,l_1) (And.intro hm (bt.go [.sw 14609 701400902] [] (by kernel_rfl)))
   exact qF c8<|A.skip<|qX (m_1,m_2,m_3) hm
  rintro⟨m_4,m_5,m_6⟩ hm
  rw[hJ2]at hm
  exact qGs [(0,hto (inc hx1 hb1))] [40] [(40,i6 ((j1+1:Nat):Int))]<|qX (m_4,m_5,m_6) hm
 rintro j1 ⟨m_1,m_2,m_3⟩ hj1 hl1 hm
 rw[hK1]at hm
 refine qDs [] [] [(41,.bool (decide ((j1:Int)<(e.List.length:Int))))]<|A.seq<|qF (ltF hl1)<|A.exit<|qD [] [1,5,9,10,38,39,40,41] [(7,i6 0)] [14005,14006,14009] [(14006,.cells 46 [.int .u64 m_1,.int .u64 m_2,.own 701400902])]<|A.ret ?_
 obtain rfl:=some_inj hm
 exact A.fin W0 [.fz [701400902]] rfl (by kernel_rfl)
theorem yf{bits:Int}{r:(List bW)}(hm:jh aD bits p=some r):RO prog 76 [] [i6 aD,.int .u64 bits,.agg (k10 p)] (lf cM r):=by
 refine bf func76 rfl rfl ?_
 unfold jh at hm
 refine qS [(0,.al 76005)] [(0,i6 aD),(1,.int .u64 bits),(5,.ptr 76005 0)] [(76005,.cells 36 (k10 p))]<|qDs [] [] [(7,.aM)]<|A.seq<|qDs [] [] [(8,i6 0)]<|A.block ?_
 obtain⟨B1,K1,hB1,hK1,hm⟩:=oP hm
 refine A.lpN (hi:=(64:Int)) (B:=B1) (K:=K1) hm rfl (λj1=>λaR=>[(0,i6 aD),(1,.int .u64 bits),(5,.ptr 76005 0),(7,.own 600076007),(8,i6 (j1:Int))]) (λj1=>λaR=>[(76005,.cells 36 (k10 p)),(600076007,.slice 78 11 (ml cM aR) 0 false)]) ?_ ?_ ?_
 ·exact bt.go [.ad 7 600076007 78 11] [] (by kernel_rfl)
 ·rintro j1 Z1 aR hj1 hx1 hm
  rw[hB1]at hm
  refine A.seq<|qDs [] [] [(11,.bool (decide ((j1:Int)<(64:Int))))] ?_
  refine A.cT rfl (decide_eq_true hx1)<|A.skip ?_
  obtain⟨J1,hJ1,hm⟩:=bG hm
  refine A.J (J:=J1) (r:=r) (λcv=>[(0,i6 aD),(1,.int .u64 bits),(5,.ptr 76005 0),(7,.own 600076007),(8,i6 (j1:Int))]) (λcv=>[(76005,.cells 36 (k10 p)),(600076007,.slice 78 11 (ml cM cv) 0 false)]) ?_ ?_
  ·refine A.block ?_
   obtain⟨h1,hm⟩:=eB hm
   refine qDs [(3,.sh (IntKind.wrap .u64 (j1:Int)) (of_decide_eq_true h1))] [11] [(19,.bool (decide (aU .and .u64 (Int.fdiv bits (2 ^ min (IntKind.wrap .u64 (j1:Int)).toNat 64)) (1:Int)=(1:Int))))] ?_
   rcases aq hm with⟨c1,hm⟩|⟨c1,hm⟩
   ·refine qT c1<|qD [(1,.al 76009)] [19] [(9,.ptr 76009 0)] [] [(76009,.cells 36 (k10 p))] ?_
    obtain⟨h2,hm⟩:=eB hm
    refine qD [(2,.sh (IntKind.wrap .u64 (j1:Int)) (of_decide_eq_true h2))] [] [] [76009] [(76009,.cells 36 [i6 p.Mode,i6 p.bQ,i6 p.Set,i6 p.Length,i6 p.TTL,i6 p.cI,i6 p.cK,i6 p.dU,.int .u64 (IntKind.wrap .u64 ((1:Int)*2 ^ min (IntKind.wrap .u64 (j1:Int)).toNat 64)),.str p.cD])] ?_
    obtain⟨l_1,h3,hm⟩:=af hm
    exact qG [(5,hap 76530 (ap cM (bytes:=96) (by decide) h3))] [7,9] [(7,.own 76530)] [600076007,76009] [(76530,.slice 78 11 (ml cM l_1) 0 false)]<|Exists.intro l_1 (And.intro hm (bt.go [.sw 76530 600076007] [] (by kernel_rfl)))
   exact qF c1<|A.skip<|qX aR hm
  rintro cv hm
  rw[hJ1]at hm
  exact qGs [(1,hto (zJ (by omega) hx1 (by decide)))] [8] [(8,i6 (j1+1:Int))]<|qX cv hm
 rintro j1 aR hj1 hl1 hm
 rw[hK1]at hm
 refine A.seq<|qDs [] [] [(11,.bool (decide ((j1:Int)<(64:Int))))] ?_
 refine A.cF rfl (geF hl1)<|A.exit<|qD [] [0,1,5,7,8,11] [(6,.own 600076007)] [76005] []<|A.ret ?_
 obtain rfl:=some_inj hm
 exact A.fin W0 [.fz [600076007]] rfl (by kernel_rfl)
theorem xN{a:cg}{b:cg}(hm:kj a b=some r):RO prog 17 [] [.agg (k12 a),.agg (k12 b)] (.bool r):=by
 refine bf func17 rfl rfl ?_
 unfold kj at hm
 refine qS [(0,.al 17002),(1,.al 17003)] [(2,.ptr 17002 0),(3,.ptr 17003 0)] [(17002,.cells 46 (k12 a)),(17003,.cells 46 (k12 b))]<|A.seq<|A.mid [(2,.ptr 17002 0),(3,.ptr 17003 0),(29,.bool ((!decide (a.Local=b.Local))||((!decide (a.gw=b.gw))||(!decide ((a.bz.length:Int)=(b.bz.length:Int))))))] [(17002,.cells 46 (k12 a)),(17003,.cells 46 (k12 b))] (λhk=>?_) ?_
 ·rcases tf (!decide (a.Local=b.Local))with c1|c1
  ·exact qS [(5,hto (bE c1)),(20,hto (orT (q:=((!decide (a.gw=b.gw))||(!decide ((a.bz.length:Int)=(b.bz.length:Int))))) c1))] _ _ hk
  rcases tf (!decide (a.gw=b.gw))with c2|c2
  ·exact qS [(5,hto (bE c1)),(12,hto (bE c2)),(20,hto ((orT (q:=!decide ((a.bz.length:Int)=(b.bz.length:Int))) c2).trans (orF (q:=((!decide (a.gw=b.gw))||(!decide ((a.bz.length:Int)=(b.bz.length:Int))))) c1)))] _ _ hk
  exact qS [(5,hto (bE c1)),(12,hto (bE c2)),(15,hto (lnE bP a.bz)),(18,hto (lnE bP b.bz)),(20,hto ((orF (q:=!decide ((a.bz.length:Int)=(b.bz.length:Int))) c2).trans (orF (q:=((!decide (a.gw=b.gw))||(!decide ((a.bz.length:Int)=(b.bz.length:Int))))) c1)))] _ _ hk
 rcases aq hm with⟨c3,hm⟩|⟨c3,hm⟩
 ·refine qT c3<|qS [] [(4,.bool false)] [] ?_
  cases hm
  exact A.ret qE
 refine qF c3<|A.skip<|A.seq<|qDs [(2,hto (lnE bP a.bz))] [29] [(32,i6 (a.bz.length:Int)),(33,i6 0)]<|A.block<|A.bC 2 2 rfl rfl rfl λhb1=>?_
 obtain⟨B1,K1,hB1,hK1,hm⟩:=aW hm
 refine A.lpI (l:=a.bz) (j0:=0) (B:=B1) (K:=K1) hm (λj1=>λ()=>[(2,.ptr 17002 0),(3,.ptr 17003 0),(32,i6 (a.bz.length:Int)),(33,i6 (j1:Int))]) (λj1=>λ()=>[(17002,.cells 46 (k12 a)),(17003,.cells 46 (k12 b))]) ?_ ?_ ?_
 ·exact qW
 ·rintro j1 e1 Z1 ⟨⟩ hj1 hx1 hm
  rw[hB1]at hm
  refine qDs [] [] [(34,.bool (decide ((j1:Int)<(a.bz.length:Int))))]<|A.seq<|qT (ltT hx1)<|A.skip<|A.seq<|A.block<|qDs [] [34] [(5,i6 (j1:Int))] ?_
  obtain⟨e_1,h1,hm⟩:=af hm
  refine qD [(3,hix (ix bP (aY hx1))),(8,hix (ix bP h1)),(10,.al 17006),(11,.al 17007)] [5] [(6,.ptr 17006 0),(7,.ptr 17007 0)] [] [(17006,.cells 54 (k11 e1)),(17007,.cells 54 (k11 e_1))]<|A.seq<|A.mid [(2,.ptr 17002 0),(3,.ptr 17003 0),(32,i6 (a.bz.length:Int)),(33,i6 (j1:Int)),(6,.ptr 17006 0),(7,.ptr 17007 0),(70,.bool ((!decide (e1.To=e_1.To))||((!(mA e1.Frame.ay e_1.Frame.ay))||(!decide ((e1.Frame.dZ.length:Int)=(e_1.Frame.dZ.length:Int))))))] [(17002,.cells 46 (k12 a)),(17003,.cells 46 (k12 b)),(17006,.cells 54 (k11 e1)),(17007,.cells 54 (k11 e_1))] (λhk=>?_) ?_
  ·rcases tf (!decide (e1.To=e_1.To))with c4|c4
   ·exact qS [(5,hto (bE c4)),(24,hto (orT (q:=((!(mA e1.Frame.ay e_1.Frame.ay))||(!decide ((e1.Frame.dZ.length:Int)=(e_1.Frame.dZ.length:Int))))) c4))] _ _ hk
   rcases tf (!(mA e1.Frame.ay e_1.Frame.ay))with c5|c5
   ·exact qS [(5,hto (bE c4)),(12,.sq true 36 (.agg (k10 e1.Frame.ay)) (.agg (k10 e_1.Frame.ay)) (!(mA e1.Frame.ay e_1.Frame.ay)) (λx y w=>ae0 x y _ _ _ _ _ _ _ _ _ _ _ _ _ _ _ _ _ _ _ _ w)),(14,hto (bE c5)),(24,hto ((orT (q:=!decide ((e1.Frame.dZ.length:Int)=(e_1.Frame.dZ.length:Int))) c5).trans (orF (q:=((!(mA e1.Frame.ay e_1.Frame.ay))||(!decide ((e1.Frame.dZ.length:Int)=(e_1.Frame.dZ.length:Int))))) c4)))] _ _ hk
   exact qS [(5,hto (bE c4)),(12,.sq true 36 (.agg (k10 e1.Frame.ay)) (.agg (k10 e_1.Frame.ay)) (!(mA e1.Frame.ay e_1.Frame.ay)) (λx y w=>ae0 x y _ _ _ _ _ _ _ _ _ _ _ _ _ _ _ _ _ _ _ _ w)),(14,hto (bE c5)),(18,hto (lnE aA e1.Frame.dZ)),(22,hto (lnE aA e_1.Frame.dZ)),(24,hto ((orF (q:=!decide ((e1.Frame.dZ.length:Int)=(e_1.Frame.dZ.length:Int))) c5).trans (orF (q:=((!(mA e1.Frame.ay e_1.Frame.ay))||(!decide ((e1.Frame.dZ.length:Int)=(e_1.Frame.dZ.length:Int))))) c4)))] _ _ hk
  rcases aq hm with⟨c6,hm⟩|⟨c6,hm⟩
  ·refine qT c6<|qS [] [(4,.bool false)] [] ?_
   cases hm
   exact A.ret qE
  refine qF c6<|A.skip<|qDs [(3,hto (lnE aA e1.Frame.dZ))] [70] [(74,i6 (e1.Frame.dZ.length:Int)),(75,i6 0)]<|A.block<|A.bC 6 1 rfl rfl rfl λhb2=>?_
  obtain⟨B2,K2,hB2,hK2,hm⟩:=aW hm
  refine A.lpI (l:=e1.Frame.dZ) (j0:=0) (B:=B2) (K:=K2) hm (λj2=>λ()=>[(2,.ptr 17002 0),(3,.ptr 17003 0),(6,.ptr 17006 0),(7,.ptr 17007 0),(32,i6 (a.bz.length:Int)),(33,i6 (j1:Int)),(74,i6 (e1.Frame.dZ.length:Int)),(75,i6 (j2:Int))]) (λj2=>λ()=>[(17002,.cells 46 (k12 a)),(17003,.cells 46 (k12 b)),(17006,.cells 54 (k11 e1)),(17007,.cells 54 (k11 e_1))]) ?_ ?_ ?_
  ·exact qW
  ·rintro j2 e2 Z2 ⟨⟩ hj2 hx2 hm
   rw[hB2]at hm
   refine qDs [] [] [(76,.bool (decide ((j2:Int)<(e1.Frame.dZ.length:Int))))]<|A.seq<|qT (ltT hx2)<|A.skip<|A.seq<|A.block<|qDs [] [76] [(8,i6 (j2:Int))] ?_
   obtain⟨e_2,h2,hm⟩:=af hm
   refine qDs [(4,hix (ix aA (aY hx2))),(10,hix (ix aA h2))] [8] [(90,.bool (!decide (e2=e_2)))] ?_
   rcases aq hm with⟨c7,hm⟩|⟨c7,hm⟩
   ·refine qT c7<|qS [] [(4,.bool false)] [] ?_
    cases hm
    exact A.ret qE
   exact qF c7<|A.skip<|qGs [(0,hto (inc hx2 hb2))] [75,90] [(75,i6 ((j2+1:Nat):Int))]<|qX () hm
  rintro j2 ⟨⟩ hj2 hl2 hm
  rw[hK2]at hm
  exact qDs [] [] [(76,.bool (decide ((j2:Int)<(e1.Frame.dZ.length:Int))))]<|A.seq<|qF (ltF hl2)<|A.exit<|qG [(0,hto (inc hx1 hb1))] [6,7,33,74,75,76] [(33,i6 ((j1+1:Nat):Int))] [17006,17007] []<|qX () hm
 rintro j1 ⟨⟩ hj1 hl1 hm
 rw[hK1]at hm
 refine qDs [] [] [(34,.bool (decide ((j1:Int)<(a.bz.length:Int))))]<|A.seq<|qF (ltF hl1)<|A.exit<|qS [] [(4,.bool true)] [] ?_
 cases hm
 exact A.ret qE
theorem yY{a:dy}{b:dy}(hm:l7 a b=some r):RO prog 37 [] [.agg (k13 a),.agg (k13 b)] (.bool r):=by
 refine bf func37 rfl rfl ?_
 unfold l7 at hm
 refine qS [(0,.al 37002),(1,.al 37003)] [(2,.ptr 37002 0),(3,.ptr 37003 0)] [(37002,.cells 74 (k13 a)),(37003,.cells 74 (k13 b))]<|A.seq<|A.mid [(2,.ptr 37002 0),(3,.ptr 37003 0),(32,.bool ((!decide ((a.cG.length:Int)=(b.cG.length:Int)))||((!decide ((a.cr.length:Int)=(b.cr.length:Int)))||(!decide ((a.dR.length:Int)=(b.dR.length:Int))))))] [(37002,.cells 74 (k13 a)),(37003,.cells 74 (k13 b))] (λhk=>?_) ?_
 ·rcases tf (!decide ((a.cG.length:Int)=(b.cG.length:Int)))with c1|c1
  ·exact qS [(2,hto (lnE cM a.cG)),(5,hto (lnE cM b.cG)),(7,hto (bE c1)),(24,hto (orT (q:=((!decide ((a.cr.length:Int)=(b.cr.length:Int)))||(!decide ((a.dR.length:Int)=(b.dR.length:Int))))) c1))] _ _ hk
  rcases tf (!decide ((a.cr.length:Int)=(b.cr.length:Int)))with c2|c2
  ·exact qS [(2,hto (lnE cM a.cG)),(5,hto (lnE cM b.cG)),(7,hto (bE c1)),(10,hto (lnE dw a.cr)),(13,hto (lnE dw b.cr)),(16,hto (bE c2)),(24,hto ((orT (q:=!decide ((a.dR.length:Int)=(b.dR.length:Int))) c2).trans (orF (q:=((!decide ((a.cr.length:Int)=(b.cr.length:Int)))||(!decide ((a.dR.length:Int)=(b.dR.length:Int))))) c1)))] _ _ hk
  exact qS [(2,hto (lnE cM a.cG)),(5,hto (lnE cM b.cG)),(7,hto (bE c1)),(10,hto (lnE dw a.cr)),(13,hto (lnE dw b.cr)),(16,hto (bE c2)),(19,hto (lnE eU a.dR)),(22,hto (lnE eU b.dR)),(24,hto ((orF (q:=!decide ((a.dR.length:Int)=(b.dR.length:Int))) c2).trans (orF (q:=((!decide ((a.cr.length:Int)=(b.cr.length:Int)))||(!decide ((a.dR.length:Int)=(b.dR.length:Int))))) c1)))] _ _ hk
 rcases aq hm with⟨c3,hm⟩|⟨c3,hm⟩
 ·refine qT c3<|qS [] [(4,.bool false)] [] ?_
  cases hm
  exact A.ret qE
 refine qF c3<|A.skip<|A.seq<|qDs [(2,hto (lnE cM a.cG))] [32] [(35,i6 (a.cG.length:Int)),(36,i6 0)]<|A.block<|A.bC 2 0 rfl rfl rfl λhb1=>?_
 obtain⟨B1,K1,hB1,hK1,hm⟩:=aW hm
 refine A.lpI (l:=a.cG) (j0:=0) (B:=B1) (K:=K1) hm (λj1=>λ()=>[(2,.ptr 37002 0),(3,.ptr 37003 0),(35,i6 (a.cG.length:Int)),(36,i6 (j1:Int))]) (λj1=>λ()=>[(37002,.cells 74 (k13 a)),(37003,.cells 74 (k13 b))]) ?_ ?_ ?_
 ·exact qW
 ·rintro j1 e1 Z1 ⟨⟩ hj1 hx1 hm
  rw[hB1]at hm
  refine qDs [] [] [(37,.bool (decide ((j1:Int)<(a.cG.length:Int))))]<|A.seq<|qT (ltT hx1)<|A.skip<|A.seq<|A.block<|qDs [] [37] [(5,i6 (j1:Int))] ?_
  obtain⟨e_1,h1,hm⟩:=af hm
  refine qDs [(3,hix (ix cM (aY hx1))),(8,hix (ix cM h1)),(10,.sq true 78 (.agg [i6 e1.br,i6 e1.ay.Mode,i6 e1.ay.bQ,i6 e1.ay.Set,i6 e1.ay.Length,i6 e1.ay.TTL,i6 e1.ay.cI,i6 e1.ay.cK,i6 e1.ay.dU,.int .u64 e1.ay.Bits,.str e1.ay.cD]) (.agg [i6 e_1.br,i6 e_1.ay.Mode,i6 e_1.ay.bQ,i6 e_1.ay.Set,i6 e_1.ay.Length,i6 e_1.ay.TTL,i6 e_1.ay.cI,i6 e_1.ay.cK,i6 e_1.ay.dU,.int .u64 e_1.ay.Bits,.str e_1.ay.cD]) (!(ru e1 e_1)) (λx y w=>ajs x y _ _ _ _ _ _ _ _ _ _ _ _ _ _ _ _ _ _ _ _ _ _ w))] [5] [(49,.bool (!(ru e1 e_1)))] ?_
  rcases aq hm with⟨c4,hm⟩|⟨c4,hm⟩
  ·refine qT c4<|qS [] [(4,.bool false)] [] ?_
   cases hm
   exact A.ret qE
  exact qF c4<|A.skip<|qGs [(0,hto (inc hx1 hb1))] [36,49] [(36,i6 ((j1+1:Nat):Int))]<|qX () hm
 rintro j1 ⟨⟩ hj1 hl1 hm
 rw[hK1]at hm
 refine qDs [] [] [(37,.bool (decide ((j1:Int)<(a.cG.length:Int))))]<|A.seq<|qF (ltF hl1)<|A.exit<|A.seq<|qDs [(2,hto (lnE dw a.cr))] [35,36,37] [(53,i6 (a.cr.length:Int)),(54,i6 0)]<|A.block<|A.bC 2 1 rfl rfl rfl λhb2=>?_
 obtain⟨B2,K2,hB2,hK2,hm⟩:=aW hm
 refine A.lpI (l:=a.cr) (j0:=0) (B:=B2) (K:=K2) hm (λj2=>λ()=>[(2,.ptr 37002 0),(3,.ptr 37003 0),(53,i6 (a.cr.length:Int)),(54,i6 (j2:Int))]) (λj2=>λ()=>[(37002,.cells 74 (k13 a)),(37003,.cells 74 (k13 b))]) ?_ ?_ ?_
 ·exact qW
 ·rintro j2 e2 Z2 ⟨⟩ hj2 hx2 hm
  rw[hB2]at hm
  refine qDs [] [] [(55,.bool (decide ((j2:Int)<(a.cr.length:Int))))]<|A.seq<|qT (ltT hx2)<|A.skip<|A.seq<|A.block<|qDs [] [55] [(6,i6 (j2:Int))] ?_
  obtain⟨e_2,h2,hm⟩:=af hm
  refine qDs [(3,hix (ix dw (aY hx2))),(8,hix (ix dw h2)),(10,.sq true 81 (.agg [i6 e2.dF,i6 e2.To,.int .u64 e2.Bits]) (.agg [i6 e_2.dF,i6 e_2.To,.int .u64 e_2.Bits]) (!(ry e2 e_2)) (λx y w=>ajt x y _ _ _ _ _ _ w))] [6] [(67,.bool (!(ry e2 e_2)))] ?_
  rcases aq hm with⟨c5,hm⟩|⟨c5,hm⟩
  ·refine qT c5<|qS [] [(4,.bool false)] [] ?_
   cases hm
   exact A.ret qE
  exact qF c5<|A.skip<|qGs [(0,hto (inc hx2 hb2))] [54,67] [(54,i6 ((j2+1:Nat):Int))]<|qX () hm
 rintro j2 ⟨⟩ hj2 hl2 hm
 rw[hK2]at hm
 refine qDs [] [] [(55,.bool (decide ((j2:Int)<(a.cr.length:Int))))]<|A.seq<|qF (ltF hl2)<|A.exit<|A.seq<|qDs [(2,hto (lnE eU a.dR))] [53,54,55] [(71,i6 (a.dR.length:Int)),(72,i6 0)]<|A.block<|A.bC 2 2 rfl rfl rfl λhb3=>?_
 obtain⟨B3,K3,hB3,hK3,hm⟩:=aW hm
 refine A.lpI (l:=a.dR) (j0:=0) (B:=B3) (K:=K3) hm (λj3=>λ()=>[(2,.ptr 37002 0),(3,.ptr 37003 0),(71,i6 (a.dR.length:Int)),(72,i6 (j3:Int))]) (λj3=>λ()=>[(37002,.cells 74 (k13 a)),(37003,.cells 74 (k13 b))]) ?_ ?_ ?_
 ·exact qW
 ·rintro j3 e3 Z3 ⟨⟩ hj3 hx3 hm
  rw[hB3]at hm
  refine qDs [] [] [(73,.bool (decide ((j3:Int)<(a.dR.length:Int))))]<|A.seq<|qT (ltT hx3)<|A.skip<|A.seq<|A.block<|qDs [] [73] [(7,i6 (j3:Int))] ?_
  obtain⟨e_3,h3,hm⟩:=af hm
  refine qDs [(3,hix (ix eU (aY hx3))),(8,hix (ix eU h3)),(10,.sq true 141 (.agg [i6 e3.br,.int .u64 e3.Bits]) (.agg [i6 e_3.br,.int .u64 e_3.Bits]) (!(x6 e3 e_3)) (λx y w=>ail x y _ _ _ _ w))] [7] [(85,.bool (!(x6 e3 e_3)))] ?_
  rcases aq hm with⟨c6,hm⟩|⟨c6,hm⟩
  ·refine qT c6<|qS [] [(4,.bool false)] [] ?_
   cases hm
   exact A.ret qE
  exact qF c6<|A.skip<|qGs [(0,hto (inc hx3 hb3))] [72,85] [(72,i6 ((j3+1:Nat):Int))]<|qX () hm
 rintro j3 ⟨⟩ hj3 hl3 hm
 rw[hK3]at hm
 refine qDs [] [] [(73,.bool (decide ((j3:Int)<(a.dR.length:Int))))]<|A.seq<|qF (ltF hl3)<|A.exit<|qS [] [(4,.bool true)] [] ?_
 cases hm
 exact A.ret qE
end Go.Proofs.YtdjeacigeegklaaGreat
