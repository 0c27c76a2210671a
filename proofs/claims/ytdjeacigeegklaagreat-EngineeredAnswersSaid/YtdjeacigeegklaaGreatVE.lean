/- The iy of ec of the program. No condition but bU bx stand in each. -/
import Derived.Test.YtdjeacigeegklaaGreatDA
import Derived.Test.YtdjeacigeegklaaGreatVX
import Derived.Test.YtdjeacigeegklaaGreatV2
namespace Go.Proofs.YtdjeacigeegklaaGreat
open Go Go.Proofs.Tryz
set_option maxRecDepth 100000
set_option linter.all false
theorem mW{n:Int}{r:Bool}(hm:l8 n=some r):RO prog 133 [] [i6 n] (.bool r):=by
 refine bh func133 rfl rfl ?_
 unfold l8 at hm
 refine qS [] [(0,i6 n)] []<|A.mid [(2,.bool ((decide (n=8))||((decide (n=16))||((decide (n=32))||(decide (n=64))))))] [] (λhk=>?_) ?_
 ·rcases tf (decide (n=8))with c1|c1
  ·exact qS [(2,hto (bE c1)),(14,hto (orT (q:=((decide (n=16))||((decide (n=32))||(decide (n=64))))) c1))] _ _ hk
  rcases tf (decide (n=16))with c2|c2
  ·exact qS [(2,hto (bE c1)),(6,hto (bE c2)),(14,hto ((orT (q:=((decide (n=32))||(decide (n=64)))) c2).trans (orF (q:=((decide (n=16))||((decide (n=32))||(decide (n=64))))) c1)))] _ _ hk
  rcases tf (decide (n=32))with c3|c3
  ·exact qS [(2,hto (bE c1)),(6,hto (bE c2)),(10,hto (bE c3)),(14,hto (((orT (q:=decide (n=64)) c3).trans (orF (q:=((decide (n=32))||(decide (n=64)))) c2)).trans (orF (q:=((decide (n=16))||((decide (n=32))||(decide (n=64))))) c1)))] _ _ hk
  exact qS [(2,hto (bE c1)),(6,hto (bE c2)),(10,hto (bE c3)),(14,hto (((orF (q:=decide (n=64)) c3).trans (orF (q:=((decide (n=32))||(decide (n=64)))) c2)).trans (orF (q:=((decide (n=16))||((decide (n=32))||(decide (n=64))))) c1)))] _ _ hk
 cases hm
 exact A.ret qE
theorem acq{k:Int}{r:Int}(hm:wj k=some r):RO prog 157 [] [i6 k] (.int .u64 r):=by
 refine bh func157 rfl rfl ?_
 unfold wj at hm
 refine qS [] [(0,i6 k)] []<|A.seq<|A.mid [(0,i6 k),(8,.bool ((decide (k<0))||(decide (63<k))))] [] (λhk=>?_) ?_
 ·rcases tf (decide (k<0))with c1|c1
  ·exact qS [(2,hto (bE c1)),(5,hto (orT (q:=decide (63<k)) c1))] _ _ hk
  exact qS [(2,hto (bE c1)),(5,hto (orF (q:=decide (63<k)) c1))] _ _ hk
 rcases aj hm with⟨c2,hm⟩|⟨c2,hm⟩
 ·refine qT c2<|qS [] [(2,.int .u64 (0:Int))] [] ?_
  cases hm
  exact A.ret qE
 refine qF c2<|A.skip ?_
 show ah _ _ _ _ _
 obtain⟨h1,hm⟩:=dY hm
 refine qS [(2,.sh (IntKind.wrap .u64 k) (of_decide_eq_true h1))] [(2,.int .u64 (IntKind.wrap .u64 ((1:Int)*2 ^ min (IntKind.wrap .u64 k).toNat 64)))] [] ?_
 cases hm
 exact A.ret qE
theorem abR{length:Int}{r:Int}(hm:sE length=some r):RO prog 134 [] [i6 length] (.int .u64 r):=by
 refine bh func134 rfl rfl ?_
 unfold sE at hm
 refine qS [] [(0,i6 length)] []<|A.seq ?_
 obtain⟨ai,h1,hm⟩:=aa hm
 refine qDs [(1,hro (mW h1) agr)] [] [(7,.bool (!ai))] ?_
 rcases aj hm with⟨c1,hm⟩|⟨c1,hm⟩
 ·refine qT c1<|qS [] [(2,.int .u64 (0:Int))] [] ?_
  cases hm
  exact A.ret qE
 refine qF c1<|A.skip ?_
 show ah _ _ _ _ _
 refine qDs [] [7] [(3,.int .u64 (0:Int))]<|A.seq<|qDs [] [] [(4,i6 0)]<|A.block ?_
 obtain⟨hh1,hm⟩:=dY hm
 obtain⟨B1,K1,hB1,hK1,hm⟩:=o3 hm
 refine A.lpN (hi:=length) (B:=B1) (K:=K1) hm rfl (λj1=>λb_1=>[(0,i6 length),(3,.int .u64 b_1),(4,i6 (j1:Int))]) (λj1=>λb_1=>[]) ?_ ?_ ?_
 ·exact qW
 ·rintro j1 Z1 b_1 hj1 hx1 hm
  rw[hB1]at hm
  refine A.seq<|qDs [] [] [(10,.bool (decide ((j1:Int)<length)))] ?_
  refine A.cT rfl (decide_eq_true hx1)<|A.skip ?_
  show ah _ _ _ _ _
  refine A.seq<|A.block ?_
  obtain⟨aI,h2,hm⟩:=aa hm
  refine qGs [(2,hro (acq h2) aA4)] [3,10] [(3,.int .u64 (bB .or .u64 b_1 aI))] ?_
  show ah _ _ _ _ _
  exact qGs [(1,hto (aaI (by omega) hx1 (of_decide_eq_true hh1)))] [4] [(4,i6 (j1+1:Int))]<|qX (bB .or .u64 b_1 aI) hm
 rintro j1 b_1 hj1 hl1 hm
 rw[hK1]at hm
 refine A.seq<|qDs [] [] [(10,.bool (decide ((j1:Int)<length)))] ?_
 refine A.cF rfl (geF hl1)<|A.exit ?_
 show ah _ _ _ _ _
 refine qS [] [(2,.int .u64 b_1)] [] ?_
 cases hm
 exact A.ret qE
theorem jT{b:Int}{length:Int}{r:Bool}(hm:ov b length=some r):RO prog 92 [] [.int .u64 b,i6 length] (.bool r):=by
 refine bh func92 rfl rfl ?_
 unfold ov at hm
 refine qS [] [(0,.int .u64 b),(1,i6 length)] [] ?_
 obtain⟨ai,h1,hm⟩:=aa hm
 rcases aj hm with⟨c1,hm⟩|⟨c1,hm⟩
 ·obtain⟨aI,h2,hm⟩:=aa hm
  refine qS [(1,hro (mW h1) agr),(2,hto (bE c1)),(5,hro (abR h2) aAQ)] [(4,.bool (decide (bB .andNot .u64 b aI=0)))] [] ?_
  cases hm
  exact A.ret qE
 refine qS [(1,hro (mW h1) agr),(2,hto (bE c1))] [(4,.bool false)] [] ?_
 cases hm
 exact A.ret qE
theorem bX{n:Int}{most:Int}{r:Bool}(hm:gX n most=some r):RO prog 91 [] [i6 n,i6 most] (.bool r):=by
 refine bh func91 rfl rfl ?_
 unfold gX at hm
 refine qS [] [(0,i6 n),(1,i6 most)] []<|A.mid [(4,.bool ((decide (0≤n))&&(decide (n≤most))))] [] (λhk=>?_) ?_
 ·rcases tf (decide (0≤n))with c1|c1
  ·exact qS [(2,hto (bE c1)),(7,hto (gR (q:=decide (n≤most)) c1))] _ _ hk
  exact qS [(2,hto (bE c1)),(7,hto (mc (q:=decide (n≤most)) c1))] _ _ hk
 cases hm
 exact A.ret qE
variable {p:aD}
theorem qM{r:Bool}(hm:kV p=some r):RO prog 55 [] [.agg (k10 p)] (.bool r):=by
 refine bh func55 rfl rfl ?_
 unfold kV at hm
 refine qS [(0,.al 55001)] [(1,.ptr 55001 0)] [(55001,.cells 36 (k10 p))] ?_
 rcases aj hm with⟨c1,hm⟩|⟨c1,hm⟩
 ·rcases aj hm with⟨c2,hm⟩|⟨c2,hm⟩
  ·obtain⟨ai,h1,hm⟩:=aa hm
   rcases aj hm with⟨c3,hm⟩|⟨c3,hm⟩
   ·obtain⟨aI,h2,hm⟩:=aa hm
    rcases aj hm with⟨c4,hm⟩|⟨c4,hm⟩
    ·obtain⟨bn,h3,hm⟩:=aa hm
     rcases aj hm with⟨c5,hm⟩|⟨c5,hm⟩
     ·obtain⟨bf,h4,hm⟩:=aa hm
      rcases aj hm with⟨c6,hm⟩|⟨c6,hm⟩
      ·obtain⟨bO,h5,hm⟩:=aa hm
       rcases aj hm with⟨c7,hm⟩|⟨c7,hm⟩
       ·obtain⟨br,h6,hm⟩:=aa hm
        rcases aj hm with⟨c8,hm⟩|⟨c8,hm⟩
        ·obtain⟨cv,h7,hm⟩:=aa hm
         rcases aj hm with⟨c9,hm⟩|⟨c9,hm⟩
         ·refine qS [(3,hto (bE c1)),(8,hto (bE c2)),(11,hro (bX h1) jk),(13,hto (bE c3)),(16,hro (bX h2) jk),(18,hto (bE c4)),(23,hro (jT h3) aco),(25,hto (bE c5)),(28,hro (bX h4) jk),(30,hto (bE c6)),(33,hro (bX h5) jk),(35,hto (bE c7)),(38,hro (bX h6) jk),(40,hto (bE c8)),(43,hro (bX h7) jk),(45,hto (bE c9))] [(2,.bool (decide ((p.cm.size:Int)≤(64:Int))))] [] ?_
          cases hm
          exact A.ret qE
         refine qS [(3,hto (bE c1)),(8,hto (bE c2)),(11,hro (bX h1) jk),(13,hto (bE c3)),(16,hro (bX h2) jk),(18,hto (bE c4)),(23,hro (jT h3) aco),(25,hto (bE c5)),(28,hro (bX h4) jk),(30,hto (bE c6)),(33,hro (bX h5) jk),(35,hto (bE c7)),(38,hro (bX h6) jk),(40,hto (bE c8)),(43,hro (bX h7) jk),(45,hto (bE c9))] [(2,.bool false)] [] ?_
         cases hm
         exact A.ret qE
        refine qS [(3,hto (bE c1)),(8,hto (bE c2)),(11,hro (bX h1) jk),(13,hto (bE c3)),(16,hro (bX h2) jk),(18,hto (bE c4)),(23,hro (jT h3) aco),(25,hto (bE c5)),(28,hro (bX h4) jk),(30,hto (bE c6)),(33,hro (bX h5) jk),(35,hto (bE c7)),(38,hro (bX h6) jk),(40,hto (bE c8))] [(2,.bool false)] [] ?_
        cases hm
        exact A.ret qE
       refine qS [(3,hto (bE c1)),(8,hto (bE c2)),(11,hro (bX h1) jk),(13,hto (bE c3)),(16,hro (bX h2) jk),(18,hto (bE c4)),(23,hro (jT h3) aco),(25,hto (bE c5)),(28,hro (bX h4) jk),(30,hto (bE c6)),(33,hro (bX h5) jk),(35,hto (bE c7))] [(2,.bool false)] [] ?_
       cases hm
       exact A.ret qE
      refine qS [(3,hto (bE c1)),(8,hto (bE c2)),(11,hro (bX h1) jk),(13,hto (bE c3)),(16,hro (bX h2) jk),(18,hto (bE c4)),(23,hro (jT h3) aco),(25,hto (bE c5)),(28,hro (bX h4) jk),(30,hto (bE c6))] [(2,.bool false)] [] ?_
      cases hm
      exact A.ret qE
     refine qS [(3,hto (bE c1)),(8,hto (bE c2)),(11,hro (bX h1) jk),(13,hto (bE c3)),(16,hro (bX h2) jk),(18,hto (bE c4)),(23,hro (jT h3) aco),(25,hto (bE c5))] [(2,.bool false)] [] ?_
     cases hm
     exact A.ret qE
    refine qS [(3,hto (bE c1)),(8,hto (bE c2)),(11,hro (bX h1) jk),(13,hto (bE c3)),(16,hro (bX h2) jk),(18,hto (bE c4))] [(2,.bool false)] [] ?_
    cases hm
    exact A.ret qE
   refine qS [(3,hto (bE c1)),(8,hto (bE c2)),(11,hro (bX h1) jk),(13,hto (bE c3))] [(2,.bool false)] [] ?_
   cases hm
   exact A.ret qE
  refine qS [(3,hto (bE c1)),(8,hto (bE c2))] [(2,.bool false)] [] ?_
  cases hm
  exact A.ret qE
 refine qS [(3,hto (bE c1))] [(2,.bool false)] [] ?_
 cases hm
 exact A.ret qE
variable {t:af}
theorem u9{ra1:Int}{r:Int}(hm:ow t ra1=some r):RO prog 165 [] [.agg (k2 t),i6 ra1] (i6 r):=by
 refine bh func165 rfl rfl ?_
 unfold ow at hm
 refine qS [(0,.al 165002)] [(1,i6 ra1),(2,.ptr 165002 0)] [(165002,.cells 28 (k2 t))]<|A.seq<|qDs [] [] [(5,i6 0)]<|A.block<|A.bC 2 0 rfl rfl rfl λhb1=>?_
 obtain⟨B1,K1,hB1,hK1,hm⟩:=aX hm
 refine A.lpI (l:=t.aq) (j0:=0) (B:=B1) (K:=K1) hm (λj1=>λ()=>[(1,i6 ra1),(2,.ptr 165002 0),(5,i6 (j1:Int))]) (λj1=>λ()=>[(165002,.cells 28 (k2 t))]) ?_ ?_ ?_
 ·exact qW
 ·rintro j1 e1 Z1 ⟨⟩ hj1 hx1 hm
  rw[hB1]at hm
  refine A.seq<|qDs [(3,hto (lnE aJ t.aq))] [] [(10,.bool (decide ((j1:Int)<(t.aq.length:Int))))] ?_
  refine qT (ltT hx1)<|A.skip ?_
  show ah _ _ _ _ _
  refine A.seq<|A.block ?_
  refine qDs [(3,hix (ix aJ (bq hx1)))] [10] [(20,.bool (decide (e1.ID=ra1)))] ?_
  rcases aj hm with⟨c1,hm⟩|⟨c1,hm⟩
  ·refine qT c1<|qS [] [(4,i6 (j1:Int))] [] ?_
   cases hm
   exact A.ret qE
  refine qF c1<|A.skip ?_
  show ah _ _ _ _ _
  exact qGs [(1,hto (inc hx1 hb1))] [5,20] [(5,i6 ((j1+1:Nat):Int))]<|qX () hm
 rintro j1 ⟨⟩ hj1 hl1 hm
 rw[hK1]at hm
 refine A.seq<|qDs [(3,hto (lnE aJ t.aq))] [] [(10,.bool (decide ((j1:Int)<(t.aq.length:Int))))] ?_
 refine qF (ltF hl1)<|A.exit ?_
 show ah _ _ _ _ _
 refine qS [] [(4,i6 0)] [] ?_
 cases hm
 exact A.ret qE
variable {r:(List Int)}
theorem adu{y6:Int}(hm:sF t y6=some r):RO prog 152 [] [.agg (k2 t),i6 y6] (lf aB r):=by
 refine bh func152 rfl rfl ?_
 unfold sF at hm
 refine qS [(0,.al 152002)] [(1,i6 y6),(2,.ptr 152002 0)] [(152002,.cells 28 (k2 t))] ?_
 obtain⟨h1,hm⟩:=dY hm
 refine qD [(2,hto (lnE aJ t.aq)),(3,hms (a:=i6 0) 152015 (0:Int) aB.enc (t.aq.length:Int) afR amE rfl (λI=>by simp[aH]) h1 (by decide))] [] [(5,.own 152015)] [] [(152015,.slice 3 1 (ml aB (List.replicate ((t.aq.length:Int)).toNat (0:Int))) 0 false)]<|A.seq<|qDs [] [] [(6,i6 0)]<|A.block ?_
 obtain⟨F1,n1,hF1,hm⟩:=gr hm
 refine A.lpW (F:=F1) hm (λ(d_1,i_1)=>[(1,i6 y6),(2,.ptr 152002 0),(5,.own 600152005),(6,i6 i_1)]) (λ(d_1,i_1)=>[(152002,.cells 28 (k2 t)),(600152005,.slice 3 1 (ml aB d_1) 0 false)]) ?_ ?_
 ·exact bA.go [.sw 152015 600152005] [] (by kernel_rfl)
 rintro Z1 ⟨d_1,i_1⟩ hm
 rw[hF1]at hm
 refine A.seq<|qDs [(2,hto (lnE aB d_1))] [] [(19,.bool (decide (i_1<(d_1.length:Int))))] ?_
 rcases aj hm with⟨c1,hm⟩|⟨c1,hm⟩
 ·refine qT c1<|A.skip ?_
  show ah _ _ _ _ _
  obtain⟨J1,hJ1,hm⟩:=bQ hm
  refine A.J (J:=J1) (r:=r) (λd_2=>[(1,i6 y6),(2,.ptr 152002 0),(5,.own 600152005),(6,i6 i_1)]) (λd_2=>[(152002,.cells 28 (k2 t)),(600152005,.slice 3 1 (ml aB d_2) 0 false)]) ?_ ?_
  ·refine A.block ?_
   obtain⟨e_1,h2,hm⟩:=aa hm
   obtain⟨l_1,h3,hm⟩:=aa hm
   refine qD [(2,hix (ix aB h2)),(3,hso 600152005 (st aB (off:=0) (ca:=[i6 1073741824]) h2 h3 rfl) (qH h2).1.1)] [19] [] [600152005] [(600152005,.slice 3 1 (ml aB l_1) 0 false)] ?_
   obtain⟨e_2,h4,hm⟩:=aa hm
   refine qDs [(3,hix (ix aJ h4))] [] [(32,.bool (decide (e_2.ID=y6)))] ?_
   rcases aj hm with⟨c2,hm⟩|⟨c2,hm⟩
   ·refine qT c2 ?_
    obtain⟨e_3,h5,hm⟩:=aa hm
    obtain⟨l_2,h6,hm⟩:=aa hm
    exact qG [(2,hix (ix aB h5)),(3,hso 600152005 (st aB (off:=0) (ca:=[i6 0]) h5 h6 rfl) (qH h5).1.1)] [32] [] [600152005] [(600152005,.slice 3 1 (ml aB l_2) 0 false)]<|qX l_2 hm
   exact qF c2<|A.skip<|qX l_1 hm
  rintro d_2 hm
  rw[hJ1]at hm
  exact qGs [] [6] [(6,i6 (w64 (i_1+1)))]<|qX (d_2,w64 (i_1+1)) hm
 refine qF c1<|A.exit ?_
 show ah _ _ _ _ _
 refine A.seq<|qDs [] [1,6,19] [(7,i6 0)] ?_
 refine A.block ?_
 obtain⟨F2,n2,hF2,hm⟩:=gr hm
 refine A.lpW (F:=F2) hm (λ(d_3,mj)=>[(2,.ptr 152002 0),(5,.own 600152005),(7,i6 mj)]) (λ(d_3,mj)=>[(152002,.cells 28 (k2 t)),(600152005,.slice 3 1 (ml aB d_3) 0 false)]) ?_ ?_
 ·exact qW
 rintro Z2 ⟨d_3,mj⟩ hm
 rw[hF2]at hm
 refine A.seq<|qDs [(2,hto (lnE aB d_3))] [] [(39,.bool (decide (mj<(d_3.length:Int))))] ?_
 rcases aj hm with⟨c3,hm⟩|⟨c3,hm⟩
 ·refine qT c3<|A.skip ?_
  show ah _ _ _ _ _
  refine A.seq<|A.block ?_
  refine qDs [] [39] [(8,i6 0)]<|A.block<|A.bC 2 1 rfl rfl rfl λhb3=>?_
  obtain⟨B3,K3,hB3,hK3,hm⟩:=aX hm
  refine A.lpI (l:=t.Links) (j0:=0) (B:=B3) (K:=K3) hm (λj3=>λd_4=>[(2,.ptr 152002 0),(5,.own 600152005),(7,i6 mj),(8,i6 (j3:Int))]) (λj3=>λd_4=>[(152002,.cells 28 (k2 t)),(600152005,.slice 3 1 (ml aB d_4) 0 false)]) ?_ ?_ ?_
  ·exact qW
  ·rintro j3 e3 Z3 d_4 hj3 hx3 hm
   rw[hB3]at hm
   refine A.seq<|qDs [(3,hto (lnE bJ t.Links))] [] [(46,.bool (decide ((j3:Int)<(t.Links.length:Int))))] ?_
   refine qT (ltT hx3)<|A.skip ?_
   show ah _ _ _ _ _
   obtain⟨J2,hJ2,hm⟩:=bQ hm
   refine A.J (J:=J2) (r:=r) (λd_5=>[(2,.ptr 152002 0),(5,.own 600152005),(7,i6 mj),(8,i6 (j3:Int))]) (λd_5=>[(152002,.cells 28 (k2 t)),(600152005,.slice 3 1 (ml aB d_5) 0 false)]) ?_ ?_
   ·refine A.block<|qD [(3,hix (ix bJ (bq hx3))),(5,.al 152009)] [46] [(9,.ptr 152009 0)] [] [(152009,.cells 89 (k1 e3))] ?_
    obtain⟨ai,h7,hm⟩:=aa hm
    obtain⟨aI,h8,hm⟩:=aa hm
    refine qDs [(3,hro (u9 h7) anR),(7,hro (u9 h8) anR)] [] [(10,i6 ai),(11,i6 aI)] ?_
    obtain⟨J3,hJ3,hm⟩:=bQ hm
    refine A.J (J:=J3) (r:=r) (λd_6=>[(2,.ptr 152002 0),(5,.own 600152005),(7,i6 mj),(8,i6 (j3:Int)),(9,.ptr 152009 0),(10,i6 ai),(11,i6 aI)]) (λd_6=>[(152002,.cells 28 (k2 t)),(600152005,.slice 3 1 (ml aB d_6) 0 false),(152009,.cells 89 (k1 e3))]) ?_ ?_
    ·obtain⟨e_4,h9,hm⟩:=aa hm
     refine qDs [(2,hix (ix aB h9)),(3,hlo 600152005 0 (ix aB h9))] [] [(66,.bool (decide (e_4<1073741824)))] ?_
     rcases aj hm with⟨c4,hm⟩|⟨c4,hm⟩
     ·refine qT c4 ?_
      obtain⟨e_5,h10,hm⟩:=aa hm
      obtain⟨l_3,h11,hm⟩:=aa hm
      exact qG [(4,hix (ix aB h10)),(5,hlo 600152005 0 (ix aB h10)),(10,hix (ix aB h9)),(11,hlo 600152005 0 (ix aB h9)),(14,hix (ix aB h10)),(15,hso 600152005 (st aB (off:=0) (ca:=[i6 (if(w64 (e3.iz+e_4))<e_5 then w64 (e3.iz+e_4)else e_5)]) h10 h11 rfl) (qH h10).1.1)] [66] [] [600152005] [(600152005,.slice 3 1 (ml aB l_3) 0 false)]<|qX l_3 hm
     exact qF c4<|A.skip<|qX d_4 hm
    rintro d_6 hm
    rw[hJ3]at hm
    obtain⟨e_6,h12,hm⟩:=aa hm
    refine qDs [(2,hix (ix aB h12)),(3,hlo 600152005 0 (ix aB h12))] [] [(86,.bool (decide (e_6<1073741824)))] ?_
    rcases aj hm with⟨c5,hm⟩|⟨c5,hm⟩
    ·refine qT c5 ?_
     obtain⟨e_7,h13,hm⟩:=aa hm
     obtain⟨l_4,h14,hm⟩:=aa hm
     exact qG [(4,hix (ix aB h13)),(5,hlo 600152005 0 (ix aB h13)),(10,hix (ix aB h12)),(11,hlo 600152005 0 (ix aB h12)),(14,hix (ix aB h13)),(15,hso 600152005 (st aB (off:=0) (ca:=[i6 (if(w64 (e3.iA+e_6))<e_7 then w64 (e3.iA+e_6)else e_7)]) h13 h14 rfl) (qH h13).1.1)] [9,10,11,86] [] [600152005,152009] [(600152005,.slice 3 1 (ml aB l_4) 0 false)]<|qX l_4 hm
    exact qF c5<|A.skip<|qX d_6 hm
   rintro d_5 hm
   rw[hJ2]at hm
   exact qGs [(1,hto (inc hx3 hb3))] [8] [(8,i6 ((j3+1:Nat):Int))]<|qX d_5 hm
  rintro j3 d_4 hj3 hl3 hm
  rw[hK3]at hm
  refine A.seq<|qDs [(3,hto (lnE bJ t.Links))] [] [(46,.bool (decide ((j3:Int)<(t.Links.length:Int))))] ?_
  refine qF (ltF hl3)<|A.exit ?_
  show ah _ _ _ _ _
  exact qGs [] [7,8,46] [(7,i6 (w64 (mj+1)))]<|qX (d_4,w64 (mj+1)) hm
 refine qF c3<|A.exit ?_
 show ah _ _ _ _ _
 refine qD [] [2,5,7,39] [(4,.own 600152005)] [152002] []<|A.ret ?_
 obtain rfl:=some_inj hm
 exact A.fin W0 [.fz [600152005]] rfl (by kernel_rfl)
variable {d:List Int}
theorem qw{ra2:Int}{r:Int}(hm:mH t d ra2=some r):RO prog 166 [] [.agg (k2 t),lf aB d,i6 ra2] (i6 r):=by
 refine bh func166 rfl rfl ?_
 unfold mH at hm
 refine qS [(0,.al 166003)] [(1,lf aB d),(2,i6 ra2),(3,.ptr 166003 0)] [(166003,.cells 28 (k2 t))]<|A.seq<|qDs [] [] [(7,i6 0)]<|A.block<|A.bC 3 0 rfl rfl rfl λhb1=>?_
 obtain⟨B1,K1,hB1,hK1,hm⟩:=aX hm
 refine A.lpI (l:=t.aq) (j0:=0) (B:=B1) (K:=K1) hm (λj1=>λ()=>[(1,lf aB d),(2,i6 ra2),(3,.ptr 166003 0),(7,i6 (j1:Int))]) (λj1=>λ()=>[(166003,.cells 28 (k2 t))]) ?_ ?_ ?_
 ·exact qW
 ·rintro j1 e1 Z1 ⟨⟩ hj1 hx1 hm
  rw[hB1]at hm
  refine A.seq<|qDs [(3,hto (lnE aJ t.aq))] [] [(12,.bool (decide ((j1:Int)<(t.aq.length:Int))))] ?_
  refine qT (ltT hx1)<|A.skip ?_
  show ah _ _ _ _ _
  refine A.seq<|A.block ?_
  refine qDs [(3,hix (ix aJ (bq hx1)))] [12] [(22,.bool (decide (e1.ID=ra2)))] ?_
  rcases aj hm with⟨c1,hm⟩|⟨c1,hm⟩
  ·refine qT c1 ?_
   obtain⟨e_1,h1,hm⟩:=aa hm
   refine qS [(2,hix (ix aB h1))] [(6,i6 e_1)] [] ?_
   cases hm
   exact A.ret qE
  refine qF c1<|A.skip ?_
  show ah _ _ _ _ _
  exact qGs [(1,hto (inc hx1 hb1))] [7,22] [(7,i6 ((j1+1:Nat):Int))]<|qX () hm
 rintro j1 ⟨⟩ hj1 hl1 hm
 rw[hK1]at hm
 refine A.seq<|qDs [(3,hto (lnE aJ t.aq))] [] [(12,.bool (decide ((j1:Int)<(t.aq.length:Int))))] ?_
 refine qF (ltF hl1)<|A.exit ?_
 show ah _ _ _ _ _
 refine qS [] [(6,i6 1073741824)] [] ?_
 cases hm
 exact A.ret qE
theorem aa2{dX:Int}(hm:oy t d dX=some r):RO prog 153 [] [.agg (k2 t),lf aB d,i6 dX] (lf aB r):=by
 refine bh func153 rfl rfl ?_
 unfold oy at hm
 refine qS [(0,.al 153003)] [(1,lf aB d),(2,i6 dX),(3,.ptr 153003 0)] [(153003,.cells 28 (k2 t))]<|qDs [] [] [(7,.aP)] ?_
 obtain⟨ai,h1,hm⟩:=aa hm
 refine qDs [(3,hro (qw h1) adE)] [] [(8,i6 ai)]<|A.seq<|A.mid [(1,lf aB d),(2,i6 dX),(3,.ptr 153003 0),(7,.aP),(8,i6 ai),(22,.bool ((decide (ai=1073741824))||(decide (ai=0))))] [(153003,.cells 28 (k2 t))] (λhk=>?_) ?_
 ·rcases tf (decide (ai=1073741824))with c1|c1
  ·exact qS [(2,hto (bE c1)),(5,hto (orT (q:=decide (ai=0)) c1))] _ _ hk
  exact qS [(2,hto (bE c1)),(5,hto (orF (q:=decide (ai=0)) c1))] _ _ hk
 rcases aj hm with⟨c2,hm⟩|⟨c2,hm⟩
 ·refine qT c2<|qS [] [(6,.aP)] [] ?_
  cases hm
  exact A.ret qE
 refine qF c2<|A.skip ?_
 show ah _ _ _ _ _
 obtain⟨aI,h2,hm⟩:=aa hm
 refine qDs [(2,hro (vC h2) av4)] [22] [(9,lf aB aI)]<|A.seq<|qDs [] [] [(10,i6 0)]<|A.block<|A.bS 9 rfl λhb1=>?_
 obtain⟨B1,K1,hB1,hK1,hm⟩:=aX hm
 refine A.lpI (l:=aI) (j0:=0) (B:=B1) (K:=K1) hm (λj1=>λbN=>[(1,lf aB d),(2,i6 dX),(3,.ptr 153003 0),(7,.own 600153007),(8,i6 ai),(9,lf aB aI),(10,i6 (j1:Int))]) (λj1=>λbN=>[(153003,.cells 28 (k2 t)),(600153007,.slice 3 1 (ml aB bN) 0 false)]) ?_ ?_ ?_
 ·exact bA.go [.ad 7 600153007 3 1] [] (by kernel_rfl)
 ·rintro j1 e1 Z1 bN hj1 hx1 hm
  rw[hB1]at hm
  refine A.seq<|qDs [(2,hto (lnE aB aI))] [] [(29,.bool (decide ((j1:Int)<(aI.length:Int))))] ?_
  refine qT (ltT hx1)<|A.skip ?_
  show ah _ _ _ _ _
  obtain⟨J1,hJ1,hm⟩:=bQ hm
  refine A.J (J:=J1) (r:=r) (λdO=>[(1,lf aB d),(2,i6 dX),(3,.ptr 153003 0),(7,.own 600153007),(8,i6 ai),(9,lf aB aI),(10,i6 (j1:Int))]) (λdO=>[(153003,.cells 28 (k2 t)),(600153007,.slice 3 1 (ml aB dO) 0 false)]) ?_ ?_
  ·refine A.block ?_
   obtain⟨bn,h3,hm⟩:=aa hm
   refine qDs [(4,hix (ix aB (bq hx1))),(6,hro (qK h3) alF)] [29] [(11,i6 bn.1)] ?_
   obtain⟨J2,hJ2,hm⟩:=bQ hm
   refine A.J (J:=J2) (r:=r) (λv_1=>[(1,lf aB d),(2,i6 dX),(3,.ptr 153003 0),(7,.own 600153007),(8,i6 ai),(9,lf aB aI),(10,i6 (j1:Int)),(62,.bool v_1)]) (λv_1=>[(153003,.cells 28 (k2 t)),(600153007,.slice 3 1 (ml aB bN) 0 false)]) ?_ ?_
   ·obtain⟨bf,h4,hm⟩:=aa hm
    rcases aj hm with⟨c3,hm⟩|⟨c3,hm⟩
    ·obtain⟨bO,h5,hm⟩:=aa hm
     exact qGs [(4,hix (ix aB (bq hx1))),(6,hro (qw h4) adE),(8,hto (bE c3)),(14,hix (ix aB (bq hx1))),(16,hro (qw h5) adE)] [11] [(62,.bool (decide (w64 (bn.1+bO)=ai)))]<|qX (decide (w64 (bn.1+bO)=ai)) hm
    exact qGs [(4,hix (ix aB (bq hx1))),(6,hro (qw h4) adE),(8,hto (bE c3))] [11] [(62,.bool false)]<|qX false hm
   rintro v_1 hm
   rw[hJ2]at hm
   rcases aj hm with⟨c4,hm⟩|⟨c4,hm⟩
   ·refine qT c4 ?_
    obtain⟨l_1,h6,hm⟩:=aa hm
    exact qG [(3,hix (ix aB (bq hx1))),(6,hap 153569 (ap aB (bytes:=8) (by decide) h6))] [7,62] [(7,.own 153569)] [600153007] [(153569,.slice 3 1 (ml aB l_1) 0 false)]<|Exists.intro l_1 (And.intro hm (bA.go [.sw 153569 600153007] [] (by kernel_rfl)))
   exact qF c4<|A.skip<|qX bN hm
  rintro dO hm
  rw[hJ1]at hm
  exact qGs [(1,hto (inc hx1 hb1))] [10] [(10,i6 ((j1+1:Nat):Int))]<|qX dO hm
 rintro j1 bN hj1 hl1 hm
 rw[hK1]at hm
 refine A.seq<|qDs [(2,hto (lnE aB aI))] [] [(29,.bool (decide ((j1:Int)<(aI.length:Int))))] ?_
 refine qF (ltF hl1)<|A.exit ?_
 show ah _ _ _ _ _
 refine qD [] [1,2,3,7,8,9,10,29] [(6,.own 600153007)] [153003] []<|A.ret ?_
 obtain rfl:=some_inj hm
 exact A.fin W0 [.fz [600153007]] rfl (by kernel_rfl)
theorem aa3{cG:Int}{eA:Int}(hm:oz t cG eA=some r):RO prog 126 [] [.agg (k2 t),i6 cG,i6 eA] (lf aB r):=by
 refine bh func126 rfl rfl ?_
 unfold oz at hm
 refine qS [(0,.al 126003)] [(1,i6 cG),(2,i6 eA),(3,.ptr 126003 0)] [(126003,.cells 28 (k2 t))]<|A.seq ?_
 obtain⟨J1,hJ1,hm⟩:=bQ hm
 refine A.J (J:=J1) (r:=r) (λv_1=>[(1,i6 cG),(2,i6 eA),(3,.ptr 126003 0),(19,.bool v_1)]) (λv_1=>[(126003,.cells 28 (k2 t))]) ?_ ?_
 ·obtain⟨ai,h1,hm⟩:=aa hm
  rcases aj hm with⟨c1,hm⟩|⟨c1,hm⟩
  ·exact qGs [(2,hro (pO h1) agn),(4,hto (bE c1))] [] [(19,.bool true)]<|qX true hm
  obtain⟨aI,h2,hm⟩:=aa hm
  exact qGs [(2,hro (pO h1) agn),(4,hto (bE c1)),(7,hro (pO h2) agn)] [] [(19,.bool (!aI))]<|qX (!aI) hm
 rintro v_1 hm
 rw[hJ1]at hm
 rcases aj hm with⟨c2,hm⟩|⟨c2,hm⟩
 ·refine qT c2<|qS [] [(6,.aP)] [] ?_
  cases hm
  exact A.ret qE
 refine qF c2<|A.skip ?_
 show ah _ _ _ _ _
 obtain⟨bn,h3,hm⟩:=aa hm
 refine qDs [(2,hro (adu h3) aA2)] [19] [(7,lf aB bn)]<|qDs [] [] [(8,.aP)]<|A.seq<|A.block ?_
 obtain⟨F1,n1,hF1,hm⟩:=gr hm
 refine A.lpW (F:=F1) hm (λ(dI,bN)=>[(1,i6 dI),(2,i6 eA),(3,.ptr 126003 0),(7,lf aB bn),(8,.own 600126008)]) (λ(dI,bN)=>[(126003,.cells 28 (k2 t)),(600126008,.slice 3 1 (ml aB bN) 0 false)]) ?_ ?_
 ·exact bA.go [.ad 8 600126008 3 1] [] (by kernel_rfl)
 rintro Z1 ⟨dI,bN⟩ hm
 rw[hF1]at hm
 refine A.seq<|qDs [] [] [(25,.bool (!decide (dI=eA)))] ?_
 rcases aj hm with⟨c3,hm⟩|⟨c3,hm⟩
 ·refine qT c3<|A.skip ?_
  show ah _ _ _ _ _
  refine A.block ?_
  obtain⟨bf,h4,hm⟩:=aa hm
  refine qDs [(3,hro (aa2 h4) aA3)] [1,25] [(9,lf aB bf)]<|A.seq<|qDs [(1,hto (lnE aB bf))] [] [(32,.bool (decide ((bf.length:Int)=(0:Int))))] ?_
  rcases aj hm with⟨c4,hm⟩|⟨c4,hm⟩
  ·refine qT c4<|qS [] [(6,.aP)] [] ?_
   cases hm
   exact A.ret qE
  refine qF c4<|A.skip ?_
  show ah _ _ _ _ _
  obtain⟨e_1,h5,hm⟩:=aa hm
  refine qDs [(1,hix (ix aB h5))] [9,32] [(1,i6 e_1)] ?_
  obtain⟨l_1,h6,hm⟩:=aa hm
  exact qG [(3,hap 126539 (ap aB (bytes:=8) (by decide) h6))] [8] [(8,.own 126539)] [600126008] [(126539,.slice 3 1 (ml aB l_1) 0 false)]<|Exists.intro (e_1,l_1) (And.intro hm (bA.go [.sw 126539 600126008] [] (by kernel_rfl)))
 refine qF c3<|A.exit ?_
 show ah _ _ _ _ _
 refine qD [] [1,2,3,7,8,25] [(6,.own 600126008)] [126003] []<|A.ret ?_
 obtain rfl:=some_inj hm
 exact A.fin W0 [.fz [600126008]] rfl (by kernel_rfl)
theorem sL{e:aG}{r:Int}(hm:jS e p=some r):RO prog 56 [] [.agg (k6 e),.agg (k10 p)] (i6 r):=by
 refine bh func56 rfl rfl ?_
 unfold jS at hm
 refine qS [(0,.al 56002),(1,.al 56003)] [(2,.ptr 56002 0),(3,.ptr 56003 0)] [(56002,.cells 32 (k6 e)),(56003,.cells 36 (k10 p))]<|A.seq<|qDs [] [] [(7,.bool (!decide (p.Mode=2)))] ?_
 rcases aj hm with⟨c1,hm⟩|⟨c1,hm⟩
 ·refine qT c1<|qS [] [(4,i6 7)] [] ?_
  cases hm
  exact A.ret qE
 refine qF c1<|A.skip ?_
 show ah _ _ _ _ _
 refine A.seq<|qS [] [(12,.bool (!decide (p.Length=e.Length)))] [] ?_
 rcases aj hm with⟨c2,hm⟩|⟨c2,hm⟩
 ·refine qT c2<|qS [] [(4,i6 8)] [] ?_
  cases hm
  exact A.ret qE
 refine qF c2<|A.skip ?_
 show ah _ _ _ _ _
 refine qS [] [(4,i6 0)] [] ?_
 cases hm
 exact A.ret qE
variable {aK:Int}
theorem tE{e:aG}{r:dz×Int}(hm:kR e aK p=some r):RO prog 14 [] [.agg (k6 e),i6 aK,.agg (k10 p)] (.tup [.agg (k12 r.1),i6 r.2]):=by
 refine bh func14 rfl rfl ?_
 unfold kR at hm
 refine qS [(0,.al 14003),(1,.al 14005),(2,.al 14006)] [(1,i6 aK),(3,.ptr 14003 0),(5,.ptr 14005 0),(6,.ptr 14006 0)] [(14003,.cells 32 (k6 e)),(14005,.cells 36 (k10 p)),(14006,.cells 46 [.int .u64 (0:Int),.int .u64 (0:Int),.aP])]<|A.seq ?_
 obtain⟨J1,hJ1,hm⟩:=bQ hm
 refine A.J (J:=J1) (r:=r) (λv_1=>[(1,i6 aK),(3,.ptr 14003 0),(5,.ptr 14005 0),(6,.ptr 14006 0),(22,.bool v_1)]) (λv_1=>[(14003,.cells 32 (k6 e)),(14005,.cells 36 (k10 p)),(14006,.cells 46 [.int .u64 (0:Int),.int .u64 (0:Int),.aP])]) ?_ ?_
 ·obtain⟨ai,h1,hm⟩:=aa hm
  rcases aj hm with⟨c1,hm⟩|⟨c1,hm⟩
  ·exact qGs [(1,hro (fR h1) yW),(3,hto (bE c1))] [] [(22,.bool true)]<|qX true hm
  obtain⟨aI,h2,hm⟩:=aa hm
  exact qGs [(1,hro (fR h1) yW),(3,hto (bE c1)),(5,hro (qM h2) alD)] [] [(22,.bool (!aI))]<|qX (!aI) hm
 rintro v_1 hm
 rw[hJ1]at hm
 rcases aj hm with⟨c2,hm⟩|⟨c2,hm⟩
 ·refine qT c2<|qD [] [1,3,5,22] [(7,i6 1)] [14003,14005] [] ?_
  cases hm
  exact A.ret qE
 refine qF c2<|A.skip ?_
 show ah _ _ _ _ _
 refine A.seq ?_
 obtain⟨bn,h3,hm⟩:=aa hm
 refine qDs [(2,hro (sL h3) avX)] [22] [(8,i6 bn)]<|qDs [] [] [(28,.bool (!decide (bn=0)))] ?_
 rcases aj hm with⟨c3,hm⟩|⟨c3,hm⟩
 ·refine qT c3<|qD [] [1,3,5,8,28] [(7,i6 bn)] [14003,14005] [] ?_
  cases hm
  exact A.ret qE
 refine qF c3<|A.skip ?_
 show ah _ _ _ _ _
 refine qD [(0,.al 14009)] [8,28] [(9,.ptr 14009 0)] [] [(14009,.cells 46 [.int .u64 (0:Int),.int .u64 (0:Int),.aP])] ?_
 obtain⟨bf,h4,hm⟩:=aa hm
 refine qDs [(4,hro (acp h4) ck57)] [] [(10,.int .u64 (bB .andNot .u64 p.Bits bf))]<|A.seq<|qD [(2,hto (lnE ay e.List))] [3] [(38,lf ay e.List),(39,i6 (e.List.length:Int)),(40,i6 0)] [14003] []<|A.block<|A.bS 38 rfl λhb1=>?_
 obtain⟨B1,K1,hB1,hK1,hm⟩:=aX hm
 refine A.lpI (l:=e.List) (j0:=0) (B:=B1) (K:=K1) hm (λj1=>λ(m_1,m_2,m_3)=>[(1,i6 aK),(5,.ptr 14005 0),(6,.ptr 14006 0),(9,.ptr 14009 0),(10,.int .u64 (bB .andNot .u64 p.Bits bf)),(38,lf ay e.List),(39,i6 (e.List.length:Int)),(40,i6 (j1:Int))]) (λj1=>λ(m_1,m_2,m_3)=>[(14005,.cells 36 (k10 p)),(14006,.cells 46 [.int .u64 (0:Int),.int .u64 (0:Int),.aP]),(14009,.cells 46 [.int .u64 m_1,.int .u64 m_2,.own 701400902]),(701400902,.slice 54 12 (ml gF m_3) 0 false)]) ?_ ?_ ?_
 ·exact bA.go [.ac 14009 701400902 54 12 2] [] (by kernel_rfl)
 ·rintro j1 e1 Z1 ⟨m_1,m_2,m_3⟩ hj1 hx1 hm
  rw[hB1]at hm
  refine qDs [] [] [(41,.bool (decide ((j1:Int)<(e.List.length:Int))))]<|A.seq<|qT (ltT hx1)<|A.skip ?_
  show ah _ _ _ _ _
  obtain⟨J2,hJ2,hm⟩:=bQ hm
  refine A.J (J:=J2) (r:=r) (λ(m_4,m_5,m_6)=>[(1,i6 aK),(5,.ptr 14005 0),(6,.ptr 14006 0),(9,.ptr 14009 0),(10,.int .u64 (bB .andNot .u64 p.Bits bf)),(38,lf ay e.List),(39,i6 (e.List.length:Int)),(40,i6 (j1:Int))]) (λ(m_4,m_5,m_6)=>[(14005,.cells 36 (k10 p)),(14006,.cells 46 [.int .u64 (0:Int),.int .u64 (0:Int),.aP]),(14009,.cells 46 [.int .u64 m_4,.int .u64 m_5,.own 701400902]),(701400902,.slice 54 12 (ml gF m_6) 0 false)]) ?_ ?_
  ·refine A.block<|qD [(0,hix (ix ay (bq hx1))),(2,.al 14012)] [41] [(12,.ptr 14012 0)] [] [(14012,.cells 38 (k4 e1))] ?_
   obtain⟨h5,hm⟩:=dY hm
   refine qDs [(3,.sh (IntKind.wrap .u64 e1.Bit) (of_decide_eq_true h5))] [] [(13,.int .u64 (IntKind.wrap .u64 ((1:Int)*2 ^ min (IntKind.wrap .u64 e1.Bit).toNat 64)))]<|A.seq<|A.mid [(1,i6 aK),(5,.ptr 14005 0),(6,.ptr 14006 0),(9,.ptr 14009 0),(10,.int .u64 (bB .andNot .u64 p.Bits bf)),(38,lf ay e.List),(39,i6 (e.List.length:Int)),(40,i6 (j1:Int)),(12,.ptr 14012 0),(13,.int .u64 (IntKind.wrap .u64 ((1:Int)*2 ^ min (IntKind.wrap .u64 e1.Bit).toNat 64))),(58,.bool ((!decide (e1.aN=aK))||(decide (bB .and .u64 p.Bits (IntKind.wrap .u64 ((1:Int)*2 ^ min (IntKind.wrap .u64 e1.Bit).toNat 64))=(0:Int)))))] [(14005,.cells 36 (k10 p)),(14006,.cells 46 [.int .u64 (0:Int),.int .u64 (0:Int),.aP]),(14009,.cells 46 [.int .u64 m_1,.int .u64 m_2,.own 701400902]),(701400902,.slice 54 12 (ml gF m_3) 0 false),(14012,.cells 38 (k4 e1))] (λhk=>?_) ?_
   ·rcases tf (!decide (e1.aN=aK))with c4|c4
    ·exact qS [(4,hto (bE c4)),(10,hto (orT (q:=decide (bB .and .u64 p.Bits (IntKind.wrap .u64 ((1:Int)*2 ^ min (IntKind.wrap .u64 e1.Bit).toNat 64))=(0:Int))) c4))] _ _ hk
    exact qS [(4,hto (bE c4)),(10,hto (orF (q:=decide (bB .and .u64 p.Bits (IntKind.wrap .u64 ((1:Int)*2 ^ min (IntKind.wrap .u64 e1.Bit).toNat 64))=(0:Int))) c4))] _ _ hk
   rcases aj hm with⟨c5,hm⟩|⟨c5,hm⟩
   ·exact qT c5<|A.exit<|qX (m_1,m_2,m_3) hm
   refine qF c5<|A.skip ?_
   show ah _ _ _ _ _
   refine A.block<|qDs [] [58] [(59,.bool (decide (e1.Kind=3)))] ?_
   rcases aj hm with⟨c6,hm⟩|⟨c6,hm⟩
   ·exact qT c6<|qG [] [12,13,59] [] [14009,14012] [(14009,.cells 46 [.int .u64 (bB .or .u64 m_1 (IntKind.wrap .u64 ((1:Int)*2 ^ min (IntKind.wrap .u64 e1.Bit).toNat 64))),.int .u64 m_2,.own 701400902])]<|qX (bB .or .u64 m_1 (IntKind.wrap .u64 ((1:Int)*2 ^ min (IntKind.wrap .u64 e1.Bit).toNat 64)),m_2,m_3) hm
   refine qF c6<|qDs [] [59] [(68,.bool (decide (p.TTL=0)))] ?_
   rcases aj hm with⟨c7,hm⟩|⟨c7,hm⟩
   ·exact qT c7<|qG [] [12,13,68] [] [14009,14012] [(14009,.cells 46 [.int .u64 m_1,.int .u64 (bB .or .u64 m_2 (IntKind.wrap .u64 ((1:Int)*2 ^ min (IntKind.wrap .u64 e1.Bit).toNat 64))),.own 701400902])]<|qX (m_1,bB .or .u64 m_2 (IntKind.wrap .u64 ((1:Int)*2 ^ min (IntKind.wrap .u64 e1.Bit).toNat 64)),m_3) hm
   refine qF c7<|qDs [] [13,68] [(77,.bool (!decide (bB .andNot .u64 p.Bits bf=0)))] ?_
   rcases aj hm with⟨c8,hm⟩|⟨c8,hm⟩
   ·refine qT c8<|qD [(5,.al 14014)] [77] [(14,.ptr 14014 0)] [] [(14014,.cells 54 [i6 e1.To,.aP,i6 p.Mode,i6 p.bL,i6 p.Set,i6 p.Length,i6 p.TTL,i6 p.cn,i6 p.cq,i6 p.dg,.int .u64 p.Bits,.str p.cm])]<|qD [] [] [] [14014] [(14014,.cells 54 [i6 e1.To,.aP,i6 p.Mode,i6 p.bL,i6 p.Set,i6 p.Length,i6 p.TTL,i6 p.cn,i6 p.cq,i6 p.dg,.int .u64 (bB .andNot .u64 p.Bits bf),.str p.cm])]<|qD [] [] [] [14014] [(14014,.cells 54 [i6 e1.To,.aP,i6 p.Mode,i6 p.bL,i6 p.Set,i6 p.Length,i6 (w64 (p.TTL-1)),i6 p.cn,i6 p.cq,i6 p.dg,.int .u64 (bB .andNot .u64 p.Bits bf),.str p.cm])] ?_
    obtain⟨J3,hJ3,hm⟩:=bQ hm
    refine A.J (J:=J3) (r:=r) (λm_7=>[(1,i6 aK),(5,.ptr 14005 0),(6,.ptr 14006 0),(9,.ptr 14009 0),(10,.int .u64 (bB .andNot .u64 p.Bits bf)),(14,.ptr 14014 0),(38,lf ay e.List),(39,i6 (e.List.length:Int)),(40,i6 (j1:Int))]) (λm_7=>[(14005,.cells 36 (k10 p)),(14006,.cells 46 [.int .u64 (0:Int),.int .u64 (0:Int),.aP]),(14009,.cells 46 [.int .u64 m_1,.int .u64 m_2,.own 701400902]),(701400902,.slice 54 12 (ml gF m_3) 0 false),(14014,.cells 54 [i6 e1.To,.own 701401401,i6 p.Mode,i6 p.bL,i6 p.Set,i6 p.Length,i6 (w64 (p.TTL-1)),i6 p.cn,i6 p.cq,i6 p.dg,.int .u64 (bB .andNot .u64 p.Bits bf),.str p.cm]),(701401401,.slice 3 1 (ml aB m_7) 0 false)]) ?_ ?_
    ·refine qDs [] [] [(99,.bool (decide (e1.Kind=2)))] ?_
     rcases aj hm with⟨c9,hm⟩|⟨c9,hm⟩
     ·exact qT c9<|qG [(2,.al 14102)] [12,99] [] [14012,14014] [(14014,.cells 54 [i6 e1.To,.own 14102,i6 p.Mode,i6 p.bL,i6 p.Set,i6 p.Length,i6 (w64 (p.TTL-1)),i6 p.cn,i6 p.cq,i6 p.dg,.int .u64 (bB .andNot .u64 p.Bits bf),.str p.cm]),(14102,.slice 3 1 (ml aB ([e1.To]:List Int)) 0 false)]<|Exists.intro ([e1.To]:List Int) (And.intro hm (bA.go [.sw 14102 701401401] [] (by kernel_rfl)))
     exact qF c9<|A.skip<|Exists.intro [] (And.intro hm (bA.go [.ac 14014 701401401 3 1 1] [] (by kernel_rfl)))
    rintro m_7 hm
    rw[hJ3]at hm
    obtain⟨l_1,h6,hm⟩:=aa hm
    exact A.R W0 [.fz [701401401],.sc 14014 [14005,14006,14009,701400902,14014]] [(4,hap 14609 (ap gF (bytes:=120) (by decide) h6))] [(1,i6 aK),(5,.ptr 14005 0),(6,.ptr 14006 0),(9,.ptr 14009 0),(10,.int .u64 (bB .andNot .u64 p.Bits bf)),(38,lf ay e.List),(39,i6 (e.List.length:Int)),(40,i6 (j1:Int))] [(14005,.cells 36 (k10 p)),(14006,.cells 46 [.int .u64 (0:Int),.int .u64 (0:Int),.aP]),(14009,.cells 46 [.int .u64 m_1,.int .u64 m_2,.own 14609]),(14609,.slice 54 12 (ml gF l_1) 0 false)] (by kernel_rfl)<|Exists.intro (m_1,m_2,l_1) (And.intro hm (bA.go [.sw 14609 701400902] [] (by kernel_rfl)))
   exact qF c8<|A.skip<|qX (m_1,m_2,m_3) hm
  rintro⟨m_4,m_5,m_6⟩ hm
  rw[hJ2]at hm
  exact qGs [(0,hto (inc hx1 hb1))] [40] [(40,i6 ((j1+1:Nat):Int))]<|qX (m_4,m_5,m_6) hm
 rintro j1 ⟨m_1,m_2,m_3⟩ hj1 hl1 hm
 rw[hK1]at hm
 refine qDs [] [] [(41,.bool (decide ((j1:Int)<(e.List.length:Int))))]<|A.seq<|qF (ltF hl1)<|A.exit ?_
 show ah _ _ _ _ _
 refine qD [] [1,5,9,10,38,39,40,41] [(7,i6 0)] [14005,14006,14009] [(14006,.cells 46 [.int .u64 m_1,.int .u64 m_2,.own 701400902])]<|A.ret ?_
 obtain rfl:=some_inj hm
 exact A.fin W0 [.fz [701400902]] rfl (by kernel_rfl)
variable {c:eP}
theorem acr{e:aG}{r:Int}(hm:mU e aK c=some r):RO prog 78 [] [.agg (k6 e),i6 aK,.agg (k11 c)] (.int .u64 r):=by
 refine bh func78 rfl rfl ?_
 unfold mU at hm
 refine qS [(0,.al 78003),(1,.al 78005)] [(1,i6 aK),(3,.ptr 78003 0),(5,.ptr 78005 0)] [(78003,.cells 32 (k6 e)),(78005,.cells 54 (k11 c))]<|qDs [] [] [(7,i6 1)] ?_
 obtain⟨J1,hJ1,hm⟩:=bQ hm
 refine A.J (J:=J1) (r:=r) (λy7=>[(1,i6 aK),(3,.ptr 78003 0),(5,.ptr 78005 0),(7,i6 y7)]) (λy7=>[(78003,.cells 32 (k6 e)),(78005,.cells 54 (k11 c))]) ?_ ?_
 ·refine qDs [(3,hto (lnE aB c.Frame.fk))] [] [(14,.bool (decide (0<(c.Frame.fk.length:Int))))] ?_
  rcases aj hm with⟨c1,hm⟩|⟨c1,hm⟩
  ·exact qT c1<|qGs [] [7,14] [(7,i6 2)]<|qX (2:Int) hm
  exact qF c1<|A.skip<|qX (1:Int) hm
 rintro y7 hm
 rw[hJ1]at hm
 obtain⟨ai,h1,hm⟩:=aa hm
 refine qS [(5,hro (sA h1) ago)] [(8,i6 ai.1)] [] ?_
 obtain⟨h2,hm⟩:=dY hm
 refine qS [(2,.sh (IntKind.wrap .u64 ai.1) (of_decide_eq_true h2))] [(6,.int .u64 (IntKind.wrap .u64 ((1:Int)*2 ^ min (IntKind.wrap .u64 ai.1).toNat 64)))] [] ?_
 cases hm
 exact A.ret qE
theorem acs(hm:mV t aK c=some r):RO prog 77 [] [.agg (k2 t),i6 aK,.agg (k11 c)] (lf aB r):=by
 refine bh func77 rfl rfl ?_
 unfold mV at hm
 refine qS [(0,.al 77003),(1,.al 77005)] [(1,i6 aK),(3,.ptr 77003 0),(5,.ptr 77005 0)] [(77003,.cells 28 (k2 t)),(77005,.cells 54 (k11 c))]<|A.seq<|qDs [(3,hto (lnE aB c.Frame.fk))] [] [(13,.bool (decide (0<(c.Frame.fk.length:Int))))] ?_
 rcases aj hm with⟨c1,hm⟩|⟨c1,hm⟩
 ·refine qT c1 ?_
  obtain⟨ai,h1,hm⟩:=aa hm
  refine qS [(4,hro (aa3 h1) aAO)] [(6,lf aB ai)] [] ?_
  cases hm
  exact A.ret qE
 refine qF c1<|A.skip ?_
 show ah _ _ _ _ _
 refine A.seq ?_
 obtain⟨aI,h2,hm⟩:=aa hm
 refine qD [(4,hro (abM h2) ck50)] [1,3,13] [(8,.bool aI.2)] [77003] []<|qDs [] [8] [(27,.bool aI.2)] ?_
 rcases aj hm with⟨c2,hm⟩|⟨c2,hm⟩
 ·refine qT c2<|qS [] [(6,.lst true (ml aB ([c.To]:List Int)))] [] ?_
  cases hm
  exact A.ret qE
 refine qF c2<|A.skip ?_
 show ah _ _ _ _ _
 refine qS [] [(6,.aP)] [] ?_
 cases hm
 exact A.ret qE
theorem wT{bits:Int}{r:(List cw)}(hm:kN aK bits p=some r):RO prog 76 [] [i6 aK,.int .u64 bits,.agg (k10 p)] (lf cC r):=by
 refine bh func76 rfl rfl ?_
 unfold kN at hm
 refine qS [(0,.al 76005)] [(0,i6 aK),(1,.int .u64 bits),(5,.ptr 76005 0)] [(76005,.cells 36 (k10 p))]<|qDs [] [] [(7,.aP)]<|A.seq<|qDs [] [] [(8,i6 0)]<|A.block ?_
 obtain⟨B1,K1,hB1,hK1,hm⟩:=o3 hm
 refine A.lpN (hi:=(64:Int)) (B:=B1) (K:=K1) hm rfl (λj1=>λbN=>[(0,i6 aK),(1,.int .u64 bits),(5,.ptr 76005 0),(7,.own 600076007),(8,i6 (j1:Int))]) (λj1=>λbN=>[(76005,.cells 36 (k10 p)),(600076007,.slice 78 11 (ml cC bN) 0 false)]) ?_ ?_ ?_
 ·exact bA.go [.ad 7 600076007 78 11] [] (by kernel_rfl)
 ·rintro j1 Z1 bN hj1 hx1 hm
  rw[hB1]at hm
  refine A.seq<|qDs [] [] [(11,.bool (decide ((j1:Int)<(64:Int))))] ?_
  refine A.cT rfl (decide_eq_true hx1)<|A.skip ?_
  show ah _ _ _ _ _
  obtain⟨J1,hJ1,hm⟩:=bQ hm
  refine A.J (J:=J1) (r:=r) (λdO=>[(0,i6 aK),(1,.int .u64 bits),(5,.ptr 76005 0),(7,.own 600076007),(8,i6 (j1:Int))]) (λdO=>[(76005,.cells 36 (k10 p)),(600076007,.slice 78 11 (ml cC dO) 0 false)]) ?_ ?_
  ·refine A.block ?_
   obtain⟨h1,hm⟩:=dY hm
   refine qDs [(3,.sh (IntKind.wrap .u64 (j1:Int)) (of_decide_eq_true h1))] [11] [(19,.bool (decide (bB .and .u64 (Int.fdiv bits (2 ^ min (IntKind.wrap .u64 (j1:Int)).toNat 64)) (1:Int)=(1:Int))))] ?_
   rcases aj hm with⟨c1,hm⟩|⟨c1,hm⟩
   ·refine qT c1<|qD [(1,.al 76009)] [19] [(9,.ptr 76009 0)] [] [(76009,.cells 36 (k10 p))] ?_
    obtain⟨h2,hm⟩:=dY hm
    refine qD [(2,.sh (IntKind.wrap .u64 (j1:Int)) (of_decide_eq_true h2))] [] [] [76009] [(76009,.cells 36 [i6 p.Mode,i6 p.bL,i6 p.Set,i6 p.Length,i6 p.TTL,i6 p.cn,i6 p.cq,i6 p.dg,.int .u64 (IntKind.wrap .u64 ((1:Int)*2 ^ min (IntKind.wrap .u64 (j1:Int)).toNat 64)),.str p.cm])] ?_
    obtain⟨l_1,h3,hm⟩:=aa hm
    exact qG [(5,hap 76530 (ap cC (bytes:=96) (by decide) h3))] [7,9] [(7,.own 76530)] [600076007,76009] [(76530,.slice 78 11 (ml cC l_1) 0 false)]<|Exists.intro l_1 (And.intro hm (bA.go [.sw 76530 600076007] [] (by kernel_rfl)))
   exact qF c1<|A.skip<|qX bN hm
  rintro dO hm
  rw[hJ1]at hm
  exact qGs [(1,hto (aaI (by omega) hx1 (by decide)))] [8] [(8,i6 (j1+1:Int))]<|qX dO hm
 rintro j1 bN hj1 hl1 hm
 rw[hK1]at hm
 refine A.seq<|qDs [] [] [(11,.bool (decide ((j1:Int)<(64:Int))))] ?_
 refine A.cF rfl (geF hl1)<|A.exit ?_
 show ah _ _ _ _ _
 refine qD [] [0,1,5,7,8,11] [(6,.own 600076007)] [76005] []<|A.ret ?_
 obtain rfl:=some_inj hm
 exact A.fin W0 [.fz [600076007]] rfl (by kernel_rfl)
theorem acu{e:aG}{r:dy×Int}(hm:kf e t p aK=some r):RO prog 36 [] [.agg (k6 e),.agg (k2 t),.agg (k10 p),i6 aK] (.tup [.agg (k15 r.1),i6 r.2]):=by
 refine bh func36 rfl rfl ?_
 unfold kf at hm
 refine qS [(0,.al 36004),(1,.al 36005),(2,.al 36006),(3,.al 36008)] [(3,i6 aK),(4,.ptr 36004 0),(5,.ptr 36005 0),(6,.ptr 36006 0),(8,.ptr 36008 0)] [(36004,.cells 32 (k6 e)),(36005,.cells 28 (k2 t)),(36006,.cells 36 (k10 p)),(36008,.cells 74 [.aP,.aP,.aP])]<|A.seq ?_
 obtain⟨J1,hJ1,hm⟩:=bQ hm
 refine A.J (J:=J1) (r:=r) (λv_1=>[(3,i6 aK),(4,.ptr 36004 0),(5,.ptr 36005 0),(6,.ptr 36006 0),(8,.ptr 36008 0),(35,.bool v_1)]) (λv_1=>[(36004,.cells 32 (k6 e)),(36005,.cells 28 (k2 t)),(36006,.cells 36 (k10 p)),(36008,.cells 74 [.aP,.aP,.aP])]) ?_ ?_
 ·obtain⟨ai,h1,hm⟩:=aa hm
  rcases aj hm with⟨c1,hm⟩|⟨c1,hm⟩
  ·exact qGs [(1,hro (fR h1) yW),(3,hto (bE c1))] [] [(35,.bool true)]<|qX true hm
  obtain⟨aI,h2,hm⟩:=aa hm
  rcases aj hm with⟨c2,hm⟩|⟨c2,hm⟩
  ·exact qGs [(1,hro (fR h1) yW),(3,hto (bE c1)),(5,hro (iM h2) aaV),(8,hto (bE c2))] [] [(35,.bool true)]<|qX true hm
  obtain⟨bn,h3,hm⟩:=aa hm
  exact qGs [(1,hro (fR h1) yW),(3,hto (bE c1)),(5,hro (iM h2) aaV),(8,hto (bE c2)),(10,hro (qM h3) alD)] [] [(35,.bool (!bn))]<|qX (!bn) hm
 rintro v_1 hm
 rw[hJ1]at hm
 rcases aj hm with⟨c3,hm⟩|⟨c3,hm⟩
 ·refine qT c3<|qD [] [3,4,5,6,35] [(9,i6 1)] [36004,36005,36006] [] ?_
  cases hm
  exact A.ret qE
 refine qF c3<|A.skip ?_
 show ah _ _ _ _ _
 refine A.seq ?_
 obtain⟨bf,h4,hm⟩:=aa hm
 refine qDs [(2,hro (pO h4) agn)] [35] [(40,.bool (!bf))] ?_
 rcases aj hm with⟨c4,hm⟩|⟨c4,hm⟩
 ·refine qT c4<|qD [] [3,4,5,6,40] [(9,i6 4)] [36004,36005,36006] [] ?_
  cases hm
  exact A.ret qE
 refine qF c4<|A.skip ?_
 show ah _ _ _ _ _
 refine A.seq ?_
 obtain⟨bO,h5,hm⟩:=aa hm
 refine qDs [(2,hro (sL h5) avX)] [40] [(10,i6 bO)]<|qDs [] [] [(46,.bool (!decide (bO=0)))] ?_
 rcases aj hm with⟨c5,hm⟩|⟨c5,hm⟩
 ·refine qT c5<|qD [] [3,4,5,6,10,46] [(9,i6 bO)] [36004,36005,36006] [] ?_
  cases hm
  exact A.ret qE
 refine qF c5<|A.skip ?_
 show ah _ _ _ _ _
 refine qD [(0,.al 36011)] [10,46] [(11,.ptr 36011 0)] [] [(36011,.cells 74 [.aP,.aP,.aP])]<|qD [(3,.al 36052)] [3,6] [(12,.own 36052)] [36006] [(36052,.slice 146 11 (ml jj ([(cU.mk aK p)]:List cU)) 0 false)]<|A.seq<|qDs [] [] [(13,i6 0)]<|A.block ?_
 obtain⟨F1,n1,hF1,hm⟩:=gr hm
 refine A.lpW (F:=F1) hm (λ(ga,i_1,m_1,m_2,m_3)=>[(4,.ptr 36004 0),(5,.ptr 36005 0),(8,.ptr 36008 0),(11,.ptr 36011 0),(12,.own 600036012),(13,i6 i_1)]) (λ(ga,i_1,m_1,m_2,m_3)=>[(36004,.cells 32 (k6 e)),(36005,.cells 28 (k2 t)),(36008,.cells 74 [.aP,.aP,.aP]),(36011,.cells 74 [.own 703601100,.own 703601101,.own 703601102]),(600036012,.slice 146 11 (ml jj ga) 0 false),(703601100,.slice 78 11 (ml cC m_1) 0 false),(703601101,.slice 81 3 (ml cR m_2) 0 false),(703601102,.slice 141 2 (ml gl m_3) 0 false)]) ?_ ?_
 ·exact bA.go [.sw 36052 600036012,.ac 36011 703601100 78 11 0,.ac 36011 703601101 81 3 1,.ac 36011 703601102 141 2 2] [] (by kernel_rfl)
 rintro Z1 ⟨ga,i_1,m_1,m_2,m_3⟩ hm
 rw[hF1]at hm
 refine A.seq<|qDs [(2,hto (lnE jj ga))] [] [(56,.bool (decide (i_1<(ga.length:Int))))] ?_
 rcases aj hm with⟨c6,hm⟩|⟨c6,hm⟩
 ·refine qT c6<|A.skip ?_
  show ah _ _ _ _ _
  refine A.seq<|A.block ?_
  obtain⟨e_1,h6,hm⟩:=aa hm
  refine qD [(2,hix (ix jj h6)),(3,hlo 600036012 0 (ix jj h6)),(4,.al 36014)] [56] [(14,.ptr 36014 0)] [] [(36014,.cells 146 (k14 e_1.aN e_1.aQ))] ?_
  obtain⟨br,h7,hm⟩:=aa hm
  refine qD [(5,hro (tE h7) avQ),(9,.al 36015)] [] [(15,.ptr 36015 0)] [] [(36015,.cells 46 (k12 br.1))] ?_
  obtain⟨cv,h8,hm⟩:=aa hm
  obtain⟨l_1,h9,hm⟩:=aa hm
  refine qD [(8,hro (wT h8) ck76),(9,hap 36581 (ap cC (bytes:=96) (by decide) h9))] [] [] [36011,703601100] [(36011,.cells 74 [.own 36581,.own 703601101,.own 703601102]),(36581,.slice 78 11 (ml cC l_1) 0 false)] ?_
  obtain⟨J2,hJ2,hm⟩:=bQ hm
  refine A.J (J:=J2) (r:=r) (λm_4=>[(4,.ptr 36004 0),(5,.ptr 36005 0),(8,.ptr 36008 0),(11,.ptr 36011 0),(12,.own 600036012),(13,i6 i_1),(14,.ptr 36014 0),(15,.ptr 36015 0)]) (λm_4=>[(36004,.cells 32 (k6 e)),(36005,.cells 28 (k2 t)),(36008,.cells 74 [.aP,.aP,.aP]),(36011,.cells 74 [.own 36581,.own 703601101,.own 703601102]),(600036012,.slice 146 11 (ml jj ga) 0 false),(703601101,.slice 81 3 (ml cR m_2) 0 false),(703601102,.slice 141 2 (ml gl m_4) 0 false),(36014,.cells 146 (k14 e_1.aN e_1.aQ)),(36015,.cells 46 (k12 br.1)),(36581,.slice 78 11 (ml cC l_1) 0 false)]) ?_ ?_
  ·refine qDs [] [] [(85,.bool (!decide (br.1.jL=0)))] ?_
   rcases aj hm with⟨c7,hm⟩|⟨c7,hm⟩
   ·refine qT c7 ?_
    obtain⟨l_2,h10,hm⟩:=aa hm
    exact qG [(8,hap 36594 (ap gl (bytes:=16) (by decide) h10))] [85] [] [36011,703601102] [(36011,.cells 74 [.own 36581,.own 703601101,.own 36594]),(36594,.slice 141 2 (ml gl l_2) 0 false)]<|Exists.intro l_2 (And.intro hm (bA.go [.sw 36594 703601102] [] (by kernel_rfl)))
   exact qF c7<|A.skip<|qX m_3 hm
  rintro m_4 hm
  rw[hJ2]at hm
  refine qD [(2,hto (lnE gF br.1.dS))] [15] [(97,lf gF br.1.dS),(98,i6 (br.1.dS.length:Int)),(99,i6 0)] [36015] []<|A.block<|A.bS 97 rfl λhb2=>?_
  obtain⟨B2,K2,hB2,hK2,hm⟩:=aX hm
  refine A.lpI (l:=br.1.dS) (j0:=0) (B:=B2) (K:=K2) hm (λj2=>λ(dR,m_5,m_6)=>[(4,.ptr 36004 0),(5,.ptr 36005 0),(8,.ptr 36008 0),(11,.ptr 36011 0),(12,.own 600036012),(13,i6 i_1),(14,.ptr 36014 0),(97,lf gF br.1.dS),(98,i6 (br.1.dS.length:Int)),(99,i6 (j2:Int))]) (λj2=>λ(dR,m_5,m_6)=>[(36004,.cells 32 (k6 e)),(36005,.cells 28 (k2 t)),(36008,.cells 74 [.aP,.aP,.aP]),(36011,.cells 74 [.own 36581,.own 703601101,.own 703601102]),(600036012,.slice 146 11 (ml jj dR) 0 false),(703601101,.slice 81 3 (ml cR m_5) 0 false),(703601102,.slice 141 2 (ml gl m_6) 0 false),(36014,.cells 146 (k14 e_1.aN e_1.aQ)),(36581,.slice 78 11 (ml cC l_1) 0 false)]) ?_ ?_ ?_
  ·exact qW
  ·rintro j2 e2 Z2 ⟨dR,m_5,m_6⟩ hj2 hx2 hm
   rw[hB2]at hm
   refine qDs [] [] [(100,.bool (decide ((j2:Int)<(br.1.dS.length:Int))))]<|A.seq<|qT (ltT hx2)<|A.skip ?_
   show ah _ _ _ _ _
   obtain⟨J3,hJ3,hm⟩:=bQ hm
   refine A.J (J:=J3) (r:=r) (λ(gW,m_7,m_8)=>[(4,.ptr 36004 0),(5,.ptr 36005 0),(8,.ptr 36008 0),(11,.ptr 36011 0),(12,.own 600036012),(13,i6 i_1),(14,.ptr 36014 0),(97,lf gF br.1.dS),(98,i6 (br.1.dS.length:Int)),(99,i6 (j2:Int))]) (λ(gW,m_7,m_8)=>[(36004,.cells 32 (k6 e)),(36005,.cells 28 (k2 t)),(36008,.cells 74 [.aP,.aP,.aP]),(36011,.cells 74 [.own 36581,.own 703601101,.own 703601102]),(600036012,.slice 146 11 (ml jj gW) 0 false),(703601101,.slice 81 3 (ml cR m_7) 0 false),(703601102,.slice 141 2 (ml gl m_8) 0 false),(36014,.cells 146 (k14 e_1.aN e_1.aQ)),(36581,.slice 78 11 (ml cC l_1) 0 false)]) ?_ ?_
   ·refine A.block<|qD [(0,hix (ix gF (bq hx2))),(2,.al 36018)] [100] [(18,.ptr 36018 0)] [] [(36018,.cells 54 (k11 e2))] ?_
    obtain⟨dA,h11,hm⟩:=aa hm
    refine qDs [(4,hro (acs h11) ck77)] [] [(19,lf aB dA)]<|A.seq<|qDs [(1,hto (lnE aB dA))] [] [(110,.bool (decide ((dA.length:Int)=(0:Int))))] ?_
    rcases aj hm with⟨c8,hm⟩|⟨c8,hm⟩
    ·refine qT c8 ?_
     obtain⟨kK,h12,hm⟩:=aa hm
     obtain⟨l_3,h13,hm⟩:=aa hm
     exact qD [(8,hro (acr h12) ck78),(11,hap 36622 (ap gl (bytes:=16) (by decide) h13))] [110] [] [36011,703601102] [(36011,.cells 74 [.own 36581,.own 703601101,.own 36622]),(36622,.slice 141 2 (ml gl l_3) 0 false)]<|A.exit<|Exists.intro (dR,m_5,l_3) (And.intro hm (bA.go [.sw 36622 703601102] [] (by kernel_rfl)))
    refine qF c8<|A.skip ?_
    show ah _ _ _ _ _
    refine qDs [] [110] [(20,i6 e_1.aN)]<|A.seq<|qDs [(1,hto (lnE aB dA))] [19] [(126,lf aB dA),(127,i6 (dA.length:Int)),(128,i6 0)]<|A.block<|A.bS 126 rfl λhb3=>?_
    obtain⟨B3,K3,hB3,hK3,hm⟩:=aX hm
    refine A.lpI (l:=dA) (j0:=0) (B:=B3) (K:=K3) hm (λj3=>λ(dI,m_9)=>[(4,.ptr 36004 0),(5,.ptr 36005 0),(8,.ptr 36008 0),(11,.ptr 36011 0),(12,.own 600036012),(13,i6 i_1),(14,.ptr 36014 0),(18,.ptr 36018 0),(20,i6 dI),(97,lf gF br.1.dS),(98,i6 (br.1.dS.length:Int)),(99,i6 (j2:Int)),(126,lf aB dA),(127,i6 (dA.length:Int)),(128,i6 (j3:Int))]) (λj3=>λ(dI,m_9)=>[(36004,.cells 32 (k6 e)),(36005,.cells 28 (k2 t)),(36008,.cells 74 [.aP,.aP,.aP]),(36011,.cells 74 [.own 36581,.own 703601101,.own 703601102]),(600036012,.slice 146 11 (ml jj dR) 0 false),(703601101,.slice 81 3 (ml cR m_9) 0 false),(703601102,.slice 141 2 (ml gl m_6) 0 false),(36014,.cells 146 (k14 e_1.aN e_1.aQ)),(36581,.slice 78 11 (ml cC l_1) 0 false),(36018,.cells 54 (k11 e2))]) ?_ ?_ ?_
    ·exact qW
    ·rintro j3 e3 Z3 ⟨dI,m_9⟩ hj3 hx3 hm
     rw[hB3]at hm
     refine qDs [] [] [(129,.bool (decide ((j3:Int)<(dA.length:Int))))]<|A.seq<|qT (ltT hx3)<|A.skip ?_
     show ah _ _ _ _ _
     refine A.seq<|A.block ?_
     refine qDs [(0,hix (ix aB (bq hx3)))] [129] [(22,i6 e3)] ?_
     obtain⟨l_4,h14,hm⟩:=aa hm
     refine qD [(10,hap 36642 (ap cR (bytes:=24) (by decide) h14))] [20] [] [36011,703601101] [(36011,.cells 74 [.own 36581,.own 36642,.own 703601102]),(36642,.slice 81 3 (ml cR l_4) 0 false)]<|qGs [] [22] [(20,i6 e3)] ?_
     show ah _ _ _ _ _
     exact qGs [(0,hto (inc hx3 hb3))] [128] [(128,i6 ((j3+1:Nat):Int))]<|Exists.intro (e3,l_4) (And.intro hm (bA.go [.sw 36642 703601101] [] (by kernel_rfl)))
    rintro j3 ⟨dI,m_9⟩ hj3 hl3 hm
    rw[hK3]at hm
    refine qDs [] [] [(129,.bool (decide ((j3:Int)<(dA.length:Int))))]<|A.seq<|qF (ltF hl3)<|A.exit ?_
    show ah _ _ _ _ _
    refine A.seq<|qDs [(2,hto (lnE cR m_9))] [20,126,127,128,129] [(149,.bool (decide (2000<(m_9.length:Int))))] ?_
    rcases aj hm with⟨c9,hm⟩|⟨c9,hm⟩
    ·refine qT c9<|qS [] [(8,.ptr 36008 0),(9,i6 11)] [(36008,.cells 74 [.aP,.aP,.aP])] ?_
     cases hm
     exact A.ret qE
    refine qF c9<|A.skip ?_
    show ah _ _ _ _ _
    obtain⟨l_5,h15,hm⟩:=aa hm
    exact qG [(8,hap 36659 (ap jj (bytes:=96) (by decide) h15))] [12,18,149] [(12,.own 36659)] [600036012,36018] [(36659,.slice 146 11 (ml jj l_5) 0 false)]<|Exists.intro (l_5,m_9,m_6) (And.intro hm (bA.go [.sw 36659 600036012] [] (by kernel_rfl)))
   rintro⟨gW,m_7,m_8⟩ hm
   rw[hJ3]at hm
   exact qGs [(0,hto (inc hx2 hb2))] [99] [(99,i6 ((j2+1:Nat):Int))]<|qX (gW,m_7,m_8) hm
  rintro j2 ⟨dR,m_5,m_6⟩ hj2 hl2 hm
  rw[hK2]at hm
  refine qDs [] [] [(100,.bool (decide ((j2:Int)<(br.1.dS.length:Int))))]<|A.seq<|qF (ltF hl2)<|A.exit ?_
  show ah _ _ _ _ _
  exact qG [] [13,14,97,98,99,100] [(13,i6 (w64 (i_1+1)))] [36014] []<|Exists.intro (dR,w64 (i_1+1),l_1,m_5,m_6) (And.intro hm (bA.go [.sw 36581 703601100] [] (by kernel_rfl)))
 refine qF c6<|A.exit ?_
 show ah _ _ _ _ _
 refine qD [] [4,5,11,12,13,56] [(9,i6 0)] [36004,36005,36008,36011,600036012] [(36008,.cells 74 [.own 703601100,.own 703601101,.own 703601102])]<|A.ret ?_
 obtain rfl:=some_inj hm
 exact A.fin W0 [.fz [703601100,703601101,703601102]] rfl (by kernel_rfl)
theorem aae{e:aG}{t:cM}{receivers:List Int}{r:aD×Int}(hm:nM e t receivers p=some r):RO prog 38 [] [.agg (k6 e),.agg (k7 t),lf aB receivers,.agg (k10 p)] (.tup [.agg (k10 r.1),i6 r.2]):=by
 refine bh func38 rfl rfl ?_
 unfold nM at hm
 refine qS [(0,.al 38004),(1,.al 38005),(2,.al 38007),(3,.al 38008)] [(2,lf aB receivers),(4,.ptr 38004 0),(5,.ptr 38005 0),(7,.ptr 38007 0),(8,.ptr 38008 0)] [(38004,.cells 32 (k6 e)),(38005,.cells 63 (k7 t)),(38007,.cells 36 (k10 p)),(38008,.cells 36 [i6 0,i6 0,i6 0,i6 0,i6 0,i6 0,i6 0,i6 0,.int .u64 (0:Int),.str (⟨#[]⟩:ByteArray)])] ?_
 obtain⟨ai,h1,hm⟩:=aa hm
 refine qD [(3,hro (abN h1) ck62)] [2,5] [(10,.int .u64 ai.1),(11,i6 ai.2)] [38005] []<|A.seq<|qDs [] [] [(20,.bool (!decide (ai.2=0)))] ?_
 rcases aj hm with⟨c1,hm⟩|⟨c1,hm⟩
 ·refine qT c1<|qD [] [4,7,10,11,20] [(9,i6 ai.2)] [38004,38007] [] ?_
  cases hm
  exact A.ret qE
 refine qF c1<|A.skip ?_
 show ah _ _ _ _ _
 refine qD [] [4,10,11,20] [] [38004,38007] [(38007,.cells 36 [i6 2,i6 p.bL,i6 p.Set,i6 e.Length,i6 p.TTL,i6 p.cn,i6 p.cq,i6 p.dg,.int .u64 ai.1,.str p.cm])]<|A.seq ?_
 obtain⟨aI,h2,hm⟩:=aa hm
 refine qDs [(1,hro (qM h2) alD)] [] [(31,.bool (!aI))] ?_
 rcases aj hm with⟨c2,hm⟩|⟨c2,hm⟩
 ·refine qT c2<|qD [] [7,31] [(9,i6 1)] [38007] [] ?_
  cases hm
  exact A.ret qE
 refine qF c2<|A.skip ?_
 show ah _ _ _ _ _
 refine qS [] [(8,.ptr 38008 0),(9,i6 0)] [(38008,.cells 36 [i6 2,i6 p.bL,i6 p.Set,i6 e.Length,i6 p.TTL,i6 p.cn,i6 p.cq,i6 p.dg,.int .u64 ai.1,.str p.cm])] ?_
 cases hm
 exact A.ret qE
theorem wm{a:dz}{b:dz}{r:Bool}(hm:jJ a b=some r):RO prog 17 [] [.agg (k12 a),.agg (k12 b)] (.bool r):=by
 refine bh func17 rfl rfl ?_
 unfold jJ at hm
 refine qS [(0,.al 17002),(1,.al 17003)] [(2,.ptr 17002 0),(3,.ptr 17003 0)] [(17002,.cells 46 (k12 a)),(17003,.cells 46 (k12 b))]<|A.seq<|A.mid [(2,.ptr 17002 0),(3,.ptr 17003 0),(29,.bool ((!decide (a.Local=b.Local))||((!decide (a.jL=b.jL))||(!decide ((a.dS.length:Int)=(b.dS.length:Int))))))] [(17002,.cells 46 (k12 a)),(17003,.cells 46 (k12 b))] (λhk=>?_) ?_
 ·rcases tf (!decide (a.Local=b.Local))with c1|c1
  ·exact qS [(5,hto (bE c1)),(20,hto (orT (q:=((!decide (a.jL=b.jL))||(!decide ((a.dS.length:Int)=(b.dS.length:Int))))) c1))] _ _ hk
  rcases tf (!decide (a.jL=b.jL))with c2|c2
  ·exact qS [(5,hto (bE c1)),(12,hto (bE c2)),(20,hto ((orT (q:=!decide ((a.dS.length:Int)=(b.dS.length:Int))) c2).trans (orF (q:=((!decide (a.jL=b.jL))||(!decide ((a.dS.length:Int)=(b.dS.length:Int))))) c1)))] _ _ hk
  exact qS [(5,hto (bE c1)),(12,hto (bE c2)),(15,hto (lnE gF a.dS)),(18,hto (lnE gF b.dS)),(20,hto ((orF (q:=!decide ((a.dS.length:Int)=(b.dS.length:Int))) c2).trans (orF (q:=((!decide (a.jL=b.jL))||(!decide ((a.dS.length:Int)=(b.dS.length:Int))))) c1)))] _ _ hk
 rcases aj hm with⟨c3,hm⟩|⟨c3,hm⟩
 ·refine qT c3<|qS [] [(4,.bool false)] [] ?_
  cases hm
  exact A.ret qE
 refine qF c3<|A.skip ?_
 show ah _ _ _ _ _
 refine A.seq<|qDs [(2,hto (lnE gF a.dS))] [29] [(32,i6 (a.dS.length:Int)),(33,i6 0)] ?_
 refine A.block<|A.bC 2 2 rfl rfl rfl λhb1=>?_
 obtain⟨B1,K1,hB1,hK1,hm⟩:=aX hm
 refine A.lpI (l:=a.dS) (j0:=0) (B:=B1) (K:=K1) hm (λj1=>λ()=>[(2,.ptr 17002 0),(3,.ptr 17003 0),(32,i6 (a.dS.length:Int)),(33,i6 (j1:Int))]) (λj1=>λ()=>[(17002,.cells 46 (k12 a)),(17003,.cells 46 (k12 b))]) ?_ ?_ ?_
 ·exact qW
 ·rintro j1 e1 Z1 ⟨⟩ hj1 hx1 hm
  rw[hB1]at hm
  refine qDs [] [] [(34,.bool (decide ((j1:Int)<(a.dS.length:Int))))]<|A.seq<|qT (ltT hx1)<|A.skip ?_
  show ah _ _ _ _ _
  refine A.seq<|A.block ?_
  refine qDs [] [34] [(5,i6 (j1:Int))] ?_
  obtain⟨e_1,h1,hm⟩:=aa hm
  refine qD [(3,hix (ix gF (bq hx1))),(8,hix (ix gF h1)),(10,.al 17006),(11,.al 17007)] [5] [(6,.ptr 17006 0),(7,.ptr 17007 0)] [] [(17006,.cells 54 (k11 e1)),(17007,.cells 54 (k11 e_1))]<|A.seq<|A.mid [(2,.ptr 17002 0),(3,.ptr 17003 0),(32,i6 (a.dS.length:Int)),(33,i6 (j1:Int)),(6,.ptr 17006 0),(7,.ptr 17007 0),(70,.bool ((!decide (e1.To=e_1.To))||((!(gN e1.Frame.aQ e_1.Frame.aQ))||(!decide ((e1.Frame.fk.length:Int)=(e_1.Frame.fk.length:Int))))))] [(17002,.cells 46 (k12 a)),(17003,.cells 46 (k12 b)),(17006,.cells 54 (k11 e1)),(17007,.cells 54 (k11 e_1))] (λhk=>?_) ?_
  ·rcases tf (!decide (e1.To=e_1.To))with c4|c4
   ·exact qS [(5,hto (bE c4)),(24,hto (orT (q:=((!(gN e1.Frame.aQ e_1.Frame.aQ))||(!decide ((e1.Frame.fk.length:Int)=(e_1.Frame.fk.length:Int))))) c4))] _ _ hk
   rcases tf (!(gN e1.Frame.aQ e_1.Frame.aQ))with c5|c5
   ·exact qS [(5,hto (bE c4)),(12,.sq true 36 (.agg (k10 e1.Frame.aQ)) (.agg (k10 e_1.Frame.aQ)) (!(gN e1.Frame.aQ e_1.Frame.aQ)) (λx y w=>aaF x y _ _ _ _ _ _ _ _ _ _ _ _ _ _ _ _ _ _ _ _ w)),(14,hto (bE c5)),(24,hto ((orT (q:=!decide ((e1.Frame.fk.length:Int)=(e_1.Frame.fk.length:Int))) c5).trans (orF (q:=((!(gN e1.Frame.aQ e_1.Frame.aQ))||(!decide ((e1.Frame.fk.length:Int)=(e_1.Frame.fk.length:Int))))) c4)))] _ _ hk
   exact qS [(5,hto (bE c4)),(12,.sq true 36 (.agg (k10 e1.Frame.aQ)) (.agg (k10 e_1.Frame.aQ)) (!(gN e1.Frame.aQ e_1.Frame.aQ)) (λx y w=>aaF x y _ _ _ _ _ _ _ _ _ _ _ _ _ _ _ _ _ _ _ _ w)),(14,hto (bE c5)),(18,hto (lnE aB e1.Frame.fk)),(22,hto (lnE aB e_1.Frame.fk)),(24,hto ((orF (q:=!decide ((e1.Frame.fk.length:Int)=(e_1.Frame.fk.length:Int))) c5).trans (orF (q:=((!(gN e1.Frame.aQ e_1.Frame.aQ))||(!decide ((e1.Frame.fk.length:Int)=(e_1.Frame.fk.length:Int))))) c4)))] _ _ hk
  rcases aj hm with⟨c6,hm⟩|⟨c6,hm⟩
  ·refine qT c6<|qS [] [(4,.bool false)] [] ?_
   cases hm
   exact A.ret qE
  refine qF c6<|A.skip ?_
  show ah _ _ _ _ _
  refine qDs [(3,hto (lnE aB e1.Frame.fk))] [70] [(74,i6 (e1.Frame.fk.length:Int)),(75,i6 0)]<|A.block<|A.bC 6 1 rfl rfl rfl λhb2=>?_
  obtain⟨B2,K2,hB2,hK2,hm⟩:=aX hm
  refine A.lpI (l:=e1.Frame.fk) (j0:=0) (B:=B2) (K:=K2) hm (λj2=>λ()=>[(2,.ptr 17002 0),(3,.ptr 17003 0),(6,.ptr 17006 0),(7,.ptr 17007 0),(32,i6 (a.dS.length:Int)),(33,i6 (j1:Int)),(74,i6 (e1.Frame.fk.length:Int)),(75,i6 (j2:Int))]) (λj2=>λ()=>[(17002,.cells 46 (k12 a)),(17003,.cells 46 (k12 b)),(17006,.cells 54 (k11 e1)),(17007,.cells 54 (k11 e_1))]) ?_ ?_ ?_
  ·exact qW
  ·rintro j2 e2 Z2 ⟨⟩ hj2 hx2 hm
   rw[hB2]at hm
   refine qDs [] [] [(76,.bool (decide ((j2:Int)<(e1.Frame.fk.length:Int))))]<|A.seq<|qT (ltT hx2)<|A.skip ?_
   show ah _ _ _ _ _
   refine A.seq<|A.block ?_
   refine qDs [] [76] [(8,i6 (j2:Int))] ?_
   obtain⟨e_2,h2,hm⟩:=aa hm
   refine qDs [(4,hix (ix aB (bq hx2))),(10,hix (ix aB h2))] [8] [(90,.bool (!decide (e2=e_2)))] ?_
   rcases aj hm with⟨c7,hm⟩|⟨c7,hm⟩
   ·refine qT c7<|qS [] [(4,.bool false)] [] ?_
    cases hm
    exact A.ret qE
   refine qF c7<|A.skip ?_
   show ah _ _ _ _ _
   exact qGs [(0,hto (inc hx2 hb2))] [75,90] [(75,i6 ((j2+1:Nat):Int))]<|qX () hm
  rintro j2 ⟨⟩ hj2 hl2 hm
  rw[hK2]at hm
  refine qDs [] [] [(76,.bool (decide ((j2:Int)<(e1.Frame.fk.length:Int))))]<|A.seq<|qF (ltF hl2)<|A.exit ?_
  show ah _ _ _ _ _
  exact qG [(0,hto (inc hx1 hb1))] [6,7,33,74,75,76] [(33,i6 ((j1+1:Nat):Int))] [17006,17007] []<|qX () hm
 rintro j1 ⟨⟩ hj1 hl1 hm
 rw[hK1]at hm
 refine qDs [] [] [(34,.bool (decide ((j1:Int)<(a.dS.length:Int))))]<|A.seq<|qF (ltF hl1)<|A.exit ?_
 show ah _ _ _ _ _
 refine qS [] [(4,.bool true)] [] ?_
 cases hm
 exact A.ret qE
theorem xL{a:dy}{b:dy}{r:Bool}(hm:lu a b=some r):RO prog 37 [] [.agg (k15 a),.agg (k15 b)] (.bool r):=by
 refine bh func37 rfl rfl ?_
 unfold lu at hm
 refine qS [(0,.al 37002),(1,.al 37003)] [(2,.ptr 37002 0),(3,.ptr 37003 0)] [(37002,.cells 74 (k15 a)),(37003,.cells 74 (k15 b))]<|A.seq<|A.mid [(2,.ptr 37002 0),(3,.ptr 37003 0),(32,.bool ((!decide ((a.dD.length:Int)=(b.dD.length:Int)))||((!decide ((a.dF.length:Int)=(b.dF.length:Int)))||(!decide ((a.gm.length:Int)=(b.gm.length:Int))))))] [(37002,.cells 74 (k15 a)),(37003,.cells 74 (k15 b))] (λhk=>?_) ?_
 ·rcases tf (!decide ((a.dD.length:Int)=(b.dD.length:Int)))with c1|c1
  ·exact qS [(2,hto (lnE cC a.dD)),(5,hto (lnE cC b.dD)),(7,hto (bE c1)),(24,hto (orT (q:=((!decide ((a.dF.length:Int)=(b.dF.length:Int)))||(!decide ((a.gm.length:Int)=(b.gm.length:Int))))) c1))] _ _ hk
  rcases tf (!decide ((a.dF.length:Int)=(b.dF.length:Int)))with c2|c2
  ·exact qS [(2,hto (lnE cC a.dD)),(5,hto (lnE cC b.dD)),(7,hto (bE c1)),(10,hto (lnE cR a.dF)),(13,hto (lnE cR b.dF)),(16,hto (bE c2)),(24,hto ((orT (q:=!decide ((a.gm.length:Int)=(b.gm.length:Int))) c2).trans (orF (q:=((!decide ((a.dF.length:Int)=(b.dF.length:Int)))||(!decide ((a.gm.length:Int)=(b.gm.length:Int))))) c1)))] _ _ hk
  exact qS [(2,hto (lnE cC a.dD)),(5,hto (lnE cC b.dD)),(7,hto (bE c1)),(10,hto (lnE cR a.dF)),(13,hto (lnE cR b.dF)),(16,hto (bE c2)),(19,hto (lnE gl a.gm)),(22,hto (lnE gl b.gm)),(24,hto ((orF (q:=!decide ((a.gm.length:Int)=(b.gm.length:Int))) c2).trans (orF (q:=((!decide ((a.dF.length:Int)=(b.dF.length:Int)))||(!decide ((a.gm.length:Int)=(b.gm.length:Int))))) c1)))] _ _ hk
 rcases aj hm with⟨c3,hm⟩|⟨c3,hm⟩
 ·refine qT c3<|qS [] [(4,.bool false)] [] ?_
  cases hm
  exact A.ret qE
 refine qF c3<|A.skip ?_
 show ah _ _ _ _ _
 refine A.seq<|qDs [(2,hto (lnE cC a.dD))] [32] [(35,i6 (a.dD.length:Int)),(36,i6 0)] ?_
 refine A.block<|A.bC 2 0 rfl rfl rfl λhb1=>?_
 obtain⟨B1,K1,hB1,hK1,hm⟩:=aX hm
 refine A.lpI (l:=a.dD) (j0:=0) (B:=B1) (K:=K1) hm (λj1=>λ()=>[(2,.ptr 37002 0),(3,.ptr 37003 0),(35,i6 (a.dD.length:Int)),(36,i6 (j1:Int))]) (λj1=>λ()=>[(37002,.cells 74 (k15 a)),(37003,.cells 74 (k15 b))]) ?_ ?_ ?_
 ·exact qW
 ·rintro j1 e1 Z1 ⟨⟩ hj1 hx1 hm
  rw[hB1]at hm
  refine qDs [] [] [(37,.bool (decide ((j1:Int)<(a.dD.length:Int))))]<|A.seq<|qT (ltT hx1)<|A.skip ?_
  show ah _ _ _ _ _
  refine A.seq<|A.block ?_
  refine qDs [] [37] [(5,i6 (j1:Int))] ?_
  obtain⟨e_1,h1,hm⟩:=aa hm
  refine qDs [(3,hix (ix cC (bq hx1))),(8,hix (ix cC h1)),(10,.sq true 78 (.agg (k14 e1.aN e1.aQ)) (.agg (k14 e_1.aN e_1.aQ)) (!(qh e1 e_1)) (λx y w=>aiA x y _ _ _ _ _ _ _ _ _ _ _ _ _ _ _ _ _ _ _ _ _ _ w))] [5] [(49,.bool (!(qh e1 e_1)))] ?_
  rcases aj hm with⟨c4,hm⟩|⟨c4,hm⟩
  ·refine qT c4<|qS [] [(4,.bool false)] [] ?_
   cases hm
   exact A.ret qE
  refine qF c4<|A.skip ?_
  show ah _ _ _ _ _
  exact qGs [(0,hto (inc hx1 hb1))] [36,49] [(36,i6 ((j1+1:Nat):Int))]<|qX () hm
 rintro j1 ⟨⟩ hj1 hl1 hm
 rw[hK1]at hm
 refine qDs [] [] [(37,.bool (decide ((j1:Int)<(a.dD.length:Int))))]<|A.seq<|qF (ltF hl1)<|A.exit ?_
 show ah _ _ _ _ _
 refine A.seq<|qDs [(2,hto (lnE cR a.dF))] [35,36,37] [(53,i6 (a.dF.length:Int)),(54,i6 0)] ?_
 refine A.block<|A.bC 2 1 rfl rfl rfl λhb2=>?_
 obtain⟨B2,K2,hB2,hK2,hm⟩:=aX hm
 refine A.lpI (l:=a.dF) (j0:=0) (B:=B2) (K:=K2) hm (λj2=>λ()=>[(2,.ptr 37002 0),(3,.ptr 37003 0),(53,i6 (a.dF.length:Int)),(54,i6 (j2:Int))]) (λj2=>λ()=>[(37002,.cells 74 (k15 a)),(37003,.cells 74 (k15 b))]) ?_ ?_ ?_
 ·exact qW
 ·rintro j2 e2 Z2 ⟨⟩ hj2 hx2 hm
  rw[hB2]at hm
  refine qDs [] [] [(55,.bool (decide ((j2:Int)<(a.dF.length:Int))))]<|A.seq<|qT (ltT hx2)<|A.skip ?_
  show ah _ _ _ _ _
  refine A.seq<|A.block ?_
  refine qDs [] [55] [(6,i6 (j2:Int))] ?_
  obtain⟨e_2,h2,hm⟩:=aa hm
  refine qDs [(3,hix (ix cR (bq hx2))),(8,hix (ix cR h2)),(10,.sq true 81 (.agg [i6 e2.ct,i6 e2.To,.int .u64 e2.Bits]) (.agg [i6 e_2.ct,i6 e_2.To,.int .u64 e_2.Bits]) (!(qi e2 e_2)) (λx y w=>aiB x y _ _ _ _ _ _ w))] [6] [(67,.bool (!(qi e2 e_2)))] ?_
  rcases aj hm with⟨c5,hm⟩|⟨c5,hm⟩
  ·refine qT c5<|qS [] [(4,.bool false)] [] ?_
   cases hm
   exact A.ret qE
  refine qF c5<|A.skip ?_
  show ah _ _ _ _ _
  exact qGs [(0,hto (inc hx2 hb2))] [54,67] [(54,i6 ((j2+1:Nat):Int))]<|qX () hm
 rintro j2 ⟨⟩ hj2 hl2 hm
 rw[hK2]at hm
 refine qDs [] [] [(55,.bool (decide ((j2:Int)<(a.dF.length:Int))))]<|A.seq<|qF (ltF hl2)<|A.exit ?_
 show ah _ _ _ _ _
 refine A.seq<|qDs [(2,hto (lnE gl a.gm))] [53,54,55] [(71,i6 (a.gm.length:Int)),(72,i6 0)] ?_
 refine A.block<|A.bC 2 2 rfl rfl rfl λhb3=>?_
 obtain⟨B3,K3,hB3,hK3,hm⟩:=aX hm
 refine A.lpI (l:=a.gm) (j0:=0) (B:=B3) (K:=K3) hm (λj3=>λ()=>[(2,.ptr 37002 0),(3,.ptr 37003 0),(71,i6 (a.gm.length:Int)),(72,i6 (j3:Int))]) (λj3=>λ()=>[(37002,.cells 74 (k15 a)),(37003,.cells 74 (k15 b))]) ?_ ?_ ?_
 ·exact qW
 ·rintro j3 e3 Z3 ⟨⟩ hj3 hx3 hm
  rw[hB3]at hm
  refine qDs [] [] [(73,.bool (decide ((j3:Int)<(a.gm.length:Int))))]<|A.seq<|qT (ltT hx3)<|A.skip ?_
  show ah _ _ _ _ _
  refine A.seq<|A.block ?_
  refine qDs [] [73] [(7,i6 (j3:Int))] ?_
  obtain⟨e_3,h3,hm⟩:=aa hm
  refine qDs [(3,hix (ix gl (bq hx3))),(8,hix (ix gl h3)),(10,.sq true 141 (.agg [i6 e3.aN,.int .u64 e3.Bits]) (.agg [i6 e_3.aN,.int .u64 e_3.Bits]) (!(wL e3 e_3)) (λx y w=>ahh x y _ _ _ _ w))] [7] [(85,.bool (!(wL e3 e_3)))] ?_
  rcases aj hm with⟨c6,hm⟩|⟨c6,hm⟩
  ·refine qT c6<|qS [] [(4,.bool false)] [] ?_
   cases hm
   exact A.ret qE
  refine qF c6<|A.skip ?_
  show ah _ _ _ _ _
  exact qGs [(0,hto (inc hx3 hb3))] [72,85] [(72,i6 ((j3+1:Nat):Int))]<|qX () hm
 rintro j3 ⟨⟩ hj3 hl3 hm
 rw[hK3]at hm
 refine qDs [] [] [(73,.bool (decide ((j3:Int)<(a.gm.length:Int))))]<|A.seq<|qF (ltF hl3)<|A.exit ?_
 show ah _ _ _ _ _
 refine qS [] [(4,.bool true)] [] ?_
 cases hm
 exact A.ret qE
end Go.Proofs.YtdjeacigeegklaaGreat
