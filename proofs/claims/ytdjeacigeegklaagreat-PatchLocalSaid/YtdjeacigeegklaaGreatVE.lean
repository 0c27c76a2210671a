/- The gn of dg of the program. No condition but bB aX stand in each. -/
import Derived.Test.YtdjeacigeegklaaGreatDA
import Derived.Test.YtdjeacigeegklaaGreatVX
import Derived.Test.YtdjeacigeegklaaGreatV2
namespace Go.Proofs.YtdjeacigeegklaaGreat
open Go Go.Proofs.Tryz
set_option maxRecDepth 100000
set_option linter.all false
variable {r:Bool}
theorem lE{n:Int}(hm:kr n=some r):RO prog 133 [] [i6 n] (.bool r):=by
 refine bf func133 rfl rfl ?_
 unfold kr at hm
 refine qS [] [(0,i6 n)] []<|A.mid [(2,.bool ((decide (n=8))||((decide (n=16))||((decide (n=32))||(decide (n=64))))))] [] (λhk=>?_) ?_
 ·rcases tf (decide (n=8))with c1|c1
  ·exact qS [(2,hto (bE c1)),(14,hto (orT (q:=((decide (n=16))||((decide (n=32))||(decide (n=64))))) c1))] _ _ hk
  rcases tf (decide (n=16))with c2|c2
  ·exact qS [(2,hto (bE c1)),(6,hto (bE c2)),(14,hto ((orT (q:=((decide (n=32))||(decide (n=64)))) c2).trans (orF (q:=((decide (n=16))||((decide (n=32))||(decide (n=64))))) c1)))] _ _ hk
  rcases tf (decide (n=32))with c3|c3
  ·exact qS [(2,hto (bE c1)),(6,hto (bE c2)),(10,hto (bE c3)),(14,hto (((orT (q:=decide (n=64)) c3).trans (orF (q:=((decide (n=32))||(decide (n=64)))) c2)).trans (orF (q:=((decide (n=16))||((decide (n=32))||(decide (n=64))))) c1)))] _ _ hk
  exact qS [(2,hto (bE c1)),(6,hto (bE c2)),(10,hto (bE c3)),(14,hto (((orF (q:=decide (n=64)) c3).trans (orF (q:=((decide (n=32))||(decide (n=64)))) c2)).trans (orF (q:=((decide (n=16))||((decide (n=32))||(decide (n=64))))) c1)))] _ _ hk
 cases hm
 exact A.ret qE
theorem aaL{k:Int}{r:Int}(hm:uC k=some r):RO prog 157 [] [i6 k] (.int .u64 r):=by
 refine bf func157 rfl rfl ?_
 unfold uC at hm
 refine qS [] [(0,i6 k)] []<|A.seq<|A.mid [(0,i6 k),(8,.bool ((decide (k<0))||(decide (63<k))))] [] (λhk=>?_) ?_
 ·rcases tf (decide (k<0))with c1|c1
  ·exact qS [(2,hto (bE c1)),(5,hto (orT (q:=decide (63<k)) c1))] _ _ hk
  exact qS [(2,hto (bE c1)),(5,hto (orF (q:=decide (63<k)) c1))] _ _ hk
 rcases az hm with⟨c2,hm⟩|⟨c2,hm⟩
 ·refine qT c2<|qS [] [(2,.int .u64 (0:Int))] [] ?_
  cases hm
  exact A.ret qE
 refine qF c2<|A.skip ?_
 show ah _ _ _ _ _
 obtain⟨h1,hm⟩:=er hm
 refine qS [(2,.sh (IntKind.wrap .u64 k) (of_decide_eq_true h1))] [(2,.int .u64 (IntKind.wrap .u64 ((1:Int)*2 ^ min (IntKind.wrap .u64 k).toNat 64)))] [] ?_
 cases hm
 exact A.ret qE
theorem aab{length:Int}{r:Int}(hm:pU length=some r):RO prog 134 [] [i6 length] (.int .u64 r):=by
 refine bf func134 rfl rfl ?_
 unfold pU at hm
 refine qS [] [(0,i6 length)] []<|A.seq ?_
 obtain⟨ai,h1,hm⟩:=af hm
 refine qDs [(1,hro (lE h1) aeW)] [] [(7,.bool (!ai))] ?_
 rcases az hm with⟨c1,hm⟩|⟨c1,hm⟩
 ·refine qT c1<|qS [] [(2,.int .u64 (0:Int))] [] ?_
  cases hm
  exact A.ret qE
 refine qF c1<|A.skip ?_
 show ah _ _ _ _ _
 refine qDs [] [7] [(3,.int .u64 (0:Int))]<|A.seq<|qDs [] [] [(4,i6 0)]<|A.block ?_
 obtain⟨hh1,hm⟩:=er hm
 obtain⟨B1,K1,hB1,hK1,hm⟩:=nj hm
 refine A.lpN (hi:=length) (B:=B1) (K:=K1) hm rfl (λj1=>λb_1=>[(0,i6 length),(3,.int .u64 b_1),(4,i6 (j1:Int))]) (λj1=>λb_1=>[]) ?_ ?_ ?_
 ·exact qW
 ·rintro j1 Z1 b_1 hj1 hx1 hm
  rw[hB1]at hm
  refine A.seq<|qDs [] [] [(10,.bool (decide ((j1:Int)<length)))] ?_
  refine A.cT rfl (decide_eq_true hx1)<|A.skip ?_
  show ah _ _ _ _ _
  refine A.seq<|A.block ?_
  obtain⟨aL,h2,hm⟩:=af hm
  refine qGs [(2,hro (aaL h2) ay4)] [3,10] [(3,.int .u64 (aS .or .u64 b_1 aL))] ?_
  show ah _ _ _ _ _
  exact qGs [(1,hto (yS (by omega) hx1 (of_decide_eq_true hh1)))] [4] [(4,i6 (j1+1:Int))]<|qX (aS .or .u64 b_1 aL) hm
 rintro j1 b_1 hj1 hl1 hm
 rw[hK1]at hm
 refine A.seq<|qDs [] [] [(10,.bool (decide ((j1:Int)<length)))] ?_
 refine A.cF rfl (geF hl1)<|A.exit ?_
 show ah _ _ _ _ _
 refine qS [] [(2,.int .u64 b_1)] [] ?_
 cases hm
 exact A.ret qE
theorem iP{b:Int}{length:Int}(hm:mF b length=some r):RO prog 92 [] [.int .u64 b,i6 length] (.bool r):=by
 refine bf func92 rfl rfl ?_
 unfold mF at hm
 refine qS [] [(0,.int .u64 b),(1,i6 length)] [] ?_
 obtain⟨ai,h1,hm⟩:=af hm
 rcases az hm with⟨c1,hm⟩|⟨c1,hm⟩
 ·obtain⟨aL,h2,hm⟩:=af hm
  refine qS [(1,hro (lE h1) aeW),(2,hto (bE c1)),(5,hro (aab h2) ayT)] [(4,.bool (decide (aS .andNot .u64 b aL=0)))] [] ?_
  cases hm
  exact A.ret qE
 refine qS [(1,hro (lE h1) aeW),(2,hto (bE c1))] [(4,.bool false)] [] ?_
 cases hm
 exact A.ret qE
theorem bI{n:Int}{most:Int}(hm:gb n most=some r):RO prog 91 [] [i6 n,i6 most] (.bool r):=by
 refine bf func91 rfl rfl ?_
 unfold gb at hm
 refine qS [] [(0,i6 n),(1,i6 most)] []<|A.mid [(4,.bool ((decide (0≤n))&&(decide (n≤most))))] [] (λhk=>?_) ?_
 ·rcases tf (decide (0≤n))with c1|c1
  ·exact qS [(2,hto (bE c1)),(7,hto (mh (q:=decide (n≤most)) c1))] _ _ hk
  exact qS [(2,hto (bE c1)),(7,hto (nk (q:=decide (n≤most)) c1))] _ _ hk
 cases hm
 exact A.ret qE
variable {p:aT}
theorem zf(hm:mG p=some r):RO prog 55 [] [.agg (k10 p)] (.bool r):=by
 refine bf func55 rfl rfl ?_
 unfold mG at hm
 refine qS [(0,.al 55001)] [(1,.ptr 55001 0)] [(55001,.cells 36 (k10 p))] ?_
 rcases az hm with⟨c1,hm⟩|⟨c1,hm⟩
 ·rcases az hm with⟨c2,hm⟩|⟨c2,hm⟩
  ·obtain⟨ai,h1,hm⟩:=af hm
   rcases az hm with⟨c3,hm⟩|⟨c3,hm⟩
   ·obtain⟨aL,h2,hm⟩:=af hm
    rcases az hm with⟨c4,hm⟩|⟨c4,hm⟩
    ·obtain⟨aV,h3,hm⟩:=af hm
     rcases az hm with⟨c5,hm⟩|⟨c5,hm⟩
     ·obtain⟨bz,h4,hm⟩:=af hm
      rcases az hm with⟨c6,hm⟩|⟨c6,hm⟩
      ·obtain⟨cq,h5,hm⟩:=af hm
       rcases az hm with⟨c7,hm⟩|⟨c7,hm⟩
       ·obtain⟨cH,h6,hm⟩:=af hm
        rcases az hm with⟨c8,hm⟩|⟨c8,hm⟩
        ·obtain⟨bZ,h7,hm⟩:=af hm
         rcases az hm with⟨c9,hm⟩|⟨c9,hm⟩
         ·refine qS [(3,hto (bE c1)),(8,hto (bE c2)),(11,hro (bI h1) ia),(13,hto (bE c3)),(16,hro (bI h2) ia),(18,hto (bE c4)),(23,hro (iP h3) aaJ),(25,hto (bE c5)),(28,hro (bI h4) ia),(30,hto (bE c6)),(33,hro (bI h5) ia),(35,hto (bE c7)),(38,hro (bI h6) ia),(40,hto (bE c8)),(43,hro (bI h7) ia),(45,hto (bE c9))] [(2,.bool (decide ((p.cS.size:Int)≤(64:Int))))] [] ?_
          cases hm
          exact A.ret qE
         refine qS [(3,hto (bE c1)),(8,hto (bE c2)),(11,hro (bI h1) ia),(13,hto (bE c3)),(16,hro (bI h2) ia),(18,hto (bE c4)),(23,hro (iP h3) aaJ),(25,hto (bE c5)),(28,hro (bI h4) ia),(30,hto (bE c6)),(33,hro (bI h5) ia),(35,hto (bE c7)),(38,hro (bI h6) ia),(40,hto (bE c8)),(43,hro (bI h7) ia),(45,hto (bE c9))] [(2,.bool false)] [] ?_
         cases hm
         exact A.ret qE
        refine qS [(3,hto (bE c1)),(8,hto (bE c2)),(11,hro (bI h1) ia),(13,hto (bE c3)),(16,hro (bI h2) ia),(18,hto (bE c4)),(23,hro (iP h3) aaJ),(25,hto (bE c5)),(28,hro (bI h4) ia),(30,hto (bE c6)),(33,hro (bI h5) ia),(35,hto (bE c7)),(38,hro (bI h6) ia),(40,hto (bE c8))] [(2,.bool false)] [] ?_
        cases hm
        exact A.ret qE
       refine qS [(3,hto (bE c1)),(8,hto (bE c2)),(11,hro (bI h1) ia),(13,hto (bE c3)),(16,hro (bI h2) ia),(18,hto (bE c4)),(23,hro (iP h3) aaJ),(25,hto (bE c5)),(28,hro (bI h4) ia),(30,hto (bE c6)),(33,hro (bI h5) ia),(35,hto (bE c7))] [(2,.bool false)] [] ?_
       cases hm
       exact A.ret qE
      refine qS [(3,hto (bE c1)),(8,hto (bE c2)),(11,hro (bI h1) ia),(13,hto (bE c3)),(16,hro (bI h2) ia),(18,hto (bE c4)),(23,hro (iP h3) aaJ),(25,hto (bE c5)),(28,hro (bI h4) ia),(30,hto (bE c6))] [(2,.bool false)] [] ?_
      cases hm
      exact A.ret qE
     refine qS [(3,hto (bE c1)),(8,hto (bE c2)),(11,hro (bI h1) ia),(13,hto (bE c3)),(16,hro (bI h2) ia),(18,hto (bE c4)),(23,hro (iP h3) aaJ),(25,hto (bE c5))] [(2,.bool false)] [] ?_
     cases hm
     exact A.ret qE
    refine qS [(3,hto (bE c1)),(8,hto (bE c2)),(11,hro (bI h1) ia),(13,hto (bE c3)),(16,hro (bI h2) ia),(18,hto (bE c4))] [(2,.bool false)] [] ?_
    cases hm
    exact A.ret qE
   refine qS [(3,hto (bE c1)),(8,hto (bE c2)),(11,hro (bI h1) ia),(13,hto (bE c3))] [(2,.bool false)] [] ?_
   cases hm
   exact A.ret qE
  refine qS [(3,hto (bE c1)),(8,hto (bE c2))] [(2,.bool false)] [] ?_
  cases hm
  exact A.ret qE
 refine qS [(3,hto (bE c1))] [(2,.bool false)] [] ?_
 cases hm
 exact A.ret qE
theorem wA{e:aK}{r:Int}(hm:j8 e p=some r):RO prog 56 [] [.agg (k7 e),.agg (k10 p)] (i6 r):=by
 refine bf func56 rfl rfl ?_
 unfold j8 at hm
 refine qS [(0,.al 56002),(1,.al 56003)] [(2,.ptr 56002 0),(3,.ptr 56003 0)] [(56002,.cells 32 (k7 e)),(56003,.cells 36 (k10 p))]<|A.seq<|qDs [] [] [(7,.bool (!decide (p.Mode=2)))] ?_
 rcases az hm with⟨c1,hm⟩|⟨c1,hm⟩
 ·refine qT c1<|qS [] [(4,i6 7)] [] ?_
  cases hm
  exact A.ret qE
 refine qF c1<|A.skip ?_
 show ah _ _ _ _ _
 refine A.seq<|qS [] [(12,.bool (!decide (p.Length=e.Length)))] [] ?_
 rcases az hm with⟨c2,hm⟩|⟨c2,hm⟩
 ·refine qT c2<|qS [] [(4,i6 8)] [] ?_
  cases hm
  exact A.ret qE
 refine qF c2<|A.skip ?_
 show ah _ _ _ _ _
 refine qS [] [(4,i6 0)] [] ?_
 cases hm
 exact A.ret qE
theorem xq{e:aK}{aY:Int}{r:bQ×Int}(hm:jr e aY p=some r):RO prog 14 [] [.agg (k7 e),i6 aY,.agg (k10 p)] (.tup [.agg (k12 r.1),i6 r.2]):=by
 refine bf func14 rfl rfl ?_
 unfold jr at hm
 refine qS [(0,.al 14003),(1,.al 14005),(2,.al 14006)] [(1,i6 aY),(3,.ptr 14003 0),(5,.ptr 14005 0),(6,.ptr 14006 0)] [(14003,.cells 32 (k7 e)),(14005,.cells 36 (k10 p)),(14006,.cells 46 [.int .u64 (0:Int),.int .u64 (0:Int),.aU])]<|A.seq ?_
 obtain⟨J1,hJ1,hm⟩:=cg hm
 refine A.J (J:=J1) (r:=r) (λv_1=>[(1,i6 aY),(3,.ptr 14003 0),(5,.ptr 14005 0),(6,.ptr 14006 0),(22,.bool v_1)]) (λv_1=>[(14003,.cells 32 (k7 e)),(14005,.cells 36 (k10 p)),(14006,.cells 46 [.int .u64 (0:Int),.int .u64 (0:Int),.aU])]) ?_ ?_
 ·obtain⟨ai,h1,hm⟩:=af hm
  rcases az hm with⟨c1,hm⟩|⟨c1,hm⟩
  ·exact qGs [(1,hro (iH h1) acC),(3,hto (bE c1))] [] [(22,.bool true)]<|qX true hm
  obtain⟨aL,h2,hm⟩:=af hm
  exact qGs [(1,hro (iH h1) acC),(3,hto (bE c1)),(5,hro (zf h2) ck55)] [] [(22,.bool (!aL))]<|qX (!aL) hm
 rintro v_1 hm
 rw[hJ1]at hm
 rcases az hm with⟨c2,hm⟩|⟨c2,hm⟩
 ·refine qT c2<|qD [] [1,3,5,22] [(7,i6 1)] [14003,14005] [] ?_
  cases hm
  exact A.ret qE
 refine qF c2<|A.skip ?_
 show ah _ _ _ _ _
 refine A.seq ?_
 obtain⟨aV,h3,hm⟩:=af hm
 refine qDs [(2,hro (wA h3) ck56)] [22] [(8,i6 aV)]<|qDs [] [] [(28,.bool (!decide (aV=0)))] ?_
 rcases az hm with⟨c3,hm⟩|⟨c3,hm⟩
 ·refine qT c3<|qD [] [1,3,5,8,28] [(7,i6 aV)] [14003,14005] [] ?_
  cases hm
  exact A.ret qE
 refine qF c3<|A.skip ?_
 show ah _ _ _ _ _
 refine qD [(0,.al 14009)] [8,28] [(9,.ptr 14009 0)] [] [(14009,.cells 46 [.int .u64 (0:Int),.int .u64 (0:Int),.aU])] ?_
 obtain⟨bz,h4,hm⟩:=af hm
 refine qDs [(4,hro (aaK h4) ck57)] [] [(10,.int .u64 (aS .andNot .u64 p.Bits bz))]<|A.seq<|qD [(2,hto (lnE ak e.List))] [3] [(38,lf ak e.List),(39,i6 (e.List.length:Int)),(40,i6 0)] [14003] []<|A.block<|A.bS 38 rfl λhb1=>?_
 obtain⟨B1,K1,hB1,hK1,hm⟩:=bn hm
 refine A.lpI (l:=e.List) (j0:=0) (B:=B1) (K:=K1) hm (λj1=>λ(m_1,m_2,m_3)=>[(1,i6 aY),(5,.ptr 14005 0),(6,.ptr 14006 0),(9,.ptr 14009 0),(10,.int .u64 (aS .andNot .u64 p.Bits bz)),(38,lf ak e.List),(39,i6 (e.List.length:Int)),(40,i6 (j1:Int))]) (λj1=>λ(m_1,m_2,m_3)=>[(14005,.cells 36 (k10 p)),(14006,.cells 46 [.int .u64 (0:Int),.int .u64 (0:Int),.aU]),(14009,.cells 46 [.int .u64 m_1,.int .u64 m_2,.own 701400902]),(701400902,.slice 54 12 (ml cm m_3) 0 false)]) ?_ ?_ ?_
 ·exact bq.go [.ac 14009 701400902 54 12 2] [] (by kernel_rfl)
 ·rintro j1 e1 Z1 ⟨m_1,m_2,m_3⟩ hj1 hx1 hm
  rw[hB1]at hm
  refine qDs [] [] [(41,.bool (decide ((j1:Int)<(e.List.length:Int))))]<|A.seq<|qT (ltT hx1)<|A.skip ?_
  show ah _ _ _ _ _
  obtain⟨J2,hJ2,hm⟩:=cg hm
  refine A.J (J:=J2) (r:=r) (λ(m_4,m_5,m_6)=>[(1,i6 aY),(5,.ptr 14005 0),(6,.ptr 14006 0),(9,.ptr 14009 0),(10,.int .u64 (aS .andNot .u64 p.Bits bz)),(38,lf ak e.List),(39,i6 (e.List.length:Int)),(40,i6 (j1:Int))]) (λ(m_4,m_5,m_6)=>[(14005,.cells 36 (k10 p)),(14006,.cells 46 [.int .u64 (0:Int),.int .u64 (0:Int),.aU]),(14009,.cells 46 [.int .u64 m_4,.int .u64 m_5,.own 701400902]),(701400902,.slice 54 12 (ml cm m_6) 0 false)]) ?_ ?_
  ·refine A.block<|qD [(0,hix (ix ak (bH hx1))),(2,.al 14012)] [41] [(12,.ptr 14012 0)] [] [(14012,.cells 38 (k5 e1))] ?_
   obtain⟨h5,hm⟩:=er hm
   refine qDs [(3,.sh (IntKind.wrap .u64 e1.Bit) (of_decide_eq_true h5))] [] [(13,.int .u64 (IntKind.wrap .u64 ((1:Int)*2 ^ min (IntKind.wrap .u64 e1.Bit).toNat 64)))]<|A.seq<|A.mid [(1,i6 aY),(5,.ptr 14005 0),(6,.ptr 14006 0),(9,.ptr 14009 0),(10,.int .u64 (aS .andNot .u64 p.Bits bz)),(38,lf ak e.List),(39,i6 (e.List.length:Int)),(40,i6 (j1:Int)),(12,.ptr 14012 0),(13,.int .u64 (IntKind.wrap .u64 ((1:Int)*2 ^ min (IntKind.wrap .u64 e1.Bit).toNat 64))),(58,.bool ((!decide (e1.bx=aY))||(decide (aS .and .u64 p.Bits (IntKind.wrap .u64 ((1:Int)*2 ^ min (IntKind.wrap .u64 e1.Bit).toNat 64))=(0:Int)))))] [(14005,.cells 36 (k10 p)),(14006,.cells 46 [.int .u64 (0:Int),.int .u64 (0:Int),.aU]),(14009,.cells 46 [.int .u64 m_1,.int .u64 m_2,.own 701400902]),(701400902,.slice 54 12 (ml cm m_3) 0 false),(14012,.cells 38 (k5 e1))] (λhk=>?_) ?_
   ·rcases tf (!decide (e1.bx=aY))with c4|c4
    ·exact qS [(4,hto (bE c4)),(10,hto (orT (q:=decide (aS .and .u64 p.Bits (IntKind.wrap .u64 ((1:Int)*2 ^ min (IntKind.wrap .u64 e1.Bit).toNat 64))=(0:Int))) c4))] _ _ hk
    exact qS [(4,hto (bE c4)),(10,hto (orF (q:=decide (aS .and .u64 p.Bits (IntKind.wrap .u64 ((1:Int)*2 ^ min (IntKind.wrap .u64 e1.Bit).toNat 64))=(0:Int))) c4))] _ _ hk
   rcases az hm with⟨c5,hm⟩|⟨c5,hm⟩
   ·exact qT c5<|A.exit<|qX (m_1,m_2,m_3) hm
   refine qF c5<|A.skip ?_
   show ah _ _ _ _ _
   refine A.block<|qDs [] [58] [(59,.bool (decide (e1.Kind=3)))] ?_
   rcases az hm with⟨c6,hm⟩|⟨c6,hm⟩
   ·exact qT c6<|qG [] [12,13,59] [] [14009,14012] [(14009,.cells 46 [.int .u64 (aS .or .u64 m_1 (IntKind.wrap .u64 ((1:Int)*2 ^ min (IntKind.wrap .u64 e1.Bit).toNat 64))),.int .u64 m_2,.own 701400902])]<|qX (aS .or .u64 m_1 (IntKind.wrap .u64 ((1:Int)*2 ^ min (IntKind.wrap .u64 e1.Bit).toNat 64)),m_2,m_3) hm
   refine qF c6<|qDs [] [59] [(68,.bool (decide (p.TTL=0)))] ?_
   rcases az hm with⟨c7,hm⟩|⟨c7,hm⟩
   ·exact qT c7<|qG [] [12,13,68] [] [14009,14012] [(14009,.cells 46 [.int .u64 m_1,.int .u64 (aS .or .u64 m_2 (IntKind.wrap .u64 ((1:Int)*2 ^ min (IntKind.wrap .u64 e1.Bit).toNat 64))),.own 701400902])]<|qX (m_1,aS .or .u64 m_2 (IntKind.wrap .u64 ((1:Int)*2 ^ min (IntKind.wrap .u64 e1.Bit).toNat 64)),m_3) hm
   refine qF c7<|qDs [] [13,68] [(77,.bool (!decide (aS .andNot .u64 p.Bits bz=0)))] ?_
   rcases az hm with⟨c8,hm⟩|⟨c8,hm⟩
   ·refine qT c8<|qD [(5,.al 14014)] [77] [(14,.ptr 14014 0)] [] [(14014,.cells 54 [i6 e1.To,.aU,i6 p.Mode,i6 p.cA,i6 p.Set,i6 p.Length,i6 p.TTL,i6 p.cZ,i6 p.de,i6 p.eE,.int .u64 p.Bits,.str p.cS])]<|qD [] [] [] [14014] [(14014,.cells 54 [i6 e1.To,.aU,i6 p.Mode,i6 p.cA,i6 p.Set,i6 p.Length,i6 p.TTL,i6 p.cZ,i6 p.de,i6 p.eE,.int .u64 (aS .andNot .u64 p.Bits bz),.str p.cS])]<|qD [] [] [] [14014] [(14014,.cells 54 [i6 e1.To,.aU,i6 p.Mode,i6 p.cA,i6 p.Set,i6 p.Length,i6 (w64 (p.TTL-1)),i6 p.cZ,i6 p.de,i6 p.eE,.int .u64 (aS .andNot .u64 p.Bits bz),.str p.cS])] ?_
    obtain⟨J3,hJ3,hm⟩:=cg hm
    refine A.J (J:=J3) (r:=r) (λm_7=>[(1,i6 aY),(5,.ptr 14005 0),(6,.ptr 14006 0),(9,.ptr 14009 0),(10,.int .u64 (aS .andNot .u64 p.Bits bz)),(14,.ptr 14014 0),(38,lf ak e.List),(39,i6 (e.List.length:Int)),(40,i6 (j1:Int))]) (λm_7=>[(14005,.cells 36 (k10 p)),(14006,.cells 46 [.int .u64 (0:Int),.int .u64 (0:Int),.aU]),(14009,.cells 46 [.int .u64 m_1,.int .u64 m_2,.own 701400902]),(701400902,.slice 54 12 (ml cm m_3) 0 false),(14014,.cells 54 [i6 e1.To,.own 701401401,i6 p.Mode,i6 p.cA,i6 p.Set,i6 p.Length,i6 (w64 (p.TTL-1)),i6 p.cZ,i6 p.de,i6 p.eE,.int .u64 (aS .andNot .u64 p.Bits bz),.str p.cS]),(701401401,.slice 3 1 (ml aF m_7) 0 false)]) ?_ ?_
    ·refine qDs [] [] [(99,.bool (decide (e1.Kind=2)))] ?_
     rcases az hm with⟨c9,hm⟩|⟨c9,hm⟩
     ·exact qT c9<|qG [(2,.al 14102)] [12,99] [] [14012,14014] [(14014,.cells 54 [i6 e1.To,.own 14102,i6 p.Mode,i6 p.cA,i6 p.Set,i6 p.Length,i6 (w64 (p.TTL-1)),i6 p.cZ,i6 p.de,i6 p.eE,.int .u64 (aS .andNot .u64 p.Bits bz),.str p.cS]),(14102,.slice 3 1 (ml aF ([e1.To]:List Int)) 0 false)]<|Exists.intro ([e1.To]:List Int) (And.intro hm (bq.go [.sw 14102 701401401] [] (by kernel_rfl)))
     exact qF c9<|A.skip<|Exists.intro [] (And.intro hm (bq.go [.ac 14014 701401401 3 1 1] [] (by kernel_rfl)))
    rintro m_7 hm
    rw[hJ3]at hm
    obtain⟨l_1,h6,hm⟩:=af hm
    exact A.R W0 [.fz [701401401],.sc 14014 [14005,14006,14009,701400902,14014]] [(4,hap 14609 (ap cm (bytes:=120) (by decide) h6))] [(1,i6 aY),(5,.ptr 14005 0),(6,.ptr 14006 0),(9,.ptr 14009 0),(10,.int .u64 (aS .andNot .u64 p.Bits bz)),(38,lf ak e.List),(39,i6 (e.List.length:Int)),(40,i6 (j1:Int))] [(14005,.cells 36 (k10 p)),(14006,.cells 46 [.int .u64 (0:Int),.int .u64 (0:Int),.aU]),(14009,.cells 46 [.int .u64 m_1,.int .u64 m_2,.own 14609]),(14609,.slice 54 12 (ml cm l_1) 0 false)] (by kernel_rfl)<|Exists.intro (m_1,m_2,l_1) (And.intro hm (bq.go [.sw 14609 701400902] [] (by kernel_rfl)))
   exact qF c8<|A.skip<|qX (m_1,m_2,m_3) hm
  rintro⟨m_4,m_5,m_6⟩ hm
  rw[hJ2]at hm
  exact qGs [(0,hto (inc hx1 hb1))] [40] [(40,i6 ((j1+1:Nat):Int))]<|qX (m_4,m_5,m_6) hm
 rintro j1 ⟨m_1,m_2,m_3⟩ hj1 hl1 hm
 rw[hK1]at hm
 refine qDs [] [] [(41,.bool (decide ((j1:Int)<(e.List.length:Int))))]<|A.seq<|qF (ltF hl1)<|A.exit ?_
 show ah _ _ _ _ _
 refine qD [] [1,5,9,10,38,39,40,41] [(7,i6 0)] [14005,14006,14009] [(14006,.cells 46 [.int .u64 m_1,.int .u64 m_2,.own 701400902])]<|A.ret ?_
 obtain rfl:=some_inj hm
 exact A.fin W0 [.fz [701400902]] rfl (by kernel_rfl)
theorem uD{a:bQ}{b:bQ}(hm:fM a b=some r):RO prog 17 [] [.agg (k12 a),.agg (k12 b)] (.bool r):=by
 refine bf func17 rfl rfl ?_
 unfold fM at hm
 refine qS [(0,.al 17002),(1,.al 17003)] [(2,.ptr 17002 0),(3,.ptr 17003 0)] [(17002,.cells 46 (k12 a)),(17003,.cells 46 (k12 b))]<|A.seq<|A.mid [(2,.ptr 17002 0),(3,.ptr 17003 0),(29,.bool ((!decide (a.Local=b.Local))||((!decide (a.lQ=b.lQ))||(!decide ((a.bu.length:Int)=(b.bu.length:Int))))))] [(17002,.cells 46 (k12 a)),(17003,.cells 46 (k12 b))] (λhk=>?_) ?_
 ·rcases tf (!decide (a.Local=b.Local))with c1|c1
  ·exact qS [(5,hto (bE c1)),(20,hto (orT (q:=((!decide (a.lQ=b.lQ))||(!decide ((a.bu.length:Int)=(b.bu.length:Int))))) c1))] _ _ hk
  rcases tf (!decide (a.lQ=b.lQ))with c2|c2
  ·exact qS [(5,hto (bE c1)),(12,hto (bE c2)),(20,hto ((orT (q:=!decide ((a.bu.length:Int)=(b.bu.length:Int))) c2).trans (orF (q:=((!decide (a.lQ=b.lQ))||(!decide ((a.bu.length:Int)=(b.bu.length:Int))))) c1)))] _ _ hk
  exact qS [(5,hto (bE c1)),(12,hto (bE c2)),(15,hto (lnE cm a.bu)),(18,hto (lnE cm b.bu)),(20,hto ((orF (q:=!decide ((a.bu.length:Int)=(b.bu.length:Int))) c2).trans (orF (q:=((!decide (a.lQ=b.lQ))||(!decide ((a.bu.length:Int)=(b.bu.length:Int))))) c1)))] _ _ hk
 rcases az hm with⟨c3,hm⟩|⟨c3,hm⟩
 ·refine qT c3<|qS [] [(4,.bool false)] [] ?_
  cases hm
  exact A.ret qE
 refine qF c3<|A.skip ?_
 show ah _ _ _ _ _
 refine A.seq<|qDs [(2,hto (lnE cm a.bu))] [29] [(32,i6 (a.bu.length:Int)),(33,i6 0)] ?_
 refine A.block<|A.bC 2 2 rfl rfl rfl λhb1=>?_
 obtain⟨B1,K1,hB1,hK1,hm⟩:=bn hm
 refine A.lpI (l:=a.bu) (j0:=0) (B:=B1) (K:=K1) hm (λj1=>λ()=>[(2,.ptr 17002 0),(3,.ptr 17003 0),(32,i6 (a.bu.length:Int)),(33,i6 (j1:Int))]) (λj1=>λ()=>[(17002,.cells 46 (k12 a)),(17003,.cells 46 (k12 b))]) ?_ ?_ ?_
 ·exact qW
 ·rintro j1 e1 Z1 ⟨⟩ hj1 hx1 hm
  rw[hB1]at hm
  refine qDs [] [] [(34,.bool (decide ((j1:Int)<(a.bu.length:Int))))]<|A.seq<|qT (ltT hx1)<|A.skip ?_
  show ah _ _ _ _ _
  refine A.seq<|A.block ?_
  refine qDs [] [34] [(5,i6 (j1:Int))] ?_
  obtain⟨e_1,h1,hm⟩:=af hm
  refine qD [(3,hix (ix cm (bH hx1))),(8,hix (ix cm h1)),(10,.al 17006),(11,.al 17007)] [5] [(6,.ptr 17006 0),(7,.ptr 17007 0)] [] [(17006,.cells 54 (k11 e1)),(17007,.cells 54 (k11 e_1))]<|A.seq<|A.mid [(2,.ptr 17002 0),(3,.ptr 17003 0),(32,i6 (a.bu.length:Int)),(33,i6 (j1:Int)),(6,.ptr 17006 0),(7,.ptr 17007 0),(70,.bool ((!decide (e1.To=e_1.To))||((!(jO e1.Frame.aI e_1.Frame.aI))||(!decide ((e1.Frame.eF.length:Int)=(e_1.Frame.eF.length:Int))))))] [(17002,.cells 46 (k12 a)),(17003,.cells 46 (k12 b)),(17006,.cells 54 (k11 e1)),(17007,.cells 54 (k11 e_1))] (λhk=>?_) ?_
  ·rcases tf (!decide (e1.To=e_1.To))with c4|c4
   ·exact qS [(5,hto (bE c4)),(24,hto (orT (q:=((!(jO e1.Frame.aI e_1.Frame.aI))||(!decide ((e1.Frame.eF.length:Int)=(e_1.Frame.eF.length:Int))))) c4))] _ _ hk
   rcases tf (!(jO e1.Frame.aI e_1.Frame.aI))with c5|c5
   ·exact qS [(5,hto (bE c4)),(12,.sq true 36 (.agg (k10 e1.Frame.aI)) (.agg (k10 e_1.Frame.aI)) (!(jO e1.Frame.aI e_1.Frame.aI)) (λx y w=>acj x y _ _ _ _ _ _ _ _ _ _ _ _ _ _ _ _ _ _ _ _ w)),(14,hto (bE c5)),(24,hto ((orT (q:=!decide ((e1.Frame.eF.length:Int)=(e_1.Frame.eF.length:Int))) c5).trans (orF (q:=((!(jO e1.Frame.aI e_1.Frame.aI))||(!decide ((e1.Frame.eF.length:Int)=(e_1.Frame.eF.length:Int))))) c4)))] _ _ hk
   exact qS [(5,hto (bE c4)),(12,.sq true 36 (.agg (k10 e1.Frame.aI)) (.agg (k10 e_1.Frame.aI)) (!(jO e1.Frame.aI e_1.Frame.aI)) (λx y w=>acj x y _ _ _ _ _ _ _ _ _ _ _ _ _ _ _ _ _ _ _ _ w)),(14,hto (bE c5)),(18,hto (lnE aF e1.Frame.eF)),(22,hto (lnE aF e_1.Frame.eF)),(24,hto ((orF (q:=!decide ((e1.Frame.eF.length:Int)=(e_1.Frame.eF.length:Int))) c5).trans (orF (q:=((!(jO e1.Frame.aI e_1.Frame.aI))||(!decide ((e1.Frame.eF.length:Int)=(e_1.Frame.eF.length:Int))))) c4)))] _ _ hk
  rcases az hm with⟨c6,hm⟩|⟨c6,hm⟩
  ·refine qT c6<|qS [] [(4,.bool false)] [] ?_
   cases hm
   exact A.ret qE
  refine qF c6<|A.skip ?_
  show ah _ _ _ _ _
  refine qDs [(3,hto (lnE aF e1.Frame.eF))] [70] [(74,i6 (e1.Frame.eF.length:Int)),(75,i6 0)]<|A.block<|A.bC 6 1 rfl rfl rfl λhb2=>?_
  obtain⟨B2,K2,hB2,hK2,hm⟩:=bn hm
  refine A.lpI (l:=e1.Frame.eF) (j0:=0) (B:=B2) (K:=K2) hm (λj2=>λ()=>[(2,.ptr 17002 0),(3,.ptr 17003 0),(6,.ptr 17006 0),(7,.ptr 17007 0),(32,i6 (a.bu.length:Int)),(33,i6 (j1:Int)),(74,i6 (e1.Frame.eF.length:Int)),(75,i6 (j2:Int))]) (λj2=>λ()=>[(17002,.cells 46 (k12 a)),(17003,.cells 46 (k12 b)),(17006,.cells 54 (k11 e1)),(17007,.cells 54 (k11 e_1))]) ?_ ?_ ?_
  ·exact qW
  ·rintro j2 e2 Z2 ⟨⟩ hj2 hx2 hm
   rw[hB2]at hm
   refine qDs [] [] [(76,.bool (decide ((j2:Int)<(e1.Frame.eF.length:Int))))]<|A.seq<|qT (ltT hx2)<|A.skip ?_
   show ah _ _ _ _ _
   refine A.seq<|A.block ?_
   refine qDs [] [76] [(8,i6 (j2:Int))] ?_
   obtain⟨e_2,h2,hm⟩:=af hm
   refine qDs [(4,hix (ix aF (bH hx2))),(10,hix (ix aF h2))] [8] [(90,.bool (!decide (e2=e_2)))] ?_
   rcases az hm with⟨c7,hm⟩|⟨c7,hm⟩
   ·refine qT c7<|qS [] [(4,.bool false)] [] ?_
    cases hm
    exact A.ret qE
   refine qF c7<|A.skip ?_
   show ah _ _ _ _ _
   exact qGs [(0,hto (inc hx2 hb2))] [75,90] [(75,i6 ((j2+1:Nat):Int))]<|qX () hm
  rintro j2 ⟨⟩ hj2 hl2 hm
  rw[hK2]at hm
  refine qDs [] [] [(76,.bool (decide ((j2:Int)<(e1.Frame.eF.length:Int))))]<|A.seq<|qF (ltF hl2)<|A.exit ?_
  show ah _ _ _ _ _
  exact qG [(0,hto (inc hx1 hb1))] [6,7,33,74,75,76] [(33,i6 ((j1+1:Nat):Int))] [17006,17007] []<|qX () hm
 rintro j1 ⟨⟩ hj1 hl1 hm
 rw[hK1]at hm
 refine qDs [] [] [(34,.bool (decide ((j1:Int)<(a.bu.length:Int))))]<|A.seq<|qF (ltF hl1)<|A.exit ?_
 show ah _ _ _ _ _
 refine qS [] [(4,.bool true)] [] ?_
 cases hm
 exact A.ret qE
end Go.Proofs.YtdjeacigeegklaaGreat
