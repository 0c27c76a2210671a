/- The gn of dg of the program. No condition but bB aX stand in each. -/
import Derived.Test.YtdjeacigeegklaaGreatDA
import Derived.Test.YtdjeacigeegklaaGreatVJ
import Derived.Test.YtdjeacigeegklaaGreatV6
namespace Go.Proofs.YtdjeacigeegklaaGreat
open Go Go.Proofs.Tryz
set_option maxRecDepth 100000
set_option linter.all false
variable {r:Bool}
theorem bX{n:Int}{most:Int}(hm:iS n most=some r):RO prog 118 [] [i6 n,i6 most] (.bool r):=by
 refine bf func118 rfl rfl ?_
 unfold iS at hm
 refine qS [] [(0,i6 n),(1,i6 most)] []<|A.mid [(4,.bool ((decide (0≤n))&&(decide (n≤most))))] [] (λhk=>?_) ?_
 ·rcases tf (decide (0≤n))with c1|c1
  ·exact qS [(2,hto (bE c1)),(7,hto (mh (q:=decide (n≤most)) c1))] _ _ hk
  exact qS [(2,hto (bE c1)),(7,hto (nk (q:=decide (n≤most)) c1))] _ _ hk
 cases hm
 exact A.ret qE
variable {p:aT}
theorem yh(hm:l7 p=some r):RO prog 68 [] [.agg (k10 p)] (.bool r):=by
 refine bf func68 rfl rfl ?_
 unfold l7 at hm
 refine qS [(0,.al 68001)] [(1,.ptr 68001 0)] [(68001,.cells 36 (k10 p))] ?_
 rcases az hm with⟨c1,hm⟩|⟨c1,hm⟩
 ·rcases az hm with⟨c2,hm⟩|⟨c2,hm⟩
  ·obtain⟨ai,h1,hm⟩:=af hm
   rcases az hm with⟨c3,hm⟩|⟨c3,hm⟩
   ·obtain⟨aL,h2,hm⟩:=af hm
    rcases az hm with⟨c4,hm⟩|⟨c4,hm⟩
    ·obtain⟨aV,h3,hm⟩:=af hm
     rcases az hm with⟨c5,hm⟩|⟨c5,hm⟩
     ·obtain⟨bz,h4,hm⟩:=af hm
      rcases az hm with⟨c6,hm⟩|⟨c6,hm⟩
      ·obtain⟨cq,h5,hm⟩:=af hm
       rcases az hm with⟨c7,hm⟩|⟨c7,hm⟩
       ·obtain⟨cH,h6,hm⟩:=af hm
        rcases az hm with⟨c8,hm⟩|⟨c8,hm⟩
        ·obtain⟨bZ,h7,hm⟩:=af hm
         rcases az hm with⟨c9,hm⟩|⟨c9,hm⟩
         ·refine qS [(3,hto (bE c1)),(8,hto (bE c2)),(11,hro (bX h1) fO),(13,hto (bE c3)),(16,hro (bX h2) fO),(18,hto (bE c4)),(23,hro (iu h3) x5),(25,hto (bE c5)),(28,hro (bX h4) fO),(30,hto (bE c6)),(33,hro (bX h5) fO),(35,hto (bE c7)),(38,hro (bX h6) fO),(40,hto (bE c8)),(43,hro (bX h7) fO),(45,hto (bE c9))] [(2,.bool (decide ((p.cS.size:Int)≤(64:Int))))] [] ?_
          cases hm
          exact A.ret qE
         refine qS [(3,hto (bE c1)),(8,hto (bE c2)),(11,hro (bX h1) fO),(13,hto (bE c3)),(16,hro (bX h2) fO),(18,hto (bE c4)),(23,hro (iu h3) x5),(25,hto (bE c5)),(28,hro (bX h4) fO),(30,hto (bE c6)),(33,hro (bX h5) fO),(35,hto (bE c7)),(38,hro (bX h6) fO),(40,hto (bE c8)),(43,hro (bX h7) fO),(45,hto (bE c9))] [(2,.bool false)] [] ?_
         cases hm
         exact A.ret qE
        refine qS [(3,hto (bE c1)),(8,hto (bE c2)),(11,hro (bX h1) fO),(13,hto (bE c3)),(16,hro (bX h2) fO),(18,hto (bE c4)),(23,hro (iu h3) x5),(25,hto (bE c5)),(28,hro (bX h4) fO),(30,hto (bE c6)),(33,hro (bX h5) fO),(35,hto (bE c7)),(38,hro (bX h6) fO),(40,hto (bE c8))] [(2,.bool false)] [] ?_
        cases hm
        exact A.ret qE
       refine qS [(3,hto (bE c1)),(8,hto (bE c2)),(11,hro (bX h1) fO),(13,hto (bE c3)),(16,hro (bX h2) fO),(18,hto (bE c4)),(23,hro (iu h3) x5),(25,hto (bE c5)),(28,hro (bX h4) fO),(30,hto (bE c6)),(33,hro (bX h5) fO),(35,hto (bE c7))] [(2,.bool false)] [] ?_
       cases hm
       exact A.ret qE
      refine qS [(3,hto (bE c1)),(8,hto (bE c2)),(11,hro (bX h1) fO),(13,hto (bE c3)),(16,hro (bX h2) fO),(18,hto (bE c4)),(23,hro (iu h3) x5),(25,hto (bE c5)),(28,hro (bX h4) fO),(30,hto (bE c6))] [(2,.bool false)] [] ?_
      cases hm
      exact A.ret qE
     refine qS [(3,hto (bE c1)),(8,hto (bE c2)),(11,hro (bX h1) fO),(13,hto (bE c3)),(16,hro (bX h2) fO),(18,hto (bE c4)),(23,hro (iu h3) x5),(25,hto (bE c5))] [(2,.bool false)] [] ?_
     cases hm
     exact A.ret qE
    refine qS [(3,hto (bE c1)),(8,hto (bE c2)),(11,hro (bX h1) fO),(13,hto (bE c3)),(16,hro (bX h2) fO),(18,hto (bE c4))] [(2,.bool false)] [] ?_
    cases hm
    exact A.ret qE
   refine qS [(3,hto (bE c1)),(8,hto (bE c2)),(11,hro (bX h1) fO),(13,hto (bE c3))] [(2,.bool false)] [] ?_
   cases hm
   exact A.ret qE
  refine qS [(3,hto (bE c1)),(8,hto (bE c2))] [(2,.bool false)] [] ?_
  cases hm
  exact A.ret qE
 refine qS [(3,hto (bE c1))] [(2,.bool false)] [] ?_
 cases hm
 exact A.ret qE
theorem uY{e:aK}{r:Int}(hm:ji e p=some r):RO prog 71 [] [.agg (k7 e),.agg (k10 p)] (i6 r):=by
 refine bf func71 rfl rfl ?_
 unfold ji at hm
 refine qS [(0,.al 71002),(1,.al 71003)] [(2,.ptr 71002 0),(3,.ptr 71003 0)] [(71002,.cells 32 (k7 e)),(71003,.cells 36 (k10 p))]<|A.seq<|A.block<|qDs [] [] [(5,.bool (!decide (p.Mode=2)))] ?_
 rcases az hm with⟨c1,hm⟩|⟨c1,hm⟩
 ·refine qT c1<|qS [] [(4,i6 7)] [] ?_
  cases hm
  exact A.ret qE
 refine qF c1<|qS [] [(9,.bool (!decide (p.Length=e.Length)))] [] ?_
 rcases az hm with⟨c2,hm⟩|⟨c2,hm⟩
 ·refine qT c2<|qS [] [(4,i6 8)] [] ?_
  cases hm
  exact A.ret qE
 refine qF c2<|A.skip ?_
 show ah _ _ _ _ _
 refine qS [] [(4,i6 0)] [] ?_
 cases hm
 exact A.ret qE
variable {aY:Int}
theorem uB{e:aK}{r:bQ×(List cc)}(hm:iI e aY p=some r):RO prog 72 [] [.agg (k7 e),i6 aY,.agg (k10 p)] (.tup [.agg (k12 r.1),lf gj r.2]):=by
 refine bf func72 rfl rfl ?_
 unfold iI at hm
 refine qS [(0,.al 72003),(1,.al 72005),(2,.al 72006)] [(1,i6 aY),(3,.ptr 72003 0),(5,.ptr 72005 0),(6,.ptr 72006 0),(7,.aU)] [(72003,.cells 32 (k7 e)),(72005,.cells 36 (k10 p)),(72006,.cells 46 [.int .u64 (0:Int),.int .u64 (0:Int),.aU])] ?_
 obtain⟨ai,h1,hm⟩:=af hm
 refine qDs [(4,hro (qV h1) alO)] [] [(8,.int .u64 (aS .andNot .u64 p.Bits ai))]<|A.seq<|qD [(2,hto (lnE ak e.List))] [3] [(20,lf ak e.List),(21,i6 (e.List.length:Int)),(22,i6 0)] [72003] []<|A.block<|A.bS 20 rfl λhb1=>?_
 obtain⟨B1,K1,hB1,hK1,hm⟩:=bn hm
 refine A.lpI (l:=e.List) (j0:=0) (B:=B1) (K:=K1) hm (λj1=>λ(gr,m_1,m_2,m_3)=>[(1,i6 aY),(5,.ptr 72005 0),(6,.ptr 72006 0),(7,.own 600072007),(8,.int .u64 (aS .andNot .u64 p.Bits ai)),(20,lf ak e.List),(21,i6 (e.List.length:Int)),(22,i6 (j1:Int))]) (λj1=>λ(gr,m_1,m_2,m_3)=>[(72005,.cells 36 (k10 p)),(72006,.cells 46 [.int .u64 m_1,.int .u64 m_2,.own 707200602]),(600072007,.slice 143 16 (ml gj gr) 0 false),(707200602,.slice 54 12 (ml cm m_3) 0 false)]) ?_ ?_ ?_
 ·exact bq.go [.ad 7 600072007 143 16,.ac 72006 707200602 54 12 2] [] (by kernel_rfl)
 ·rintro j1 e1 Z1 ⟨gr,m_1,m_2,m_3⟩ hj1 hx1 hm
  rw[hB1]at hm
  refine qDs [] [] [(23,.bool (decide ((j1:Int)<(e.List.length:Int))))]<|A.seq<|qT (ltT hx1)<|A.skip ?_
  show ah _ _ _ _ _
  obtain⟨J1,hJ1,hm⟩:=cg hm
  refine A.J (J:=J1) (r:=r) (λ(sI,m_4,m_5,m_6)=>[(1,i6 aY),(5,.ptr 72005 0),(6,.ptr 72006 0),(7,.own 600072007),(8,.int .u64 (aS .andNot .u64 p.Bits ai)),(20,lf ak e.List),(21,i6 (e.List.length:Int)),(22,i6 (j1:Int))]) (λ(sI,m_4,m_5,m_6)=>[(72005,.cells 36 (k10 p)),(72006,.cells 46 [.int .u64 m_4,.int .u64 m_5,.own 707200602]),(600072007,.slice 143 16 (ml gj sI) 0 false),(707200602,.slice 54 12 (ml cm m_6) 0 false)]) ?_ ?_
  ·refine A.block<|qD [(0,hix (ix ak (bH hx1))),(2,.al 72010)] [23] [(10,.ptr 72010 0)] [] [(72010,.cells 38 (k5 e1))] ?_
   obtain⟨h2,hm⟩:=er hm
   refine qDs [(2,.sh e1.Bit (of_decide_eq_true h2))] [] [(11,.int .u64 (IntKind.wrap .u64 ((1:Int)*2 ^ min e1.Bit.toNat 64)))]<|A.seq<|A.mid [(1,i6 aY),(5,.ptr 72005 0),(6,.ptr 72006 0),(7,.own 600072007),(8,.int .u64 (aS .andNot .u64 p.Bits ai)),(20,lf ak e.List),(21,i6 (e.List.length:Int)),(22,i6 (j1:Int)),(10,.ptr 72010 0),(11,.int .u64 (IntKind.wrap .u64 ((1:Int)*2 ^ min e1.Bit.toNat 64))),(39,.bool ((!decide (e1.bx=aY))||(decide (aS .and .u64 p.Bits (IntKind.wrap .u64 ((1:Int)*2 ^ min e1.Bit.toNat 64))=(0:Int)))))] [(72005,.cells 36 (k10 p)),(72006,.cells 46 [.int .u64 m_1,.int .u64 m_2,.own 707200602]),(600072007,.slice 143 16 (ml gj gr) 0 false),(707200602,.slice 54 12 (ml cm m_3) 0 false),(72010,.cells 38 (k5 e1))] (λhk=>?_) ?_
   ·rcases tf (!decide (e1.bx=aY))with c1|c1
    ·exact qS [(4,hto (bE c1)),(10,hto (orT (q:=decide (aS .and .u64 p.Bits (IntKind.wrap .u64 ((1:Int)*2 ^ min e1.Bit.toNat 64))=(0:Int))) c1))] _ _ hk
    exact qS [(4,hto (bE c1)),(10,hto (orF (q:=decide (aS .and .u64 p.Bits (IntKind.wrap .u64 ((1:Int)*2 ^ min e1.Bit.toNat 64))=(0:Int))) c1))] _ _ hk
   rcases az hm with⟨c2,hm⟩|⟨c2,hm⟩
   ·exact qT c2<|A.exit<|qX (gr,m_1,m_2,m_3) hm
   refine qF c2<|A.skip ?_
   show ah _ _ _ _ _
   refine A.block<|qDs [] [39] [(40,.bool (decide (e1.Kind=3)))] ?_
   rcases az hm with⟨c3,hm⟩|⟨c3,hm⟩
   ·exact qT c3<|qG [] [10,11,40] [] [72006,72010] [(72006,.cells 46 [.int .u64 (aS .or .u64 m_1 (IntKind.wrap .u64 ((1:Int)*2 ^ min e1.Bit.toNat 64))),.int .u64 m_2,.own 707200602])]<|qX (gr,aS .or .u64 m_1 (IntKind.wrap .u64 ((1:Int)*2 ^ min e1.Bit.toNat 64)),m_2,m_3) hm
   refine qF c3<|qDs [] [40] [(49,.bool (decide (p.TTL=0)))] ?_
   rcases az hm with⟨c4,hm⟩|⟨c4,hm⟩
   ·exact qT c4<|qG [] [10,11,49] [] [72006,72010] [(72006,.cells 46 [.int .u64 m_1,.int .u64 (aS .or .u64 m_2 (IntKind.wrap .u64 ((1:Int)*2 ^ min e1.Bit.toNat 64))),.own 707200602])]<|qX (gr,m_1,aS .or .u64 m_2 (IntKind.wrap .u64 ((1:Int)*2 ^ min e1.Bit.toNat 64)),m_3) hm
   refine qF c4<|qDs [] [11,49] [(58,.bool (!decide (aS .andNot .u64 p.Bits ai=0)))] ?_
   rcases az hm with⟨c5,hm⟩|⟨c5,hm⟩
   ·refine qT c5<|qD [(5,.al 72012)] [58] [(12,.ptr 72012 0)] [] [(72012,.cells 54 [i6 e1.To,.aU,i6 p.Mode,i6 p.cA,i6 p.Set,i6 p.Length,i6 p.TTL,i6 p.cZ,i6 p.de,i6 p.eE,.int .u64 p.Bits,.str p.cS])]<|qD [] [] [] [72012] [(72012,.cells 54 [i6 e1.To,.aU,i6 p.Mode,i6 p.cA,i6 p.Set,i6 p.Length,i6 (w64 (p.TTL-1)),i6 p.cZ,i6 p.de,i6 p.eE,.int .u64 (aS .andNot .u64 p.Bits ai),.str p.cS])] ?_
    obtain⟨J2,hJ2,hm⟩:=cg hm
    refine A.J (J:=J2) (r:=r) (λm_7=>[(1,i6 aY),(5,.ptr 72005 0),(6,.ptr 72006 0),(7,.own 600072007),(8,.int .u64 (aS .andNot .u64 p.Bits ai)),(10,.ptr 72010 0),(12,.ptr 72012 0),(20,lf ak e.List),(21,i6 (e.List.length:Int)),(22,i6 (j1:Int))]) (λm_7=>[(72005,.cells 36 (k10 p)),(72006,.cells 46 [.int .u64 m_1,.int .u64 m_2,.own 707200602]),(600072007,.slice 143 16 (ml gj gr) 0 false),(707200602,.slice 54 12 (ml cm m_3) 0 false),(72010,.cells 38 (k5 e1)),(72012,.cells 54 [i6 e1.To,.own 707201201,i6 p.Mode,i6 p.cA,i6 p.Set,i6 p.Length,i6 (w64 (p.TTL-1)),i6 p.cZ,i6 p.de,i6 p.eE,.int .u64 (aS .andNot .u64 p.Bits ai),.str p.cS]),(707201201,.slice 3 1 (ml aF m_7) 0 false)]) ?_ ?_
    ·refine qDs [] [] [(78,.bool (decide (e1.Kind=2)))] ?_
     rcases az hm with⟨c6,hm⟩|⟨c6,hm⟩
     ·exact qT c6<|qG [(2,.al 72081)] [78] [] [72012] [(72012,.cells 54 [i6 e1.To,.own 72081,i6 p.Mode,i6 p.cA,i6 p.Set,i6 p.Length,i6 (w64 (p.TTL-1)),i6 p.cZ,i6 p.de,i6 p.eE,.int .u64 (aS .andNot .u64 p.Bits ai),.str p.cS]),(72081,.slice 3 1 (ml aF ([e1.To]:List Int)) 0 false)]<|Exists.intro ([e1.To]:List Int) (And.intro hm (bq.go [.sw 72081 707201201] [] (by kernel_rfl)))
     exact qF c6<|A.skip<|Exists.intro [] (And.intro hm (bq.go [.ac 72012 707201201 3 1 1] [] (by kernel_rfl)))
    rintro m_7 hm
    rw[hJ2]at hm
    obtain⟨l_1,h3,hm⟩:=af hm
    obtain⟨l_2,h4,hm⟩:=af hm
    exact A.R W0 [.fz [707201201],.sc 72012 [72005,72006,600072007,707200602,72010,72012]] [(4,hap 72588 (ap cm (bytes:=120) (by decide) h3)),(10,hap 72594 (ap gj (bytes:=152) (by decide) h4))] [(1,i6 aY),(5,.ptr 72005 0),(6,.ptr 72006 0),(7,.own 72594),(8,.int .u64 (aS .andNot .u64 p.Bits ai)),(20,lf ak e.List),(21,i6 (e.List.length:Int)),(22,i6 (j1:Int))] [(72005,.cells 36 (k10 p)),(72006,.cells 46 [.int .u64 m_1,.int .u64 m_2,.own 72588]),(72588,.slice 54 12 (ml cm l_1) 0 false),(72594,.slice 143 16 (ml gj l_2) 0 false)] (by kernel_rfl)<|Exists.intro (l_2,m_1,m_2,l_1) (And.intro hm (bq.go [.sw 72594 600072007,.sw 72588 707200602] [] (by kernel_rfl)))
   exact qF c5<|A.skip<|qX (gr,m_1,m_2,m_3) hm
  rintro⟨sI,m_4,m_5,m_6⟩ hm
  rw[hJ1]at hm
  exact qGs [(0,hto (inc hx1 hb1))] [22] [(22,i6 ((j1+1:Nat):Int))]<|qX (sI,m_4,m_5,m_6) hm
 rintro j1 ⟨gr,m_1,m_2,m_3⟩ hj1 hl1 hm
 rw[hK1]at hm
 refine qDs [] [] [(23,.bool (decide ((j1:Int)<(e.List.length:Int))))]<|A.seq<|qF (ltF hl1)<|A.exit ?_
 show ah _ _ _ _ _
 refine qD [] [1,5,8,20,21,22,23] [] [72005] []<|A.ret ?_
 obtain rfl:=some_inj hm
 exact A.fin W0 [.fz [707200602,600072007]] rfl (by kernel_rfl)
theorem tT{e:aK}{r:bQ×Int}(hm:ij e aY p=some r):RO prog 35 [] [.agg (k7 e),i6 aY,.agg (k10 p)] (.tup [.agg (k12 r.1),i6 r.2]):=by
 refine bf func35 rfl rfl ?_
 unfold ij at hm
 refine qS [(0,.al 35003),(1,.al 35005),(2,.al 35006)] [(1,i6 aY),(3,.ptr 35003 0),(5,.ptr 35005 0),(6,.ptr 35006 0)] [(35003,.cells 32 (k7 e)),(35005,.cells 36 (k10 p)),(35006,.cells 46 [.int .u64 (0:Int),.int .u64 (0:Int),.aU])]<|A.seq ?_
 obtain⟨J1,hJ1,hm⟩:=cg hm
 refine A.J (J:=J1) (r:=r) (λv_1=>[(1,i6 aY),(3,.ptr 35003 0),(5,.ptr 35005 0),(6,.ptr 35006 0),(18,.bool v_1)]) (λv_1=>[(35003,.cells 32 (k7 e)),(35005,.cells 36 (k10 p)),(35006,.cells 46 [.int .u64 (0:Int),.int .u64 (0:Int),.aU])]) ?_ ?_
 ·obtain⟨ai,h1,hm⟩:=af hm
  rcases az hm with⟨c1,hm⟩|⟨c1,hm⟩
  ·exact qGs [(1,hro (gd h1) acD),(3,hto (bE c1))] [] [(18,.bool true)]<|qX true hm
  obtain⟨aL,h2,hm⟩:=af hm
  exact qGs [(1,hro (gd h1) acD),(3,hto (bE c1)),(5,hro (yh h2) ck68)] [] [(18,.bool (!aL))]<|qX (!aL) hm
 rintro v_1 hm
 rw[hJ1]at hm
 rcases az hm with⟨c2,hm⟩|⟨c2,hm⟩
 ·refine qT c2<|qD [] [1,3,5,18] [(7,i6 1)] [35003,35005] [] ?_
  cases hm
  exact A.ret qE
 refine qF c2<|A.skip ?_
 show ah _ _ _ _ _
 refine A.seq ?_
 obtain⟨aV,h3,hm⟩:=af hm
 refine qDs [(2,hro (uY h3) ck71)] [18] [(8,i6 aV)]<|qDs [] [] [(24,.bool (!decide (aV=0)))] ?_
 rcases az hm with⟨c3,hm⟩|⟨c3,hm⟩
 ·refine qT c3<|qD [] [1,3,5,8,24] [(7,i6 aV)] [35003,35005] [] ?_
  cases hm
  exact A.ret qE
 refine qF c3<|A.skip ?_
 show ah _ _ _ _ _
 obtain⟨bz,h4,hm⟩:=af hm
 refine qD [(3,hro (uB h4) ck72),(7,.al 35009)] [1,3,5,8,24] [(9,.ptr 35009 0)] [35003,35005] [(35009,.cells 46 (k12 bz.1))]<|qS [] [(6,.ptr 35006 0),(7,i6 0)] [(35006,.cells 46 (k12 bz.1))] ?_
 cases hm
 exact A.ret qE
end Go.Proofs.YtdjeacigeegklaaGreat
