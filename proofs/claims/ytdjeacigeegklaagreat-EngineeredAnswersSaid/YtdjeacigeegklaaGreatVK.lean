/- The iy of ec of the program. No condition but bU bx stand in each. -/
import Derived.Test.YtdjeacigeegklaaGreatDA
import Derived.Test.YtdjeacigeegklaaGreatVJ
import Derived.Test.YtdjeacigeegklaaGreatV6
namespace Go.Proofs.YtdjeacigeegklaaGreat
open Go Go.Proofs.Tryz
set_option maxRecDepth 100000
set_option linter.all false
theorem cA{n:Int}{most:Int}{r:Bool}(hm:j9 n most=some r):RO prog 118 [] [i6 n,i6 most] (.bool r):=by
 refine bh func118 rfl rfl ?_
 unfold j9 at hm
 refine qS [] [(0,i6 n),(1,i6 most)] []<|A.mid [(4,.bool ((decide (0≤n))&&(decide (n≤most))))] [] (λhk=>?_) ?_
 ·rcases tf (decide (0≤n))with c1|c1
  ·exact qS [(2,hto (bE c1)),(7,hto (gR (q:=decide (n≤most)) c1))] _ _ hk
  exact qS [(2,hto (bE c1)),(7,hto (mc (q:=decide (n≤most)) c1))] _ _ hk
 cases hm
 exact A.ret qE
variable {p:aD}
theorem iu{r:Bool}(hm:iV p=some r):RO prog 68 [] [.agg (k10 p)] (.bool r):=by
 refine bh func68 rfl rfl ?_
 unfold iV at hm
 refine qS [(0,.al 68001)] [(1,.ptr 68001 0)] [(68001,.cells 36 (k10 p))] ?_
 rcases aj hm with⟨c1,hm⟩|⟨c1,hm⟩
 ·rcases aj hm with⟨c2,hm⟩|⟨c2,hm⟩
  ·obtain⟨ai,h1,hm⟩:=aa hm
   rcases aj hm with⟨c3,hm⟩|⟨c3,hm⟩
   ·obtain⟨aI,h2,hm⟩:=aa hm
    rcases aj hm with⟨c4,hm⟩|⟨c4,hm⟩
    ·obtain⟨bn,h3,hm⟩:=aa hm
     rcases aj hm with⟨c5,hm⟩|⟨c5,hm⟩
     ·obtain⟨bf,h4,hm⟩:=aa hm
      rcases aj hm with⟨c6,hm⟩|⟨c6,hm⟩
      ·obtain⟨bO,h5,hm⟩:=aa hm
       rcases aj hm with⟨c7,hm⟩|⟨c7,hm⟩
       ·obtain⟨br,h6,hm⟩:=aa hm
        rcases aj hm with⟨c8,hm⟩|⟨c8,hm⟩
        ·obtain⟨cv,h7,hm⟩:=aa hm
         rcases aj hm with⟨c9,hm⟩|⟨c9,hm⟩
         ·refine qS [(3,hto (bE c1)),(8,hto (bE c2)),(11,hro (cA h1) gG),(13,hto (bE c3)),(16,hro (cA h2) gG),(18,hto (bE c4)),(23,hro (jx h3) zP),(25,hto (bE c5)),(28,hro (cA h4) gG),(30,hto (bE c6)),(33,hro (cA h5) gG),(35,hto (bE c7)),(38,hro (cA h6) gG),(40,hto (bE c8)),(43,hro (cA h7) gG),(45,hto (bE c9))] [(2,.bool (decide ((p.cm.size:Int)≤(64:Int))))] [] ?_
          cases hm
          exact A.ret qE
         refine qS [(3,hto (bE c1)),(8,hto (bE c2)),(11,hro (cA h1) gG),(13,hto (bE c3)),(16,hro (cA h2) gG),(18,hto (bE c4)),(23,hro (jx h3) zP),(25,hto (bE c5)),(28,hro (cA h4) gG),(30,hto (bE c6)),(33,hro (cA h5) gG),(35,hto (bE c7)),(38,hro (cA h6) gG),(40,hto (bE c8)),(43,hro (cA h7) gG),(45,hto (bE c9))] [(2,.bool false)] [] ?_
         cases hm
         exact A.ret qE
        refine qS [(3,hto (bE c1)),(8,hto (bE c2)),(11,hro (cA h1) gG),(13,hto (bE c3)),(16,hro (cA h2) gG),(18,hto (bE c4)),(23,hro (jx h3) zP),(25,hto (bE c5)),(28,hro (cA h4) gG),(30,hto (bE c6)),(33,hro (cA h5) gG),(35,hto (bE c7)),(38,hro (cA h6) gG),(40,hto (bE c8))] [(2,.bool false)] [] ?_
        cases hm
        exact A.ret qE
       refine qS [(3,hto (bE c1)),(8,hto (bE c2)),(11,hro (cA h1) gG),(13,hto (bE c3)),(16,hro (cA h2) gG),(18,hto (bE c4)),(23,hro (jx h3) zP),(25,hto (bE c5)),(28,hro (cA h4) gG),(30,hto (bE c6)),(33,hro (cA h5) gG),(35,hto (bE c7))] [(2,.bool false)] [] ?_
       cases hm
       exact A.ret qE
      refine qS [(3,hto (bE c1)),(8,hto (bE c2)),(11,hro (cA h1) gG),(13,hto (bE c3)),(16,hro (cA h2) gG),(18,hto (bE c4)),(23,hro (jx h3) zP),(25,hto (bE c5)),(28,hro (cA h4) gG),(30,hto (bE c6))] [(2,.bool false)] [] ?_
      cases hm
      exact A.ret qE
     refine qS [(3,hto (bE c1)),(8,hto (bE c2)),(11,hro (cA h1) gG),(13,hto (bE c3)),(16,hro (cA h2) gG),(18,hto (bE c4)),(23,hro (jx h3) zP),(25,hto (bE c5))] [(2,.bool false)] [] ?_
     cases hm
     exact A.ret qE
    refine qS [(3,hto (bE c1)),(8,hto (bE c2)),(11,hro (cA h1) gG),(13,hto (bE c3)),(16,hro (cA h2) gG),(18,hto (bE c4))] [(2,.bool false)] [] ?_
    cases hm
    exact A.ret qE
   refine qS [(3,hto (bE c1)),(8,hto (bE c2)),(11,hro (cA h1) gG),(13,hto (bE c3))] [(2,.bool false)] [] ?_
   cases hm
   exact A.ret qE
  refine qS [(3,hto (bE c1)),(8,hto (bE c2))] [(2,.bool false)] [] ?_
  cases hm
  exact A.ret qE
 refine qS [(3,hto (bE c1))] [(2,.bool false)] [] ?_
 cases hm
 exact A.ret qE
theorem aa1{bit:Int}{r:aD}(hm:mh p bit=some r):RO prog 73 [] [.agg (k10 p),i6 bit] (.agg (k10 r)):=by
 refine bh func73 rfl rfl ?_
 unfold mh at hm
 refine qS [(0,.al 73002),(1,.al 73004)] [(1,i6 bit),(2,.ptr 73002 0),(4,.ptr 73004 0)] [(73002,.cells 36 (k10 p)),(73004,.cells 36 [i6 0,i6 0,i6 0,i6 0,i6 0,i6 0,i6 0,i6 0,.int .u64 (0:Int),.str (⟨#[]⟩:ByteArray)])]<|A.seq ?_
 obtain⟨J1,hJ1,hm⟩:=bQ hm
 refine A.J (J:=J1) (r:=r) (λv_1=>[(1,i6 bit),(2,.ptr 73002 0),(4,.ptr 73004 0),(23,.bool v_1)]) (λv_1=>[(73002,.cells 36 (k10 p)),(73004,.cells 36 [i6 0,i6 0,i6 0,i6 0,i6 0,i6 0,i6 0,i6 0,.int .u64 (0:Int),.str (⟨#[]⟩:ByteArray)])]) ?_ ?_
 ·obtain⟨ai,h1,hm⟩:=aa hm
  rcases aj hm with⟨c1,hm⟩|⟨c1,hm⟩
  ·exact qGs [(1,hro (iu h1) aaW),(3,hto (bE c1))] [] [(23,.bool true)]<|qX true hm
  rcases aj hm with⟨c2,hm⟩|⟨c2,hm⟩
  ·exact qGs [(1,hro (iu h1) aaW),(3,hto (bE c1)),(7,hto (bE c2))] [] [(23,.bool true)]<|qX true hm
  rcases aj hm with⟨c3,hm⟩|⟨c3,hm⟩
  ·exact qGs [(1,hro (iu h1) aaW),(3,hto (bE c1)),(7,hto (bE c2)),(11,hto (bE c3))] [] [(23,.bool true)]<|qX true hm
  obtain⟨h2,hm⟩:=dY hm
  exact qGs [(1,hro (iu h1) aaW),(3,hto (bE c1)),(7,hto (bE c2)),(11,hto (bE c3)),(15,.sh bit (of_decide_eq_true h2))] [] [(23,.bool (decide (bB .and .u64 (Int.fdiv p.Bits (2 ^ min bit.toNat 64)) (1:Int)=(0:Int))))]<|qX (decide (bB .and .u64 (Int.fdiv p.Bits (2 ^ min bit.toNat 64)) (1:Int)=(0:Int))) hm
 rintro v_1 hm
 rw[hJ1]at hm
 rcases aj hm with⟨c4,hm⟩|⟨c4,hm⟩
 ·refine qT c4<|qD [] [1,2,23] [] [73002] [] ?_
  cases hm
  exact A.ret qE
 refine qF c4<|A.skip ?_
 show ah _ _ _ _ _
 obtain⟨h3,hm⟩:=dY hm
 refine qD [(1,.sh bit (of_decide_eq_true h3))] [1,23] [] [73002] [(73002,.cells 36 [i6 p.Mode,i6 p.bL,i6 p.Set,i6 p.Length,i6 p.TTL,i6 p.cn,i6 p.cq,i6 p.dg,.int .u64 (IntKind.wrap .u64 ((1:Int)*2 ^ min bit.toNat 64)),.str p.cm])]<|qS [] [(4,.ptr 73004 0)] [(73004,.cells 36 [i6 p.Mode,i6 p.bL,i6 p.Set,i6 p.Length,i6 p.TTL,i6 p.cn,i6 p.cq,i6 p.dg,.int .u64 (IntKind.wrap .u64 ((1:Int)*2 ^ min bit.toNat 64)),.str p.cm])] ?_
 cases hm
 exact A.ret qE
theorem rD{e:aG}{r:Int}(hm:iW e p=some r):RO prog 71 [] [.agg (k6 e),.agg (k10 p)] (i6 r):=by
 refine bh func71 rfl rfl ?_
 unfold iW at hm
 refine qS [(0,.al 71002),(1,.al 71003)] [(2,.ptr 71002 0),(3,.ptr 71003 0)] [(71002,.cells 32 (k6 e)),(71003,.cells 36 (k10 p))]<|A.seq<|A.block<|qDs [] [] [(5,.bool (!decide (p.Mode=2)))] ?_
 rcases aj hm with⟨c1,hm⟩|⟨c1,hm⟩
 ·refine qT c1<|qS [] [(4,i6 7)] [] ?_
  cases hm
  exact A.ret qE
 refine qF c1<|qS [] [(9,.bool (!decide (p.Length=e.Length)))] [] ?_
 rcases aj hm with⟨c2,hm⟩|⟨c2,hm⟩
 ·refine qT c2<|qS [] [(4,i6 8)] [] ?_
  cases hm
  exact A.ret qE
 refine qF c2<|A.skip ?_
 show ah _ _ _ _ _
 refine qS [] [(4,i6 0)] [] ?_
 cases hm
 exact A.ret qE
variable {aK:Int}
theorem qm{e:aG}{r:dz×(List bG)}(hm:iD e aK p=some r):RO prog 72 [] [.agg (k6 e),i6 aK,.agg (k10 p)] (.tup [.agg (k12 r.1),lf dx r.2]):=by
 refine bh func72 rfl rfl ?_
 unfold iD at hm
 refine qS [(0,.al 72003),(1,.al 72005),(2,.al 72006)] [(1,i6 aK),(3,.ptr 72003 0),(5,.ptr 72005 0),(6,.ptr 72006 0),(7,.aP)] [(72003,.cells 32 (k6 e)),(72005,.cells 36 (k10 p)),(72006,.cells 46 [.int .u64 (0:Int),.int .u64 (0:Int),.aP])] ?_
 obtain⟨ai,h1,hm⟩:=aa hm
 refine qDs [(4,hro (y4 h1) aAF)] [] [(8,.int .u64 (bB .andNot .u64 p.Bits ai))]<|A.seq<|qD [(2,hto (lnE ay e.List))] [3] [(20,lf ay e.List),(21,i6 (e.List.length:Int)),(22,i6 0)] [72003] []<|A.block<|A.bS 20 rfl λhb1=>?_
 obtain⟨B1,K1,hB1,hK1,hm⟩:=aX hm
 refine A.lpI (l:=e.List) (j0:=0) (B:=B1) (K:=K1) hm (λj1=>λ(iE,m_1,m_2,m_3)=>[(1,i6 aK),(5,.ptr 72005 0),(6,.ptr 72006 0),(7,.own 600072007),(8,.int .u64 (bB .andNot .u64 p.Bits ai)),(20,lf ay e.List),(21,i6 (e.List.length:Int)),(22,i6 (j1:Int))]) (λj1=>λ(iE,m_1,m_2,m_3)=>[(72005,.cells 36 (k10 p)),(72006,.cells 46 [.int .u64 m_1,.int .u64 m_2,.own 707200602]),(600072007,.slice 143 16 (ml dx iE) 0 false),(707200602,.slice 54 12 (ml gF m_3) 0 false)]) ?_ ?_ ?_
 ·exact bA.go [.ad 7 600072007 143 16,.ac 72006 707200602 54 12 2] [] (by kernel_rfl)
 ·rintro j1 e1 Z1 ⟨iE,m_1,m_2,m_3⟩ hj1 hx1 hm
  rw[hB1]at hm
  refine qDs [] [] [(23,.bool (decide ((j1:Int)<(e.List.length:Int))))]<|A.seq<|qT (ltT hx1)<|A.skip ?_
  show ah _ _ _ _ _
  obtain⟨J1,hJ1,hm⟩:=bQ hm
  refine A.J (J:=J1) (r:=r) (λ(ux,m_4,m_5,m_6)=>[(1,i6 aK),(5,.ptr 72005 0),(6,.ptr 72006 0),(7,.own 600072007),(8,.int .u64 (bB .andNot .u64 p.Bits ai)),(20,lf ay e.List),(21,i6 (e.List.length:Int)),(22,i6 (j1:Int))]) (λ(ux,m_4,m_5,m_6)=>[(72005,.cells 36 (k10 p)),(72006,.cells 46 [.int .u64 m_4,.int .u64 m_5,.own 707200602]),(600072007,.slice 143 16 (ml dx ux) 0 false),(707200602,.slice 54 12 (ml gF m_6) 0 false)]) ?_ ?_
  ·refine A.block<|qD [(0,hix (ix ay (bq hx1))),(2,.al 72010)] [23] [(10,.ptr 72010 0)] [] [(72010,.cells 38 (k4 e1))] ?_
   obtain⟨h2,hm⟩:=dY hm
   refine qDs [(2,.sh e1.Bit (of_decide_eq_true h2))] [] [(11,.int .u64 (IntKind.wrap .u64 ((1:Int)*2 ^ min e1.Bit.toNat 64)))]<|A.seq<|A.mid [(1,i6 aK),(5,.ptr 72005 0),(6,.ptr 72006 0),(7,.own 600072007),(8,.int .u64 (bB .andNot .u64 p.Bits ai)),(20,lf ay e.List),(21,i6 (e.List.length:Int)),(22,i6 (j1:Int)),(10,.ptr 72010 0),(11,.int .u64 (IntKind.wrap .u64 ((1:Int)*2 ^ min e1.Bit.toNat 64))),(39,.bool ((!decide (e1.aN=aK))||(decide (bB .and .u64 p.Bits (IntKind.wrap .u64 ((1:Int)*2 ^ min e1.Bit.toNat 64))=(0:Int)))))] [(72005,.cells 36 (k10 p)),(72006,.cells 46 [.int .u64 m_1,.int .u64 m_2,.own 707200602]),(600072007,.slice 143 16 (ml dx iE) 0 false),(707200602,.slice 54 12 (ml gF m_3) 0 false),(72010,.cells 38 (k4 e1))] (λhk=>?_) ?_
   ·rcases tf (!decide (e1.aN=aK))with c1|c1
    ·exact qS [(4,hto (bE c1)),(10,hto (orT (q:=decide (bB .and .u64 p.Bits (IntKind.wrap .u64 ((1:Int)*2 ^ min e1.Bit.toNat 64))=(0:Int))) c1))] _ _ hk
    exact qS [(4,hto (bE c1)),(10,hto (orF (q:=decide (bB .and .u64 p.Bits (IntKind.wrap .u64 ((1:Int)*2 ^ min e1.Bit.toNat 64))=(0:Int))) c1))] _ _ hk
   rcases aj hm with⟨c2,hm⟩|⟨c2,hm⟩
   ·exact qT c2<|A.exit<|qX (iE,m_1,m_2,m_3) hm
   refine qF c2<|A.skip ?_
   show ah _ _ _ _ _
   refine A.block<|qDs [] [39] [(40,.bool (decide (e1.Kind=3)))] ?_
   rcases aj hm with⟨c3,hm⟩|⟨c3,hm⟩
   ·exact qT c3<|qG [] [10,11,40] [] [72006,72010] [(72006,.cells 46 [.int .u64 (bB .or .u64 m_1 (IntKind.wrap .u64 ((1:Int)*2 ^ min e1.Bit.toNat 64))),.int .u64 m_2,.own 707200602])]<|qX (iE,bB .or .u64 m_1 (IntKind.wrap .u64 ((1:Int)*2 ^ min e1.Bit.toNat 64)),m_2,m_3) hm
   refine qF c3<|qDs [] [40] [(49,.bool (decide (p.TTL=0)))] ?_
   rcases aj hm with⟨c4,hm⟩|⟨c4,hm⟩
   ·exact qT c4<|qG [] [10,11,49] [] [72006,72010] [(72006,.cells 46 [.int .u64 m_1,.int .u64 (bB .or .u64 m_2 (IntKind.wrap .u64 ((1:Int)*2 ^ min e1.Bit.toNat 64))),.own 707200602])]<|qX (iE,m_1,bB .or .u64 m_2 (IntKind.wrap .u64 ((1:Int)*2 ^ min e1.Bit.toNat 64)),m_3) hm
   refine qF c4<|qDs [] [11,49] [(58,.bool (!decide (bB .andNot .u64 p.Bits ai=0)))] ?_
   rcases aj hm with⟨c5,hm⟩|⟨c5,hm⟩
   ·refine qT c5<|qD [(5,.al 72012)] [58] [(12,.ptr 72012 0)] [] [(72012,.cells 54 [i6 e1.To,.aP,i6 p.Mode,i6 p.bL,i6 p.Set,i6 p.Length,i6 p.TTL,i6 p.cn,i6 p.cq,i6 p.dg,.int .u64 p.Bits,.str p.cm])]<|qD [] [] [] [72012] [(72012,.cells 54 [i6 e1.To,.aP,i6 p.Mode,i6 p.bL,i6 p.Set,i6 p.Length,i6 (w64 (p.TTL-1)),i6 p.cn,i6 p.cq,i6 p.dg,.int .u64 (bB .andNot .u64 p.Bits ai),.str p.cm])] ?_
    obtain⟨J2,hJ2,hm⟩:=bQ hm
    refine A.J (J:=J2) (r:=r) (λm_7=>[(1,i6 aK),(5,.ptr 72005 0),(6,.ptr 72006 0),(7,.own 600072007),(8,.int .u64 (bB .andNot .u64 p.Bits ai)),(10,.ptr 72010 0),(12,.ptr 72012 0),(20,lf ay e.List),(21,i6 (e.List.length:Int)),(22,i6 (j1:Int))]) (λm_7=>[(72005,.cells 36 (k10 p)),(72006,.cells 46 [.int .u64 m_1,.int .u64 m_2,.own 707200602]),(600072007,.slice 143 16 (ml dx iE) 0 false),(707200602,.slice 54 12 (ml gF m_3) 0 false),(72010,.cells 38 (k4 e1)),(72012,.cells 54 [i6 e1.To,.own 707201201,i6 p.Mode,i6 p.bL,i6 p.Set,i6 p.Length,i6 (w64 (p.TTL-1)),i6 p.cn,i6 p.cq,i6 p.dg,.int .u64 (bB .andNot .u64 p.Bits ai),.str p.cm]),(707201201,.slice 3 1 (ml aB m_7) 0 false)]) ?_ ?_
    ·refine qDs [] [] [(78,.bool (decide (e1.Kind=2)))] ?_
     rcases aj hm with⟨c6,hm⟩|⟨c6,hm⟩
     ·exact qT c6<|qG [(2,.al 72081)] [78] [] [72012] [(72012,.cells 54 [i6 e1.To,.own 72081,i6 p.Mode,i6 p.bL,i6 p.Set,i6 p.Length,i6 (w64 (p.TTL-1)),i6 p.cn,i6 p.cq,i6 p.dg,.int .u64 (bB .andNot .u64 p.Bits ai),.str p.cm]),(72081,.slice 3 1 (ml aB ([e1.To]:List Int)) 0 false)]<|Exists.intro ([e1.To]:List Int) (And.intro hm (bA.go [.sw 72081 707201201] [] (by kernel_rfl)))
     exact qF c6<|A.skip<|Exists.intro [] (And.intro hm (bA.go [.ac 72012 707201201 3 1 1] [] (by kernel_rfl)))
    rintro m_7 hm
    rw[hJ2]at hm
    obtain⟨l_1,h3,hm⟩:=aa hm
    obtain⟨l_2,h4,hm⟩:=aa hm
    exact A.R W0 [.fz [707201201],.sc 72012 [72005,72006,600072007,707200602,72010,72012]] [(4,hap 72588 (ap gF (bytes:=120) (by decide) h3)),(10,hap 72594 (ap dx (bytes:=152) (by decide) h4))] [(1,i6 aK),(5,.ptr 72005 0),(6,.ptr 72006 0),(7,.own 72594),(8,.int .u64 (bB .andNot .u64 p.Bits ai)),(20,lf ay e.List),(21,i6 (e.List.length:Int)),(22,i6 (j1:Int))] [(72005,.cells 36 (k10 p)),(72006,.cells 46 [.int .u64 m_1,.int .u64 m_2,.own 72588]),(72588,.slice 54 12 (ml gF l_1) 0 false),(72594,.slice 143 16 (ml dx l_2) 0 false)] (by kernel_rfl)<|Exists.intro (l_2,m_1,m_2,l_1) (And.intro hm (bA.go [.sw 72594 600072007,.sw 72588 707200602] [] (by kernel_rfl)))
   exact qF c5<|A.skip<|qX (iE,m_1,m_2,m_3) hm
  rintro⟨ux,m_4,m_5,m_6⟩ hm
  rw[hJ1]at hm
  exact qGs [(0,hto (inc hx1 hb1))] [22] [(22,i6 ((j1+1:Nat):Int))]<|qX (ux,m_4,m_5,m_6) hm
 rintro j1 ⟨iE,m_1,m_2,m_3⟩ hj1 hl1 hm
 rw[hK1]at hm
 refine qDs [] [] [(23,.bool (decide ((j1:Int)<(e.List.length:Int))))]<|A.seq<|qF (ltF hl1)<|A.exit ?_
 show ah _ _ _ _ _
 refine qD [] [1,5,8,20,21,22,23] [] [72005] []<|A.ret ?_
 obtain rfl:=some_inj hm
 exact A.fin W0 [.fz [707200602,600072007]] rfl (by kernel_rfl)
theorem vr{e:aG}{r:dz×Int}(hm:jm e aK p=some r):RO prog 35 [] [.agg (k6 e),i6 aK,.agg (k10 p)] (.tup [.agg (k12 r.1),i6 r.2]):=by
 refine bh func35 rfl rfl ?_
 unfold jm at hm
 refine qS [(0,.al 35003),(1,.al 35005),(2,.al 35006)] [(1,i6 aK),(3,.ptr 35003 0),(5,.ptr 35005 0),(6,.ptr 35006 0)] [(35003,.cells 32 (k6 e)),(35005,.cells 36 (k10 p)),(35006,.cells 46 [.int .u64 (0:Int),.int .u64 (0:Int),.aP])]<|A.seq ?_
 obtain⟨J1,hJ1,hm⟩:=bQ hm
 refine A.J (J:=J1) (r:=r) (λv_1=>[(1,i6 aK),(3,.ptr 35003 0),(5,.ptr 35005 0),(6,.ptr 35006 0),(18,.bool v_1)]) (λv_1=>[(35003,.cells 32 (k6 e)),(35005,.cells 36 (k10 p)),(35006,.cells 46 [.int .u64 (0:Int),.int .u64 (0:Int),.aP])]) ?_ ?_
 ·obtain⟨ai,h1,hm⟩:=aa hm
  rcases aj hm with⟨c1,hm⟩|⟨c1,hm⟩
  ·exact qGs [(1,hro (fG h1) aaX),(3,hto (bE c1))] [] [(18,.bool true)]<|qX true hm
  obtain⟨aI,h2,hm⟩:=aa hm
  exact qGs [(1,hro (fG h1) aaX),(3,hto (bE c1)),(5,hro (iu h2) aaW)] [] [(18,.bool (!aI))]<|qX (!aI) hm
 rintro v_1 hm
 rw[hJ1]at hm
 rcases aj hm with⟨c2,hm⟩|⟨c2,hm⟩
 ·refine qT c2<|qD [] [1,3,5,18] [(7,i6 1)] [35003,35005] [] ?_
  cases hm
  exact A.ret qE
 refine qF c2<|A.skip ?_
 show ah _ _ _ _ _
 refine A.seq ?_
 obtain⟨bn,h3,hm⟩:=aa hm
 refine qDs [(2,hro (rD h3) av2)] [18] [(8,i6 bn)]<|qDs [] [] [(24,.bool (!decide (bn=0)))] ?_
 rcases aj hm with⟨c3,hm⟩|⟨c3,hm⟩
 ·refine qT c3<|qD [] [1,3,5,8,24] [(7,i6 bn)] [35003,35005] [] ?_
  cases hm
  exact A.ret qE
 refine qF c3<|A.skip ?_
 show ah _ _ _ _ _
 obtain⟨bf,h4,hm⟩:=aa hm
 refine qD [(3,hro (qm h4) av3),(7,.al 35009)] [1,3,5,8,24] [(9,.ptr 35009 0)] [35003,35005] [(35009,.cells 46 (k12 bf.1))]<|qS [] [(6,.ptr 35006 0),(7,i6 0)] [(35006,.cells 46 (k12 bf.1))] ?_
 cases hm
 exact A.ret qE
variable {t:af}
theorem yj{a:ak}{r:(List Int)×Bool}(hm:iQ t aK a=some r):RO prog 74 [] [.agg (k2 t),i6 aK,.agg (k4 a)] (.tup [lf aB r.1,.bool r.2]):=by
 refine bh func74 rfl rfl ?_
 unfold iQ at hm
 refine qS [(0,.al 74003),(1,.al 74005)] [(1,i6 aK),(3,.ptr 74003 0),(5,.ptr 74005 0)] [(74003,.cells 28 (k2 t)),(74005,.cells 38 (k4 a))]<|A.seq<|qDs [] [] [(13,.bool (decide (a.Kind=2)))] ?_
 rcases aj hm with⟨c1,hm⟩|⟨c1,hm⟩
 ·refine qT c1 ?_
  obtain⟨ai,h1,hm⟩:=aa hm
  refine qS [(4,hro (yh h1) aAG)] [(8,lf aB ai)] []<|qS [(2,hto (lnE aB ai))] [(6,lf aB ai),(7,.bool (decide (0<(ai.length:Int))))] [] ?_
  cases hm
  exact A.ret qE
 refine qF c1<|A.skip ?_
 show ah _ _ _ _ _
 obtain⟨aI,h2,hm⟩:=aa hm
 refine qD [(4,hro (yY h2) aAN)] [1,3,13] [(10,.bool aI.2)] [74003] []<|qS [] [(6,.lst true (ml aB ([a.To]:List Int))),(7,.bool aI.2)] [] ?_
 cases hm
 exact A.ret qE
theorem sK{e:aG}{r:dy×Int}(hm:fP e t p aK=some r):RO prog 24 [] [.agg (k6 e),.agg (k2 t),.agg (k10 p),i6 aK] (.tup [.agg (k15 r.1),i6 r.2]):=by
 refine bh func24 rfl rfl ?_
 unfold fP at hm
 refine qS [(0,.al 24004),(1,.al 24005),(2,.al 24006),(3,.al 24008)] [(3,i6 aK),(4,.ptr 24004 0),(5,.ptr 24005 0),(6,.ptr 24006 0),(8,.ptr 24008 0)] [(24004,.cells 32 (k6 e)),(24005,.cells 28 (k2 t)),(24006,.cells 36 (k10 p)),(24008,.cells 74 [.aP,.aP,.aP])]<|A.seq ?_
 obtain⟨J1,hJ1,hm⟩:=bQ hm
 refine A.J (J:=J1) (r:=r) (λv_1=>[(3,i6 aK),(4,.ptr 24004 0),(5,.ptr 24005 0),(6,.ptr 24006 0),(8,.ptr 24008 0),(37,.bool v_1)]) (λv_1=>[(24004,.cells 32 (k6 e)),(24005,.cells 28 (k2 t)),(24006,.cells 36 (k10 p)),(24008,.cells 74 [.aP,.aP,.aP])]) ?_ ?_
 ·obtain⟨ai,h1,hm⟩:=aa hm
  rcases aj hm with⟨c1,hm⟩|⟨c1,hm⟩
  ·exact qGs [(1,hro (fG h1) aaX),(3,hto (bE c1))] [] [(37,.bool true)]<|qX true hm
  obtain⟨aI,h2,hm⟩:=aa hm
  rcases aj hm with⟨c2,hm⟩|⟨c2,hm⟩
  ·exact qGs [(1,hro (fG h1) aaX),(3,hto (bE c1)),(5,hro (l6 h2) agm),(8,hto (bE c2))] [] [(37,.bool true)]<|qX true hm
  obtain⟨bn,h3,hm⟩:=aa hm
  exact qGs [(1,hro (fG h1) aaX),(3,hto (bE c1)),(5,hro (l6 h2) agm),(8,hto (bE c2)),(10,hro (iu h3) aaW)] [] [(37,.bool (!bn))]<|qX (!bn) hm
 rintro v_1 hm
 rw[hJ1]at hm
 rcases aj hm with⟨c3,hm⟩|⟨c3,hm⟩
 ·refine qT c3<|qD [] [3,4,5,6,37] [(9,i6 1)] [24004,24005,24006] [] ?_
  cases hm
  exact A.ret qE
 refine qF c3<|A.skip ?_
 show ah _ _ _ _ _
 refine A.seq ?_
 obtain⟨bf,h4,hm⟩:=aa hm
 refine qDs [(2,hro (aab h4) ck70)] [37] [(42,.bool (!bf))] ?_
 rcases aj hm with⟨c4,hm⟩|⟨c4,hm⟩
 ·refine qT c4<|qD [] [3,4,5,6,42] [(9,i6 4)] [24004,24005,24006] [] ?_
  cases hm
  exact A.ret qE
 refine qF c4<|A.skip ?_
 show ah _ _ _ _ _
 refine A.seq ?_
 obtain⟨bO,h5,hm⟩:=aa hm
 refine qDs [(2,hro (rD h5) av2)] [42] [(10,i6 bO)]<|qDs [] [] [(48,.bool (!decide (bO=0)))] ?_
 rcases aj hm with⟨c5,hm⟩|⟨c5,hm⟩
 ·refine qT c5<|qD [] [3,4,5,6,10,48] [(9,i6 bO)] [24004,24005,24006] [] ?_
  cases hm
  exact A.ret qE
 refine qF c5<|A.skip ?_
 show ah _ _ _ _ _
 refine qD [(0,.al 24011)] [10,48] [(11,.ptr 24011 0)] [] [(24011,.cells 74 [.aP,.aP,.aP])]<|A.seq<|qD [(3,.al 24054)] [3,6] [(12,.own 24054)] [24006] [(24054,.slice 134 11 (ml dN ([(aM.mk aK p)]:List aM)) 0 false)]<|A.block ?_
 obtain⟨F1,n1,hF1,hm⟩:=gr hm
 refine A.lpW (F:=F1) hm (λ(ga,m_1,m_2,m_3)=>[(4,.ptr 24004 0),(5,.ptr 24005 0),(8,.ptr 24008 0),(11,.ptr 24011 0),(12,.own 600024012)]) (λ(ga,m_1,m_2,m_3)=>[(24004,.cells 32 (k6 e)),(24005,.cells 28 (k2 t)),(24008,.cells 74 [.aP,.aP,.aP]),(24011,.cells 74 [.own 702401100,.own 702401101,.own 702401102]),(600024012,.win 134 11 (ml dN ga)),(702401100,.slice 78 11 (ml cC m_1) 0 false),(702401101,.slice 81 3 (ml cR m_2) 0 false),(702401102,.slice 141 2 (ml gl m_3) 0 false)]) ?_ ?_
 ·exact bA.go [.wi 24054,.sw 24054 600024012,.ac 24011 702401100 78 11 0,.ac 24011 702401101 81 3 1,.ac 24011 702401102 141 2 2] [] (by kernel_rfl)
 rintro Z1 ⟨ga,m_1,m_2,m_3⟩ hm
 rw[hF1]at hm
 refine A.seq<|qDs [(1,hto (lnE dN ga))] [] [(57,.bool (decide (0<(ga.length:Int))))] ?_
 rcases aj hm with⟨c6,hm⟩|⟨c6,hm⟩
 ·refine qT c6<|A.skip ?_
  show ah _ _ _ _ _
  refine A.seq<|A.block ?_
  obtain⟨e_1,h6,hm⟩:=aa hm
  refine qD [(1,hix (ix dN h6)),(3,.al 24013)] [57] [(13,.ptr 24013 0)] [] [(24013,.cells 134 (k16 e_1))] ?_
  obtain⟨br,h7,hm⟩:=aa hm
  refine qD [(5,hro (qm h7) av3),(9,.al 24014)] [] [(14,.ptr 24014 0),(15,lf dx br.2)] [] [(24014,.cells 46 (k12 br.1))]<|A.seq<|qDs [(2,hto (lnE ay e.List))] [] [(73,lf ay e.List),(74,i6 (e.List.length:Int)),(75,i6 0)]<|A.block<|A.bS 73 rfl λhb2=>?_
  obtain⟨B2,K2,hB2,hK2,hm⟩:=aX hm
  refine A.lpI (l:=e.List) (j0:=0) (B:=B2) (K:=K2) hm (λj2=>λm_4=>[(4,.ptr 24004 0),(5,.ptr 24005 0),(8,.ptr 24008 0),(11,.ptr 24011 0),(12,.own 600024012),(13,.ptr 24013 0),(14,.ptr 24014 0),(15,lf dx br.2),(73,lf ay e.List),(74,i6 (e.List.length:Int)),(75,i6 (j2:Int))]) (λj2=>λm_4=>[(24004,.cells 32 (k6 e)),(24005,.cells 28 (k2 t)),(24008,.cells 74 [.aP,.aP,.aP]),(24011,.cells 74 [.own 702401100,.own 702401101,.own 702401102]),(600024012,.win 134 11 (ml dN ga)),(702401100,.slice 78 11 (ml cC m_4) 0 false),(702401101,.slice 81 3 (ml cR m_2) 0 false),(702401102,.slice 141 2 (ml gl m_3) 0 false),(24013,.cells 134 (k16 e_1)),(24014,.cells 46 (k12 br.1))]) ?_ ?_ ?_
  ·exact qW
  ·rintro j2 e2 Z2 m_4 hj2 hx2 hm
   rw[hB2]at hm
   refine qDs [] [] [(76,.bool (decide ((j2:Int)<(e.List.length:Int))))]<|A.seq<|qT (ltT hx2)<|A.skip ?_
   show ah _ _ _ _ _
   obtain⟨J2,hJ2,hm⟩:=bQ hm
   refine A.J (J:=J2) (r:=r) (λm_5=>[(4,.ptr 24004 0),(5,.ptr 24005 0),(8,.ptr 24008 0),(11,.ptr 24011 0),(12,.own 600024012),(13,.ptr 24013 0),(14,.ptr 24014 0),(15,lf dx br.2),(73,lf ay e.List),(74,i6 (e.List.length:Int)),(75,i6 (j2:Int))]) (λm_5=>[(24004,.cells 32 (k6 e)),(24005,.cells 28 (k2 t)),(24008,.cells 74 [.aP,.aP,.aP]),(24011,.cells 74 [.own 702401100,.own 702401101,.own 702401102]),(600024012,.win 134 11 (ml dN ga)),(702401100,.slice 78 11 (ml cC m_5) 0 false),(702401101,.slice 81 3 (ml cR m_2) 0 false),(702401102,.slice 141 2 (ml gl m_3) 0 false),(24013,.cells 134 (k16 e_1)),(24014,.cells 46 (k12 br.1))]) ?_ ?_
   ·refine A.block<|qD [(0,hix (ix ay (bq hx2))),(2,.al 24017)] [76] [(17,.ptr 24017 0)] [] [(24017,.cells 38 (k4 e2))] ?_
    obtain⟨h8,hm⟩:=dY hm
    refine qDs [(4,.sh e2.Bit (of_decide_eq_true h8))] [] [(85,.bool (decide (bB .and .u64 (Int.fdiv br.1.Local (2 ^ min e2.Bit.toNat 64)) (1:Int)=(1:Int))))] ?_
    rcases aj hm with⟨c7,hm⟩|⟨c7,hm⟩
    ·refine qT c7 ?_
     obtain⟨cv,h9,hm⟩:=aa hm
     obtain⟨l_1,h10,hm⟩:=aa hm
     exact qG [(8,hro (aa1 h9) ck73),(11,hap 24597 (ap cC (bytes:=96) (by decide) h10))] [17,85] [] [24011,702401100,24017] [(24011,.cells 74 [.own 24597,.own 702401101,.own 702401102]),(24597,.slice 78 11 (ml cC l_1) 0 false)]<|Exists.intro l_1 (And.intro hm (bA.go [.sw 24597 702401100] [] (by kernel_rfl)))
    exact qF c7<|A.skip<|qX m_4 hm
   rintro m_5 hm
   rw[hJ2]at hm
   exact qGs [(0,hto (inc hx2 hb2))] [75] [(75,i6 ((j2+1:Nat):Int))]<|qX m_5 hm
  rintro j2 m_4 hj2 hl2 hm
  rw[hK2]at hm
  refine qDs [] [] [(76,.bool (decide ((j2:Int)<(e.List.length:Int))))]<|A.seq<|qF (ltF hl2)<|A.exit ?_
  show ah _ _ _ _ _
  obtain⟨J3,hJ3,hm⟩:=bQ hm
  refine A.J (J:=J3) (r:=r) (λm_6=>[(4,.ptr 24004 0),(5,.ptr 24005 0),(8,.ptr 24008 0),(11,.ptr 24011 0),(12,.own 600024012),(13,.ptr 24013 0),(15,lf dx br.2)]) (λm_6=>[(24004,.cells 32 (k6 e)),(24005,.cells 28 (k2 t)),(24008,.cells 74 [.aP,.aP,.aP]),(24011,.cells 74 [.own 702401100,.own 702401101,.own 702401102]),(600024012,.win 134 11 (ml dN ga)),(702401100,.slice 78 11 (ml cC m_4) 0 false),(702401101,.slice 81 3 (ml cR m_2) 0 false),(702401102,.slice 141 2 (ml gl m_6) 0 false),(24013,.cells 134 (k16 e_1))]) ?_ ?_
  ·refine qDs [] [73,74,75,76] [(102,.bool (!decide (br.1.jL=0)))] ?_
   rcases aj hm with⟨c8,hm⟩|⟨c8,hm⟩
   ·refine qT c8 ?_
    obtain⟨l_2,h11,hm⟩:=aa hm
    exact qG [(8,hap 24611 (ap gl (bytes:=16) (by decide) h11))] [14,102] [] [24011,702401102,24014] [(24011,.cells 74 [.own 702401100,.own 702401101,.own 24611]),(24611,.slice 141 2 (ml gl l_2) 0 false)]<|Exists.intro l_2 (And.intro hm (bA.go [.sw 24611 702401102] [] (by kernel_rfl)))
   exact qF c8<|A.skip<|qX m_3 hm
  rintro m_6 hm
  rw[hJ3]at hm
  refine qDs [(1,hto (lnE dx br.2))] [15] [(113,lf dx br.2),(114,i6 (br.2.length:Int)),(115,i6 0)]<|A.block<|A.bS 113 rfl λhb3=>?_
  obtain⟨B3,K3,hB3,hK3,hm⟩:=aX hm
  refine A.lpI (l:=br.2) (j0:=0) (B:=B3) (K:=K3) hm (λj3=>λ(dR,m_7,m_8)=>[(4,.ptr 24004 0),(5,.ptr 24005 0),(8,.ptr 24008 0),(11,.ptr 24011 0),(12,.own 600024012),(13,.ptr 24013 0),(113,lf dx br.2),(114,i6 (br.2.length:Int)),(115,i6 (j3:Int))]) (λj3=>λ(dR,m_7,m_8)=>[(24004,.cells 32 (k6 e)),(24005,.cells 28 (k2 t)),(24008,.cells 74 [.aP,.aP,.aP]),(24011,.cells 74 [.own 702401100,.own 702401101,.own 702401102]),(600024012,.win 134 11 (ml dN dR)),(702401100,.slice 78 11 (ml cC m_4) 0 false),(702401101,.slice 81 3 (ml cR m_7) 0 false),(702401102,.slice 141 2 (ml gl m_8) 0 false),(24013,.cells 134 (k16 e_1))]) ?_ ?_ ?_
  ·exact qW
  ·rintro j3 e3 Z3 ⟨dR,m_7,m_8⟩ hj3 hx3 hm
   rw[hB3]at hm
   refine qDs [] [] [(116,.bool (decide ((j3:Int)<(br.2.length:Int))))]<|A.seq<|qT (ltT hx3)<|A.skip ?_
   show ah _ _ _ _ _
   obtain⟨J4,hJ4,hm⟩:=bQ hm
   refine A.J (J:=J4) (r:=r) (λ(gW,m_9,ir)=>[(4,.ptr 24004 0),(5,.ptr 24005 0),(8,.ptr 24008 0),(11,.ptr 24011 0),(12,.own 600024012),(13,.ptr 24013 0),(113,lf dx br.2),(114,i6 (br.2.length:Int)),(115,i6 (j3:Int))]) (λ(gW,m_9,ir)=>[(24004,.cells 32 (k6 e)),(24005,.cells 28 (k2 t)),(24008,.cells 74 [.aP,.aP,.aP]),(24011,.cells 74 [.own 702401100,.own 702401101,.own 702401102]),(600024012,.win 134 11 (ml dN gW)),(702401100,.slice 78 11 (ml cC m_4) 0 false),(702401101,.slice 81 3 (ml cR m_9) 0 false),(702401102,.slice 141 2 (ml gl ir) 0 false),(24013,.cells 134 (k16 e_1))]) ?_ ?_
   ·refine A.block<|qD [(0,hix (ix dx (bq hx3))),(2,.al 24019)] [116] [(19,.ptr 24019 0)] [] [(24019,.cells 143 (k13 e3))] ?_
    obtain⟨dA,h12,hm⟩:=aa hm
    refine qDs [(5,hro (yj h12) ck74)] [] [(20,lf aB dA.1),(21,.bool dA.2)]<|A.seq<|qDs [] [21] [(129,.bool (!dA.2))] ?_
    rcases aj hm with⟨c9,hm⟩|⟨c9,hm⟩
    ·refine qT c9 ?_
     obtain⟨h13,hm⟩:=dY hm
     obtain⟨l_3,h14,hm⟩:=aa hm
     exact qD [(7,.sh e3.fI.Bit (of_decide_eq_true h13)),(10,hap 24640 (ap gl (bytes:=16) (by decide) h14))] [129] [] [24011,702401102] [(24011,.cells 74 [.own 702401100,.own 702401101,.own 24640]),(24640,.slice 141 2 (ml gl l_3) 0 false)]<|A.exit<|Exists.intro (dR,m_7,l_3) (And.intro hm (bA.go [.sw 24640 702401102] [] (by kernel_rfl)))
    refine qF c9<|A.skip ?_
    show ah _ _ _ _ _
    refine qDs [] [129] [(22,i6 e_1.bY)]<|A.seq<|qDs [(1,hto (lnE aB dA.1))] [20] [(144,lf aB dA.1),(145,i6 (dA.1.length:Int)),(146,i6 0)]<|A.block<|A.bS 144 rfl λhb4=>?_
    obtain⟨B4,K4,hB4,hK4,hm⟩:=aX hm
    refine A.lpI (l:=dA.1) (j0:=0) (B:=B4) (K:=K4) hm (λj4=>λ(dI,gD)=>[(4,.ptr 24004 0),(5,.ptr 24005 0),(8,.ptr 24008 0),(11,.ptr 24011 0),(12,.own 600024012),(13,.ptr 24013 0),(19,.ptr 24019 0),(22,i6 dI),(113,lf dx br.2),(114,i6 (br.2.length:Int)),(115,i6 (j3:Int)),(144,lf aB dA.1),(145,i6 (dA.1.length:Int)),(146,i6 (j4:Int))]) (λj4=>λ(dI,gD)=>[(24004,.cells 32 (k6 e)),(24005,.cells 28 (k2 t)),(24008,.cells 74 [.aP,.aP,.aP]),(24011,.cells 74 [.own 702401100,.own 702401101,.own 702401102]),(600024012,.win 134 11 (ml dN dR)),(702401100,.slice 78 11 (ml cC m_4) 0 false),(702401101,.slice 81 3 (ml cR gD) 0 false),(702401102,.slice 141 2 (ml gl m_8) 0 false),(24013,.cells 134 (k16 e_1)),(24019,.cells 143 (k13 e3))]) ?_ ?_ ?_
    ·exact qW
    ·rintro j4 e4 Z4 ⟨dI,gD⟩ hj4 hx4 hm
     rw[hB4]at hm
     refine qDs [] [] [(147,.bool (decide ((j4:Int)<(dA.1.length:Int))))]<|A.seq<|qT (ltT hx4)<|A.skip ?_
     show ah _ _ _ _ _
     refine A.seq<|A.block ?_
     refine qDs [(0,hix (ix aB (bq hx4)))] [147] [(24,i6 e4)] ?_
     obtain⟨l_4,h15,hm⟩:=aa hm
     refine qD [(11,hap 24661 (ap cR (bytes:=24) (by decide) h15))] [22] [] [24011,702401101] [(24011,.cells 74 [.own 702401100,.own 24661,.own 702401102]),(24661,.slice 81 3 (ml cR l_4) 0 false)]<|qGs [] [24] [(22,i6 e4)] ?_
     show ah _ _ _ _ _
     exact qGs [(0,hto (inc hx4 hb4))] [146] [(146,i6 ((j4+1:Nat):Int))]<|Exists.intro (e4,l_4) (And.intro hm (bA.go [.sw 24661 702401101] [] (by kernel_rfl)))
    rintro j4 ⟨dI,gD⟩ hj4 hl4 hm
    rw[hK4]at hm
    refine qDs [] [] [(147,.bool (decide ((j4:Int)<(dA.1.length:Int))))]<|A.seq<|qF (ltF hl4)<|A.exit ?_
    show ah _ _ _ _ _
    refine A.seq<|qDs [(2,hto (lnE cR gD))] [144,145,146,147] [(168,.bool (decide (2000<(gD.length:Int))))] ?_
    rcases aj hm with⟨c10,hm⟩|⟨c10,hm⟩
    ·refine qT c10<|qS [] [(8,.ptr 24008 0),(9,i6 11)] [(24008,.cells 74 [.aP,.aP,.aP])] ?_
     cases hm
     exact A.ret qE
    refine qF c10<|A.skip ?_
    show ah _ _ _ _ _
    obtain⟨l_5,h16,hm⟩:=aa hm
    exact qG [(8,hap 24678 (ap dN (bytes:=96) (by decide) h16))] [12,19,22,168] [(12,.own 24678)] [600024012,24019] [(24678,.win 134 11 (ml dN l_5))]<|Exists.intro (l_5,gD,m_8) (And.intro hm (bA.go [.sw 24678 600024012] [] (by kernel_rfl)))
   rintro⟨gW,m_9,ir⟩ hm
   rw[hJ4]at hm
   exact qGs [(0,hto (inc hx3 hb3))] [115] [(115,i6 ((j3+1:Nat):Int))]<|qX (gW,m_9,ir) hm
  rintro j3 ⟨dR,m_7,m_8⟩ hj3 hl3 hm
  rw[hK3]at hm
  refine qDs [] [] [(116,.bool (decide ((j3:Int)<(br.2.length:Int))))]<|A.seq<|qF (ltF hl3)<|A.exit ?_
  show ah _ _ _ _ _
  obtain⟨l_6,h17,hm⟩:=aa hm
  exact qG [(1,hws 24559 (alq dN h17))] [12,13,113,114,115,116] [(12,.own 24559)] [600024012,24013] [(24559,.win 134 11 (ml dN l_6))]<|Exists.intro (l_6,m_4,m_7,m_8) (And.intro hm (bA.go [.sw 24559 600024012] [] (by kernel_rfl)))
 refine qF c6<|A.exit ?_
 show ah _ _ _ _ _
 refine qD [] [4,5,11,12,57] [(9,i6 0)] [24004,24005,24008,24011,600024012] [(24008,.cells 74 [.own 702401100,.own 702401101,.own 702401102])]<|A.ret ?_
 obtain rfl:=some_inj hm
 exact A.fin W0 [.fz [702401100,702401101,702401102]] rfl (by kernel_rfl)
theorem wh{e:aG}{t:cM}{receivers:List Int}{r:aD×Int}(hm:jI e t receivers p=some r):RO prog 23 [] [.agg (k6 e),.agg (k7 t),lf aB receivers,.agg (k10 p)] (.tup [.agg (k10 r.1),i6 r.2]):=by
 refine bh func23 rfl rfl ?_
 unfold jI at hm
 refine qS [(0,.al 23004),(1,.al 23005),(2,.al 23007),(3,.al 23008)] [(2,lf aB receivers),(4,.ptr 23004 0),(5,.ptr 23005 0),(7,.ptr 23007 0),(8,.ptr 23008 0)] [(23004,.cells 32 (k6 e)),(23005,.cells 63 (k7 t)),(23007,.cells 36 (k10 p)),(23008,.cells 36 [i6 0,i6 0,i6 0,i6 0,i6 0,i6 0,i6 0,i6 0,.int .u64 (0:Int),.str (⟨#[]⟩:ByteArray)])] ?_
 obtain⟨ai,h1,hm⟩:=aa hm
 refine qD [(3,hro (yg h1) ck67)] [2,5] [(10,.int .u64 ai.1),(11,i6 ai.2)] [23005] []<|A.seq<|qDs [] [] [(20,.bool (!decide (ai.2=0)))] ?_
 rcases aj hm with⟨c1,hm⟩|⟨c1,hm⟩
 ·refine qT c1<|qD [] [4,7,10,11,20] [(9,i6 ai.2)] [23004,23007] [] ?_
  cases hm
  exact A.ret qE
 refine qF c1<|A.skip ?_
 show ah _ _ _ _ _
 refine qD [] [4,10,11,20] [] [23004,23007] [(23007,.cells 36 [i6 2,i6 p.bL,i6 p.Set,i6 e.Length,i6 p.TTL,i6 p.cn,i6 p.cq,i6 p.dg,.int .u64 ai.1,.str p.cm])]<|A.seq ?_
 obtain⟨aI,h2,hm⟩:=aa hm
 refine qDs [(1,hro (iu h2) aaW)] [] [(31,.bool (!aI))] ?_
 rcases aj hm with⟨c2,hm⟩|⟨c2,hm⟩
 ·refine qT c2<|qD [] [7,31] [(9,i6 1)] [23007] [] ?_
  cases hm
  exact A.ret qE
 refine qF c2<|A.skip ?_
 show ah _ _ _ _ _
 refine qS [] [(8,.ptr 23008 0),(9,i6 0)] [(23008,.cells 36 [i6 2,i6 p.bL,i6 p.Set,i6 e.Length,i6 p.TTL,i6 p.cn,i6 p.cq,i6 p.dg,.int .u64 ai.1,.str p.cm])] ?_
 cases hm
 exact A.ret qE
end Go.Proofs.YtdjeacigeegklaaGreat
