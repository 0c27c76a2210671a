/- The gq of dx of the program. No condition but br aM stand in each. -/
import Derived.Test.YtdjeacigeegklaaGreatVJ
import Derived.Test.YtdjeacigeegklaaGreatV6
namespace Go.Proofs.YtdjeacigeegklaaGreat
open Go Go.Proofs.Tryz
set_option maxRecDepth 100000
set_option linter.all false
theorem bP{n:Int}{most:Int}{r:Bool}(hm:iN n most=some r):RO prog 118 [] [i6 n,i6 most] (.bool r):=by
 refine bu func118 rfl rfl ?_
 unfold iN at hm
 refine qS [] [(0,i6 n),(1,i6 most)] []<|A.mid [(4,.bool ((decide (0≤n))&&(decide (n≤most))))] [] (λhk=>?_) ?_
 ·rcases tf (decide (0≤n))with c1|c1
  ·exact qS [(2,hto (bE c1)),(7,hto (qz (q:=decide (n≤most)) c1))] _ _ hk
  exact qS [(2,hto (bE c1)),(7,hto (qA (q:=decide (n≤most)) c1))] _ _ hk
 cases hm
 exact A.ret qE
variable {p:aK}
theorem hU{r:Bool}(hm:iH p=some r):RO prog 68 [] [.agg (k10 p)] (.bool r):=by
 refine bu func68 rfl rfl ?_
 unfold iH at hm
 refine qS [(0,.al 68001)] [(1,.ptr 68001 0)] [(68001,.cells 36 (k10 p))] ?_
 rcases aq hm with⟨c1,hm⟩|⟨c1,hm⟩
 ·rcases aq hm with⟨c2,hm⟩|⟨c2,hm⟩
  ·obtain⟨ak,h1,hm⟩:=aa hm
   rcases aq hm with⟨c3,hm⟩|⟨c3,hm⟩
   ·obtain⟨aO,h2,hm⟩:=aa hm
    rcases aq hm with⟨c4,hm⟩|⟨c4,hm⟩
    ·obtain⟨bT,h3,hm⟩:=aa hm
     rcases aq hm with⟨c5,hm⟩|⟨c5,hm⟩
     ·obtain⟨cI,h4,hm⟩:=aa hm
      rcases aq hm with⟨c6,hm⟩|⟨c6,hm⟩
      ·obtain⟨dY,h5,hm⟩:=aa hm
       rcases aq hm with⟨c7,hm⟩|⟨c7,hm⟩
       ·obtain⟨bD,h6,hm⟩:=aa hm
        rcases aq hm with⟨c8,hm⟩|⟨c8,hm⟩
        ·obtain⟨dA,h7,hm⟩:=aa hm
         rcases aq hm with⟨c9,hm⟩|⟨c9,hm⟩
         ·refine qS [(3,hto (bE c1)),(8,hto (bE c2)),(11,hro (bP h1) fR),(13,hto (bE c3)),(16,hro (bP h2) fR),(18,hto (bE c4)),(23,hro (gZ h3) wU),(25,hto (bE c5)),(28,hro (bP h4) fR),(30,hto (bE c6)),(33,hro (bP h5) fR),(35,hto (bE c7)),(38,hro (bP h6) fR),(40,hto (bE c8)),(43,hro (bP h7) fR),(45,hto (bE c9))] [(2,.bool (decide ((p.cv.size:Int)≤(64:Int))))] [] ?_
          cases hm
          exact A.ret qE
         refine qS [(3,hto (bE c1)),(8,hto (bE c2)),(11,hro (bP h1) fR),(13,hto (bE c3)),(16,hro (bP h2) fR),(18,hto (bE c4)),(23,hro (gZ h3) wU),(25,hto (bE c5)),(28,hro (bP h4) fR),(30,hto (bE c6)),(33,hro (bP h5) fR),(35,hto (bE c7)),(38,hro (bP h6) fR),(40,hto (bE c8)),(43,hro (bP h7) fR),(45,hto (bE c9))] [(2,.bool false)] [] ?_
         cases hm
         exact A.ret qE
        refine qS [(3,hto (bE c1)),(8,hto (bE c2)),(11,hro (bP h1) fR),(13,hto (bE c3)),(16,hro (bP h2) fR),(18,hto (bE c4)),(23,hro (gZ h3) wU),(25,hto (bE c5)),(28,hro (bP h4) fR),(30,hto (bE c6)),(33,hro (bP h5) fR),(35,hto (bE c7)),(38,hro (bP h6) fR),(40,hto (bE c8))] [(2,.bool false)] [] ?_
        cases hm
        exact A.ret qE
       refine qS [(3,hto (bE c1)),(8,hto (bE c2)),(11,hro (bP h1) fR),(13,hto (bE c3)),(16,hro (bP h2) fR),(18,hto (bE c4)),(23,hro (gZ h3) wU),(25,hto (bE c5)),(28,hro (bP h4) fR),(30,hto (bE c6)),(33,hro (bP h5) fR),(35,hto (bE c7))] [(2,.bool false)] [] ?_
       cases hm
       exact A.ret qE
      refine qS [(3,hto (bE c1)),(8,hto (bE c2)),(11,hro (bP h1) fR),(13,hto (bE c3)),(16,hro (bP h2) fR),(18,hto (bE c4)),(23,hro (gZ h3) wU),(25,hto (bE c5)),(28,hro (bP h4) fR),(30,hto (bE c6))] [(2,.bool false)] [] ?_
      cases hm
      exact A.ret qE
     refine qS [(3,hto (bE c1)),(8,hto (bE c2)),(11,hro (bP h1) fR),(13,hto (bE c3)),(16,hro (bP h2) fR),(18,hto (bE c4)),(23,hro (gZ h3) wU),(25,hto (bE c5))] [(2,.bool false)] [] ?_
     cases hm
     exact A.ret qE
    refine qS [(3,hto (bE c1)),(8,hto (bE c2)),(11,hro (bP h1) fR),(13,hto (bE c3)),(16,hro (bP h2) fR),(18,hto (bE c4))] [(2,.bool false)] [] ?_
    cases hm
    exact A.ret qE
   refine qS [(3,hto (bE c1)),(8,hto (bE c2)),(11,hro (bP h1) fR),(13,hto (bE c3))] [(2,.bool false)] [] ?_
   cases hm
   exact A.ret qE
  refine qS [(3,hto (bE c1)),(8,hto (bE c2))] [(2,.bool false)] [] ?_
  cases hm
  exact A.ret qE
 refine qS [(3,hto (bE c1))] [(2,.bool false)] [] ?_
 cases hm
 exact A.ret qE
theorem x9{bit:Int}{r:aK}(hm:kg p bit=some r):RO prog 73 [] [.agg (k10 p),i6 bit] (.agg (k10 r)):=by
 refine bu func73 rfl rfl ?_
 unfold kg at hm
 refine qS [(0,.al 73002),(1,.al 73004)] [(1,i6 bit),(2,.ptr 73002 0),(4,.ptr 73004 0)] [(73002,.cells 36 (k10 p)),(73004,.cells 36 [i6 0,i6 0,i6 0,i6 0,i6 0,i6 0,i6 0,i6 0,.int .u64 (0:Int),.str (⟨#[]⟩:ByteArray)])]<|A.seq ?_
 obtain⟨J1,hJ1,hm⟩:=cR hm
 refine A.J (J:=J1) (r:=r) (λv_1=>[(1,i6 bit),(2,.ptr 73002 0),(4,.ptr 73004 0),(23,.bool v_1)]) (λv_1=>[(73002,.cells 36 (k10 p)),(73004,.cells 36 [i6 0,i6 0,i6 0,i6 0,i6 0,i6 0,i6 0,i6 0,.int .u64 (0:Int),.str (⟨#[]⟩:ByteArray)])]) ?_ ?_
 ·obtain⟨ak,h1,hm⟩:=aa hm
  rcases aq hm with⟨c1,hm⟩|⟨c1,hm⟩
  ·exact qGs [(1,hro (hU h1) zx),(3,hto (bE c1))] [] [(23,.bool true)]<|qX true hm
  rcases aq hm with⟨c2,hm⟩|⟨c2,hm⟩
  ·exact qGs [(1,hro (hU h1) zx),(3,hto (bE c1)),(7,hto (bE c2))] [] [(23,.bool true)]<|qX true hm
  rcases aq hm with⟨c3,hm⟩|⟨c3,hm⟩
  ·exact qGs [(1,hro (hU h1) zx),(3,hto (bE c1)),(7,hto (bE c2)),(11,hto (bE c3))] [] [(23,.bool true)]<|qX true hm
  obtain⟨h2,hm⟩:=fF hm
  exact qGs [(1,hro (hU h1) zx),(3,hto (bE c1)),(7,hto (bE c2)),(11,hto (bE c3)),(15,.sh bit (of_decide_eq_true h2))] [] [(23,.bool (decide (bX .and .u64 (Int.fdiv p.Bits (2 ^ min bit.toNat 64)) (1:Int)=(0:Int))))]<|qX (decide (bX .and .u64 (Int.fdiv p.Bits (2 ^ min bit.toNat 64)) (1:Int)=(0:Int))) hm
 rintro v_1 hm
 rw[hJ1]at hm
 rcases aq hm with⟨c4,hm⟩|⟨c4,hm⟩
 ·refine qT c4<|qD [] [1,2,23] [] [73002] [] ?_
  cases hm
  exact A.ret qE
 refine qF c4<|A.skip ?_
 obtain⟨h3,hm⟩:=fF hm
 refine qD [(1,.sh bit (of_decide_eq_true h3))] [1,23] [] [73002] [(73002,.cells 36 [i6 p.Mode,i6 p.cL,i6 p.Set,i6 p.Length,i6 p.TTL,i6 p.dG,i6 p.dH,i6 p.fk,.int .u64 (IntKind.wrap .u64 ((1:Int)*2 ^ min bit.toNat 64)),.str p.cv])]<|qS [] [(4,.ptr 73004 0)] [(73004,.cells 36 [i6 p.Mode,i6 p.cL,i6 p.Set,i6 p.Length,i6 p.TTL,i6 p.dG,i6 p.dH,i6 p.fk,.int .u64 (IntKind.wrap .u64 ((1:Int)*2 ^ min bit.toNat 64)),.str p.cv])] ?_
 cases hm
 exact A.ret qE
theorem tZ{e:aI}{r:Int}(hm:jd e p=some r):RO prog 71 [] [.agg (k6 e),.agg (k10 p)] (i6 r):=by
 refine bu func71 rfl rfl ?_
 unfold jd at hm
 refine qS [(0,.al 71002),(1,.al 71003)] [(2,.ptr 71002 0),(3,.ptr 71003 0)] [(71002,.cells 32 (k6 e)),(71003,.cells 36 (k10 p))]<|A.seq<|A.block<|qDs [] [] [(5,.bool (!decide (p.Mode=2)))] ?_
 rcases aq hm with⟨c1,hm⟩|⟨c1,hm⟩
 ·refine qT c1<|qS [] [(4,i6 7)] [] ?_
  cases hm
  exact A.ret qE
 refine qF c1<|qS [] [(9,.bool (!decide (p.Length=e.Length)))] [] ?_
 rcases aq hm with⟨c2,hm⟩|⟨c2,hm⟩
 ·refine qT c2<|qS [] [(4,i6 8)] [] ?_
  cases hm
  exact A.ret qE
 refine qF c2<|A.skip<|qS [] [(4,i6 0)] [] ?_
 cases hm
 exact A.ret qE
variable {cg:Int}
theorem tw{e:aI}{r:jk×(List aW)}(hm:iA e cg p=some r):RO prog 72 [] [.agg (k6 e),i6 cg,.agg (k10 p)] (.tup [.agg (k11 r.1),lf cG r.2]):=by
 refine bu func72 rfl rfl ?_
 unfold iA at hm
 refine qS [(0,.al 72003),(1,.al 72005),(2,.al 72006)] [(1,i6 cg),(3,.ptr 72003 0),(5,.ptr 72005 0),(6,.ptr 72006 0),(7,.aS)] [(72003,.cells 32 (k6 e)),(72005,.cells 36 (k10 p)),(72006,.cells 46 [.int .u64 (0:Int),.int .u64 (0:Int),.aS])] ?_
 obtain⟨ak,h1,hm⟩:=aa hm
 refine qDs [(4,hro (wj h1) ark)] [] [(8,.int .u64 (bX .andNot .u64 p.Bits ak))]<|A.seq<|qD [(2,hto (lnE aQ e.List))] [3] [(20,lf aQ e.List),(21,i6 (e.List.length:Int)),(22,i6 0)] [72003] []<|A.block<|A.bS 20 rfl λhb1=>?_
 obtain⟨B1,K1,hB1,hK1,hm⟩:=bA hm
 refine A.lpI (l:=e.List) (j0:=0) (B:=B1) (K:=K1) hm (λj1=>λ(gu,m_1,m_2,m_3)=>[(1,i6 cg),(5,.ptr 72005 0),(6,.ptr 72006 0),(7,.own 600072007),(8,.int .u64 (bX .andNot .u64 p.Bits ak)),(20,lf aQ e.List),(21,i6 (e.List.length:Int)),(22,i6 (j1:Int))]) (λj1=>λ(gu,m_1,m_2,m_3)=>[(72005,.cells 36 (k10 p)),(72006,.cells 46 [.int .u64 m_1,.int .u64 m_2,.own 707200602]),(600072007,.slice 143 16 (ml cG gu) 0 false),(707200602,.slice 54 12 (ml r9 m_3) 0 false)]) ?_ ?_ ?_
 ·exact bp.go [.ad 7 600072007 143 16,.ac 72006 707200602 54 12 2] [] (by kernel_rfl)
 ·rintro j1 e1 Z1 ⟨gu,m_1,m_2,m_3⟩ hj1 hx1 hm
  rw[hB1]at hm
  refine qDs [] [] [(23,.bool (decide ((j1:Int)<(e.List.length:Int))))]<|A.seq<|qT (ltT hx1)<|A.skip ?_
  obtain⟨J1,hJ1,hm⟩:=cR hm
  refine A.J (J:=J1) (r:=r) (λ(rB,m_4,m_5,m_6)=>[(1,i6 cg),(5,.ptr 72005 0),(6,.ptr 72006 0),(7,.own 600072007),(8,.int .u64 (bX .andNot .u64 p.Bits ak)),(20,lf aQ e.List),(21,i6 (e.List.length:Int)),(22,i6 (j1:Int))]) (λ(rB,m_4,m_5,m_6)=>[(72005,.cells 36 (k10 p)),(72006,.cells 46 [.int .u64 m_4,.int .u64 m_5,.own 707200602]),(600072007,.slice 143 16 (ml cG rB) 0 false),(707200602,.slice 54 12 (ml r9 m_6) 0 false)]) ?_ ?_
  ·refine A.block<|qD [(0,hix (ix aQ (bK hx1))),(2,.al 72010)] [23] [(10,.ptr 72010 0)] [] [(72010,.cells 38 (k4 e1))] ?_
   obtain⟨h2,hm⟩:=fF hm
   refine qDs [(2,.sh e1.Bit (of_decide_eq_true h2))] [] [(11,.int .u64 (IntKind.wrap .u64 ((1:Int)*2 ^ min e1.Bit.toNat 64)))]<|A.seq<|A.mid [(1,i6 cg),(5,.ptr 72005 0),(6,.ptr 72006 0),(7,.own 600072007),(8,.int .u64 (bX .andNot .u64 p.Bits ak)),(20,lf aQ e.List),(21,i6 (e.List.length:Int)),(22,i6 (j1:Int)),(10,.ptr 72010 0),(11,.int .u64 (IntKind.wrap .u64 ((1:Int)*2 ^ min e1.Bit.toNat 64))),(39,.bool ((!decide (e1.aR=cg))||(decide (bX .and .u64 p.Bits (IntKind.wrap .u64 ((1:Int)*2 ^ min e1.Bit.toNat 64))=(0:Int)))))] [(72005,.cells 36 (k10 p)),(72006,.cells 46 [.int .u64 m_1,.int .u64 m_2,.own 707200602]),(600072007,.slice 143 16 (ml cG gu) 0 false),(707200602,.slice 54 12 (ml r9 m_3) 0 false),(72010,.cells 38 (k4 e1))] (λhk=>?_) ?_
   ·rcases tf (!decide (e1.aR=cg))with c1|c1
    ·exact qS [(4,hto (bE c1)),(10,hto (orT (q:=decide (bX .and .u64 p.Bits (IntKind.wrap .u64 ((1:Int)*2 ^ min e1.Bit.toNat 64))=(0:Int))) c1))] _ _ hk
    exact qS [(4,hto (bE c1)),(10,hto (orF (q:=decide (bX .and .u64 p.Bits (IntKind.wrap .u64 ((1:Int)*2 ^ min e1.Bit.toNat 64))=(0:Int))) c1))] _ _ hk
   rcases aq hm with⟨c2,hm⟩|⟨c2,hm⟩
   ·exact qT c2<|A.exit<|qX (gu,m_1,m_2,m_3) hm
   refine qF c2<|A.skip<|A.block<|qDs [] [39] [(40,.bool (decide (e1.Kind=3)))] ?_
   rcases aq hm with⟨c3,hm⟩|⟨c3,hm⟩
   ·exact qT c3<|qG [] [10,11,40] [] [72006,72010] [(72006,.cells 46 [.int .u64 (bX .or .u64 m_1 (IntKind.wrap .u64 ((1:Int)*2 ^ min e1.Bit.toNat 64))),.int .u64 m_2,.own 707200602])]<|qX (gu,bX .or .u64 m_1 (IntKind.wrap .u64 ((1:Int)*2 ^ min e1.Bit.toNat 64)),m_2,m_3) hm
   refine qF c3<|qDs [] [40] [(49,.bool (decide (p.TTL=0)))] ?_
   rcases aq hm with⟨c4,hm⟩|⟨c4,hm⟩
   ·exact qT c4<|qG [] [10,11,49] [] [72006,72010] [(72006,.cells 46 [.int .u64 m_1,.int .u64 (bX .or .u64 m_2 (IntKind.wrap .u64 ((1:Int)*2 ^ min e1.Bit.toNat 64))),.own 707200602])]<|qX (gu,m_1,bX .or .u64 m_2 (IntKind.wrap .u64 ((1:Int)*2 ^ min e1.Bit.toNat 64)),m_3) hm
   refine qF c4<|qDs [] [11,49] [(58,.bool (!decide (bX .andNot .u64 p.Bits ak=0)))] ?_
   rcases aq hm with⟨c5,hm⟩|⟨c5,hm⟩
   ·refine qT c5<|qD [(5,.al 72012)] [58] [(12,.ptr 72012 0)] [] [(72012,.cells 54 [i6 e1.To,.aS,i6 p.Mode,i6 p.cL,i6 p.Set,i6 p.Length,i6 p.TTL,i6 p.dG,i6 p.dH,i6 p.fk,.int .u64 p.Bits,.str p.cv])]<|qD [] [] [] [72012] [(72012,.cells 54 [i6 e1.To,.aS,i6 p.Mode,i6 p.cL,i6 p.Set,i6 p.Length,i6 (w64 (p.TTL-1)),i6 p.dG,i6 p.dH,i6 p.fk,.int .u64 (bX .andNot .u64 p.Bits ak),.str p.cv])] ?_
    obtain⟨J2,hJ2,hm⟩:=cR hm
    refine A.J (J:=J2) (r:=r) (λm_7=>[(1,i6 cg),(5,.ptr 72005 0),(6,.ptr 72006 0),(7,.own 600072007),(8,.int .u64 (bX .andNot .u64 p.Bits ak)),(10,.ptr 72010 0),(12,.ptr 72012 0),(20,lf aQ e.List),(21,i6 (e.List.length:Int)),(22,i6 (j1:Int))]) (λm_7=>[(72005,.cells 36 (k10 p)),(72006,.cells 46 [.int .u64 m_1,.int .u64 m_2,.own 707200602]),(600072007,.slice 143 16 (ml cG gu) 0 false),(707200602,.slice 54 12 (ml r9 m_3) 0 false),(72010,.cells 38 (k4 e1)),(72012,.cells 54 [i6 e1.To,.own 707201201,i6 p.Mode,i6 p.cL,i6 p.Set,i6 p.Length,i6 (w64 (p.TTL-1)),i6 p.dG,i6 p.dH,i6 p.fk,.int .u64 (bX .andNot .u64 p.Bits ak),.str p.cv]),(707201201,.slice 3 1 (ml aG m_7) 0 false)]) ?_ ?_
    ·refine qDs [] [] [(78,.bool (decide (e1.Kind=2)))] ?_
     rcases aq hm with⟨c6,hm⟩|⟨c6,hm⟩
     ·exact qT c6<|qG [(2,.al 72081)] [78] [] [72012] [(72012,.cells 54 [i6 e1.To,.own 72081,i6 p.Mode,i6 p.cL,i6 p.Set,i6 p.Length,i6 (w64 (p.TTL-1)),i6 p.dG,i6 p.dH,i6 p.fk,.int .u64 (bX .andNot .u64 p.Bits ak),.str p.cv]),(72081,.slice 3 1 (ml aG ([e1.To]:List Int)) 0 false)]<|Exists.intro ([e1.To]:List Int) (And.intro hm (bp.go [.sw 72081 707201201] [] (by kernel_rfl)))
     exact qF c6<|A.skip<|Exists.intro [] (And.intro hm (bp.go [.ac 72012 707201201 3 1 1] [] (by kernel_rfl)))
    rintro m_7 hm
    rw[hJ2]at hm
    obtain⟨l_1,h3,hm⟩:=aa hm
    obtain⟨l_2,h4,hm⟩:=aa hm
    exact A.R W0 [.fz [707201201],.sc 72012 [72005,72006,600072007,707200602,72010,72012]] [(4,hap 72588 (ap r9 (bytes:=120) (by decide) h3)),(10,hap 72594 (ap cG (bytes:=152) (by decide) h4))] [(1,i6 cg),(5,.ptr 72005 0),(6,.ptr 72006 0),(7,.own 72594),(8,.int .u64 (bX .andNot .u64 p.Bits ak)),(20,lf aQ e.List),(21,i6 (e.List.length:Int)),(22,i6 (j1:Int))] [(72005,.cells 36 (k10 p)),(72006,.cells 46 [.int .u64 m_1,.int .u64 m_2,.own 72588]),(72588,.slice 54 12 (ml r9 l_1) 0 false),(72594,.slice 143 16 (ml cG l_2) 0 false)] (by kernel_rfl)<|Exists.intro (l_2,m_1,m_2,l_1) (And.intro hm (bp.go [.sw 72594 600072007,.sw 72588 707200602] [] (by kernel_rfl)))
   exact qF c5<|A.skip<|qX (gu,m_1,m_2,m_3) hm
  rintro⟨rB,m_4,m_5,m_6⟩ hm
  rw[hJ1]at hm
  exact qGs [(0,hto (inc hx1 hb1))] [22] [(22,i6 ((j1+1:Nat):Int))]<|qX (rB,m_4,m_5,m_6) hm
 rintro j1 ⟨gu,m_1,m_2,m_3⟩ hj1 hl1 hm
 rw[hK1]at hm
 refine qDs [] [] [(23,.bool (decide ((j1:Int)<(e.List.length:Int))))]<|A.seq<|qF (ltF hl1)<|A.exit<|qD [] [1,5,8,20,21,22,23] [] [72005] []<|A.ret ?_
 obtain rfl:=some_inj hm
 exact A.fin W0 [.fz [707200602,600072007]] rfl (by kernel_rfl)
variable {t:af}
theorem vj{a:az}{r:(List Int)×Bool}(hm:gG t cg a=some r):RO prog 74 [] [.agg (k2 t),i6 cg,.agg (k4 a)] (.tup [lf aG r.1,.bool r.2]):=by
 refine bu func74 rfl rfl ?_
 unfold gG at hm
 refine qS [(0,.al 74003),(1,.al 74005)] [(1,i6 cg),(3,.ptr 74003 0),(5,.ptr 74005 0)] [(74003,.cells 28 (k2 t)),(74005,.cells 38 (k4 a))]<|A.seq<|qDs [] [] [(13,.bool (decide (a.Kind=2)))] ?_
 rcases aq hm with⟨c1,hm⟩|⟨c1,hm⟩
 ·refine qT c1 ?_
  obtain⟨ak,h1,hm⟩:=aa hm
  refine qS [(4,hro (vi h1) arl)] [(8,lf aG ak)] []<|qS [(2,hto (lnE aG ak))] [(6,lf aG ak),(7,.bool (decide (0<(ak.length:Int))))] [] ?_
  cases hm
  exact A.ret qE
 refine qF c1<|A.skip ?_
 obtain⟨aO,h2,hm⟩:=aa hm
 refine qD [(4,hro (vY h2) art)] [1,3,13] [(10,.bool aO.2)] [74003] []<|qS [] [(6,.lst true (ml aG ([a.To]:List Int))),(7,.bool aO.2)] [] ?_
 cases hm
 exact A.ret qE
theorem pO{e:aI}{r:fe×Int}(hm:iI e t p cg=some r):RO prog 24 [] [.agg (k6 e),.agg (k2 t),.agg (k10 p),i6 cg] (.tup [.agg (k13 r.1),i6 r.2]):=by
 refine bu func24 rfl rfl ?_
 unfold iI at hm
 refine qS [(0,.al 24004),(1,.al 24005),(2,.al 24006),(3,.al 24008)] [(3,i6 cg),(4,.ptr 24004 0),(5,.ptr 24005 0),(6,.ptr 24006 0),(8,.ptr 24008 0)] [(24004,.cells 32 (k6 e)),(24005,.cells 28 (k2 t)),(24006,.cells 36 (k10 p)),(24008,.cells 74 [.aS,.aS,.aS])]<|A.seq ?_
 obtain⟨J1,hJ1,hm⟩:=cR hm
 refine A.J (J:=J1) (r:=r) (λv_1=>[(3,i6 cg),(4,.ptr 24004 0),(5,.ptr 24005 0),(6,.ptr 24006 0),(8,.ptr 24008 0),(37,.bool v_1)]) (λv_1=>[(24004,.cells 32 (k6 e)),(24005,.cells 28 (k2 t)),(24006,.cells 36 (k10 p)),(24008,.cells 74 [.aS,.aS,.aS])]) ?_ ?_
 ·obtain⟨ak,h1,hm⟩:=aa hm
  rcases aq hm with⟨c1,hm⟩|⟨c1,hm⟩
  ·exact qGs [(1,hro (gi h1) abC),(3,hto (bE c1))] [] [(37,.bool true)]<|qX true hm
  obtain⟨aO,h2,hm⟩:=aa hm
  rcases aq hm with⟨c2,hm⟩|⟨c2,hm⟩
  ·exact qGs [(1,hro (gi h1) abC),(3,hto (bE c1)),(5,hro (jY h2) adG),(8,hto (bE c2))] [] [(37,.bool true)]<|qX true hm
  obtain⟨bT,h3,hm⟩:=aa hm
  exact qGs [(1,hro (gi h1) abC),(3,hto (bE c1)),(5,hro (jY h2) adG),(8,hto (bE c2)),(10,hro (hU h3) zx)] [] [(37,.bool (!bT))]<|qX (!bT) hm
 rintro v_1 hm
 rw[hJ1]at hm
 rcases aq hm with⟨c3,hm⟩|⟨c3,hm⟩
 ·refine qT c3<|qD [] [3,4,5,6,37] [(9,i6 1)] [24004,24005,24006] [] ?_
  cases hm
  exact A.ret qE
 refine qF c3<|A.skip<|A.seq ?_
 obtain⟨cI,h4,hm⟩:=aa hm
 refine qDs [(2,hro (xd h4) ck70)] [37] [(42,.bool (!cI))] ?_
 rcases aq hm with⟨c4,hm⟩|⟨c4,hm⟩
 ·refine qT c4<|qD [] [3,4,5,6,42] [(9,i6 4)] [24004,24005,24006] [] ?_
  cases hm
  exact A.ret qE
 refine qF c4<|A.skip<|A.seq ?_
 obtain⟨dY,h5,hm⟩:=aa hm
 refine qDs [(2,hro (tZ h5) ck71)] [42] [(10,i6 dY)]<|qDs [] [] [(48,.bool (!decide (dY=0)))] ?_
 rcases aq hm with⟨c5,hm⟩|⟨c5,hm⟩
 ·refine qT c5<|qD [] [3,4,5,6,10,48] [(9,i6 dY)] [24004,24005,24006] [] ?_
  cases hm
  exact A.ret qE
 refine qF c5<|A.skip<|qD [(0,.al 24011)] [10,48] [(11,.ptr 24011 0)] [] [(24011,.cells 74 [.aS,.aS,.aS])]<|A.seq<|qD [(3,.al 24054)] [3,6] [(12,.own 24054)] [24006] [(24054,.slice 134 11 (ml cU ([(aC.mk cg p)]:List aC)) 0 false)]<|A.block ?_
 obtain⟨F1,n1,hF1,hm⟩:=gU hm
 refine A.lpW (F:=F1) hm (λ(ki,m_1,m_2,m_3)=>[(4,.ptr 24004 0),(5,.ptr 24005 0),(8,.ptr 24008 0),(11,.ptr 24011 0),(12,.own 600024012)]) (λ(ki,m_1,m_2,m_3)=>[(24004,.cells 32 (k6 e)),(24005,.cells 28 (k2 t)),(24008,.cells 74 [.aS,.aS,.aS]),(24011,.cells 74 [.own 702401100,.own 702401101,.own 702401102]),(600024012,.win 134 11 (ml cU ki)),(702401100,.slice 78 11 (ml dn m_1) 0 false),(702401101,.slice 81 3 (ml dI m_2) 0 false),(702401102,.slice 141 2 (ml jN m_3) 0 false)]) ?_ ?_
 ·exact bp.go [.wi 24054,.sw 24054 600024012,.ac 24011 702401100 78 11 0,.ac 24011 702401101 81 3 1,.ac 24011 702401102 141 2 2] [] (by kernel_rfl)
 rintro Z1 ⟨ki,m_1,m_2,m_3⟩ hm
 rw[hF1]at hm
 refine A.seq<|qDs [(1,hto (lnE cU ki))] [] [(57,.bool (decide (0<(ki.length:Int))))] ?_
 rcases aq hm with⟨c6,hm⟩|⟨c6,hm⟩
 ·refine qT c6<|A.skip<|A.seq<|A.block ?_
  obtain⟨e_1,h6,hm⟩:=aa hm
  refine qD [(1,hix (ix cU h6)),(3,.al 24013)] [57] [(13,.ptr 24013 0)] [] [(24013,.cells 134 (k14 e_1))] ?_
  obtain⟨bD,h7,hm⟩:=aa hm
  refine qD [(5,hro (tw h7) ck72),(9,.al 24014)] [] [(14,.ptr 24014 0),(15,lf cG bD.2)] [] [(24014,.cells 46 (k11 bD.1))]<|A.seq<|qDs [(2,hto (lnE aQ e.List))] [] [(73,lf aQ e.List),(74,i6 (e.List.length:Int)),(75,i6 0)]<|A.block<|A.bS 73 rfl λhb2=>?_
  obtain⟨B2,K2,hB2,hK2,hm⟩:=bA hm
  refine A.lpI (l:=e.List) (j0:=0) (B:=B2) (K:=K2) hm (λj2=>λm_4=>[(4,.ptr 24004 0),(5,.ptr 24005 0),(8,.ptr 24008 0),(11,.ptr 24011 0),(12,.own 600024012),(13,.ptr 24013 0),(14,.ptr 24014 0),(15,lf cG bD.2),(73,lf aQ e.List),(74,i6 (e.List.length:Int)),(75,i6 (j2:Int))]) (λj2=>λm_4=>[(24004,.cells 32 (k6 e)),(24005,.cells 28 (k2 t)),(24008,.cells 74 [.aS,.aS,.aS]),(24011,.cells 74 [.own 702401100,.own 702401101,.own 702401102]),(600024012,.win 134 11 (ml cU ki)),(702401100,.slice 78 11 (ml dn m_4) 0 false),(702401101,.slice 81 3 (ml dI m_2) 0 false),(702401102,.slice 141 2 (ml jN m_3) 0 false),(24013,.cells 134 (k14 e_1)),(24014,.cells 46 (k11 bD.1))]) ?_ ?_ ?_
  ·exact qW
  ·rintro j2 e2 Z2 m_4 hj2 hx2 hm
   rw[hB2]at hm
   refine qDs [] [] [(76,.bool (decide ((j2:Int)<(e.List.length:Int))))]<|A.seq<|qT (ltT hx2)<|A.skip ?_
   obtain⟨J2,hJ2,hm⟩:=cR hm
   refine A.J (J:=J2) (r:=r) (λm_5=>[(4,.ptr 24004 0),(5,.ptr 24005 0),(8,.ptr 24008 0),(11,.ptr 24011 0),(12,.own 600024012),(13,.ptr 24013 0),(14,.ptr 24014 0),(15,lf cG bD.2),(73,lf aQ e.List),(74,i6 (e.List.length:Int)),(75,i6 (j2:Int))]) (λm_5=>[(24004,.cells 32 (k6 e)),(24005,.cells 28 (k2 t)),(24008,.cells 74 [.aS,.aS,.aS]),(24011,.cells 74 [.own 702401100,.own 702401101,.own 702401102]),(600024012,.win 134 11 (ml cU ki)),(702401100,.slice 78 11 (ml dn m_5) 0 false),(702401101,.slice 81 3 (ml dI m_2) 0 false),(702401102,.slice 141 2 (ml jN m_3) 0 false),(24013,.cells 134 (k14 e_1)),(24014,.cells 46 (k11 bD.1))]) ?_ ?_
   ·refine A.block<|qD [(0,hix (ix aQ (bK hx2))),(2,.al 24017)] [76] [(17,.ptr 24017 0)] [] [(24017,.cells 38 (k4 e2))] ?_
    obtain⟨h8,hm⟩:=fF hm
    refine qDs [(4,.sh e2.Bit (of_decide_eq_true h8))] [] [(85,.bool (decide (bX .and .u64 (Int.fdiv bD.1.Local (2 ^ min e2.Bit.toNat 64)) (1:Int)=(1:Int))))] ?_
    rcases aq hm with⟨c7,hm⟩|⟨c7,hm⟩
    ·refine qT c7 ?_
     obtain⟨dA,h9,hm⟩:=aa hm
     obtain⟨l_1,h10,hm⟩:=aa hm
     exact qG [(8,hro (x9 h9) ck73),(11,hap 24597 (ap dn (bytes:=96) (by decide) h10))] [17,85] [] [24011,702401100,24017] [(24011,.cells 74 [.own 24597,.own 702401101,.own 702401102]),(24597,.slice 78 11 (ml dn l_1) 0 false)]<|Exists.intro l_1 (And.intro hm (bp.go [.sw 24597 702401100] [] (by kernel_rfl)))
    exact qF c7<|A.skip<|qX m_4 hm
   rintro m_5 hm
   rw[hJ2]at hm
   exact qGs [(0,hto (inc hx2 hb2))] [75] [(75,i6 ((j2+1:Nat):Int))]<|qX m_5 hm
  rintro j2 m_4 hj2 hl2 hm
  rw[hK2]at hm
  refine qDs [] [] [(76,.bool (decide ((j2:Int)<(e.List.length:Int))))]<|A.seq<|qF (ltF hl2)<|A.exit ?_
  obtain⟨J3,hJ3,hm⟩:=cR hm
  refine A.J (J:=J3) (r:=r) (λm_6=>[(4,.ptr 24004 0),(5,.ptr 24005 0),(8,.ptr 24008 0),(11,.ptr 24011 0),(12,.own 600024012),(13,.ptr 24013 0),(15,lf cG bD.2)]) (λm_6=>[(24004,.cells 32 (k6 e)),(24005,.cells 28 (k2 t)),(24008,.cells 74 [.aS,.aS,.aS]),(24011,.cells 74 [.own 702401100,.own 702401101,.own 702401102]),(600024012,.win 134 11 (ml cU ki)),(702401100,.slice 78 11 (ml dn m_4) 0 false),(702401101,.slice 81 3 (ml dI m_2) 0 false),(702401102,.slice 141 2 (ml jN m_6) 0 false),(24013,.cells 134 (k14 e_1))]) ?_ ?_
  ·refine qDs [] [73,74,75,76] [(102,.bool (!decide (bD.1.tj=0)))] ?_
   rcases aq hm with⟨c8,hm⟩|⟨c8,hm⟩
   ·refine qT c8 ?_
    obtain⟨l_2,h11,hm⟩:=aa hm
    exact qG [(8,hap 24611 (ap jN (bytes:=16) (by decide) h11))] [14,102] [] [24011,702401102,24014] [(24011,.cells 74 [.own 702401100,.own 702401101,.own 24611]),(24611,.slice 141 2 (ml jN l_2) 0 false)]<|Exists.intro l_2 (And.intro hm (bp.go [.sw 24611 702401102] [] (by kernel_rfl)))
   exact qF c8<|A.skip<|qX m_3 hm
  rintro m_6 hm
  rw[hJ3]at hm
  refine qDs [(1,hto (lnE cG bD.2))] [15] [(113,lf cG bD.2),(114,i6 (bD.2.length:Int)),(115,i6 0)]<|A.block<|A.bS 113 rfl λhb3=>?_
  obtain⟨B3,K3,hB3,hK3,hm⟩:=bA hm
  refine A.lpI (l:=bD.2) (j0:=0) (B:=B3) (K:=K3) hm (λj3=>λ(gv,m_7,m_8)=>[(4,.ptr 24004 0),(5,.ptr 24005 0),(8,.ptr 24008 0),(11,.ptr 24011 0),(12,.own 600024012),(13,.ptr 24013 0),(113,lf cG bD.2),(114,i6 (bD.2.length:Int)),(115,i6 (j3:Int))]) (λj3=>λ(gv,m_7,m_8)=>[(24004,.cells 32 (k6 e)),(24005,.cells 28 (k2 t)),(24008,.cells 74 [.aS,.aS,.aS]),(24011,.cells 74 [.own 702401100,.own 702401101,.own 702401102]),(600024012,.win 134 11 (ml cU gv)),(702401100,.slice 78 11 (ml dn m_4) 0 false),(702401101,.slice 81 3 (ml dI m_7) 0 false),(702401102,.slice 141 2 (ml jN m_8) 0 false),(24013,.cells 134 (k14 e_1))]) ?_ ?_ ?_
  ·exact qW
  ·rintro j3 e3 Z3 ⟨gv,m_7,m_8⟩ hj3 hx3 hm
   rw[hB3]at hm
   refine qDs [] [] [(116,.bool (decide ((j3:Int)<(bD.2.length:Int))))]<|A.seq<|qT (ltT hx3)<|A.skip ?_
   obtain⟨J4,hJ4,hm⟩:=cR hm
   refine A.J (J:=J4) (r:=r) (λ(mD,m_9,mY)=>[(4,.ptr 24004 0),(5,.ptr 24005 0),(8,.ptr 24008 0),(11,.ptr 24011 0),(12,.own 600024012),(13,.ptr 24013 0),(113,lf cG bD.2),(114,i6 (bD.2.length:Int)),(115,i6 (j3:Int))]) (λ(mD,m_9,mY)=>[(24004,.cells 32 (k6 e)),(24005,.cells 28 (k2 t)),(24008,.cells 74 [.aS,.aS,.aS]),(24011,.cells 74 [.own 702401100,.own 702401101,.own 702401102]),(600024012,.win 134 11 (ml cU mD)),(702401100,.slice 78 11 (ml dn m_4) 0 false),(702401101,.slice 81 3 (ml dI m_9) 0 false),(702401102,.slice 141 2 (ml jN mY) 0 false),(24013,.cells 134 (k14 e_1))]) ?_ ?_
   ·refine A.block<|qD [(0,hix (ix cG (bK hx3))),(2,.al 24019)] [116] [(19,.ptr 24019 0)] [] [(24019,.cells 143 (k12 e3))] ?_
    obtain⟨eS,h12,hm⟩:=aa hm
    refine qDs [(5,hro (vj h12) ck74)] [] [(20,lf aG eS.1),(21,.bool eS.2)]<|A.seq<|qDs [] [21] [(129,.bool (!eS.2))] ?_
    rcases aq hm with⟨c9,hm⟩|⟨c9,hm⟩
    ·refine qT c9 ?_
     obtain⟨h13,hm⟩:=fF hm
     obtain⟨l_3,h14,hm⟩:=aa hm
     exact qD [(7,.sh e3.eF.Bit (of_decide_eq_true h13)),(10,hap 24640 (ap jN (bytes:=16) (by decide) h14))] [129] [] [24011,702401102] [(24011,.cells 74 [.own 702401100,.own 702401101,.own 24640]),(24640,.slice 141 2 (ml jN l_3) 0 false)]<|A.exit<|Exists.intro (gv,m_7,l_3) (And.intro hm (bp.go [.sw 24640 702401102] [] (by kernel_rfl)))
    refine qF c9<|A.skip<|qDs [] [129] [(22,i6 e_1.aT)]<|A.seq<|qDs [(1,hto (lnE aG eS.1))] [20] [(144,lf aG eS.1),(145,i6 (eS.1.length:Int)),(146,i6 0)]<|A.block<|A.bS 144 rfl λhb4=>?_
    obtain⟨B4,K4,hB4,hK4,hm⟩:=bA hm
    refine A.lpI (l:=eS.1) (j0:=0) (B:=B4) (K:=K4) hm (λj4=>λ(gw,gE)=>[(4,.ptr 24004 0),(5,.ptr 24005 0),(8,.ptr 24008 0),(11,.ptr 24011 0),(12,.own 600024012),(13,.ptr 24013 0),(19,.ptr 24019 0),(22,i6 gw),(113,lf cG bD.2),(114,i6 (bD.2.length:Int)),(115,i6 (j3:Int)),(144,lf aG eS.1),(145,i6 (eS.1.length:Int)),(146,i6 (j4:Int))]) (λj4=>λ(gw,gE)=>[(24004,.cells 32 (k6 e)),(24005,.cells 28 (k2 t)),(24008,.cells 74 [.aS,.aS,.aS]),(24011,.cells 74 [.own 702401100,.own 702401101,.own 702401102]),(600024012,.win 134 11 (ml cU gv)),(702401100,.slice 78 11 (ml dn m_4) 0 false),(702401101,.slice 81 3 (ml dI gE) 0 false),(702401102,.slice 141 2 (ml jN m_8) 0 false),(24013,.cells 134 (k14 e_1)),(24019,.cells 143 (k12 e3))]) ?_ ?_ ?_
    ·exact qW
    ·rintro j4 e4 Z4 ⟨gw,gE⟩ hj4 hx4 hm
     rw[hB4]at hm
     refine qDs [] [] [(147,.bool (decide ((j4:Int)<(eS.1.length:Int))))]<|A.seq<|qT (ltT hx4)<|A.skip<|A.seq<|A.block<|qDs [(0,hix (ix aG (bK hx4)))] [147] [(24,i6 e4)] ?_
     obtain⟨l_4,h15,hm⟩:=aa hm
     exact qD [(11,hap 24661 (ap dI (bytes:=24) (by decide) h15))] [22] [] [24011,702401101] [(24011,.cells 74 [.own 702401100,.own 24661,.own 702401102]),(24661,.slice 81 3 (ml dI l_4) 0 false)]<|qGs [] [24] [(22,i6 e4)]<|qGs [(0,hto (inc hx4 hb4))] [146] [(146,i6 ((j4+1:Nat):Int))]<|Exists.intro (e4,l_4) (And.intro hm (bp.go [.sw 24661 702401101] [] (by kernel_rfl)))
    rintro j4 ⟨gw,gE⟩ hj4 hl4 hm
    rw[hK4]at hm
    refine qDs [] [] [(147,.bool (decide ((j4:Int)<(eS.1.length:Int))))]<|A.seq<|qF (ltF hl4)<|A.exit<|A.seq<|qDs [(2,hto (lnE dI gE))] [144,145,146,147] [(168,.bool (decide (2000<(gE.length:Int))))] ?_
    rcases aq hm with⟨c10,hm⟩|⟨c10,hm⟩
    ·refine qT c10<|qS [] [(8,.ptr 24008 0),(9,i6 11)] [(24008,.cells 74 [.aS,.aS,.aS])] ?_
     cases hm
     exact A.ret qE
    refine qF c10<|A.skip ?_
    obtain⟨l_5,h16,hm⟩:=aa hm
    exact qG [(8,hap 24678 (ap cU (bytes:=96) (by decide) h16))] [12,19,22,168] [(12,.own 24678)] [600024012,24019] [(24678,.win 134 11 (ml cU l_5))]<|Exists.intro (l_5,gE,m_8) (And.intro hm (bp.go [.sw 24678 600024012] [] (by kernel_rfl)))
   rintro⟨mD,m_9,mY⟩ hm
   rw[hJ4]at hm
   exact qGs [(0,hto (inc hx3 hb3))] [115] [(115,i6 ((j3+1:Nat):Int))]<|qX (mD,m_9,mY) hm
  rintro j3 ⟨gv,m_7,m_8⟩ hj3 hl3 hm
  rw[hK3]at hm
  refine qDs [] [] [(116,.bool (decide ((j3:Int)<(bD.2.length:Int))))]<|A.seq<|qF (ltF hl3)<|A.exit ?_
  obtain⟨l_6,h17,hm⟩:=aa hm
  exact qG [(1,hws 24559 (aga cU h17))] [12,13,113,114,115,116] [(12,.own 24559)] [600024012,24013] [(24559,.win 134 11 (ml cU l_6))]<|Exists.intro (l_6,m_4,m_7,m_8) (And.intro hm (bp.go [.sw 24559 600024012] [] (by kernel_rfl)))
 refine qF c6<|A.exit<|qD [] [4,5,11,12,57] [(9,i6 0)] [24004,24005,24008,24011,600024012] [(24008,.cells 74 [.own 702401100,.own 702401101,.own 702401102])]<|A.ret ?_
 obtain rfl:=some_inj hm
 exact A.fin W0 [.fz [702401100,702401101,702401102]] rfl (by kernel_rfl)
theorem tC{e:aI}{t:cE}{receivers:List Int}{r:aK×Int}(hm:iB e t receivers p=some r):RO prog 23 [] [.agg (k6 e),.agg (k7 t),lf aG receivers,.agg (k10 p)] (.tup [.agg (k10 r.1),i6 r.2]):=by
 refine bu func23 rfl rfl ?_
 unfold iB at hm
 refine qS [(0,.al 23004),(1,.al 23005),(2,.al 23007),(3,.al 23008)] [(2,lf aG receivers),(4,.ptr 23004 0),(5,.ptr 23005 0),(7,.ptr 23007 0),(8,.ptr 23008 0)] [(23004,.cells 32 (k6 e)),(23005,.cells 63 (k7 t)),(23007,.cells 36 (k10 p)),(23008,.cells 36 [i6 0,i6 0,i6 0,i6 0,i6 0,i6 0,i6 0,i6 0,.int .u64 (0:Int),.str (⟨#[]⟩:ByteArray)])] ?_
 obtain⟨ak,h1,hm⟩:=aa hm
 refine qD [(3,hro (vh h1) ck67)] [2,5] [(10,.int .u64 ak.1),(11,i6 ak.2)] [23005] []<|A.seq<|qDs [] [] [(20,.bool (!decide (ak.2=0)))] ?_
 rcases aq hm with⟨c1,hm⟩|⟨c1,hm⟩
 ·refine qT c1<|qD [] [4,7,10,11,20] [(9,i6 ak.2)] [23004,23007] [] ?_
  cases hm
  exact A.ret qE
 refine qF c1<|A.skip<|qD [] [4,10,11,20] [] [23004,23007] [(23007,.cells 36 [i6 2,i6 p.cL,i6 p.Set,i6 e.Length,i6 p.TTL,i6 p.dG,i6 p.dH,i6 p.fk,.int .u64 ak.1,.str p.cv])]<|A.seq ?_
 obtain⟨aO,h2,hm⟩:=aa hm
 refine qDs [(1,hro (hU h2) zx)] [] [(31,.bool (!aO))] ?_
 rcases aq hm with⟨c2,hm⟩|⟨c2,hm⟩
 ·refine qT c2<|qD [] [7,31] [(9,i6 1)] [23007] [] ?_
  cases hm
  exact A.ret qE
 refine qF c2<|A.skip<|qS [] [(8,.ptr 23008 0),(9,i6 0)] [(23008,.cells 36 [i6 2,i6 p.cL,i6 p.Set,i6 e.Length,i6 p.TTL,i6 p.dG,i6 p.dH,i6 p.fk,.int .u64 ak.1,.str p.cv])] ?_
 cases hm
 exact A.ret qE
end Go.Proofs.YtdjeacigeegklaaGreat
