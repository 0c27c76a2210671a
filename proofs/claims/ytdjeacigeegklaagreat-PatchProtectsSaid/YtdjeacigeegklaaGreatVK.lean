/- The iJ of ee of the program. No condition but bJ aY stand in each. -/
import Derived.Test.YtdjeacigeegklaaGreatVJ
import Derived.Test.YtdjeacigeegklaaGreatV6
namespace Go.Proofs.YtdjeacigeegklaaGreat
open Go Go.Proofs.Tryz
set_option maxRecDepth 100000
set_option linter.all false
variable {r:Bool}
theorem cu{n:Int}{most:Int}(hm:kV n most=some r):RO prog 118 [] [i6 n,i6 most] (.bool r):=by
 refine bh func118 rfl rfl ?_
 unfold kV at hm
 refine qS [] [(0,i6 n),(1,i6 most)] []<|A.mid [(4,.bool ((decide (0≤n))&&(decide (n≤most))))] [] (λhk=>?_) ?_
 ·rcases tf (decide (0≤n))with c1|c1
  ·exact qS [(2,hto (bE c1)),(7,hto (nO (q:=decide (n≤most)) c1))] _ _ hk
  exact qS [(2,hto (bE c1)),(7,hto (oK (q:=decide (n≤most)) c1))] _ _ hk
 cases hm
 exact A.ret qE
variable {p:aH}
theorem jQ(hm:kP p=some r):RO prog 68 [] [.agg (k10 p)] (.bool r):=by
 refine bh func68 rfl rfl ?_
 unfold kP at hm
 refine qS [(0,.al 68001)] [(1,.ptr 68001 0)] [(68001,.cells 36 (k10 p))] ?_
 rcases ak hm with⟨c1,hm⟩|⟨c1,hm⟩
 ·rcases ak hm with⟨c2,hm⟩|⟨c2,hm⟩
  ·obtain⟨ai,h1,hm⟩:=af hm
   rcases ak hm with⟨c3,hm⟩|⟨c3,hm⟩
   ·obtain⟨aI,h2,hm⟩:=af hm
    rcases ak hm with⟨c4,hm⟩|⟨c4,hm⟩
    ·obtain⟨bf,h3,hm⟩:=af hm
     rcases ak hm with⟨c5,hm⟩|⟨c5,hm⟩
     ·obtain⟨bB,h4,hm⟩:=af hm
      rcases ak hm with⟨c6,hm⟩|⟨c6,hm⟩
      ·obtain⟨bD,h5,hm⟩:=af hm
       rcases ak hm with⟨c7,hm⟩|⟨c7,hm⟩
       ·obtain⟨cW,h6,hm⟩:=af hm
        rcases ak hm with⟨c8,hm⟩|⟨c8,hm⟩
        ·obtain⟨bH,h7,hm⟩:=af hm
         rcases ak hm with⟨c9,hm⟩|⟨c9,hm⟩
         ·refine qS [(3,hto (bE c1)),(8,hto (bE c2)),(11,hro (cu h1) gP),(13,hto (bE c3)),(16,hro (cu h2) gP),(18,hto (bE c4)),(23,hro (jP h3) aa3),(25,hto (bE c5)),(28,hro (cu h4) gP),(30,hto (bE c6)),(33,hro (cu h5) gP),(35,hto (bE c7)),(38,hro (cu h6) gP),(40,hto (bE c8)),(43,hro (cu h7) gP),(45,hto (bE c9))] [(2,.bool (decide ((p.cM.size:Int)≤(64:Int))))] [] ?_
          cases hm
          exact A.ret qE
         refine qS [(3,hto (bE c1)),(8,hto (bE c2)),(11,hro (cu h1) gP),(13,hto (bE c3)),(16,hro (cu h2) gP),(18,hto (bE c4)),(23,hro (jP h3) aa3),(25,hto (bE c5)),(28,hro (cu h4) gP),(30,hto (bE c6)),(33,hro (cu h5) gP),(35,hto (bE c7)),(38,hro (cu h6) gP),(40,hto (bE c8)),(43,hro (cu h7) gP),(45,hto (bE c9))] [(2,.bool false)] [] ?_
         cases hm
         exact A.ret qE
        refine qS [(3,hto (bE c1)),(8,hto (bE c2)),(11,hro (cu h1) gP),(13,hto (bE c3)),(16,hro (cu h2) gP),(18,hto (bE c4)),(23,hro (jP h3) aa3),(25,hto (bE c5)),(28,hro (cu h4) gP),(30,hto (bE c6)),(33,hro (cu h5) gP),(35,hto (bE c7)),(38,hro (cu h6) gP),(40,hto (bE c8))] [(2,.bool false)] [] ?_
        cases hm
        exact A.ret qE
       refine qS [(3,hto (bE c1)),(8,hto (bE c2)),(11,hro (cu h1) gP),(13,hto (bE c3)),(16,hro (cu h2) gP),(18,hto (bE c4)),(23,hro (jP h3) aa3),(25,hto (bE c5)),(28,hro (cu h4) gP),(30,hto (bE c6)),(33,hro (cu h5) gP),(35,hto (bE c7))] [(2,.bool false)] [] ?_
       cases hm
       exact A.ret qE
      refine qS [(3,hto (bE c1)),(8,hto (bE c2)),(11,hro (cu h1) gP),(13,hto (bE c3)),(16,hro (cu h2) gP),(18,hto (bE c4)),(23,hro (jP h3) aa3),(25,hto (bE c5)),(28,hro (cu h4) gP),(30,hto (bE c6))] [(2,.bool false)] [] ?_
      cases hm
      exact A.ret qE
     refine qS [(3,hto (bE c1)),(8,hto (bE c2)),(11,hro (cu h1) gP),(13,hto (bE c3)),(16,hro (cu h2) gP),(18,hto (bE c4)),(23,hro (jP h3) aa3),(25,hto (bE c5))] [(2,.bool false)] [] ?_
     cases hm
     exact A.ret qE
    refine qS [(3,hto (bE c1)),(8,hto (bE c2)),(11,hro (cu h1) gP),(13,hto (bE c3)),(16,hro (cu h2) gP),(18,hto (bE c4))] [(2,.bool false)] [] ?_
    cases hm
    exact A.ret qE
   refine qS [(3,hto (bE c1)),(8,hto (bE c2)),(11,hro (cu h1) gP),(13,hto (bE c3))] [(2,.bool false)] [] ?_
   cases hm
   exact A.ret qE
  refine qS [(3,hto (bE c1)),(8,hto (bE c2))] [(2,.bool false)] [] ?_
  cases hm
  exact A.ret qE
 refine qS [(3,hto (bE c1))] [(2,.bool false)] [] ?_
 cases hm
 exact A.ret qE
theorem ach{bit:Int}{r:aH}(hm:nj p bit=some r):RO prog 73 [] [.agg (k10 p),i6 bit] (.agg (k10 r)):=by
 refine bh func73 rfl rfl ?_
 unfold nj at hm
 refine qS [(0,.al 73002),(1,.al 73004)] [(1,i6 bit),(2,.ptr 73002 0),(4,.ptr 73004 0)] [(73002,.cells 36 (k10 p)),(73004,.cells 36 [i6 0,i6 0,i6 0,i6 0,i6 0,i6 0,i6 0,i6 0,.int .u64 (0:Int),.str (⟨#[]⟩:ByteArray)])]<|A.seq ?_
 obtain⟨J1,hJ1,hm⟩:=cw hm
 refine A.J (J:=J1) (r:=r) (λv_1=>[(1,i6 bit),(2,.ptr 73002 0),(4,.ptr 73004 0),(23,.bool v_1)]) (λv_1=>[(73002,.cells 36 (k10 p)),(73004,.cells 36 [i6 0,i6 0,i6 0,i6 0,i6 0,i6 0,i6 0,i6 0,.int .u64 (0:Int),.str (⟨#[]⟩:ByteArray)])]) ?_ ?_
 ·obtain⟨ai,h1,hm⟩:=af hm
  rcases ak hm with⟨c1,hm⟩|⟨c1,hm⟩
  ·exact qGs [(1,hro (jQ h1) adQ),(3,hto (bE c1))] [] [(23,.bool true)]<|qX true hm
  rcases ak hm with⟨c2,hm⟩|⟨c2,hm⟩
  ·exact qGs [(1,hro (jQ h1) adQ),(3,hto (bE c1)),(7,hto (bE c2))] [] [(23,.bool true)]<|qX true hm
  rcases ak hm with⟨c3,hm⟩|⟨c3,hm⟩
  ·exact qGs [(1,hro (jQ h1) adQ),(3,hto (bE c1)),(7,hto (bE c2)),(11,hto (bE c3))] [] [(23,.bool true)]<|qX true hm
  obtain⟨h2,hm⟩:=fI hm
  exact qGs [(1,hro (jQ h1) adQ),(3,hto (bE c1)),(7,hto (bE c2)),(11,hto (bE c3)),(15,.sh bit (of_decide_eq_true h2))] [] [(23,.bool (decide (br .and .u64 (Int.fdiv p.Bits (2 ^ min bit.toNat 64)) (1:Int)=(0:Int))))]<|qX (decide (br .and .u64 (Int.fdiv p.Bits (2 ^ min bit.toNat 64)) (1:Int)=(0:Int))) hm
 rintro v_1 hm
 rw[hJ1]at hm
 rcases ak hm with⟨c4,hm⟩|⟨c4,hm⟩
 ·refine qT c4<|qD [] [1,2,23] [] [73002] [] ?_
  cases hm
  exact A.ret qE
 refine qF c4<|A.skip ?_
 obtain⟨h3,hm⟩:=fI hm
 refine qD [(1,.sh bit (of_decide_eq_true h3))] [1,23] [] [73002] [(73002,.cells 36 [i6 p.Mode,i6 p.cC,i6 p.Set,i6 p.Length,i6 p.TTL,i6 p.dG,i6 p.dH,i6 p.eO,.int .u64 (IntKind.wrap .u64 ((1:Int)*2 ^ min bit.toNat 64)),.str p.cM])]<|qS [] [(4,.ptr 73004 0)] [(73004,.cells 36 [i6 p.Mode,i6 p.cC,i6 p.Set,i6 p.Length,i6 p.TTL,i6 p.dG,i6 p.dH,i6 p.eO,.int .u64 (IntKind.wrap .u64 ((1:Int)*2 ^ min bit.toNat 64)),.str p.cM])] ?_
 cases hm
 exact A.ret qE
theorem x9{e:aC}{r:Int}(hm:lH e p=some r):RO prog 71 [] [.agg (k7 e),.agg (k10 p)] (i6 r):=by
 refine bh func71 rfl rfl ?_
 unfold lH at hm
 refine qS [(0,.al 71002),(1,.al 71003)] [(2,.ptr 71002 0),(3,.ptr 71003 0)] [(71002,.cells 32 (k7 e)),(71003,.cells 36 (k10 p))]<|A.seq<|A.block<|qDs [] [] [(5,.bool (!decide (p.Mode=2)))] ?_
 rcases ak hm with⟨c1,hm⟩|⟨c1,hm⟩
 ·refine qT c1<|qS [] [(4,i6 7)] [] ?_
  cases hm
  exact A.ret qE
 refine qF c1<|qS [] [(9,.bool (!decide (p.Length=e.Length)))] [] ?_
 rcases ak hm with⟨c2,hm⟩|⟨c2,hm⟩
 ·refine qT c2<|qS [] [(4,i6 8)] [] ?_
  cases hm
  exact A.ret qE
 refine qF c2<|A.skip<|qS [] [(4,i6 0)] [] ?_
 cases hm
 exact A.ret qE
variable {aS:Int}
theorem xF{e:aC}{r:cE×(List cA)}(hm:kG e aS p=some r):RO prog 72 [] [.agg (k7 e),i6 aS,.agg (k10 p)] (.tup [.agg (k12 r.1),lf iE r.2]):=by
 refine bh func72 rfl rfl ?_
 unfold kG at hm
 refine qS [(0,.al 72003),(1,.al 72005),(2,.al 72006)] [(1,i6 aS),(3,.ptr 72003 0),(5,.ptr 72005 0),(6,.ptr 72006 0),(7,.aQ)] [(72003,.cells 32 (k7 e)),(72005,.cells 36 (k10 p)),(72006,.cells 46 [.int .u64 (0:Int),.int .u64 (0:Int),.aQ])] ?_
 obtain⟨ai,h1,hm⟩:=af hm
 refine qDs [(4,hro (uv h1) anr)] [] [(8,.int .u64 (br .andNot .u64 p.Bits ai))]<|A.seq<|qD [(2,hto (lnE aF e.List))] [3] [(20,lf aF e.List),(21,i6 (e.List.length:Int)),(22,i6 0)] [72003] []<|A.block<|A.bS 20 rfl λhb1=>?_
 obtain⟨B1,K1,hB1,hK1,hm⟩:=bu hm
 refine A.lpI (l:=e.List) (j0:=0) (B:=B1) (K:=K1) hm (λj1=>λ(iM,m_1,m_2,m_3)=>[(1,i6 aS),(5,.ptr 72005 0),(6,.ptr 72006 0),(7,.own 600072007),(8,.int .u64 (br .andNot .u64 p.Bits ai)),(20,lf aF e.List),(21,i6 (e.List.length:Int)),(22,i6 (j1:Int))]) (λj1=>λ(iM,m_1,m_2,m_3)=>[(72005,.cells 36 (k10 p)),(72006,.cells 46 [.int .u64 m_1,.int .u64 m_2,.own 707200602]),(600072007,.slice 143 16 (ml iE iM) 0 false),(707200602,.slice 54 12 (ml dQ m_3) 0 false)]) ?_ ?_ ?_
 ·exact bx.go [.ad 7 600072007 143 16,.ac 72006 707200602 54 12 2] [] (by kernel_rfl)
 ·rintro j1 e1 Z1 ⟨iM,m_1,m_2,m_3⟩ hj1 hx1 hm
  rw[hB1]at hm
  refine qDs [] [] [(23,.bool (decide ((j1:Int)<(e.List.length:Int))))]<|A.seq<|qT (ltT hx1)<|A.skip ?_
  obtain⟨J1,hJ1,hm⟩:=cw hm
  refine A.J (J:=J1) (r:=r) (λ(vj,m_4,m_5,m_6)=>[(1,i6 aS),(5,.ptr 72005 0),(6,.ptr 72006 0),(7,.own 600072007),(8,.int .u64 (br .andNot .u64 p.Bits ai)),(20,lf aF e.List),(21,i6 (e.List.length:Int)),(22,i6 (j1:Int))]) (λ(vj,m_4,m_5,m_6)=>[(72005,.cells 36 (k10 p)),(72006,.cells 46 [.int .u64 m_4,.int .u64 m_5,.own 707200602]),(600072007,.slice 143 16 (ml iE vj) 0 false),(707200602,.slice 54 12 (ml dQ m_6) 0 false)]) ?_ ?_
  ·refine A.block<|qD [(0,hix (ix aF (bt hx1))),(2,.al 72010)] [23] [(10,.ptr 72010 0)] [] [(72010,.cells 38 (k5 e1))] ?_
   obtain⟨h2,hm⟩:=fI hm
   refine qDs [(2,.sh e1.Bit (of_decide_eq_true h2))] [] [(11,.int .u64 (IntKind.wrap .u64 ((1:Int)*2 ^ min e1.Bit.toNat 64)))]<|A.seq<|A.mid [(1,i6 aS),(5,.ptr 72005 0),(6,.ptr 72006 0),(7,.own 600072007),(8,.int .u64 (br .andNot .u64 p.Bits ai)),(20,lf aF e.List),(21,i6 (e.List.length:Int)),(22,i6 (j1:Int)),(10,.ptr 72010 0),(11,.int .u64 (IntKind.wrap .u64 ((1:Int)*2 ^ min e1.Bit.toNat 64))),(39,.bool ((!decide (e1.aO=aS))||(decide (br .and .u64 p.Bits (IntKind.wrap .u64 ((1:Int)*2 ^ min e1.Bit.toNat 64))=(0:Int)))))] [(72005,.cells 36 (k10 p)),(72006,.cells 46 [.int .u64 m_1,.int .u64 m_2,.own 707200602]),(600072007,.slice 143 16 (ml iE iM) 0 false),(707200602,.slice 54 12 (ml dQ m_3) 0 false),(72010,.cells 38 (k5 e1))] (λhk=>?_) ?_
   ·rcases tf (!decide (e1.aO=aS))with c1|c1
    ·exact qS [(4,hto (bE c1)),(10,hto (orT (q:=decide (br .and .u64 p.Bits (IntKind.wrap .u64 ((1:Int)*2 ^ min e1.Bit.toNat 64))=(0:Int))) c1))] _ _ hk
    exact qS [(4,hto (bE c1)),(10,hto (orF (q:=decide (br .and .u64 p.Bits (IntKind.wrap .u64 ((1:Int)*2 ^ min e1.Bit.toNat 64))=(0:Int))) c1))] _ _ hk
   rcases ak hm with⟨c2,hm⟩|⟨c2,hm⟩
   ·exact qT c2<|A.exit<|qX (iM,m_1,m_2,m_3) hm
   refine qF c2<|A.skip<|A.block<|qDs [] [39] [(40,.bool (decide (e1.Kind=3)))] ?_
   rcases ak hm with⟨c3,hm⟩|⟨c3,hm⟩
   ·exact qT c3<|qG [] [10,11,40] [] [72006,72010] [(72006,.cells 46 [.int .u64 (br .or .u64 m_1 (IntKind.wrap .u64 ((1:Int)*2 ^ min e1.Bit.toNat 64))),.int .u64 m_2,.own 707200602])]<|qX (iM,br .or .u64 m_1 (IntKind.wrap .u64 ((1:Int)*2 ^ min e1.Bit.toNat 64)),m_2,m_3) hm
   refine qF c3<|qDs [] [40] [(49,.bool (decide (p.TTL=0)))] ?_
   rcases ak hm with⟨c4,hm⟩|⟨c4,hm⟩
   ·exact qT c4<|qG [] [10,11,49] [] [72006,72010] [(72006,.cells 46 [.int .u64 m_1,.int .u64 (br .or .u64 m_2 (IntKind.wrap .u64 ((1:Int)*2 ^ min e1.Bit.toNat 64))),.own 707200602])]<|qX (iM,m_1,br .or .u64 m_2 (IntKind.wrap .u64 ((1:Int)*2 ^ min e1.Bit.toNat 64)),m_3) hm
   refine qF c4<|qDs [] [11,49] [(58,.bool (!decide (br .andNot .u64 p.Bits ai=0)))] ?_
   rcases ak hm with⟨c5,hm⟩|⟨c5,hm⟩
   ·refine qT c5<|qD [(5,.al 72012)] [58] [(12,.ptr 72012 0)] [] [(72012,.cells 54 [i6 e1.To,.aQ,i6 p.Mode,i6 p.cC,i6 p.Set,i6 p.Length,i6 p.TTL,i6 p.dG,i6 p.dH,i6 p.eO,.int .u64 p.Bits,.str p.cM])]<|qD [] [] [] [72012] [(72012,.cells 54 [i6 e1.To,.aQ,i6 p.Mode,i6 p.cC,i6 p.Set,i6 p.Length,i6 (w64 (p.TTL-1)),i6 p.dG,i6 p.dH,i6 p.eO,.int .u64 (br .andNot .u64 p.Bits ai),.str p.cM])] ?_
    obtain⟨J2,hJ2,hm⟩:=cw hm
    refine A.J (J:=J2) (r:=r) (λm_7=>[(1,i6 aS),(5,.ptr 72005 0),(6,.ptr 72006 0),(7,.own 600072007),(8,.int .u64 (br .andNot .u64 p.Bits ai)),(10,.ptr 72010 0),(12,.ptr 72012 0),(20,lf aF e.List),(21,i6 (e.List.length:Int)),(22,i6 (j1:Int))]) (λm_7=>[(72005,.cells 36 (k10 p)),(72006,.cells 46 [.int .u64 m_1,.int .u64 m_2,.own 707200602]),(600072007,.slice 143 16 (ml iE iM) 0 false),(707200602,.slice 54 12 (ml dQ m_3) 0 false),(72010,.cells 38 (k5 e1)),(72012,.cells 54 [i6 e1.To,.own 707201201,i6 p.Mode,i6 p.cC,i6 p.Set,i6 p.Length,i6 (w64 (p.TTL-1)),i6 p.dG,i6 p.dH,i6 p.eO,.int .u64 (br .andNot .u64 p.Bits ai),.str p.cM]),(707201201,.slice 3 1 (ml aA m_7) 0 false)]) ?_ ?_
    ·refine qDs [] [] [(78,.bool (decide (e1.Kind=2)))] ?_
     rcases ak hm with⟨c6,hm⟩|⟨c6,hm⟩
     ·exact qT c6<|qG [(2,.al 72081)] [78] [] [72012] [(72012,.cells 54 [i6 e1.To,.own 72081,i6 p.Mode,i6 p.cC,i6 p.Set,i6 p.Length,i6 (w64 (p.TTL-1)),i6 p.dG,i6 p.dH,i6 p.eO,.int .u64 (br .andNot .u64 p.Bits ai),.str p.cM]),(72081,.slice 3 1 (ml aA ([e1.To]:List Int)) 0 false)]<|Exists.intro ([e1.To]:List Int) (And.intro hm (bx.go [.sw 72081 707201201] [] (by kernel_rfl)))
     exact qF c6<|A.skip<|Exists.intro [] (And.intro hm (bx.go [.ac 72012 707201201 3 1 1] [] (by kernel_rfl)))
    rintro m_7 hm
    rw[hJ2]at hm
    obtain⟨l_1,h3,hm⟩:=af hm
    obtain⟨l_2,h4,hm⟩:=af hm
    exact A.R W0 [.fz [707201201],.sc 72012 [72005,72006,600072007,707200602,72010,72012]] [(4,hap 72588 (ap dQ (bytes:=120) (by decide) h3)),(10,hap 72594 (ap iE (bytes:=152) (by decide) h4))] [(1,i6 aS),(5,.ptr 72005 0),(6,.ptr 72006 0),(7,.own 72594),(8,.int .u64 (br .andNot .u64 p.Bits ai)),(20,lf aF e.List),(21,i6 (e.List.length:Int)),(22,i6 (j1:Int))] [(72005,.cells 36 (k10 p)),(72006,.cells 46 [.int .u64 m_1,.int .u64 m_2,.own 72588]),(72588,.slice 54 12 (ml dQ l_1) 0 false),(72594,.slice 143 16 (ml iE l_2) 0 false)] (by kernel_rfl)<|Exists.intro (l_2,m_1,m_2,l_1) (And.intro hm (bx.go [.sw 72594 600072007,.sw 72588 707200602] [] (by kernel_rfl)))
   exact qF c5<|A.skip<|qX (iM,m_1,m_2,m_3) hm
  rintro⟨vj,m_4,m_5,m_6⟩ hm
  rw[hJ1]at hm
  exact qGs [(0,hto (inc hx1 hb1))] [22] [(22,i6 ((j1+1:Nat):Int))]<|qX (vj,m_4,m_5,m_6) hm
 rintro j1 ⟨iM,m_1,m_2,m_3⟩ hj1 hl1 hm
 rw[hK1]at hm
 refine qDs [] [] [(23,.bool (decide ((j1:Int)<(e.List.length:Int))))]<|A.seq<|qF (ltF hl1)<|A.exit<|qD [] [1,5,8,20,21,22,23] [] [72005] []<|A.ret ?_
 obtain rfl:=some_inj hm
 exact A.fin W0 [.fz [707200602,600072007]] rfl (by kernel_rfl)
theorem wL{e:aC}{r:cE×Int}(hm:jI e aS p=some r):RO prog 35 [] [.agg (k7 e),i6 aS,.agg (k10 p)] (.tup [.agg (k12 r.1),i6 r.2]):=by
 refine bh func35 rfl rfl ?_
 unfold jI at hm
 refine qS [(0,.al 35003),(1,.al 35005),(2,.al 35006)] [(1,i6 aS),(3,.ptr 35003 0),(5,.ptr 35005 0),(6,.ptr 35006 0)] [(35003,.cells 32 (k7 e)),(35005,.cells 36 (k10 p)),(35006,.cells 46 [.int .u64 (0:Int),.int .u64 (0:Int),.aQ])]<|A.seq ?_
 obtain⟨J1,hJ1,hm⟩:=cw hm
 refine A.J (J:=J1) (r:=r) (λv_1=>[(1,i6 aS),(3,.ptr 35003 0),(5,.ptr 35005 0),(6,.ptr 35006 0),(18,.bool v_1)]) (λv_1=>[(35003,.cells 32 (k7 e)),(35005,.cells 36 (k10 p)),(35006,.cells 46 [.int .u64 (0:Int),.int .u64 (0:Int),.aQ])]) ?_ ?_
 ·obtain⟨ai,h1,hm⟩:=af hm
  rcases ak hm with⟨c1,hm⟩|⟨c1,hm⟩
  ·exact qGs [(1,hro (iB h1) af8),(3,hto (bE c1))] [] [(18,.bool true)]<|qX true hm
  obtain⟨aI,h2,hm⟩:=af hm
  exact qGs [(1,hro (iB h1) af8),(3,hto (bE c1)),(5,hro (jQ h2) adQ)] [] [(18,.bool (!aI))]<|qX (!aI) hm
 rintro v_1 hm
 rw[hJ1]at hm
 rcases ak hm with⟨c2,hm⟩|⟨c2,hm⟩
 ·refine qT c2<|qD [] [1,3,5,18] [(7,i6 1)] [35003,35005] [] ?_
  cases hm
  exact A.ret qE
 refine qF c2<|A.skip<|A.seq ?_
 obtain⟨bf,h3,hm⟩:=af hm
 refine qDs [(2,hro (x9 h3) ck71)] [18] [(8,i6 bf)]<|qDs [] [] [(24,.bool (!decide (bf=0)))] ?_
 rcases ak hm with⟨c3,hm⟩|⟨c3,hm⟩
 ·refine qT c3<|qD [] [1,3,5,8,24] [(7,i6 bf)] [35003,35005] [] ?_
  cases hm
  exact A.ret qE
 refine qF c3<|A.skip ?_
 obtain⟨bB,h4,hm⟩:=af hm
 refine qD [(3,hro (xF h4) ck72),(7,.al 35009)] [1,3,5,8,24] [(9,.ptr 35009 0)] [35003,35005] [(35009,.cells 46 (k12 bB.1))]<|qS [] [(6,.ptr 35006 0),(7,i6 0)] [(35006,.cells 46 (k12 bB.1))] ?_
 cases hm
 exact A.ret qE
end Go.Proofs.YtdjeacigeegklaaGreat
