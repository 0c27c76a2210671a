/- The iy of ec of the program. No condition but bU bx stand in each. -/
import Derived.Test.YtdjeacigeegklaaGreatDL
import Derived.Test.YtdjeacigeegklaaGreatVK
import Derived.Test.YtdjeacigeegklaaGreatVN
namespace Go.Proofs.YtdjeacigeegklaaGreat
open Go Go.Proofs.Tryz
set_option maxRecDepth 100000
set_option linter.all false
theorem va{r:af}(hm:qx=some r):RO prog 65 [] [] (.agg (k2 r)):=by
 refine bh func65 rfl rfl ?_
 unfold qx at hm
 refine qS [(0,.al 65000)] [(0,.ptr 65000 0)] [(65000,.cells 28 [.aP,.aP])]<|qD [] [] [] [65000] [(65000,.cells 28 [.lst true (ml aJ ([(aY.mk (1:Int) true),(aY.mk (2:Int) true),(aY.mk (3:Int) true)]:List aY)),.lst true (ml bJ ([(bt.mk (1:Int) (2:Int) (1:Int) (1:Int) (0:Int)),(bt.mk (2:Int) (3:Int) (1:Int) (1:Int) (0:Int))]:List bt))])] ?_
 cases hm
 exact A.ret qE
theorem ve{r:Bool}(hm:oA=some r):RO prog 20 [] [] (.bool r):=by
 refine bh func20 rfl rfl ?_
 unfold oA at hm
 refine qS [] [] [] ?_
 obtain⟨ai,h1,hm⟩:=aa hm
 obtain⟨aI,h2,hm⟩:=aa hm
 refine qS [(0,hro (va h1) avZ),(1,hro (vG h2) avR),(5,.al 20001)] [(1,.ptr 20001 0)] [(20001,.cells 32 (k6 aI.1))] ?_
 obtain⟨bn,h3,hm⟩:=aa hm
 obtain⟨bf,h4,hm⟩:=aa hm
 refine qS [(1,hro (va h3) avZ),(3,hro (sK h4) avU),(7,.al 20003)] [(3,.ptr 20003 0),(4,i6 bf.2)] [(20003,.cells 74 (k15 bf.1))] ?_
 rcases aj hm with⟨c1,hm⟩|⟨c1,hm⟩
 ·rcases aj hm with⟨c2,hm⟩|⟨c2,hm⟩
  ·obtain⟨e_1,h5,hm⟩:=aa hm
   rcases aj hm with⟨c3,hm⟩|⟨c3,hm⟩
   ·rcases aj hm with⟨c4,hm⟩|⟨c4,hm⟩
    ·obtain⟨e_2,h6,hm⟩:=aa hm
     rcases aj hm with⟨c5,hm⟩|⟨c5,hm⟩
     ·obtain⟨e_3,h7,hm⟩:=aa hm
      refine qS [(2,hto (bE c1)),(5,hto (lnE cC bf.1.dD)),(8,hto (bE c2)),(11,hix (ix cC h5)),(16,hto (bE c3)),(19,hto (lnE cR bf.1.dF)),(22,hto (bE c4)),(25,hix (ix cR h6)),(30,hto (bE c5)),(33,hix (ix cR h7))] [(0,.bool (decide (e_3.Bits=32)))] [] ?_
      cases hm
      exact A.ret qE
     refine qS [(2,hto (bE c1)),(5,hto (lnE cC bf.1.dD)),(8,hto (bE c2)),(11,hix (ix cC h5)),(16,hto (bE c3)),(19,hto (lnE cR bf.1.dF)),(22,hto (bE c4)),(25,hix (ix cR h6)),(30,hto (bE c5))] [(0,.bool false)] [] ?_
     cases hm
     exact A.ret qE
    refine qS [(2,hto (bE c1)),(5,hto (lnE cC bf.1.dD)),(8,hto (bE c2)),(11,hix (ix cC h5)),(16,hto (bE c3)),(19,hto (lnE cR bf.1.dF)),(22,hto (bE c4))] [(0,.bool false)] [] ?_
    cases hm
    exact A.ret qE
   refine qS [(2,hto (bE c1)),(5,hto (lnE cC bf.1.dD)),(8,hto (bE c2)),(11,hix (ix cC h5)),(16,hto (bE c3))] [(0,.bool false)] [] ?_
   cases hm
   exact A.ret qE
  refine qS [(2,hto (bE c1)),(5,hto (lnE cC bf.1.dD)),(8,hto (bE c2))] [(0,.bool false)] [] ?_
  cases hm
  exact A.ret qE
 refine qS [(2,hto (bE c1))] [(0,.bool false)] [] ?_
 cases hm
 exact A.ret qE
variable {r:aD×aR}{sa0:aR}
theorem aaf{e:aG}(hm:nN sa0 e=some r):dZ prog 31 [(900000115,.cells 115 (k5 sa0))] [.ptr 900000115 0,.agg (k6 e)] (λa σ'=>a=.agg (k10 r.1)∧σ'=[(900000115,.cells 115 (k5 r.2))]):=by
 refine bh func31 rfl rfl ?_
 unfold nN at hm
 refine qS [(0,.al 31003),(1,.al 31004)] [(0,.ptr 900000115 0),(3,.ptr 31003 0),(4,.ptr 31004 0)] [(900000115,.cells 115 (k5 sa0)),(31003,.cells 32 (k6 e)),(31004,.cells 36 [i6 0,i6 0,i6 0,i6 0,i6 0,i6 0,i6 0,i6 0,.int .u64 (0:Int),.str (⟨#[]⟩:ByteArray)])] ?_
 obtain⟨ai,h1,hm⟩:=aa hm
 obtain⟨aI,h2,hm⟩:=aa hm
 obtain⟨bn,h3,hm⟩:=aa hm
 refine qD [(4,hdc [] (dn h1) uZ),(6,hdc [] (bz h2) jM),(8,hdc [] (bz h3) jM),(10,.al 31005)] [] [(5,.ptr 31005 0)] [900000115] [(900000115,.cells 115 (k5 bn.2)),(31005,.cells 36 [i6 2,i6 0,i6 0,i6 e.Length,i6 ai.1,i6 aI.1,i6 0,i6 bn.1,.int .u64 (0:Int),.str (⟨#[100,97,116,97]⟩:ByteArray)])] ?_
 obtain⟨bf,h4,hm⟩:=aa hm
 refine qD [(2,hdc [] (dn h4) uZ)] [] [(6,i6 bf.1)] [900000115] [(900000115,.cells 115 (k5 bf.2))]<|A.seq<|qD [(2,hto (lnE ay e.List))] [3] [(23,lf ay e.List),(24,i6 (e.List.length:Int)),(25,i6 0)] [31003] []<|A.block<|A.bS 23 rfl λhb1=>?_
 obtain⟨B1,K1,hB1,hK1,hm⟩:=aX hm
 refine A.lpI (l:=e.List) (j0:=0) (B:=B1) (K:=K1) hm (λj1=>λ(m_1,m_2,m_3)=>[(0,.ptr 900000115 0),(4,.ptr 31004 0),(5,.ptr 31005 0),(6,i6 bf.1),(23,lf ay e.List),(24,i6 (e.List.length:Int)),(25,i6 (j1:Int))]) (λj1=>λ(m_1,m_2,m_3)=>[(900000115,.cells 115 [lf aB m_2,i6 m_3]),(31004,.cells 36 [i6 0,i6 0,i6 0,i6 0,i6 0,i6 0,i6 0,i6 0,.int .u64 (0:Int),.str (⟨#[]⟩:ByteArray)]),(31005,.cells 36 [i6 2,i6 0,i6 0,i6 e.Length,i6 ai.1,i6 aI.1,i6 0,i6 bn.1,.int .u64 m_1,.str (⟨#[100,97,116,97]⟩:ByteArray)])]) ?_ ?_ ?_
 ·exact qW
 ·rintro j1 e1 Z1 ⟨m_1,m_2,m_3⟩ hj1 hx1 hm
  rw[hB1]at hm
  refine qDs [] [] [(26,.bool (decide ((j1:Int)<(e.List.length:Int))))]<|A.seq<|qT (ltT hx1)<|A.skip ?_
  show ah _ _ _ _ _
  obtain⟨J1,hJ1,hm⟩:=bQ hm
  refine A.J (J:=J1) (r:=r) (λ(m_4,m_5,m_6)=>[(0,.ptr 900000115 0),(4,.ptr 31004 0),(5,.ptr 31005 0),(6,i6 bf.1),(23,lf ay e.List),(24,i6 (e.List.length:Int)),(25,i6 (j1:Int))]) (λ(m_4,m_5,m_6)=>[(900000115,.cells 115 [lf aB m_4,i6 m_5]),(31004,.cells 36 [i6 0,i6 0,i6 0,i6 0,i6 0,i6 0,i6 0,i6 0,.int .u64 (0:Int),.str (⟨#[]⟩:ByteArray)]),(31005,.cells 36 [i6 2,i6 0,i6 0,i6 e.Length,i6 ai.1,i6 aI.1,i6 0,i6 bn.1,.int .u64 m_6,.str (⟨#[100,97,116,97]⟩:ByteArray)])]) ?_ ?_
  ·refine A.block<|qD [(0,hix (ix ay (bq hx1))),(2,.al 31008)] [26] [(8,.ptr 31008 0)] [] [(31008,.cells 38 (k4 e1))] ?_
   obtain⟨bO,h5,hm⟩:=aa hm
   refine qD [(2,hdc [] (bz h5) jM)] [] [(32,.bool (decide (0<bO.1)))] [900000115] [(900000115,.cells 115 (k5 bO.2))] ?_
   rcases aj hm with⟨c1,hm⟩|⟨c1,hm⟩
   ·refine qT c1 ?_
    obtain⟨h6,hm⟩:=dY hm
    exact qG [(5,.sh (IntKind.wrap .u64 e1.Bit) (of_decide_eq_true h6))] [8,32] [] [31005,31008] [(31005,.cells 36 [i6 2,i6 0,i6 0,i6 e.Length,i6 ai.1,i6 aI.1,i6 0,i6 bn.1,.int .u64 (bB .or .u64 m_1 (IntKind.wrap .u64 ((1:Int)*2 ^ min (IntKind.wrap .u64 e1.Bit).toNat 64))),.str (⟨#[100,97,116,97]⟩:ByteArray)])]<|qX (bO.2.L,bO.2.At,bB .or .u64 m_1 (IntKind.wrap .u64 ((1:Int)*2 ^ min (IntKind.wrap .u64 e1.Bit).toNat 64))) hm
   exact qF c1<|A.skip<|qX (bO.2.L,bO.2.At,m_1) hm
  rintro⟨m_4,m_5,m_6⟩ hm
  rw[hJ1]at hm
  exact qGs [(0,hto (inc hx1 hb1))] [25] [(25,i6 ((j1+1:Nat):Int))]<|qX (m_6,m_4,m_5) hm
 rintro j1 ⟨m_1,m_2,m_3⟩ hj1 hl1 hm
 rw[hK1]at hm
 refine qDs [] [] [(26,.bool (decide ((j1:Int)<(e.List.length:Int))))]<|A.seq<|qF (ltF hl1)<|A.exit ?_
 show ah _ _ _ _ _
 refine qD [] [0,5,6,23,24,25,26] [] [31004,31005] [(31004,.cells 36 [i6 2,i6 0,i6 0,i6 e.Length,i6 ai.1,i6 aI.1,i6 0,i6 bn.1,.int .u64 m_1,.str (⟨#[100,97,116,97]⟩:ByteArray)])] ?_
 cases hm
 exact A.ret qE
theorem abS{p:aD}(hm:pE sa0 p=some r):dZ prog 34 [(900000115,.cells 115 (k5 sa0))] [.ptr 900000115 0,.agg (k10 p)] (λa σ'=>a=.agg (k10 r.1)∧σ'=[(900000115,.cells 115 (k5 r.2))]):=by
 refine bh func34 rfl rfl ?_
 unfold pE at hm
 refine qS [(0,.al 34003),(1,.al 34004)] [(0,.ptr 900000115 0),(3,.ptr 34003 0),(4,.ptr 34004 0)] [(900000115,.cells 115 (k5 sa0)),(34003,.cells 36 (k10 p)),(34004,.cells 36 [i6 0,i6 0,i6 0,i6 0,i6 0,i6 0,i6 0,i6 0,.int .u64 (0:Int),.str (⟨#[]⟩:ByteArray)])] ?_
 obtain⟨J1,hJ1,hm⟩:=bQ hm
 refine A.J (J:=J1) (r:=r) (λ(m_1,m_2,m_3,m_4,m_5,m_6,m_7)=>[(3,.ptr 34003 0),(4,.ptr 34004 0)]) (λ(m_1,m_2,m_3,m_4,m_5,m_6,m_7)=>[(900000115,.cells 115 [lf aB m_1,i6 m_2]),(34003,.cells 36 [i6 m_3,i6 p.bL,i6 m_4,i6 m_5,i6 m_6,i6 p.cn,i6 p.cq,i6 p.dg,.int .u64 m_7,.str p.cm]),(34004,.cells 36 [i6 0,i6 0,i6 0,i6 0,i6 0,i6 0,i6 0,i6 0,.int .u64 (0:Int),.str (⟨#[]⟩:ByteArray)])]) ?_ ?_
 ·obtain⟨ai,h1,hm⟩:=aa hm
  refine qD [(1,hdc [] (bz h1) jM)] [] [(6,i6 ai.1)] [900000115] [(900000115,.cells 115 (k5 ai.2))]<|A.block<|qDs [] [] [(11,.bool (decide (ai.1=0)))] ?_
  rcases aj hm with⟨c1,hm⟩|⟨c1,hm⟩
  ·refine qT c1 ?_
   obtain⟨aI,h2,hm⟩:=aa hm
   exact qG [(1,hdc [] (iB h2) agl)] [0,6,11] [] [900000115,34003] [(900000115,.cells 115 (k5 aI.2)),(34003,.cells 36 [i6 aI.1,i6 p.bL,i6 p.Set,i6 p.Length,i6 p.TTL,i6 p.cn,i6 p.cq,i6 p.dg,.int .u64 p.Bits,.str p.cm])]<|qX (aI.2.L,aI.2.At,aI.1,p.Set,p.Length,p.TTL,p.Bits) hm
  refine qF c1<|qDs [] [11] [(16,.bool (decide (ai.1=1)))] ?_
  rcases aj hm with⟨c2,hm⟩|⟨c2,hm⟩
  ·refine qT c2 ?_
   obtain⟨bn,h3,hm⟩:=aa hm
   exact qG [(2,hdc [] (dn h3) uZ)] [0,6,16] [] [900000115,34003] [(900000115,.cells 115 (k5 bn.2)),(34003,.cells 36 [i6 p.Mode,i6 p.bL,i6 p.Set,i6 bn.1,i6 p.TTL,i6 p.cn,i6 p.cq,i6 p.dg,.int .u64 p.Bits,.str p.cm])]<|qX (bn.2.L,bn.2.At,p.Mode,p.Set,bn.1,p.TTL,p.Bits) hm
  refine qF c2<|qDs [] [16] [(22,.bool (decide (ai.1=2)))] ?_
  rcases aj hm with⟨c3,hm⟩|⟨c3,hm⟩
  ·refine qT c3 ?_
   obtain⟨bf,h4,hm⟩:=aa hm
   exact qG [(2,hdc [] (dn h4) uZ)] [0,6,22] [] [900000115,34003] [(900000115,.cells 115 (k5 bf.2)),(34003,.cells 36 [i6 p.Mode,i6 p.bL,i6 p.Set,i6 p.Length,i6 bf.1,i6 p.cn,i6 p.cq,i6 p.dg,.int .u64 p.Bits,.str p.cm])]<|qX (bf.2.L,bf.2.At,p.Mode,p.Set,p.Length,bf.1,p.Bits) hm
  refine qF c3<|qDs [] [6,22] [(28,.bool (decide (ai.1=3)))] ?_
  rcases aj hm with⟨c4,hm⟩|⟨c4,hm⟩
  ·refine qT c4 ?_
   obtain⟨bO,h5,hm⟩:=aa hm
   obtain⟨h6,hm⟩:=dY hm
   exact qG [(3,hdc [] (bz h5) jM),(5,.sh (IntKind.wrap .u64 bO.1) (of_decide_eq_true h6))] [0,28] [] [900000115,34003] [(900000115,.cells 115 (k5 bO.2)),(34003,.cells 36 [i6 p.Mode,i6 p.bL,i6 p.Set,i6 p.Length,i6 p.TTL,i6 p.cn,i6 p.cq,i6 p.dg,.int .u64 (bB .xor .u64 p.Bits (IntKind.wrap .u64 ((1:Int)*2 ^ min (IntKind.wrap .u64 bO.1).toNat 64))),.str p.cm])]<|qX (bO.2.L,bO.2.At,p.Mode,p.Set,p.Length,p.TTL,bB .xor .u64 p.Bits (IntKind.wrap .u64 ((1:Int)*2 ^ min (IntKind.wrap .u64 bO.1).toNat 64))) hm
  refine qF c4 ?_
  obtain⟨br,h7,hm⟩:=aa hm
  exact qG [(2,hdc [] (dn h7) uZ)] [0,28] [] [900000115,34003] [(900000115,.cells 115 (k5 br.2)),(34003,.cells 36 [i6 p.Mode,i6 p.bL,i6 br.1,i6 p.Length,i6 p.TTL,i6 p.cn,i6 p.cq,i6 p.dg,.int .u64 p.Bits,.str p.cm])]<|qX (br.2.L,br.2.At,p.Mode,br.1,p.Length,p.TTL,p.Bits) hm
 rintro⟨m_1,m_2,m_3,m_4,m_5,m_6,m_7⟩ hm
 rw[hJ1]at hm
 refine qD [] [3] [] [34003,34004] [(34004,.cells 36 [i6 m_3,i6 p.bL,i6 m_4,i6 m_5,i6 m_6,i6 p.cn,i6 p.cq,i6 p.dg,.int .u64 m_7,.str p.cm])] ?_
 cases hm
 exact A.ret qE
theorem aa4{p:af}{a:Int}{b:Int}{aK:Int}{r:af}(hm:oB p a b aK=some r):RO prog 33 [] [.agg (k2 p),i6 a,i6 b,i6 aK] (.agg (k2 r)):=by
 refine bh func33 rfl rfl ?_
 unfold oB at hm
 refine qS [(0,.al 33004),(1,.al 33008)] [(1,i6 a),(2,i6 b),(3,i6 aK),(4,.ptr 33004 0),(8,.ptr 33008 0)] [(33004,.cells 28 (k2 p)),(33008,.cells 28 [.aP,.aP])]<|qD [(0,.al 33009)] [] [(9,.ptr 33009 0)] [] [(33009,.cells 28 [.aP,.aP])]<|A.seq<|qDs [(2,hto (lnE aJ p.aq))] [] [(15,lf aJ p.aq),(16,i6 (p.aq.length:Int)),(17,i6 0)]<|A.block<|A.bS 15 rfl λhb1=>?_
 obtain⟨B1,K1,hB1,hK1,hm⟩:=aX hm
 refine A.lpI (l:=p.aq) (j0:=0) (B:=B1) (K:=K1) hm (λj1=>λm_1=>[(1,i6 a),(2,i6 b),(3,i6 aK),(4,.ptr 33004 0),(8,.ptr 33008 0),(9,.ptr 33009 0),(15,lf aJ p.aq),(16,i6 (p.aq.length:Int)),(17,i6 (j1:Int))]) (λj1=>λm_1=>[(33004,.cells 28 (k2 p)),(33008,.cells 28 [.aP,.aP]),(33009,.cells 28 [.own 703300900,.aP]),(703300900,.slice 42 2 (ml aJ m_1) 0 false)]) ?_ ?_ ?_
 ·exact bA.go [.ac 33009 703300900 42 2 0] [] (by kernel_rfl)
 ·rintro j1 e1 Z1 m_1 hj1 hx1 hm
  rw[hB1]at hm
  refine qDs [] [] [(18,.bool (decide ((j1:Int)<(p.aq.length:Int))))]<|A.seq<|qT (ltT hx1)<|A.skip ?_
  show ah _ _ _ _ _
  obtain⟨J1,hJ1,hm⟩:=bQ hm
  refine A.J (J:=J1) (r:=r) (λm_2=>[(1,i6 a),(2,i6 b),(3,i6 aK),(4,.ptr 33004 0),(8,.ptr 33008 0),(9,.ptr 33009 0),(15,lf aJ p.aq),(16,i6 (p.aq.length:Int)),(17,i6 (j1:Int))]) (λm_2=>[(33004,.cells 28 (k2 p)),(33008,.cells 28 [.aP,.aP]),(33009,.cells 28 [.own 703300900,.aP]),(703300900,.slice 42 2 (ml aJ m_2) 0 false)]) ?_ ?_
  ·refine A.block<|qD [(0,hix (ix aJ (bq hx1))),(2,.al 33011)] [18] [(11,.ptr 33011 0)] [] [(33011,.cells 42 (k0 e1))] ?_
   refine qDs [] [] [(24,.bool (!decide (e1.ID=aK)))] ?_
   rcases aj hm with⟨c1,hm⟩|⟨c1,hm⟩
   ·refine qT c1 ?_
    obtain⟨l_1,h1,hm⟩:=aa hm
    exact qG [(4,hap 33529 (ap aJ (bytes:=16) (by decide) h1))] [11,24] [] [33009,703300900,33011] [(33009,.cells 28 [.own 33529,.aP]),(33529,.slice 42 2 (ml aJ l_1) 0 false)]<|Exists.intro l_1 (And.intro hm (bA.go [.sw 33529 703300900] [] (by kernel_rfl)))
   exact qF c1<|A.skip<|qX m_1 hm
  rintro m_2 hm
  rw[hJ1]at hm
  exact qGs [(0,hto (inc hx1 hb1))] [17] [(17,i6 ((j1+1:Nat):Int))]<|qX m_2 hm
 rintro j1 m_1 hj1 hl1 hm
 rw[hK1]at hm
 refine qDs [] [] [(18,.bool (decide ((j1:Int)<(p.aq.length:Int))))]<|A.seq<|qF (ltF hl1)<|A.exit ?_
 show ah _ _ _ _ _
 refine A.seq<|qD [(2,hto (lnE bJ p.Links))] [4,15,16,17,18] [(33,lf bJ p.Links),(34,i6 (p.Links.length:Int)),(35,i6 0)] [33004] [] ?_
 refine A.block<|A.bS 33 rfl λhb2=>?_
 obtain⟨B2,K2,hB2,hK2,hm⟩:=aX hm
 refine A.lpI (l:=p.Links) (j0:=0) (B:=B2) (K:=K2) hm (λj2=>λm_3=>[(1,i6 a),(2,i6 b),(3,i6 aK),(8,.ptr 33008 0),(9,.ptr 33009 0),(33,lf bJ p.Links),(34,i6 (p.Links.length:Int)),(35,i6 (j2:Int))]) (λj2=>λm_3=>[(33008,.cells 28 [.aP,.aP]),(33009,.cells 28 [.own 703300900,.own 703300901]),(703300900,.slice 42 2 (ml aJ m_1) 0 false),(703300901,.slice 89 5 (ml bJ m_3) 0 false)]) ?_ ?_ ?_
 ·exact bA.go [.ac 33009 703300901 89 5 1] [] (by kernel_rfl)
 ·rintro j2 e2 Z2 m_3 hj2 hx2 hm
  rw[hB2]at hm
  refine qDs [] [] [(36,.bool (decide ((j2:Int)<(p.Links.length:Int))))]<|A.seq<|qT (ltT hx2)<|A.skip ?_
  show ah _ _ _ _ _
  obtain⟨J2,hJ2,hm⟩:=bQ hm
  refine A.J (J:=J2) (r:=r) (λm_4=>[(1,i6 a),(2,i6 b),(3,i6 aK),(8,.ptr 33008 0),(9,.ptr 33009 0),(33,lf bJ p.Links),(34,i6 (p.Links.length:Int)),(35,i6 (j2:Int))]) (λm_4=>[(33008,.cells 28 [.aP,.aP]),(33009,.cells 28 [.own 703300900,.own 703300901]),(703300900,.slice 42 2 (ml aJ m_1) 0 false),(703300901,.slice 89 5 (ml bJ m_4) 0 false)]) ?_ ?_
  ·refine A.block<|qD [(0,hix (ix bJ (bq hx2))),(2,.al 33013)] [36] [(13,.ptr 33013 0)] [] [(33013,.cells 89 (k1 e2))] ?_
   refine A.mid [(1,i6 a),(2,i6 b),(3,i6 aK),(8,.ptr 33008 0),(9,.ptr 33009 0),(33,lf bJ p.Links),(34,i6 (p.Links.length:Int)),(35,i6 (j2:Int)),(13,.ptr 33013 0),(74,.bool ((!decide (e2.A=aK))&&((!decide (e2.B=aK))&&(bif decide (e2.A=a)then((!(decide (e2.B=b)))&&(bif decide (e2.A=b)then !(decide (e2.B=a))else true))else(bif decide (e2.A=b)then !(decide (e2.B=a))else true)))))] [(33008,.cells 28 [.aP,.aP]),(33009,.cells 28 [.own 703300900,.own 703300901]),(703300900,.slice 42 2 (ml aJ m_1) 0 false),(703300901,.slice 89 5 (ml bJ m_3) 0 false),(33013,.cells 89 (k1 e2))] (λhk=>?_) ?_
   ·rcases tf (!decide (e2.A=aK))with c2|c2
    ·rcases tf (!decide (e2.B=aK))with c3|c3
     ·rcases tf (decide (e2.A=a))with c4|c4
      ·rcases tf (!(decide (e2.B=b)))with c5|c5
       ·rcases tf (decide (e2.A=b))with c6|c6
        ·exact qS [(4,hto (bE c2)),(10,hto (bE c3)),(15,hto (bE c4)),(23,hto (bE c5)),(28,hto (bE c6)),(35,hto (((((ifT (x:=!(decide (e2.B=a))) (y:=true) c6).trans (gR (q:=(bif decide (e2.A=b)then !(decide (e2.B=a))else true)) c5)).trans (ifT (x:=((!(decide (e2.B=b)))&&(bif decide (e2.A=b)then !(decide (e2.B=a))else true))) (y:=(bif decide (e2.A=b)then !(decide (e2.B=a))else true)) c4)).trans (gR (q:=(bif decide (e2.A=a)then((!(decide (e2.B=b)))&&(bif decide (e2.A=b)then !(decide (e2.B=a))else true))else(bif decide (e2.A=b)then !(decide (e2.B=a))else true))) c3)).trans (gR (q:=((!decide (e2.B=aK))&&(bif decide (e2.A=a)then((!(decide (e2.B=b)))&&(bif decide (e2.A=b)then !(decide (e2.B=a))else true))else(bif decide (e2.A=b)then !(decide (e2.B=a))else true)))) c2)))] _ _ hk
        exact qS [(4,hto (bE c2)),(10,hto (bE c3)),(15,hto (bE c4)),(23,hto (bE c5)),(28,hto (bE c6)),(35,hto (((((ifF (x:=!(decide (e2.B=a))) (y:=true) c6).trans (gR (q:=(bif decide (e2.A=b)then !(decide (e2.B=a))else true)) c5)).trans (ifT (x:=((!(decide (e2.B=b)))&&(bif decide (e2.A=b)then !(decide (e2.B=a))else true))) (y:=(bif decide (e2.A=b)then !(decide (e2.B=a))else true)) c4)).trans (gR (q:=(bif decide (e2.A=a)then((!(decide (e2.B=b)))&&(bif decide (e2.A=b)then !(decide (e2.B=a))else true))else(bif decide (e2.A=b)then !(decide (e2.B=a))else true))) c3)).trans (gR (q:=((!decide (e2.B=aK))&&(bif decide (e2.A=a)then((!(decide (e2.B=b)))&&(bif decide (e2.A=b)then !(decide (e2.B=a))else true))else(bif decide (e2.A=b)then !(decide (e2.B=a))else true)))) c2)))] _ _ hk
       exact qS [(4,hto (bE c2)),(10,hto (bE c3)),(15,hto (bE c4)),(23,hto (bE c5)),(35,hto ((((mc (q:=(bif decide (e2.A=b)then !(decide (e2.B=a))else true)) c5).trans (ifT (x:=((!(decide (e2.B=b)))&&(bif decide (e2.A=b)then !(decide (e2.B=a))else true))) (y:=(bif decide (e2.A=b)then !(decide (e2.B=a))else true)) c4)).trans (gR (q:=(bif decide (e2.A=a)then((!(decide (e2.B=b)))&&(bif decide (e2.A=b)then !(decide (e2.B=a))else true))else(bif decide (e2.A=b)then !(decide (e2.B=a))else true))) c3)).trans (gR (q:=((!decide (e2.B=aK))&&(bif decide (e2.A=a)then((!(decide (e2.B=b)))&&(bif decide (e2.A=b)then !(decide (e2.B=a))else true))else(bif decide (e2.A=b)then !(decide (e2.B=a))else true)))) c2)))] _ _ hk
      rcases tf (decide (e2.A=b))with c7|c7
      ·exact qS [(4,hto (bE c2)),(10,hto (bE c3)),(15,hto (bE c4)),(28,hto (bE c7)),(35,hto ((((ifT (x:=!(decide (e2.B=a))) (y:=true) c7).trans (ifF (x:=((!(decide (e2.B=b)))&&(bif decide (e2.A=b)then !(decide (e2.B=a))else true))) (y:=(bif decide (e2.A=b)then !(decide (e2.B=a))else true)) c4)).trans (gR (q:=(bif decide (e2.A=a)then((!(decide (e2.B=b)))&&(bif decide (e2.A=b)then !(decide (e2.B=a))else true))else(bif decide (e2.A=b)then !(decide (e2.B=a))else true))) c3)).trans (gR (q:=((!decide (e2.B=aK))&&(bif decide (e2.A=a)then((!(decide (e2.B=b)))&&(bif decide (e2.A=b)then !(decide (e2.B=a))else true))else(bif decide (e2.A=b)then !(decide (e2.B=a))else true)))) c2)))] _ _ hk
      exact qS [(4,hto (bE c2)),(10,hto (bE c3)),(15,hto (bE c4)),(28,hto (bE c7)),(35,hto ((((ifF (x:=!(decide (e2.B=a))) (y:=true) c7).trans (ifF (x:=((!(decide (e2.B=b)))&&(bif decide (e2.A=b)then !(decide (e2.B=a))else true))) (y:=(bif decide (e2.A=b)then !(decide (e2.B=a))else true)) c4)).trans (gR (q:=(bif decide (e2.A=a)then((!(decide (e2.B=b)))&&(bif decide (e2.A=b)then !(decide (e2.B=a))else true))else(bif decide (e2.A=b)then !(decide (e2.B=a))else true))) c3)).trans (gR (q:=((!decide (e2.B=aK))&&(bif decide (e2.A=a)then((!(decide (e2.B=b)))&&(bif decide (e2.A=b)then !(decide (e2.B=a))else true))else(bif decide (e2.A=b)then !(decide (e2.B=a))else true)))) c2)))] _ _ hk
     exact qS [(4,hto (bE c2)),(10,hto (bE c3)),(35,hto ((mc (q:=(bif decide (e2.A=a)then((!(decide (e2.B=b)))&&(bif decide (e2.A=b)then !(decide (e2.B=a))else true))else(bif decide (e2.A=b)then !(decide (e2.B=a))else true))) c3).trans (gR (q:=((!decide (e2.B=aK))&&(bif decide (e2.A=a)then((!(decide (e2.B=b)))&&(bif decide (e2.A=b)then !(decide (e2.B=a))else true))else(bif decide (e2.A=b)then !(decide (e2.B=a))else true)))) c2)))] _ _ hk
    exact qS [(4,hto (bE c2)),(35,hto (mc (q:=((!decide (e2.B=aK))&&(bif decide (e2.A=a)then((!(decide (e2.B=b)))&&(bif decide (e2.A=b)then !(decide (e2.B=a))else true))else(bif decide (e2.A=b)then !(decide (e2.B=a))else true)))) c2))] _ _ hk
   rcases aj hm with⟨c8,hm⟩|⟨c8,hm⟩
   ·refine qT c8 ?_
    obtain⟨l_2,h2,hm⟩:=aa hm
    exact qG [(4,hap 33579 (ap bJ (bytes:=40) (by decide) h2))] [13,74] [] [33009,703300901,33013] [(33009,.cells 28 [.own 703300900,.own 33579]),(33579,.slice 89 5 (ml bJ l_2) 0 false)]<|Exists.intro l_2 (And.intro hm (bA.go [.sw 33579 703300901] [] (by kernel_rfl)))
   exact qF c8<|A.skip<|qX m_3 hm
  rintro m_4 hm
  rw[hJ2]at hm
  exact qGs [(0,hto (inc hx2 hb2))] [35] [(35,i6 ((j2+1:Nat):Int))]<|qX m_4 hm
 rintro j2 m_3 hj2 hl2 hm
 rw[hK2]at hm
 refine qDs [] [] [(36,.bool (decide ((j2:Int)<(p.Links.length:Int))))]<|A.seq<|qF (ltF hl2)<|A.exit ?_
 show ah _ _ _ _ _
 refine qD [] [1,2,3,9,33,34,35,36] [] [33008,33009] [(33008,.cells 28 [.own 703300900,.own 703300901])]<|A.ret ?_
 obtain rfl:=some_inj hm
 exact A.fin W0 [.fz [703300900,703300901]] rfl (by kernel_rfl)
end Go.Proofs.YtdjeacigeegklaaGreat
