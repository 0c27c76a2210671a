/- The iJ of ee of the program. No condition but bJ aY stand in each. -/
import Derived.Test.YtdjeacigeegklaaGreatDL7
import Derived.Test.YtdjeacigeegklaaGreatVM
namespace Go.Proofs.YtdjeacigeegklaaGreat
open Go Go.Proofs.Tryz
set_option maxRecDepth 100000
set_option linter.all false
theorem we{t:List Int}{r:Bool}(hm:lR t=some r):RO prog 7 [] [lf aA t] (.bool r):=by
 refine bh func7 rfl rfl ?_
 unfold lR at hm
 refine qS [] [(0,lf aA t)] [] ?_
 obtain⟨ai,h1,hm⟩:=af hm
 refine qS [(1,hdc [900000115] (yN h1) ck9)] [(3,.ptr 900000115 0)] [(900000115,.cells 115 (k6 ai))] ?_
 obtain⟨aI,h2,hm⟩:=af hm
 refine qD [(1,hdc [] (ac9 h2) ck47),(9,.al 7004),(10,.al 7005),(11,.al 7006),(12,.al 7008)] [] [(4,.ptr 7004 0),(5,.ptr 7005 0),(6,.ptr 7006 0),(8,.ptr 7008 0),(7,lf aA aI.2.2.2.1),(9,.bool aI.2.2.2.2.2.1)] [900000115] [(900000115,.cells 115 (k6 aI.2.2.2.2.2.2)),(7004,.cells 28 (k2 aI.1)),(7005,.cells 32 (k7 aI.2.1)),(7006,.cells 63 (k8 aI.2.2.1)),(7008,.cells 36 (k10 aI.2.2.2.2.1))]<|A.seq<|qDs [] [9] [(36,.bool (!aI.2.2.2.2.2.1))] ?_
 rcases ak hm with⟨c1,hm⟩|⟨c1,hm⟩
 ·refine qT c1 ?_
  obtain⟨bf,h3,hm⟩:=af hm
  refine qS [(0,hro (rI h3) alK)] [(2,.bool bf)] [] ?_
  cases hm
  exact A.ret qE
 refine qF c1<|A.skip ?_
 obtain⟨bB,h4,hm⟩:=af hm
 refine qD [(2,hdc [500004000,500004001] (aap h4) ck40),(3,.al 7010)] [3,36] [(10,.ptr 7010 0)] [900000115] [(500004000,.slice 67 2 (ml bz bB.1.Links) 0 false),(500004001,.slice 3 1 (ml aA bB.1.ah) 0 false),(7010,.cells 100 [.own 500004000,.own 500004001])]<|A.seq ?_
 obtain⟨bD,h5,hm⟩:=af hm
 refine qDs [(4,hle [500004001] (eZ h5) xC)] [] [(45,.bool bD)] ?_
 rcases ak hm with⟨c2,hm⟩|⟨c2,hm⟩
 ·refine qT c2 ?_
  obtain⟨cW,h6,hm⟩:=af hm
  refine qS [(0,hro (rI h6) alK)] [(2,.bool cW)] [] ?_
  cases hm
  exact A.ret qE
 refine qF c2<|A.skip ?_
 obtain⟨bH,h7,hm⟩:=af hm
 refine A.RS W0 [.fz [500004000,500004001]] [(6,hro (ad0 h7) ck45),(10,.al 7011)] [(4,.ptr 7004 0),(6,.ptr 7006 0),(7,lf aA aI.2.2.2.1),(10,.ptr 7010 0),(11,.ptr 7011 0),(12,i6 bH.2)] [(7004,.cells 28 (k2 aI.1)),(7006,.cells 63 (k8 aI.2.2.1)),(500004000,.slice 67 2 (ml bz bB.1.Links) (ml bz bB.1.Links).length true),(500004001,.slice 3 1 (ml aA bB.1.ah) (ml aA bB.1.ah).length true),(7010,.cells 100 [.own 500004000,.own 500004001]),(7011,.cells 74 (k13 bH.1))] (by kernel_rfl)<|A.seq<|qS [] [(4,.ptr 7004 0),(6,.ptr 7006 0),(7,lf aA aI.2.2.2.1),(10,.ptr 7010 0),(11,.ptr 7011 0),(58,.bool (!decide (bH.2=0)))] [(7004,.cells 28 (k2 aI.1)),(7006,.cells 63 (k8 aI.2.2.1)),(500004000,.slice 67 2 (ml bz bB.1.Links) (ml bz bB.1.Links).length true),(500004001,.slice 3 1 (ml aA bB.1.ah) (ml aA bB.1.ah).length true),(7010,.cells 100 [.own 500004000,.own 500004001]),(7011,.cells 74 (k13 bH.1))] ?_
 rcases ak hm with⟨c3,hm⟩|⟨c3,hm⟩
 ·refine qT c3<|qS [] [(2,.bool false)] [] ?_
  cases hm
  exact A.ret qE
 refine qF c3<|A.skip ?_
 obtain⟨jY,h8,hm⟩:=af hm
 refine qD [(2,hro (aaf h8) ck48),(3,.al 7013)] [4,10,58] [(13,.ptr 7013 0)] [7004,500004000,500004001,7010] [(7013,.cells 28 (k2 jY))]<|qDs [] [] [(14,.aQ),(15,.aQ)]<|A.seq<|qDs [(1,hto (lnE aA aI.2.2.2.1))] [7] [(62,lf aA aI.2.2.2.1),(63,i6 (aI.2.2.2.1.length:Int)),(64,i6 0)]<|A.block<|A.bS 62 rfl λhb1=>?_
 obtain⟨B1,K1,hB1,hK1,hm⟩:=bu hm
 refine A.lpI (l:=aI.2.2.2.1) (j0:=0) (B:=B1) (K:=K1) hm (λj1=>λmQ=>[(6,.ptr 7006 0),(11,.ptr 7011 0),(13,.ptr 7013 0),(14,.own 600007014),(15,.aQ),(62,lf aA aI.2.2.2.1),(63,i6 (aI.2.2.2.1.length:Int)),(64,i6 (j1:Int))]) (λj1=>λmQ=>[(7006,.cells 63 (k8 aI.2.2.1)),(7011,.cells 74 (k13 bH.1)),(7013,.cells 28 (k2 jY)),(600007014,.slice 3 1 (ml aA mQ) 0 false)]) ?_ ?_ ?_
 ·exact bx.go [.ad 14 600007014 3 1] [] (by kernel_rfl)
 ·rintro j1 e1 Z1 mQ hj1 hx1 hm
  rw[hB1]at hm
  refine qDs [] [] [(65,.bool (decide ((j1:Int)<(aI.2.2.2.1.length:Int))))]<|A.seq<|qT (ltT hx1)<|A.skip ?_
  obtain⟨J1,hJ1,hm⟩:=cw hm
  refine A.J (J:=J1) (r:=r) (λya=>[(6,.ptr 7006 0),(11,.ptr 7011 0),(13,.ptr 7013 0),(14,.own 600007014),(15,.aQ),(62,lf aA aI.2.2.2.1),(63,i6 (aI.2.2.2.1.length:Int)),(64,i6 (j1:Int))]) (λya=>[(7006,.cells 63 (k8 aI.2.2.1)),(7011,.cells 74 (k13 bH.1)),(7013,.cells 28 (k2 jY)),(600007014,.slice 3 1 (ml aA ya) 0 false)]) ?_ ?_
  ·refine A.block<|qDs [(0,hix (ix aA (bt hx1)))] [65] [(17,i6 e1)] ?_
   obtain⟨qH,h9,hm⟩:=af hm
   refine qDs [(4,hro (yL h9) ck49)] [] [(72,.bool qH)] ?_
   rcases ak hm with⟨c4,hm⟩|⟨c4,hm⟩
   ·refine qT c4 ?_
    obtain⟨l_1,h10,hm⟩:=af hm
    exact qG [(3,hap 7576 (ap aA (bytes:=8) (by decide) h10))] [14,17,72] [(14,.own 7576)] [600007014] [(7576,.slice 3 1 (ml aA l_1) 0 false)]<|Exists.intro l_1 (And.intro hm (bx.go [.sw 7576 600007014] [] (by kernel_rfl)))
   exact qF c4<|A.skip<|qX mQ hm
  rintro ya hm
  rw[hJ1]at hm
  exact qGs [(0,hto (inc hx1 hb1))] [64] [(64,i6 ((j1+1:Nat):Int))]<|qX ya hm
 rintro j1 mQ hj1 hl1 hm
 rw[hK1]at hm
 refine qDs [] [] [(65,.bool (decide ((j1:Int)<(aI.2.2.2.1.length:Int))))]<|A.seq<|qF (ltF hl1)<|A.exit<|A.seq<|qD [(2,hto (lnE ep bH.1.dD))] [6,62,63,64,65] [(79,lf ep bH.1.dD),(80,i6 (bH.1.dD.length:Int)),(81,i6 0)] [7006] []<|A.block<|A.bS 79 rfl λhb2=>?_
 obtain⟨B2,K2,hB2,hK2,hm⟩:=bu hm
 refine A.lpI (l:=bH.1.dD) (j0:=0) (B:=B2) (K:=K2) hm (λj2=>λs9=>[(11,.ptr 7011 0),(13,.ptr 7013 0),(14,.own 600007014),(15,lf aA s9),(79,lf ep bH.1.dD),(80,i6 (bH.1.dD.length:Int)),(81,i6 (j2:Int))]) (λj2=>λs9=>[(7011,.cells 74 (k13 bH.1)),(7013,.cells 28 (k2 jY)),(600007014,.slice 3 1 (ml aA mQ) 0 false)]) ?_ ?_ ?_
 ·exact bx.go [] [15] (by kernel_rfl)
 ·rintro j2 e2 Z2 s9 hj2 hx2 hm
  rw[hB2]at hm
  refine qDs [] [] [(82,.bool (decide ((j2:Int)<(bH.1.dD.length:Int))))]<|A.seq<|qT (ltT hx2)<|A.skip<|A.seq<|A.block<|qD [(0,hix (ix ep (bt hx2))),(2,.al 7019)] [82] [(19,.ptr 7019 0)] [] [(7019,.cells 78 [i6 e2.aO,i6 e2.aB.Mode,i6 e2.aB.cC,i6 e2.aB.Set,i6 e2.aB.Length,i6 e2.aB.TTL,i6 e2.aB.dG,i6 e2.aB.dH,i6 e2.aB.eO,.int .u64 e2.aB.Bits,.str e2.aB.cM])] ?_
  obtain⟨uf,h11,hm⟩:=af hm
  exact qG [(3,hro (sW h11) auj)] [15,19] [(15,lf aA uf)] [7019] []<|qGs [(0,hto (inc hx2 hb2))] [81] [(81,i6 ((j2+1:Nat):Int))]<|Exists.intro uf (And.intro hm (bx.go [] [15] (by kernel_rfl)))
 rintro j2 s9 hj2 hl2 hm
 rw[hK2]at hm
 refine qDs [] [] [(82,.bool (decide ((j2:Int)<(bH.1.dD.length:Int))))]<|A.seq<|qF (ltF hl2)<|A.exit<|A.seq<|qDs [(2,hto (lnE eB bH.1.dI))] [79,80,81,82] [(91,lf eB bH.1.dI),(92,i6 (bH.1.dI.length:Int)),(93,i6 0)]<|A.block<|A.bS 91 rfl λhb3=>?_
 obtain⟨B3,K3,hB3,hK3,hm⟩:=bu hm
 refine A.lpI (l:=bH.1.dI) (j0:=0) (B:=B3) (K:=K3) hm (λj3=>λ()=>[(11,.ptr 7011 0),(13,.ptr 7013 0),(14,.own 600007014),(15,lf aA s9),(91,lf eB bH.1.dI),(92,i6 (bH.1.dI.length:Int)),(93,i6 (j3:Int))]) (λj3=>λ()=>[(7011,.cells 74 (k13 bH.1)),(7013,.cells 28 (k2 jY)),(600007014,.slice 3 1 (ml aA mQ) 0 false)]) ?_ ?_ ?_
 ·exact qW
 ·rintro j3 e3 Z3 ⟨⟩ hj3 hx3 hm
  rw[hB3]at hm
  refine qDs [] [] [(94,.bool (decide ((j3:Int)<(bH.1.dI.length:Int))))]<|A.seq<|qT (ltT hx3)<|A.skip<|A.seq<|A.block<|qD [(0,hix (ix eB (bt hx3))),(2,.al 7021)] [94] [(21,.ptr 7021 0)] [] [(7021,.cells 81 [i6 e3.bn,i6 e3.To,.int .u64 e3.Bits])] ?_
  obtain⟨pH,h12,hm⟩:=af hm
  refine qD [(5,hro (ac4 h12) ck50)] [21] [(23,.bool pH.2)] [7021] []<|qDs [] [23] [(107,.bool (!pH.2))] ?_
  rcases ak hm with⟨c5,hm⟩|⟨c5,hm⟩
  ·refine qT c5<|qS [] [(2,.bool false)] [] ?_
   cases hm
   exact A.ret qE
  exact qF c5<|A.skip<|qGs [(0,hto (inc hx3 hb3))] [93,107] [(93,i6 ((j3+1:Nat):Int))]<|qX () hm
 rintro j3 ⟨⟩ hj3 hl3 hm
 rw[hK3]at hm
 refine qDs [] [] [(94,.bool (decide ((j3:Int)<(bH.1.dI.length:Int))))]<|A.seq<|qF (ltF hl3)<|A.exit ?_
 obtain⟨aa5,h13,hm⟩:=af hm
 rcases ak hm with⟨c6,hm⟩|⟨c6,hm⟩
 ·rcases ak hm with⟨c7,hm⟩|⟨c7,hm⟩
  ·obtain⟨qn,h14,hm⟩:=af hm
   refine qS [(2,hle [600007014] (fM h13) aad),(3,hto (bE c6)),(6,hto (lnE ep bH.1.dD)),(8,hto (lnE aA mQ)),(11,hto (bE c7)),(12,hro (rI h14) alK)] [(2,.bool qn)] [] ?_
   cases hm
   exact A.ret qE
  refine qS [(2,hle [600007014] (fM h13) aad),(3,hto (bE c6)),(6,hto (lnE ep bH.1.dD)),(8,hto (lnE aA mQ)),(11,hto (bE c7))] [(2,.bool false)] [] ?_
  cases hm
  exact A.ret qE
 refine qS [(2,hle [600007014] (fM h13) aad),(3,hto (bE c6))] [(2,.bool false)] [] ?_
 cases hm
 exact A.ret qE
end Go.Proofs.YtdjeacigeegklaaGreat
