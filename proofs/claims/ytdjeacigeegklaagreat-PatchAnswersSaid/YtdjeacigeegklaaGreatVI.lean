/- The iD of er of the program. No condition but bO bx stand in each. -/
import Derived.Test.YtdjeacigeegklaaGreatVE
namespace Go.Proofs.YtdjeacigeegklaaGreat
open Go Go.Proofs.Tryz
set_option maxRecDepth 100000
set_option linter.all false
theorem kN{e:aF}{r:Bool}(hm:lU e=some r):RO prog 42 [] [.agg (k7 e)] (.bool r):=by
 refine bf func42 rfl rfl ?_
 unfold lU at hm
 refine qS [(0,.al 42001)] [(1,.ptr 42001 0)] [(42001,.cells 32 (k7 e))]<|A.seq<|qDs [(2,hto (lnE ak e.List))] [] [(6,lf ak e.List),(7,i6 (e.List.length:Int)),(8,i6 0)]<|A.block<|A.bS 6 rfl λhb1=>?_
 obtain⟨B1,K1,hB1,hK1,hm⟩:=aW hm
 refine A.lpI (l:=e.List) (j0:=0) (B:=B1) (K:=K1) hm (λj1=>λ()=>[(1,.ptr 42001 0),(6,lf ak e.List),(7,i6 (e.List.length:Int)),(8,i6 (j1:Int))]) (λj1=>λ()=>[(42001,.cells 32 (k7 e))]) ?_ ?_ ?_
 ·exact qW
 ·rintro j1 e1 Z1 ⟨⟩ hj1 hx1 hm
  rw[hB1]at hm
  refine qDs [] [] [(9,.bool (decide ((j1:Int)<(e.List.length:Int))))]<|A.seq<|qT (ltT hx1)<|A.skip<|A.seq<|A.block<|qD [(0,hix (ix ak (aY hx1))),(2,.al 42004)] [9] [(4,.ptr 42004 0)] [] [(42004,.cells 38 (k5 e1))]<|qD [] [4] [(14,.bool (decide (e1.Kind=2)))] [42004] [] ?_
  rcases aq hm with⟨c1,hm⟩|⟨c1,hm⟩
  ·refine qT c1<|qS [] [(2,.bool false)] [] ?_
   cases hm
   exact A.ret qE
  exact qF c1<|A.skip<|qGs [(0,hto (inc hx1 hb1))] [8,14] [(8,i6 ((j1+1:Nat):Int))]<|qX () hm
 rintro j1 ⟨⟩ hj1 hl1 hm
 rw[hK1]at hm
 refine qDs [] [] [(9,.bool (decide ((j1:Int)<(e.List.length:Int))))]<|A.seq<|qF (ltF hl1)<|A.exit ?_
 obtain⟨ai,h1,hm⟩:=af hm
 refine qS [(1,hro (iI h1) adi)] [(2,.bool (decide (ai=0)))] [] ?_
 cases hm
 exact A.ret qE
variable {p:aH}
theorem va{bits:Int}{gT:List Int}{r:bh}(hm:jj p bits gT=some r):RO prog 128 [] [.agg (k10 p),.int .u64 bits,lf aA gT] (.agg (k11 r)):=by
 refine bf func128 rfl rfl ?_
 unfold jj at hm
 refine qS [(0,.al 128003),(1,.al 128006)] [(1,.int .u64 bits),(2,lf aA gT),(3,.ptr 128003 0),(6,.ptr 128006 0)] [(128003,.cells 36 (k10 p)),(128006,.cells 54 [i6 0,.aM,i6 0,i6 0,i6 0,i6 0,i6 0,i6 0,i6 0,i6 0,.int .u64 (0:Int),.str (⟨#[]⟩:ByteArray)])]<|qD [] [1] [] [128003] [(128003,.cells 36 [i6 p.Mode,i6 p.bQ,i6 p.Set,i6 p.Length,i6 p.TTL,i6 p.cI,i6 p.cK,i6 p.dU,.int .u64 bits,.str p.cD])] ?_
 obtain⟨e_1,h1,hm⟩:=af hm
 obtain⟨l_1,h2,hm⟩:=af hm
 refine qS [(1,hix (ix aA h1)),(4,hsl (adb aA h2))] [(6,.ptr 128006 0)] [(128006,.cells 54 [i6 e_1,lf aA l_1,i6 p.Mode,i6 p.bQ,i6 p.Set,i6 p.Length,i6 p.TTL,i6 p.cI,i6 p.cK,i6 p.dU,.int .u64 bits,.str p.cD])] ?_
 cases hm
 exact A.ret qE
variable {aD:Int}{t:aa}
theorem zo{e:aF}{c:bh}{r:(List bh)×Int}(hm:mP e t aD c=some r):RO prog 82 [] [.agg (k7 e),.agg (k2 t),i6 aD,.agg (k11 c)] (.tup [lf bP r.1,.int .u64 r.2]):=by
 refine bf func82 rfl rfl ?_
 unfold mP at hm
 refine qS [(0,.al 82004),(1,.al 82005),(2,.al 82007)] [(2,i6 aD),(4,.ptr 82004 0),(5,.ptr 82005 0),(7,.ptr 82007 0)] [(82004,.cells 32 (k7 e)),(82005,.cells 28 (k2 t)),(82007,.cells 54 (k11 c))]<|qDs [] [] [(10,.aM)]<|qD [(5,.al 82012)] [7] [(12,.ptr 82012 0),(11,i6 c.To)] [82007] [(82012,.cells 36 (k10 c.Frame.ay))] ?_
 obtain⟨ai,h1,hm⟩:=af hm
 refine qDs [(4,hro (yd h1) atq)] [] [(13,.int .u64 (aU .andNot .u64 c.Frame.ay.Bits ai))] ?_
 obtain⟨aK,h2,hm⟩:=af hm
 refine qD [(4,hro (qf h2) akJ),(5,.al 82014)] [] [(14,.ptr 82014 0)] [] [(82014,.cells 28 (k2 aK))]<|qDs [] [] [(15,.int .u64 (0:Int)),(16,.int .u64 (0:Int))]<|A.seq<|qD [(2,hto (lnE ak e.List))] [4] [(40,lf ak e.List),(41,i6 (e.List.length:Int)),(42,i6 0)] [82004] []<|A.block<|A.bS 40 rfl λhb1=>?_
 obtain⟨B1,K1,hB1,hK1,hm⟩:=aW hm
 refine A.lpI (l:=e.List) (j0:=0) (B:=B1) (K:=K1) hm (λj1=>λ(aR,dK,dI)=>[(2,i6 aD),(5,.ptr 82005 0),(10,.own 600082010),(11,i6 c.To),(12,.ptr 82012 0),(13,.int .u64 (aU .andNot .u64 c.Frame.ay.Bits ai)),(14,.ptr 82014 0),(15,.int .u64 dK),(16,.int .u64 dI),(40,lf ak e.List),(41,i6 (e.List.length:Int)),(42,i6 (j1:Int))]) (λj1=>λ(aR,dK,dI)=>[(82005,.cells 28 (k2 t)),(82012,.cells 36 (k10 c.Frame.ay)),(82014,.cells 28 (k2 aK)),(600082010,.slice 54 12 (ml bP aR) 0 false)]) ?_ ?_ ?_
 ·exact bt.go [.ad 10 600082010 54 12] [] (by kernel_rfl)
 ·rintro j1 e1 Z1 ⟨aR,dK,dI⟩ hj1 hx1 hm
  rw[hB1]at hm
  refine qDs [] [] [(43,.bool (decide ((j1:Int)<(e.List.length:Int))))]<|A.seq<|qT (ltT hx1)<|A.skip ?_
  obtain⟨J1,hJ1,hm⟩:=bG hm
  refine A.J (J:=J1) (r:=r) (λ(cv,qz,mD)=>[(2,i6 aD),(5,.ptr 82005 0),(10,.own 600082010),(11,i6 c.To),(12,.ptr 82012 0),(13,.int .u64 (aU .andNot .u64 c.Frame.ay.Bits ai)),(14,.ptr 82014 0),(15,.int .u64 qz),(16,.int .u64 mD),(40,lf ak e.List),(41,i6 (e.List.length:Int)),(42,i6 (j1:Int))]) (λ(cv,qz,mD)=>[(82005,.cells 28 (k2 t)),(82012,.cells 36 (k10 c.Frame.ay)),(82014,.cells 28 (k2 aK)),(600082010,.slice 54 12 (ml bP cv) 0 false)]) ?_ ?_
  ·refine A.block<|qD [(0,hix (ix ak (aY hx1))),(2,.al 82018)] [43] [(18,.ptr 82018 0)] [] [(82018,.cells 38 (k5 e1))] ?_
   obtain⟨h3,hm⟩:=eB hm
   refine qDs [(3,.sh (IntKind.wrap .u64 e1.Bit) (of_decide_eq_true h3))] [] [(19,.int .u64 (IntKind.wrap .u64 ((1:Int)*2 ^ min (IntKind.wrap .u64 e1.Bit).toNat 64)))]<|A.seq<|A.mid [(2,i6 aD),(5,.ptr 82005 0),(10,.own 600082010),(11,i6 c.To),(12,.ptr 82012 0),(13,.int .u64 (aU .andNot .u64 c.Frame.ay.Bits ai)),(14,.ptr 82014 0),(15,.int .u64 dK),(16,.int .u64 dI),(40,lf ak e.List),(41,i6 (e.List.length:Int)),(42,i6 (j1:Int)),(18,.ptr 82018 0),(19,.int .u64 (IntKind.wrap .u64 ((1:Int)*2 ^ min (IntKind.wrap .u64 e1.Bit).toNat 64))),(66,.bool ((!decide (e1.br=c.To))||((decide (aU .and .u64 c.Frame.ay.Bits (IntKind.wrap .u64 ((1:Int)*2 ^ min (IntKind.wrap .u64 e1.Bit).toNat 64))=(0:Int)))||(decide (e1.To=aD)))))] [(82005,.cells 28 (k2 t)),(82012,.cells 36 (k10 c.Frame.ay)),(82014,.cells 28 (k2 aK)),(600082010,.slice 54 12 (ml bP aR) 0 false),(82018,.cells 38 (k5 e1))] (λhk=>?_) ?_
   ·rcases tf (!decide (e1.br=c.To))with c1|c1
    ·exact qS [(4,hto (bE c1)),(16,hto (orT (q:=((decide (aU .and .u64 c.Frame.ay.Bits (IntKind.wrap .u64 ((1:Int)*2 ^ min (IntKind.wrap .u64 e1.Bit).toNat 64))=(0:Int)))||(decide (e1.To=aD)))) c1))] _ _ hk
    rcases tf (decide (aU .and .u64 c.Frame.ay.Bits (IntKind.wrap .u64 ((1:Int)*2 ^ min (IntKind.wrap .u64 e1.Bit).toNat 64))=(0:Int)))with c2|c2
    ·exact qS [(4,hto (bE c1)),(11,hto (bE c2)),(16,hto ((orT (q:=decide (e1.To=aD)) c2).trans (orF (q:=((decide (aU .and .u64 c.Frame.ay.Bits (IntKind.wrap .u64 ((1:Int)*2 ^ min (IntKind.wrap .u64 e1.Bit).toNat 64))=(0:Int)))||(decide (e1.To=aD)))) c1)))] _ _ hk
    exact qS [(4,hto (bE c1)),(11,hto (bE c2)),(16,hto ((orF (q:=decide (e1.To=aD)) c2).trans (orF (q:=((decide (aU .and .u64 c.Frame.ay.Bits (IntKind.wrap .u64 ((1:Int)*2 ^ min (IntKind.wrap .u64 e1.Bit).toNat 64))=(0:Int)))||(decide (e1.To=aD)))) c1)))] _ _ hk
   rcases aq hm with⟨c3,hm⟩|⟨c3,hm⟩
   ·exact qT c3<|A.exit<|qX (aR,dK,dI) hm
   refine qF c3<|A.skip<|A.seq<|qDs [] [66] [(69,.bool (decide (e1.Kind=3)))] ?_
   rcases aq hm with⟨c4,hm⟩|⟨c4,hm⟩
   ·exact qT c4<|qDs [] [15,69] [(15,.int .u64 (aU .or .u64 dK (IntKind.wrap .u64 ((1:Int)*2 ^ min (IntKind.wrap .u64 e1.Bit).toNat 64))))]<|A.exit<|qX (aR,aU .or .u64 dK (IntKind.wrap .u64 ((1:Int)*2 ^ min (IntKind.wrap .u64 e1.Bit).toNat 64)),dI) hm
   refine qF c4<|A.skip ?_
   obtain⟨aV,h4,hm⟩:=af hm
   refine qD [(4,hro (wD h4) amo)] [18,69] [(20,lf aA aV)] [82018] []<|A.seq<|qDs [(1,hto (lnE aA aV))] [] [(80,.bool (decide ((aV.length:Int)=(0:Int))))] ?_
   rcases aq hm with⟨c5,hm⟩|⟨c5,hm⟩
   ·exact qT c5<|qDs [] [15,80] [(15,.int .u64 (aU .or .u64 dK (IntKind.wrap .u64 ((1:Int)*2 ^ min (IntKind.wrap .u64 e1.Bit).toNat 64))))]<|qDs [] [16,19] [(16,.int .u64 (aU .or .u64 dI (IntKind.wrap .u64 ((1:Int)*2 ^ min (IntKind.wrap .u64 e1.Bit).toNat 64))))]<|A.exit<|qX (aR,aU .or .u64 dK (IntKind.wrap .u64 ((1:Int)*2 ^ min (IntKind.wrap .u64 e1.Bit).toNat 64)),aU .or .u64 dI (IntKind.wrap .u64 ((1:Int)*2 ^ min (IntKind.wrap .u64 e1.Bit).toNat 64))) hm
   refine qF c5<|A.skip<|qDs [] [19,80] [(88,.bool (!decide (aU .andNot .u64 c.Frame.ay.Bits ai=0)))] ?_
   rcases aq hm with⟨c6,hm⟩|⟨c6,hm⟩
   ·refine qT c6 ?_
    obtain⟨bq,h5,hm⟩:=af hm
    obtain⟨l_1,h6,hm⟩:=af hm
    exact qG [(4,hro (va h5) amp),(6,hap 82595 (ap bP (bytes:=120) (by decide) h6))] [10,20,88] [(10,.own 82595)] [600082010] [(82595,.slice 54 12 (ml bP l_1) 0 false)]<|Exists.intro (l_1,dK,dI) (And.intro hm (bt.go [.sw 82595 600082010] [] (by kernel_rfl)))
   exact qF c6<|A.skip<|qX (aR,dK,dI) hm
  rintro⟨cv,qz,mD⟩ hm
  rw[hJ1]at hm
  exact qGs [(0,hto (inc hx1 hb1))] [42] [(42,i6 ((j1+1:Nat):Int))]<|qX (cv,qz,mD) hm
 rintro j1 ⟨aR,dK,dI⟩ hj1 hl1 hm
 rw[hK1]at hm
 refine qDs [] [] [(43,.bool (decide ((j1:Int)<(e.List.length:Int))))]<|A.seq<|qF (ltF hl1)<|A.exit<|A.seq<|qD [] [14,40,41,42,43] [(98,.bool (decide (dK=0)))] [82014] [] ?_
 rcases aq hm with⟨c7,hm⟩|⟨c7,hm⟩
 ·refine qT c7<|qD [] [2,5,10,11,12,13,15,16,98] [(8,.own 600082010),(9,.int .u64 (0:Int))] [82005,82012] []<|A.ret ?_
  obtain rfl:=some_inj hm
  exact A.fin W0 [.fz [600082010]] rfl (by kernel_rfl)
 refine qF c7<|A.skip ?_
 obtain⟨aT,h7,hm⟩:=af hm
 obtain⟨cu,h8,hm⟩:=af hm
 refine qD [(6,hro (qf h7) akJ),(9,hro (wD h8) amo)] [2,5,11,98] [(21,lf aA cu)] [82005] []<|A.seq<|qDs [(1,hto (lnE aA cu))] [] [(112,.bool (decide ((cu.length:Int)=(0:Int))))] ?_
 rcases aq hm with⟨c8,hm⟩|⟨c8,hm⟩
 ·refine qT c8<|qD [] [10,12,13,15,16,21,112] [(8,.own 600082010),(9,.int .u64 dK)] [82012] []<|A.ret ?_
  obtain rfl:=some_inj hm
  exact A.fin W0 [.fz [600082010]] rfl (by kernel_rfl)
 refine qF c8<|A.skip<|qDs [] [15,112] [(22,.int .u64 dK)] ?_
 obtain⟨J2,hJ2,hm⟩:=bG hm
 refine A.J (J:=J2) (r:=r) (λaae=>[(10,.own 600082010),(12,.ptr 82012 0),(21,lf aA cu),(22,.int .u64 aae)]) (λaae=>[(82012,.cells 36 (k10 c.Frame.ay)),(600082010,.slice 54 12 (ml bP aR) 0 false)]) ?_ ?_
 ·refine qDs [] [16] [(117,.bool (!decide (dI=0)))] ?_
  rcases aq hm with⟨c9,hm⟩|⟨c9,hm⟩
  ·exact qT c9<|qGs [] [13,22,117] [(22,.int .u64 (aU .or .u64 dK (aU .andNot .u64 c.Frame.ay.Bits ai)))]<|qX (aU .or .u64 dK (aU .andNot .u64 c.Frame.ay.Bits ai)) hm
  exact qF c9<|A.skip<|qX dK hm
 rintro aae hm
 rw[hJ2]at hm
 obtain⟨bA,h9,hm⟩:=af hm
 obtain⟨l_2,h10,hm⟩:=af hm
 refine qS [(4,hro (va h9) amp),(6,hap 82627 (ap bP (bytes:=120) (by decide) h10))] [(8,.own 82627),(9,.int .u64 (0:Int))] [(82627,.slice 54 12 (ml bP l_2) 0 false)]<|A.ret ?_
 obtain rfl:=some_inj hm
 exact A.fin W0 [.fz [82627]] rfl (by kernel_rfl)
theorem uC{e:aF}{down:List Int}{r:cg×Int}(hm:jH e t aD p down=some r):RO prog 44 [] [.agg (k7 e),.agg (k2 t),i6 aD,.agg (k10 p),lf aA down] (.tup [.agg (k12 r.1),i6 r.2]):=by
 refine bf func44 rfl rfl ?_
 unfold jH at hm
 refine qS [(0,.al 44005),(1,.al 44006),(2,.al 44008),(3,.al 44010)] [(2,i6 aD),(4,lf aA down),(5,.ptr 44005 0),(6,.ptr 44006 0),(8,.ptr 44008 0),(10,.ptr 44010 0)] [(44005,.cells 32 (k7 e)),(44006,.cells 28 (k2 t)),(44008,.cells 36 (k10 p)),(44010,.cells 46 [.int .u64 (0:Int),.int .u64 (0:Int),.aM])] ?_
 obtain⟨ai,h1,hm⟩:=af hm
 refine qD [(3,hro (uB h1) atj),(7,.al 44012)] [8] [(12,.ptr 44012 0),(13,i6 ai.2)] [44008] [(44012,.cells 46 (k12 ai.1))]<|A.seq<|qDs [] [] [(27,.bool (!decide (ai.2=0)))] ?_
 rcases aq hm with⟨c1,hm⟩|⟨c1,hm⟩
 ·refine qT c1<|qD [] [2,4,5,6,12,13,27] [(11,i6 ai.2)] [44005,44006,44012] [] ?_
  cases hm
  exact A.ret qE
 refine qF c1<|A.skip<|A.seq ?_
 obtain⟨J1,hJ1,hm⟩:=bG hm
 refine A.J (J:=J1) (r:=r) (λv_1=>[(2,i6 aD),(4,lf aA down),(5,.ptr 44005 0),(6,.ptr 44006 0),(10,.ptr 44010 0),(12,.ptr 44012 0),(37,.bool v_1)]) (λv_1=>[(44005,.cells 32 (k7 e)),(44006,.cells 28 (k2 t)),(44010,.cells 46 [.int .u64 (0:Int),.int .u64 (0:Int),.aM]),(44012,.cells 46 (k12 ai.1))]) ?_ ?_
 ·obtain⟨aK,h2,hm⟩:=af hm
  rcases aq hm with⟨c2,hm⟩|⟨c2,hm⟩
  ·exact qGs [(1,hro (kN h2) adh),(3,hto (bE c2))] [13,27] [(37,.bool true)]<|qX true hm
  obtain⟨aV,h3,hm⟩:=af hm
  exact qGs [(1,hro (kN h2) adh),(3,hto (bE c2)),(5,hro (gx h3) yN)] [13,27] [(37,.bool (!decide (aV=0)))]<|qX (!decide (aV=0)) hm
 rintro v_1 hm
 rw[hJ1]at hm
 rcases aq hm with⟨c3,hm⟩|⟨c3,hm⟩
 ·refine qT c3<|qD [] [2,4,5,6,12,37] [(11,i6 1)] [44005,44006,44012] [] ?_
  cases hm
  exact A.ret qE
 refine qF c3<|A.skip<|qD [(5,.al 44014)] [37] [(14,.ptr 44014 0)] [] [(44014,.cells 46 [.int .u64 ai.1.Local,.int .u64 ai.1.gw,.aM])]<|A.seq<|qD [(2,hto (lnE bP ai.1.bz))] [12] [(45,lf bP ai.1.bz),(46,i6 (ai.1.bz.length:Int)),(47,i6 0)] [44012] []<|A.block<|A.bS 45 rfl λhb1=>?_
 obtain⟨B1,K1,hB1,hK1,hm⟩:=aW hm
 refine A.lpI (l:=ai.1.bz) (j0:=0) (B:=B1) (K:=K1) hm (λj1=>λ(m_1,m_2)=>[(2,i6 aD),(4,lf aA down),(5,.ptr 44005 0),(6,.ptr 44006 0),(10,.ptr 44010 0),(14,.ptr 44014 0),(45,lf bP ai.1.bz),(46,i6 (ai.1.bz.length:Int)),(47,i6 (j1:Int))]) (λj1=>λ(m_1,m_2)=>[(44005,.cells 32 (k7 e)),(44006,.cells 28 (k2 t)),(44010,.cells 46 [.int .u64 (0:Int),.int .u64 (0:Int),.aM]),(44014,.cells 46 [.int .u64 ai.1.Local,.int .u64 m_1,.own 704401402]),(704401402,.slice 54 12 (ml bP m_2) 0 false)]) ?_ ?_ ?_
 ·exact bt.go [.ac 44014 704401402 54 12 2] [] (by kernel_rfl)
 ·rintro j1 e1 Z1 ⟨m_1,m_2⟩ hj1 hx1 hm
  rw[hB1]at hm
  refine qDs [] [] [(48,.bool (decide ((j1:Int)<(ai.1.bz.length:Int))))]<|A.seq<|qT (ltT hx1)<|A.skip ?_
  obtain⟨J2,hJ2,hm⟩:=bG hm
  refine A.J (J:=J2) (r:=r) (λ(m_3,m_4)=>[(2,i6 aD),(4,lf aA down),(5,.ptr 44005 0),(6,.ptr 44006 0),(10,.ptr 44010 0),(14,.ptr 44014 0),(45,lf bP ai.1.bz),(46,i6 (ai.1.bz.length:Int)),(47,i6 (j1:Int))]) (λ(m_3,m_4)=>[(44005,.cells 32 (k7 e)),(44006,.cells 28 (k2 t)),(44010,.cells 46 [.int .u64 (0:Int),.int .u64 (0:Int),.aM]),(44014,.cells 46 [.int .u64 ai.1.Local,.int .u64 m_3,.own 704401402]),(704401402,.slice 54 12 (ml bP m_4) 0 false)]) ?_ ?_
  ·refine A.block<|qD [(0,hix (ix bP (aY hx1))),(2,.al 44016)] [48] [(16,.ptr 44016 0)] [] [(44016,.cells 54 (k11 e1))] ?_
   refine A.seq ?_
   obtain⟨bq,h4,hm⟩:=af hm
   refine qDs [(3,hro (fW h4) zY)] [] [(55,.bool (!bq))] ?_
   rcases aq hm with⟨c4,hm⟩|⟨c4,hm⟩
   ·refine qT c4 ?_
    obtain⟨l_1,h5,hm⟩:=af hm
    exact qD [(4,hap 44560 (ap bP (bytes:=120) (by decide) h5))] [55] [] [44014,704401402] [(44014,.cells 46 [.int .u64 ai.1.Local,.int .u64 m_1,.own 44560]),(44560,.slice 54 12 (ml bP l_1) 0 false)]<|A.exit<|Exists.intro (m_1,l_1) (And.intro hm (bt.go [.sw 44560 704401402] [] (by kernel_rfl)))
   refine qF c4<|A.skip ?_
   obtain⟨aT,h6,hm⟩:=af hm
   refine qD [(4,hro (zo h6) ck82)] [16,55] [(17,lf bP aT.1),(18,.int .u64 aT.2)] [44016] [] ?_
   obtain⟨l_2,h7,hm⟩:=af hm
   exact qD [(3,hap 44573 (ap bP (bytes:=120) (by decide) h7))] [17] [] [44014,704401402] [(44014,.cells 46 [.int .u64 ai.1.Local,.int .u64 m_1,.own 44573]),(44573,.slice 54 12 (ml bP l_2) 0 false)]<|qG [] [18] [] [44014] [(44014,.cells 46 [.int .u64 ai.1.Local,.int .u64 (aU .or .u64 m_1 aT.2),.own 44573])]<|Exists.intro (aU .or .u64 m_1 aT.2,l_2) (And.intro hm (bt.go [.sw 44573 704401402] [] (by kernel_rfl)))
  rintro⟨m_3,m_4⟩ hm
  rw[hJ2]at hm
  exact qGs [(0,hto (inc hx1 hb1))] [47] [(47,i6 ((j1+1:Nat):Int))]<|qX (m_3,m_4) hm
 rintro j1 ⟨m_1,m_2⟩ hj1 hl1 hm
 rw[hK1]at hm
 refine qDs [] [] [(48,.bool (decide ((j1:Int)<(ai.1.bz.length:Int))))]<|A.seq<|qF (ltF hl1)<|A.exit<|qD [] [2,4,5,6,14,45,46,47,48] [(11,i6 0)] [44005,44006,44010,44014] [(44010,.cells 46 [.int .u64 ai.1.Local,.int .u64 m_1,.own 704401402])]<|A.ret ?_
 obtain rfl:=some_inj hm
 exact A.fin W0 [.fz [704401402]] rfl (by kernel_rfl)
variable {f:aO}
theorem acz{r:(List Int)}(hm:qm t f aD=some r):RO prog 85 [] [.agg (k2 t),.agg (k4 f),i6 aD] (lf aA r):=by
 refine bf func85 rfl rfl ?_
 unfold qm at hm
 refine qS [(0,.al 85003),(1,.al 85004)] [(2,i6 aD),(3,.ptr 85003 0),(4,.ptr 85004 0)] [(85003,.cells 28 (k2 t)),(85004,.cells 100 (k4 f))]<|qDs [] [] [(7,.aM)]<|A.seq ?_
 obtain⟨ai,h1,hm⟩:=af hm
 refine qD [(2,hro (oz h1) akI),(3,hto (lnE aA ai))] [3] [(15,lf aA ai),(16,i6 (ai.length:Int)),(17,i6 0)] [85003] []<|A.block<|A.bS 15 rfl λhb1=>?_
 obtain⟨B1,K1,hB1,hK1,hm⟩:=aW hm
 refine A.lpI (l:=ai) (j0:=0) (B:=B1) (K:=K1) hm (λj1=>λaR=>[(2,i6 aD),(4,.ptr 85004 0),(7,.own 600085007),(15,lf aA ai),(16,i6 (ai.length:Int)),(17,i6 (j1:Int))]) (λj1=>λaR=>[(85004,.cells 100 (k4 f)),(600085007,.slice 3 1 (ml aA aR) 0 false)]) ?_ ?_ ?_
 ·exact bt.go [.ad 7 600085007 3 1] [] (by kernel_rfl)
 ·rintro j1 e1 Z1 aR hj1 hx1 hm
  rw[hB1]at hm
  refine qDs [] [] [(18,.bool (decide ((j1:Int)<(ai.length:Int))))]<|A.seq<|qT (ltT hx1)<|A.skip ?_
  obtain⟨J1,hJ1,hm⟩:=bG hm
  refine A.J (J:=J1) (r:=r) (λcv=>[(2,i6 aD),(4,.ptr 85004 0),(7,.own 600085007),(15,lf aA ai),(16,i6 (ai.length:Int)),(17,i6 (j1:Int))]) (λcv=>[(85004,.cells 100 (k4 f)),(600085007,.slice 3 1 (ml aA cv) 0 false)]) ?_ ?_
  ·refine A.block<|qDs [(0,hix (ix aA (aY hx1)))] [18] [(9,i6 e1)] ?_
   obtain⟨aK,h2,hm⟩:=af hm
   refine qDs [(3,hro (fW h2) zY)] [] [(10,.bool aK)]<|A.seq<|qDs [(2,hto (lnE bM f.Links))] [] [(26,lf bM f.Links),(27,i6 (f.Links.length:Int)),(28,i6 0)]<|A.block<|A.bS 26 rfl λhb2=>?_
   obtain⟨B2,K2,hB2,hK2,hm⟩:=aW hm
   refine A.lpI (l:=f.Links) (j0:=0) (B:=B2) (K:=K2) hm (λj2=>λtg=>[(2,i6 aD),(4,.ptr 85004 0),(7,.own 600085007),(9,i6 e1),(10,.bool tg),(15,lf aA ai),(16,i6 (ai.length:Int)),(17,i6 (j1:Int)),(26,lf bM f.Links),(27,i6 (f.Links.length:Int)),(28,i6 (j2:Int))]) (λj2=>λtg=>[(85004,.cells 100 (k4 f)),(600085007,.slice 3 1 (ml aA aR) 0 false)]) ?_ ?_ ?_
   ·exact qW
   ·rintro j2 e2 Z2 tg hj2 hx2 hm
    rw[hB2]at hm
    refine qDs [] [] [(29,.bool (decide ((j2:Int)<(f.Links.length:Int))))]<|A.seq<|qT (ltT hx2)<|A.skip<|A.seq<|A.block<|qD [(0,hix (ix bM (aY hx2))),(2,.al 85012)] [29] [(12,.ptr 85012 0)] [] [(85012,.cells 67 (k3 e2))] ?_
    rcases aq hm with⟨c1,hm⟩|⟨c1,hm⟩
    ·exact qG [(1,hto (bE c1))] [10,12] [(10,.bool true)] [85012] []<|qGs [(0,hto (inc hx2 hb2))] [28] [(28,i6 ((j2+1:Nat):Int))]<|qX true hm
    rcases aq hm with⟨c2,hm⟩|⟨c2,hm⟩
    ·rcases aq hm with⟨c3,hm⟩|⟨c3,hm⟩
     ·exact qG [(1,hto (bE c1)),(6,hto (bE c2)),(13,hto (bE c3))] [10,12] [(10,.bool true)] [85012] []<|qGs [(0,hto (inc hx2 hb2))] [28] [(28,i6 ((j2+1:Nat):Int))]<|qX true hm
     rcases aq hm with⟨c4,hm⟩|⟨c4,hm⟩
     ·exact qG [(1,hto (bE c1)),(6,hto (bE c2)),(13,hto (bE c3)),(18,hto (bE c4))] [10,12] [(10,.bool (decide (e2.To=e1)))] [85012] []<|qGs [(0,hto (inc hx2 hb2))] [28] [(28,i6 ((j2+1:Nat):Int))]<|qX (decide (e2.To=e1)) hm
     exact qG [(1,hto (bE c1)),(6,hto (bE c2)),(13,hto (bE c3)),(18,hto (bE c4))] [10,12] [(10,.bool false)] [85012] []<|qGs [(0,hto (inc hx2 hb2))] [28] [(28,i6 ((j2+1:Nat):Int))]<|qX false hm
    rcases aq hm with⟨c5,hm⟩|⟨c5,hm⟩
    ·exact qG [(1,hto (bE c1)),(6,hto (bE c2)),(18,hto (bE c5))] [10,12] [(10,.bool (decide (e2.To=e1)))] [85012] []<|qGs [(0,hto (inc hx2 hb2))] [28] [(28,i6 ((j2+1:Nat):Int))]<|qX (decide (e2.To=e1)) hm
    exact qG [(1,hto (bE c1)),(6,hto (bE c2)),(18,hto (bE c5))] [10,12] [(10,.bool false)] [85012] []<|qGs [(0,hto (inc hx2 hb2))] [28] [(28,i6 ((j2+1:Nat):Int))]<|qX false hm
   rintro j2 tg hj2 hl2 hm
   rw[hK2]at hm
   refine qDs [] [] [(29,.bool (decide ((j2:Int)<(f.Links.length:Int))))]<|A.seq<|qF (ltF hl2)<|A.exit<|qDs [] [10,26,27,28,29] [(58,.bool tg)] ?_
   rcases aq hm with⟨c6,hm⟩|⟨c6,hm⟩
   ·refine qT c6 ?_
    obtain⟨l_1,h3,hm⟩:=af hm
    exact qG [(3,hap 85562 (ap aA (bytes:=8) (by decide) h3))] [7,9,58] [(7,.own 85562)] [600085007] [(85562,.slice 3 1 (ml aA l_1) 0 false)]<|Exists.intro l_1 (And.intro hm (bt.go [.sw 85562 600085007] [] (by kernel_rfl)))
   exact qF c6<|A.skip<|qX aR hm
  rintro cv hm
  rw[hJ1]at hm
  exact qGs [(0,hto (inc hx1 hb1))] [17] [(17,i6 ((j1+1:Nat):Int))]<|qX cv hm
 rintro j1 aR hj1 hl1 hm
 rw[hK1]at hm
 refine qDs [] [] [(18,.bool (decide ((j1:Int)<(ai.length:Int))))]<|A.seq<|qF (ltF hl1)<|A.exit<|qD [] [2,4,7,15,16,17,18] [(6,.own 600085007)] [85004] []<|A.ret ?_
 obtain rfl:=some_inj hm
 exact A.fin W0 [.fz [600085007]] rfl (by kernel_rfl)
theorem adp{e:aF}{r:dy×Int}(hm:jq e t f p aD=some r):RO prog 46 [] [.agg (k7 e),.agg (k2 t),.agg (k4 f),.agg (k10 p),i6 aD] (.tup [.agg (k13 r.1),i6 r.2]):=by
 refine bf func46 rfl rfl ?_
 unfold jq at hm
 refine qS [(0,.al 46005),(1,.al 46006),(2,.al 46007),(3,.al 46008),(4,.al 46010)] [(4,i6 aD),(5,.ptr 46005 0),(6,.ptr 46006 0),(7,.ptr 46007 0),(8,.ptr 46008 0),(10,.ptr 46010 0)] [(46005,.cells 32 (k7 e)),(46006,.cells 28 (k2 t)),(46007,.cells 100 (k4 f)),(46008,.cells 36 (k10 p)),(46010,.cells 74 [.aM,.aM,.aM])]<|A.seq ?_
 obtain⟨J1,hJ1,hm⟩:=bG hm
 refine A.J (J:=J1) (r:=r) (λv_1=>[(4,i6 aD),(5,.ptr 46005 0),(6,.ptr 46006 0),(7,.ptr 46007 0),(8,.ptr 46008 0),(10,.ptr 46010 0),(38,.bool v_1)]) (λv_1=>[(46005,.cells 32 (k7 e)),(46006,.cells 28 (k2 t)),(46007,.cells 100 (k4 f)),(46008,.cells 36 (k10 p)),(46010,.cells 74 [.aM,.aM,.aM])]) ?_ ?_
 ·obtain⟨ai,h1,hm⟩:=af hm
  rcases aq hm with⟨c1,hm⟩|⟨c1,hm⟩
  ·exact qGs [(1,hro (kN h1) adh),(3,hto (bE c1))] [] [(38,.bool true)]<|qX true hm
  obtain⟨aK,h2,hm⟩:=af hm
  rcases aq hm with⟨c2,hm⟩|⟨c2,hm⟩
  ·exact qGs [(1,hro (kN h1) adh),(3,hto (bE c1)),(5,hro (gx h2) yN),(8,hto (bE c2))] [] [(38,.bool true)]<|qX true hm
  obtain⟨aV,h3,hm⟩:=af hm
  exact qGs [(1,hro (kN h1) adh),(3,hto (bE c1)),(5,hro (gx h2) yN),(8,hto (bE c2)),(10,hro (wB h3) atp)] [] [(38,.bool (!aV))]<|qX (!aV) hm
 rintro v_1 hm
 rw[hJ1]at hm
 rcases aq hm with⟨c3,hm⟩|⟨c3,hm⟩
 ·refine qT c3<|qD [] [4,5,6,7,8,38] [(11,i6 1)] [46005,46006,46007,46008] [] ?_
  cases hm
  exact A.ret qE
 refine qF c3<|A.skip<|A.seq ?_
 obtain⟨bq,h4,hm⟩:=af hm
 refine qDs [(2,hro (qx h4) ahA)] [38] [(43,.bool (!bq))] ?_
 rcases aq hm with⟨c4,hm⟩|⟨c4,hm⟩
 ·refine qT c4<|qD [] [4,5,6,7,8,43] [(11,i6 4)] [46005,46006,46007,46008] [] ?_
  cases hm
  exact A.ret qE
 refine qF c4<|A.skip<|A.seq ?_
 obtain⟨aT,h5,hm⟩:=af hm
 refine qDs [(3,hro (uB h5) atj),(7,.al 46012)] [43] [(13,i6 aT.2)]<|qDs [] [] [(53,.bool (!decide (aT.2=0)))] ?_
 rcases aq hm with⟨c5,hm⟩|⟨c5,hm⟩
 ·refine qT c5<|qD [] [4,5,6,7,8,13,53] [(11,i6 aT.2)] [46005,46006,46007,46008] [] ?_
  cases hm
  exact A.ret qE
 refine qF c5<|A.skip<|A.seq ?_
 obtain⟨cu,h6,hm⟩:=af hm
 refine qDs [(3,hro (fW h6) zY)] [13,53] [(59,.bool cu)] ?_
 rcases aq hm with⟨c6,hm⟩|⟨c6,hm⟩
 ·refine qT c6<|qS [] [(10,.ptr 46010 0),(11,i6 0)] [(46010,.cells 74 [.aM,.aM,.lst true (ml eU ([(cC.mk aD p.Bits)]:List cC))])] ?_
  cases hm
  exact A.ret qE
 refine qF c6<|A.skip ?_
 obtain⟨bA,h7,hm⟩:=af hm
 refine qD [(2,hro (qf h7) akJ),(3,.al 46014)] [59] [(14,.ptr 46014 0)] [] [(46014,.cells 28 (k2 bA))]<|qD [(0,.al 46015)] [] [(15,.ptr 46015 0)] [] [(46015,.cells 74 [.aM,.aM,.aM])]<|qD [(4,.al 46073)] [4,8] [(16,.own 46073)] [46008] [(46073,.slice 160 12 (ml gU ([(cq.mk aD (dP.mk [] p))]:List cq)) 0 false)]<|A.seq<|qDs [] [] [(17,i6 0)]<|A.block ?_
 obtain⟨F1,n1,hF1,hm⟩:=iR hm
 refine A.lpW (F:=F1) hm (λ(oN,i_1,m_1,m_2,m_3)=>[(5,.ptr 46005 0),(6,.ptr 46006 0),(7,.ptr 46007 0),(10,.ptr 46010 0),(14,.ptr 46014 0),(15,.ptr 46015 0),(16,.own 600046016),(17,i6 i_1)]) (λ(oN,i_1,m_1,m_2,m_3)=>[(46005,.cells 32 (k7 e)),(46006,.cells 28 (k2 t)),(46007,.cells 100 (k4 f)),(46010,.cells 74 [.aM,.aM,.aM]),(46014,.cells 28 (k2 bA)),(46015,.cells 74 [.own 704601500,.own 704601501,.own 704601502]),(600046016,.slice 160 12 (ml gU oN) 0 false),(704601500,.slice 78 11 (ml cM m_1) 0 false),(704601501,.slice 81 3 (ml dw m_2) 0 false),(704601502,.slice 141 2 (ml eU m_3) 0 false)]) ?_ ?_
 ·exact bt.go [.sw 46073 600046016,.ac 46015 704601500 78 11 0,.ac 46015 704601501 81 3 1,.ac 46015 704601502 141 2 2] [] (by kernel_rfl)
 rintro Z1 ⟨oN,i_1,m_1,m_2,m_3⟩ hm
 rw[hF1]at hm
 refine A.seq<|qDs [(2,hto (lnE gU oN))] [] [(77,.bool (decide (i_1<(oN.length:Int))))] ?_
 rcases aq hm with⟨c7,hm⟩|⟨c7,hm⟩
 ·refine qT c7<|A.skip<|A.seq<|A.block ?_
  obtain⟨e_1,h8,hm⟩:=af hm
  refine qD [(2,hix (ix gU h8)),(3,hlo 600046016 0 (ix gU h8)),(4,.al 46018)] [77] [(18,.ptr 46018 0)] [] [(46018,.cells 160 (k15 e_1))]<|qDs [] [] [] ?_
  obtain⟨J2,hJ2,hm⟩:=bG hm
  refine A.J (J:=J2) (r:=r) (λ(gZ,m_4,m_5)=>[(5,.ptr 46005 0),(6,.ptr 46006 0),(7,.ptr 46007 0),(10,.ptr 46010 0),(14,.ptr 46014 0),(15,.ptr 46015 0),(16,.own 600046016),(17,i6 i_1),(18,.ptr 46018 0),(19,lf bP gZ)]) (λ(gZ,m_4,m_5)=>[(46005,.cells 32 (k7 e)),(46006,.cells 28 (k2 t)),(46007,.cells 100 (k4 f)),(46010,.cells 74 [.aM,.aM,.aM]),(46014,.cells 28 (k2 bA)),(46015,.cells 74 [.own 704601500,.own 704601501,.own 704601502]),(600046016,.slice 160 12 (ml gU oN) 0 false),(704601500,.slice 78 11 (ml cM m_4) 0 false),(704601501,.slice 81 3 (ml dw m_2) 0 false),(704601502,.slice 141 2 (ml eU m_5) 0 false),(46018,.cells 160 (k15 e_1))]) ?_ ?_
  ·refine qDs [(3,hto (lnE aA e_1.Frame.dZ))] [] [(88,.bool (decide (0<(e_1.Frame.dZ.length:Int))))] ?_
   rcases aq hm with⟨c8,hm⟩|⟨c8,hm⟩
   ·refine qT c8 ?_
    obtain⟨e_2,h9,hm⟩:=af hm
    obtain⟨l_1,h10,hm⟩:=af hm
    exact qGs [(3,hix (ix aA h9)),(8,hsl (adb aA h10))] [88] [(19,.lst true (ml bP ([(bh.mk e_2 (dP.mk l_1 e_1.Frame.ay))]:List bh)))]<|Exists.intro (([(bh.mk e_2 (dP.mk l_1 e_1.Frame.ay))]:List bh),m_1,m_3) (And.intro hm (bt.go [] [19] (by kernel_rfl)))
   refine qF c8 ?_
   obtain⟨fE,h11,hm⟩:=af hm
   obtain⟨eT,h12,hm⟩:=af hm
   refine qD [(11,hro (acz h11) ck85),(12,hro (uC h12) ato),(16,.al 46020)] [88] [(20,.ptr 46020 0)] [] [(46020,.cells 46 (k12 eT.1))] ?_
   obtain⟨pP,h13,hm⟩:=af hm
   obtain⟨l_2,h14,hm⟩:=af hm
   refine qD [(9,hro (yf h13) ck76),(10,hap 46630 (ap cM (bytes:=96) (by decide) h14))] [] [] [46015,704601500] [(46015,.cells 74 [.own 46630,.own 704601501,.own 704601502]),(46630,.slice 78 11 (ml cM l_2) 0 false)] ?_
   obtain⟨J3,hJ3,hm⟩:=bG hm
   refine A.J (J:=J3) (r:=r) (λm_6=>[(5,.ptr 46005 0),(6,.ptr 46006 0),(7,.ptr 46007 0),(10,.ptr 46010 0),(14,.ptr 46014 0),(15,.ptr 46015 0),(16,.own 600046016),(17,i6 i_1),(18,.ptr 46018 0),(20,.ptr 46020 0)]) (λm_6=>[(46005,.cells 32 (k7 e)),(46006,.cells 28 (k2 t)),(46007,.cells 100 (k4 f)),(46010,.cells 74 [.aM,.aM,.aM]),(46014,.cells 28 (k2 bA)),(46015,.cells 74 [.own 46630,.own 704601501,.own 704601502]),(600046016,.slice 160 12 (ml gU oN) 0 false),(704601501,.slice 81 3 (ml dw m_2) 0 false),(704601502,.slice 141 2 (ml eU m_6) 0 false),(46018,.cells 160 (k15 e_1)),(46020,.cells 46 (k12 eT.1)),(46630,.slice 78 11 (ml cM l_2) 0 false)]) ?_ ?_
   ·refine qDs [] [] [(134,.bool (!decide (eT.1.gw=0)))] ?_
    rcases aq hm with⟨c9,hm⟩|⟨c9,hm⟩
    ·refine qT c9 ?_
     obtain⟨l_3,h15,hm⟩:=af hm
     exact qG [(8,hap 46643 (ap eU (bytes:=16) (by decide) h15))] [134] [] [46015,704601502] [(46015,.cells 74 [.own 46630,.own 704601501,.own 46643]),(46643,.slice 141 2 (ml eU l_3) 0 false)]<|Exists.intro l_3 (And.intro hm (bt.go [.sw 46643 704601502] [] (by kernel_rfl)))
    exact qF c9<|A.skip<|qX m_3 hm
   rintro m_6 hm
   rw[hJ3]at hm
   exact qG [] [20] [(19,lf bP eT.1.bz)] [46020] []<|Exists.intro (eT.1.bz,l_2,m_6) (And.intro hm (bt.go [.sw 46630 704601500] [19] (by kernel_rfl)))
  rintro⟨gZ,m_4,m_5⟩ hm
  rw[hJ2]at hm
  refine A.seq<|qDs [(1,hto (lnE bP gZ))] [19] [(147,lf bP gZ),(148,i6 (gZ.length:Int)),(149,i6 0)] ?_
  refine A.block<|A.bS 147 rfl λhb2=>?_
  obtain⟨B2,K2,hB2,hK2,hm⟩:=aW hm
  refine A.lpI (l:=gZ) (j0:=0) (B:=B2) (K:=K2) hm (λj2=>λ(iq,m_7,m_8)=>[(5,.ptr 46005 0),(6,.ptr 46006 0),(7,.ptr 46007 0),(10,.ptr 46010 0),(14,.ptr 46014 0),(15,.ptr 46015 0),(16,.own 600046016),(17,i6 i_1),(18,.ptr 46018 0),(147,lf bP gZ),(148,i6 (gZ.length:Int)),(149,i6 (j2:Int))]) (λj2=>λ(iq,m_7,m_8)=>[(46005,.cells 32 (k7 e)),(46006,.cells 28 (k2 t)),(46007,.cells 100 (k4 f)),(46010,.cells 74 [.aM,.aM,.aM]),(46014,.cells 28 (k2 bA)),(46015,.cells 74 [.own 704601500,.own 704601501,.own 704601502]),(600046016,.slice 160 12 (ml gU iq) 0 false),(704601500,.slice 78 11 (ml cM m_4) 0 false),(704601501,.slice 81 3 (ml dw m_7) 0 false),(704601502,.slice 141 2 (ml eU m_8) 0 false),(46018,.cells 160 (k15 e_1))]) ?_ ?_ ?_
  ·exact qW
  ·rintro j2 e2 Z2 ⟨iq,m_7,m_8⟩ hj2 hx2 hm
   rw[hB2]at hm
   refine qDs [] [] [(150,.bool (decide ((j2:Int)<(gZ.length:Int))))]<|A.seq<|qT (ltT hx2)<|A.skip ?_
   obtain⟨J4,hJ4,hm⟩:=bG hm
   refine A.J (J:=J4) (r:=r) (λ(pG,m_9,fI)=>[(5,.ptr 46005 0),(6,.ptr 46006 0),(7,.ptr 46007 0),(10,.ptr 46010 0),(14,.ptr 46014 0),(15,.ptr 46015 0),(16,.own 600046016),(17,i6 i_1),(18,.ptr 46018 0),(147,lf bP gZ),(148,i6 (gZ.length:Int)),(149,i6 (j2:Int))]) (λ(pG,m_9,fI)=>[(46005,.cells 32 (k7 e)),(46006,.cells 28 (k2 t)),(46007,.cells 100 (k4 f)),(46010,.cells 74 [.aM,.aM,.aM]),(46014,.cells 28 (k2 bA)),(46015,.cells 74 [.own 704601500,.own 704601501,.own 704601502]),(600046016,.slice 160 12 (ml gU pG) 0 false),(704601500,.slice 78 11 (ml cM m_4) 0 false),(704601501,.slice 81 3 (ml dw m_9) 0 false),(704601502,.slice 141 2 (ml eU fI) 0 false),(46018,.cells 160 (k15 e_1))]) ?_ ?_
   ·refine A.block<|qD [(0,hix (ix bP (aY hx2))),(2,.al 46023)] [150] [(23,.ptr 46023 0)] [] [(46023,.cells 54 (k11 e2))] ?_
    refine A.seq ?_
    obtain⟨iH,h16,hm⟩:=af hm
    refine qDs [(5,hro (acq h16) ck50)] [] [(25,.bool iH.2)]<|qDs [] [25] [(163,.bool (!iH.2))] ?_
    rcases aq hm with⟨c10,hm⟩|⟨c10,hm⟩
    ·refine qT c10 ?_
     obtain⟨l_4,h17,hm⟩:=af hm
     exact qD [(10,hap 46674 (ap eU (bytes:=16) (by decide) h17))] [163] [] [46015,704601502] [(46015,.cells 74 [.own 704601500,.own 704601501,.own 46674]),(46674,.slice 141 2 (ml eU l_4) 0 false)]<|A.exit<|Exists.intro (iq,m_7,l_4) (And.intro hm (bt.go [.sw 46674 704601502] [] (by kernel_rfl)))
    refine qF c10<|A.skip ?_
    obtain⟨l_5,h18,hm⟩:=af hm
    refine qD [(12,hap 46688 (ap dw (bytes:=24) (by decide) h18))] [163] [] [46015,704601501] [(46015,.cells 74 [.own 704601500,.own 46688,.own 704601502]),(46688,.slice 81 3 (ml dw l_5) 0 false)] ?_
    obtain⟨l_6,h19,hm⟩:=af hm
    exact qG [(7,hap 46697 (ap gU (bytes:=120) (by decide) h19))] [16,23] [(16,.own 46697)] [600046016,46023] [(46697,.slice 160 12 (ml gU l_6) 0 false)]<|Exists.intro (l_6,l_5,m_8) (And.intro hm (bt.go [.sw 46697 600046016,.sw 46688 704601501] [] (by kernel_rfl)))
   rintro⟨pG,m_9,fI⟩ hm
   rw[hJ4]at hm
   exact qGs [(0,hto (inc hx2 hb2))] [149] [(149,i6 ((j2+1:Nat):Int))]<|qX (pG,m_9,fI) hm
  rintro j2 ⟨iq,m_7,m_8⟩ hj2 hl2 hm
  rw[hK2]at hm
  refine qDs [] [] [(150,.bool (decide ((j2:Int)<(gZ.length:Int))))]<|A.seq<|qF (ltF hl2)<|A.exit<|qD [(2,hto (lnE dw m_7))] [18,147,148,149,150] [(202,.bool (decide (2000<(m_7.length:Int))))] [46018] [] ?_
  rcases aq hm with⟨c11,hm⟩|⟨c11,hm⟩
  ·refine qT c11<|qS [] [(10,.ptr 46010 0),(11,i6 11)] [(46010,.cells 74 [.aM,.aM,.aM])] ?_
   cases hm
   exact A.ret qE
  exact qF c11<|A.skip<|qGs [] [17,202] [(17,i6 (w64 (i_1+1)))]<|qX (iq,w64 (i_1+1),m_4,m_7,m_8) hm
 refine qF c7<|A.exit<|qD [] [5,6,7,14,15,16,17,77] [(11,i6 0)] [46005,46006,46007,46010,46014,46015,600046016] [(46010,.cells 74 [.own 704601500,.own 704601501,.own 704601502])]<|A.ret ?_
 obtain rfl:=some_inj hm
 exact A.fin W0 [.fz [704601500,704601501,704601502]] rfl (by kernel_rfl)
end Go.Proofs.YtdjeacigeegklaaGreat
