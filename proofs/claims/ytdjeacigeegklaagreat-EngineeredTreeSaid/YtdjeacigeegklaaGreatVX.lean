/- The gq of dx of the program. No condition but br aM stand in each. -/
import Derived.Test.YtdjeacigeegklaaGreatV2
import Derived.Test.YtdjeacigeegklaaGreatVW
namespace Go.Proofs.YtdjeacigeegklaaGreat
open Go Go.Proofs.Tryz
set_option maxRecDepth 100000
set_option linter.all false
variable {r:Bool}
theorem xe{n:Int}(hm:nA n=some r):RO prog 64 [] [i6 n] (.bool r):=by
 refine bu func64 rfl rfl ?_
 unfold nA at hm
 refine qS [] [(0,i6 n)] []<|A.mid [(2,.bool ((decide (n=8))||((decide (n=16))||((decide (n=32))||(decide (n=64))))))] [] (λhk=>?_) ?_
 ·rcases tf (decide (n=8))with c1|c1
  ·exact qS [(2,hto (bE c1)),(14,hto (orT (q:=((decide (n=16))||((decide (n=32))||(decide (n=64))))) c1))] _ _ hk
  rcases tf (decide (n=16))with c2|c2
  ·exact qS [(2,hto (bE c1)),(6,hto (bE c2)),(14,hto ((orT (q:=((decide (n=32))||(decide (n=64)))) c2).trans (orF (q:=((decide (n=16))||((decide (n=32))||(decide (n=64))))) c1)))] _ _ hk
  rcases tf (decide (n=32))with c3|c3
  ·exact qS [(2,hto (bE c1)),(6,hto (bE c2)),(10,hto (bE c3)),(14,hto (((orT (q:=decide (n=64)) c3).trans (orF (q:=((decide (n=32))||(decide (n=64)))) c2)).trans (orF (q:=((decide (n=16))||((decide (n=32))||(decide (n=64))))) c1)))] _ _ hk
  exact qS [(2,hto (bE c1)),(6,hto (bE c2)),(10,hto (bE c3)),(14,hto (((orF (q:=decide (n=64)) c3).trans (orF (q:=((decide (n=32))||(decide (n=64)))) c2)).trans (orF (q:=((decide (n=16))||((decide (n=32))||(decide (n=64))))) c1)))] _ _ hk
 cases hm
 exact A.ret qE
theorem lu{n:Int}(hm:jH n=some r):RO prog 90 [] [i6 n] (.bool r):=by
 refine bu func90 rfl rfl ?_
 unfold jH at hm
 refine qS [] [(0,i6 n)] []<|A.mid [(2,.bool ((decide (1≤n))&&(decide (n≤99))))] [] (λhk=>?_) ?_
 ·rcases tf (decide (1≤n))with c1|c1
  ·exact qS [(2,hto (bE c1)),(6,hto (qz (q:=decide (n≤99)) c1))] _ _ hk
  exact qS [(2,hto (bE c1)),(6,hto (qA (q:=decide (n≤99)) c1))] _ _ hk
 cases hm
 exact A.ret qE
theorem sS{t:af}{n:Int}{r:aI×Int}(hm:lM t n=some r):RO prog 19 [] [.agg (k2 t),i6 n] (.tup [.agg (k6 r.1),i6 r.2]):=by
 refine bu func19 rfl rfl ?_
 unfold lM at hm
 refine qS [(0,.al 19002),(1,.al 19004)] [(1,i6 n),(2,.ptr 19002 0),(4,.ptr 19004 0)] [(19002,.cells 28 (k2 t)),(19004,.cells 32 [i6 0,.aS])]<|A.seq ?_
 obtain⟨ak,h1,hm⟩:=aa hm
 refine qDs [(1,hro (sj h1) aov)] [] [(13,.bool (!decide (ak=0)))] ?_
 rcases aq hm with⟨c1,hm⟩|⟨c1,hm⟩
 ·refine qT c1<|qD [] [1,2,13] [(5,i6 1)] [19002] [] ?_
  cases hm
  exact A.ret qE
 refine qF c1<|A.skip<|A.seq ?_
 obtain⟨aO,h2,hm⟩:=aa hm
 refine qDs [(1,hro (xe h2) ck64)] [13] [(17,.bool (!aO))] ?_
 rcases aq hm with⟨c2,hm⟩|⟨c2,hm⟩
 ·refine qT c2<|qD [] [1,2,17] [(5,i6 2)] [19002] [] ?_
  cases hm
  exact A.ret qE
 refine qF c2<|A.skip<|qD [(2,.al 19006)] [17] [(6,.ptr 19006 0)] [] [(19006,.cells 32 [i6 n,.aS])]<|A.seq<|qDs [(2,hto (lnE bg t.aF))] [] [(22,lf bg t.aF),(23,i6 (t.aF.length:Int)),(24,i6 0)]<|A.block<|A.bS 22 rfl λhb1=>?_
 obtain⟨B1,K1,hB1,hK1,hm⟩:=bA hm
 refine A.lpI (l:=t.aF) (j0:=0) (B:=B1) (K:=K1) hm (λj1=>λm_1=>[(1,i6 n),(2,.ptr 19002 0),(4,.ptr 19004 0),(6,.ptr 19006 0),(22,lf bg t.aF),(23,i6 (t.aF.length:Int)),(24,i6 (j1:Int))]) (λj1=>λm_1=>[(19002,.cells 28 (k2 t)),(19004,.cells 32 [i6 0,.aS]),(19006,.cells 32 [i6 n,.own 701900601]),(701900601,.slice 38 4 (ml aQ m_1) 0 false)]) ?_ ?_ ?_
 ·exact bp.go [.ac 19006 701900601 38 4 1] [] (by kernel_rfl)
 ·rintro j1 e1 Z1 m_1 hj1 hx1 hm
  rw[hB1]at hm
  refine qDs [] [] [(25,.bool (decide ((j1:Int)<(t.aF.length:Int))))]<|A.seq<|qT (ltT hx1)<|A.skip<|A.seq<|A.block<|qD [(0,hix (ix bg (bK hx1))),(2,.al 19008)] [25] [(8,.ptr 19008 0)] [] [(19008,.cells 42 (k0 e1))] ?_
  obtain⟨l_1,h3,hm⟩:=aa hm
  refine qD [(4,hto (lnE aQ m_1)),(11,hap 19539 (ap aQ (bytes:=32) (by decide) h3))] [] [] [19006,701900601] [(19006,.cells 32 [i6 n,.own 19539]),(19539,.slice 38 4 (ml aQ l_1) 0 false)] ?_
  obtain⟨bT,h4,hm⟩:=aa hm
  refine qDs [(3,hro (tQ h4) ck43),(4,hto (lnE aG bT))] [] [(44,lf aG bT),(45,i6 (bT.length:Int)),(46,i6 0)]<|A.block<|A.bS 44 rfl λhb2=>?_
  obtain⟨B2,K2,hB2,hK2,hm⟩:=bA hm
  refine A.lpI (l:=bT) (j0:=0) (B:=B2) (K:=K2) hm (λj2=>λm_2=>[(1,i6 n),(2,.ptr 19002 0),(4,.ptr 19004 0),(6,.ptr 19006 0),(8,.ptr 19008 0),(22,lf bg t.aF),(23,i6 (t.aF.length:Int)),(24,i6 (j1:Int)),(44,lf aG bT),(45,i6 (bT.length:Int)),(46,i6 (j2:Int))]) (λj2=>λm_2=>[(19002,.cells 28 (k2 t)),(19004,.cells 32 [i6 0,.aS]),(19006,.cells 32 [i6 n,.own 701900601]),(19008,.cells 42 (k0 e1)),(701900601,.slice 38 4 (ml aQ m_2) 0 false)]) ?_ ?_ ?_
  ·exact bp.go [.sw 19539 701900601] [] (by kernel_rfl)
  ·rintro j2 e2 Z2 m_2 hj2 hx2 hm
   rw[hB2]at hm
   refine qDs [] [] [(47,.bool (decide ((j2:Int)<(bT.length:Int))))]<|A.seq<|qT (ltT hx2)<|A.skip<|A.seq<|A.block<|qDs [(0,hix (ix aG (bK hx2)))] [47] [(10,i6 e2)] ?_
   obtain⟨l_2,h5,hm⟩:=aa hm
   exact qG [(4,hto (lnE aQ m_2)),(10,hap 19560 (ap aQ (bytes:=32) (by decide) h5))] [10] [] [19006,701900601] [(19006,.cells 32 [i6 n,.own 19560]),(19560,.slice 38 4 (ml aQ l_2) 0 false)]<|qGs [(0,hto (inc hx2 hb2))] [46] [(46,i6 ((j2+1:Nat):Int))]<|Exists.intro l_2 (And.intro hm (bp.go [.sw 19560 701900601] [] (by kernel_rfl)))
  rintro j2 m_2 hj2 hl2 hm
  rw[hK2]at hm
  exact qDs [] [] [(47,.bool (decide ((j2:Int)<(bT.length:Int))))]<|A.seq<|qF (ltF hl2)<|A.exit<|qG [(0,hto (inc hx1 hb1))] [8,24,44,45,46,47] [(24,i6 ((j1+1:Nat):Int))] [19008] []<|qX m_2 hm
 rintro j1 m_1 hj1 hl1 hm
 rw[hK1]at hm
 refine qDs [] [] [(25,.bool (decide ((j1:Int)<(t.aF.length:Int))))]<|A.seq<|qF (ltF hl1)<|A.exit<|A.seq<|qD [(2,hto (lnE aQ m_1))] [1,2,22,23,24,25] [(68,.bool (decide (n<(m_1.length:Int))))] [19002] [] ?_
 rcases aq hm with⟨c3,hm⟩|⟨c3,hm⟩
 ·refine qT c3<|qD [] [6,68] [(5,i6 3)] [19006,701900601] [] ?_
  cases hm
  exact A.ret qE
 refine qF c3<|A.skip<|qD [] [6,68] [(5,i6 0)] [19004,19006] [(19004,.cells 32 [i6 n,.own 701900601])]<|A.ret ?_
 obtain rfl:=some_inj hm
 exact A.fin W0 [.fz [701900601]] rfl (by kernel_rfl)
variable {t:cE}
theorem uI{r:Int}(hm:jt t=some r):RO prog 66 [] [.agg (k7 t)] (i6 r):=by
 refine bu func66 rfl rfl ?_
 unfold jt at hm
 refine qS [(0,.al 66001)] [(1,.ptr 66001 0)] [(66001,.cells 63 (k7 t))] ?_
 obtain⟨ak,h1,hm⟩:=aa hm
 refine qDs [(2,hro (lu h1) adH)] [] [(3,.bool ak)]<|A.seq<|qDs [(2,hto (lnE bt t.Links))] [] [(23,lf bt t.Links),(24,i6 (t.Links.length:Int)),(25,i6 0)]<|A.block<|A.bS 23 rfl λhb1=>?_
 obtain⟨B1,K1,hB1,hK1,hm⟩:=bA hm
 refine A.lpI (l:=t.Links) (j0:=0) (B:=B1) (K:=K1) hm (λj1=>λuH=>[(1,.ptr 66001 0),(3,.bool uH),(23,lf bt t.Links),(24,i6 (t.Links.length:Int)),(25,i6 (j1:Int))]) (λj1=>λuH=>[(66001,.cells 63 (k7 t))]) ?_ ?_ ?_
 ·exact qW
 ·rintro j1 e1 Z1 uH hj1 hx1 hm
  rw[hB1]at hm
  refine qDs [] [] [(26,.bool (decide ((j1:Int)<(t.Links.length:Int))))]<|A.seq<|qT (ltT hx1)<|A.skip<|A.seq<|A.block<|qD [(0,hix (ix bt (bK hx1))),(2,.al 66005)] [26] [(5,.ptr 66005 0)] [] [(66005,.cells 67 (k3 e1))] ?_
  rcases aq hm with⟨c1,hm⟩|⟨c1,hm⟩
  ·obtain⟨aO,h2,hm⟩:=aa hm
   rcases aq hm with⟨c2,hm⟩|⟨c2,hm⟩
   ·obtain⟨bT,h3,hm⟩:=aa hm
    exact qG [(1,hto (bE c1)),(4,hro (lu h2) adH),(6,hto (bE c2)),(9,hro (lu h3) adH)] [3,5] [(3,.bool bT)] [66005] []<|qGs [(0,hto (inc hx1 hb1))] [25] [(25,i6 ((j1+1:Nat):Int))]<|qX bT hm
   exact qG [(1,hto (bE c1)),(4,hro (lu h2) adH),(6,hto (bE c2))] [3,5] [(3,.bool false)] [66005] []<|qGs [(0,hto (inc hx1 hb1))] [25] [(25,i6 ((j1+1:Nat):Int))]<|qX false hm
  exact qG [(1,hto (bE c1))] [3,5] [(3,.bool false)] [66005] []<|qGs [(0,hto (inc hx1 hb1))] [25] [(25,i6 ((j1+1:Nat):Int))]<|qX false hm
 rintro j1 uH hj1 hl1 hm
 rw[hK1]at hm
 refine qDs [] [] [(26,.bool (decide ((j1:Int)<(t.Links.length:Int))))]<|A.seq<|qF (ltF hl1)<|A.exit<|A.seq<|qDs [] [3,23,24,25,26] [(42,.bool (!uH))] ?_
 rcases aq hm with⟨c3,hm⟩|⟨c3,hm⟩
 ·refine qT c3<|qS [] [(2,i6 2)] [] ?_
  cases hm
  exact A.ret qE
 refine qF c3<|A.skip<|A.seq<|qDs [] [42] [(6,i6 1)]<|A.block<|A.bC 1 1 rfl rfl rfl λhb2=>?_
 obtain⟨B2,K2,hB2,hK2,hm⟩:=bA hm
 refine A.lpI (l:=t.Links) (j0:=1) (B:=B2) (K:=K2) hm (λj2=>λ()=>[(1,.ptr 66001 0),(6,i6 (j2:Int))]) (λj2=>λ()=>[(66001,.cells 63 (k7 t))]) ?_ ?_ ?_
 ·exact qW
 ·rintro j2 e2 Z2 ⟨⟩ hj2 hx2 hm
  rw[hB2]at hm
  refine A.seq<|qDs [(3,hto (lnE bt t.Links))] [] [(47,.bool (decide ((j2:Int)<(t.Links.length:Int))))] ?_
  refine qT (ltT hx2)<|A.skip<|A.seq<|A.block ?_
  obtain⟨e_1,h4,hm⟩:=aa hm
  refine qD [(4,hix (ix bt h4)),(9,hix (ix bt (bK hx2))),(11,.al 66007),(12,.al 66008)] [47] [(7,.ptr 66007 0),(8,.ptr 66008 0)] [] [(66007,.cells 67 (k3 e_1)),(66008,.cells 67 (k3 e2))]<|A.mid [(1,.ptr 66001 0),(6,i6 (j2:Int)),(79,.bool ((decide (e2.bh<e_1.bh))||((decide (e_1.bh=e2.bh))&&(decide (e2.To≤e_1.To)))))] [(66001,.cells 63 (k7 t))] (λhk=>?_) ?_
  ·rcases tf (decide (e2.bh<e_1.bh))with c4|c4
   ·exact qS [(5,hto (bE c4)),(18,hto (orT (q:=((decide (e_1.bh=e2.bh))&&(decide (e2.To≤e_1.To)))) c4))] _ _ hk
   rcases tf (decide (e_1.bh=e2.bh))with c5|c5
   ·exact qS [(5,hto (bE c4)),(11,hto (bE c5)),(18,hto ((qz (q:=decide (e2.To≤e_1.To)) c5).trans (orF (q:=((decide (e_1.bh=e2.bh))&&(decide (e2.To≤e_1.To)))) c4)))] _ _ hk
   exact qS [(5,hto (bE c4)),(11,hto (bE c5)),(18,hto ((qA (q:=decide (e2.To≤e_1.To)) c5).trans (orF (q:=((decide (e_1.bh=e2.bh))&&(decide (e2.To≤e_1.To)))) c4)))] _ _ hk
  rcases aq hm with⟨c6,hm⟩|⟨c6,hm⟩
  ·refine qT c6<|qS [] [(2,i6 25)] [] ?_
   cases hm
   exact A.ret qE
  exact qF c6<|A.skip<|qGs [(1,hto (inc hx2 hb2))] [6,79] [(6,i6 ((j2+1:Nat):Int))]<|qX () hm
 rintro j2 ⟨⟩ hj2 hl2 hm
 rw[hK2]at hm
 refine A.seq<|qDs [(3,hto (lnE bt t.Links))] [] [(47,.bool (decide ((j2:Int)<(t.Links.length:Int))))] ?_
 refine qF (ltF hl2)<|A.exit<|A.seq<|qDs [(2,hto (lnE bt t.Links))] [6,47] [(81,lf bt t.Links),(82,i6 (t.Links.length:Int)),(83,i6 0)]<|A.block<|A.bS 81 rfl λhb3=>?_
 obtain⟨B3,K3,hB3,hK3,hm⟩:=bA hm
 refine A.lpI (l:=t.Links) (j0:=0) (B:=B3) (K:=K3) hm (λj3=>λ()=>[(1,.ptr 66001 0),(81,lf bt t.Links),(82,i6 (t.Links.length:Int)),(83,i6 (j3:Int))]) (λj3=>λ()=>[(66001,.cells 63 (k7 t))]) ?_ ?_ ?_
 ·exact qW
 ·rintro j3 e3 Z3 ⟨⟩ hj3 hx3 hm
  rw[hB3]at hm
  refine qDs [] [] [(84,.bool (decide ((j3:Int)<(t.Links.length:Int))))]<|A.seq<|qT (ltT hx3)<|A.skip<|A.seq<|A.block<|qD [(1,hix (ix bt (bK hx3))),(3,.al 66010)] [84] [(10,.ptr 66010 0),(9,i6 (j3:Int))] [] [(66010,.cells 67 (k3 e3))]<|A.seq ?_
  obtain⟨l_1,h5,hm⟩:=aa hm
  refine qDs [(3,hsl (sl bt h5)),(4,hto (lnE bt l_1))] [9] [(91,lf bt l_1),(92,i6 (l_1.length:Int)),(93,i6 0)]<|A.block<|A.bS 91 rfl λhb4=>?_
  obtain⟨B4,K4,hB4,hK4,hm⟩:=bA hm
  refine A.lpI (l:=l_1) (j0:=0) (B:=B4) (K:=K4) hm (λj4=>λ()=>[(1,.ptr 66001 0),(10,.ptr 66010 0),(81,lf bt t.Links),(82,i6 (t.Links.length:Int)),(83,i6 (j3:Int)),(91,lf bt l_1),(92,i6 (l_1.length:Int)),(93,i6 (j4:Int))]) (λj4=>λ()=>[(66001,.cells 63 (k7 t)),(66010,.cells 67 (k3 e3))]) ?_ ?_ ?_
  ·exact qW
  ·rintro j4 e4 Z4 ⟨⟩ hj4 hx4 hm
   rw[hB4]at hm
   refine qDs [] [] [(94,.bool (decide ((j4:Int)<(l_1.length:Int))))]<|A.seq<|qT (ltT hx4)<|A.skip<|A.seq<|A.block<|qD [(0,hix (ix bt (bK hx4))),(2,.al 66012)] [94] [(12,.ptr 66012 0)] [] [(66012,.cells 67 (k3 e4))]<|qD [] [12] [(101,.bool (decide (e4.To=e3.To)))] [66012] [] ?_
   rcases aq hm with⟨c7,hm⟩|⟨c7,hm⟩
   ·refine qT c7<|qS [] [(2,i6 8)] [] ?_
    cases hm
    exact A.ret qE
   exact qF c7<|A.skip<|qGs [(0,hto (inc hx4 hb4))] [93,101] [(93,i6 ((j4+1:Nat):Int))]<|qX () hm
  rintro j4 ⟨⟩ hj4 hl4 hm
  rw[hK4]at hm
  refine qDs [] [] [(94,.bool (decide ((j4:Int)<(l_1.length:Int))))]<|A.seq<|qF (ltF hl4)<|A.exit<|qD [] [10,91,92,93,94] [(107,.bool (decide (e3.To=t.b9)))] [66010] [] ?_
  rcases aq hm with⟨c8,hm⟩|⟨c8,hm⟩
  ·refine qT c8<|qS [] [(2,i6 8)] [] ?_
   cases hm
   exact A.ret qE
  exact qF c8<|A.skip<|qGs [(0,hto (inc hx3 hb3))] [83,107] [(83,i6 ((j3+1:Nat):Int))]<|qX () hm
 rintro j3 ⟨⟩ hj3 hl3 hm
 rw[hK3]at hm
 refine qDs [] [] [(84,.bool (decide ((j3:Int)<(t.Links.length:Int))))]<|A.seq<|qF (ltF hl3)<|A.exit<|qD [(2,.al 66111)] [81,82,83,84] [(13,.own 66111)] [] [(66111,.slice 3 1 (ml aG ([t.b9]:List Int)) 0 false)]<|A.seq<|qDs [] [] [(14,.bool true)]<|A.block ?_
 obtain⟨F5,n5,hF5,hm⟩:=gU hm
 refine A.lpW (F:=F5) hm (λ(mX,oF)=>[(1,.ptr 66001 0),(13,.own 600066013),(14,.bool oF)]) (λ(mX,oF)=>[(66001,.cells 63 (k7 t)),(600066013,.slice 3 1 (ml aG mX) 0 false)]) ?_ ?_
 ·exact bp.go [.sw 66111 600066013] [] (by kernel_rfl)
 rintro Z5 ⟨mX,oF⟩ hm
 rw[hF5]at hm
 refine A.seq<|qDs [] [] [(112,.bool oF)] ?_
 rcases aq hm with⟨c9,hm⟩|⟨c9,hm⟩
 ·refine qT c9<|A.skip<|A.block<|qDs [] [14,112] [(14,.bool false)]<|qDs [(2,hto (lnE bt t.Links))] [] [(114,lf bt t.Links),(115,i6 (t.Links.length:Int)),(116,i6 0)]<|A.block<|A.bS 114 rfl λhb6=>?_
  obtain⟨B6,K6,hB6,hK6,hm⟩:=bA hm
  refine A.lpI (l:=t.Links) (j0:=0) (B:=B6) (K:=K6) hm (λj6=>λ(gr,ja)=>[(1,.ptr 66001 0),(13,.own 600066013),(14,.bool ja),(114,lf bt t.Links),(115,i6 (t.Links.length:Int)),(116,i6 (j6:Int))]) (λj6=>λ(gr,ja)=>[(66001,.cells 63 (k7 t)),(600066013,.slice 3 1 (ml aG gr) 0 false)]) ?_ ?_ ?_
  ·exact qW
  ·rintro j6 e6 Z6 ⟨gr,ja⟩ hj6 hx6 hm
   rw[hB6]at hm
   refine qDs [] [] [(117,.bool (decide ((j6:Int)<(t.Links.length:Int))))]<|A.seq<|qT (ltT hx6)<|A.skip ?_
   obtain⟨J1,hJ1,hm⟩:=cR hm
   refine A.J (J:=J1) (r:=r) (λ(oG,oH)=>[(1,.ptr 66001 0),(13,.own 600066013),(14,.bool oH),(114,lf bt t.Links),(115,i6 (t.Links.length:Int)),(116,i6 (j6:Int))]) (λ(oG,oH)=>[(66001,.cells 63 (k7 t)),(600066013,.slice 3 1 (ml aG oG) 0 false)]) ?_ ?_
   ·refine A.block<|qD [(0,hix (ix bt (bK hx6))),(2,.al 66016)] [117] [(16,.ptr 66016 0)] [] [(66016,.cells 67 (k3 e6))] ?_
    obtain⟨J2,hJ2,hm⟩:=cR hm
    refine A.J (J:=J2) (r:=r) (λv_1=>[(1,.ptr 66001 0),(13,.own 600066013),(14,.bool ja),(16,.ptr 66016 0),(114,lf bt t.Links),(115,i6 (t.Links.length:Int)),(116,i6 (j6:Int)),(130,.bool v_1)]) (λv_1=>[(66001,.cells 63 (k7 t)),(600066013,.slice 3 1 (ml aG gr) 0 false),(66016,.cells 67 (k3 e6))]) ?_ ?_
    ·obtain⟨cI,h6,hm⟩:=aa hm
     rcases aq hm with⟨c10,hm⟩|⟨c10,hm⟩
     ·obtain⟨dY,h7,hm⟩:=aa hm
      exact qGs [(3,hle [600066013] (eW h6) vW),(4,hto (bE c10)),(8,hle [600066013] (eW h7) vW)] [] [(130,.bool (!dY))]<|qX (!dY) hm
     exact qGs [(3,hle [600066013] (eW h6) vW),(4,hto (bE c10))] [] [(130,.bool false)]<|qX false hm
    rintro v_1 hm
    rw[hJ2]at hm
    rcases aq hm with⟨c11,hm⟩|⟨c11,hm⟩
    ·refine qT c11 ?_
     obtain⟨l_2,h8,hm⟩:=aa hm
     exact qG [(4,hap 66635 (ap aG (bytes:=8) (by decide) h8))] [13,14,16,130] [(13,.own 66635),(14,.bool true)] [600066013,66016] [(66635,.slice 3 1 (ml aG l_2) 0 false)]<|Exists.intro (l_2,true) (And.intro hm (bp.go [.sw 66635 600066013] [] (by kernel_rfl)))
    exact qF c11<|A.skip<|qX (gr,ja) hm
   rintro⟨oG,oH⟩ hm
   rw[hJ1]at hm
   exact qGs [(0,hto (inc hx6 hb6))] [116] [(116,i6 ((j6+1:Nat):Int))]<|qX (oG,oH) hm
  rintro j6 ⟨gr,ja⟩ hj6 hl6 hm
  rw[hK6]at hm
  exact qDs [] [] [(117,.bool (decide ((j6:Int)<(t.Links.length:Int))))]<|A.seq<|qF (ltF hl6)<|A.exit<|qX (gr,ja) hm
 refine qF c9<|A.exit<|A.seq<|qD [(2,hto (lnE bt t.Links))] [1,14,112] [(138,lf bt t.Links),(139,i6 (t.Links.length:Int)),(140,i6 0)] [66001] []<|A.block<|A.bS 138 rfl λhb7=>?_
 obtain⟨B7,K7,hB7,hK7,hm⟩:=bA hm
 refine A.lpI (l:=t.Links) (j0:=0) (B:=B7) (K:=K7) hm (λj7=>λ()=>[(13,.own 600066013),(138,lf bt t.Links),(139,i6 (t.Links.length:Int)),(140,i6 (j7:Int))]) (λj7=>λ()=>[(600066013,.slice 3 1 (ml aG mX) 0 false)]) ?_ ?_ ?_
 ·exact qW
 ·rintro j7 e7 Z7 ⟨⟩ hj7 hx7 hm
  rw[hB7]at hm
  refine qDs [] [] [(141,.bool (decide ((j7:Int)<(t.Links.length:Int))))]<|A.seq<|qT (ltT hx7)<|A.skip<|A.seq<|A.block<|qD [(0,hix (ix bt (bK hx7))),(2,.al 66018)] [141] [(18,.ptr 66018 0)] [] [(66018,.cells 67 (k3 e7))] ?_
  obtain⟨bD,h9,hm⟩:=aa hm
  refine qD [(3,hle [600066013] (eW h9) vW)] [18] [(148,.bool (!bD))] [66018] [] ?_
  rcases aq hm with⟨c12,hm⟩|⟨c12,hm⟩
  ·refine qT c12<|qS [] [(2,i6 10)] [] ?_
   cases hm
   exact A.ret qE
  exact qF c12<|A.skip<|qGs [(0,hto (inc hx7 hb7))] [140,148] [(140,i6 ((j7+1:Nat):Int))]<|qX () hm
 rintro j7 ⟨⟩ hj7 hl7 hm
 rw[hK7]at hm
 refine qDs [] [] [(141,.bool (decide ((j7:Int)<(t.Links.length:Int))))]<|A.seq<|qF (ltF hl7)<|A.exit<|qS [] [(2,i6 0)] [] ?_
 cases hm
 exact A.ret qE
theorem v7{r:(List Int)}(hm:kQ t=some r):RO prog 22 [] [.agg (k7 t)] (lf aG r):=by
 refine bu func22 rfl rfl ?_
 unfold kQ at hm
 refine qS [(0,.al 22001)] [(1,.ptr 22001 0)] [(22001,.cells 63 (k7 t))]<|A.seq ?_
 obtain⟨ak,h1,hm⟩:=aa hm
 refine qDs [(1,hro (uI h1) ck66)] [] [(8,.bool (!decide (ak=0)))] ?_
 rcases aq hm with⟨c1,hm⟩|⟨c1,hm⟩
 ·refine qT c1<|qS [] [(2,.aS)] [] ?_
  cases hm
  exact A.ret qE
 refine qF c1<|A.skip<|qDs [] [8] [(3,.lst true (ml aG ([t.b9]:List Int)))]<|A.seq<|qD [(2,hto (lnE bt t.Links))] [1] [(13,lf bt t.Links),(14,i6 (t.Links.length:Int)),(15,i6 0)] [22001] []<|A.block<|A.bS 13 rfl λhb1=>?_
 obtain⟨B1,K1,hB1,hK1,hm⟩:=bA hm
 refine A.lpI (l:=t.Links) (j0:=0) (B:=B1) (K:=K1) hm (λj1=>λdw=>[(3,lf aG dw),(13,lf bt t.Links),(14,i6 (t.Links.length:Int)),(15,i6 (j1:Int))]) (λj1=>λdw=>[]) ?_ ?_ ?_
 ·exact bp.go [] [3] (by kernel_rfl)
 ·rintro j1 e1 Z1 dw hj1 hx1 hm
  rw[hB1]at hm
  refine qDs [] [] [(16,.bool (decide ((j1:Int)<(t.Links.length:Int))))]<|A.seq<|qT (ltT hx1)<|A.skip<|A.seq<|A.block<|qD [(0,hix (ix bt (bK hx1))),(2,.al 22005)] [16] [(5,.ptr 22005 0)] [] [(22005,.cells 67 (k3 e1))] ?_
  obtain⟨aO,h2,hm⟩:=aa hm
  exact qG [(3,hro (pG h2) aos)] [3,5] [(3,lf aG aO)] [22005] []<|qGs [(0,hto (inc hx1 hb1))] [15] [(15,i6 ((j1+1:Nat):Int))]<|Exists.intro aO (And.intro hm (bp.go [] [3] (by kernel_rfl)))
 rintro j1 dw hj1 hl1 hm
 rw[hK1]at hm
 refine qDs [] [] [(16,.bool (decide ((j1:Int)<(t.Links.length:Int))))]<|A.seq<|qF (ltF hl1)<|A.exit<|qS [] [(2,lf aG dw)] [] ?_
 cases hm
 exact A.ret qE
theorem pM{a:cE}{b:cE}(hm:jP a b=some r):RO prog 28 [] [.agg (k7 a),.agg (k7 b)] (.bool r):=by
 refine bu func28 rfl rfl ?_
 unfold jP at hm
 refine qS [(0,.al 28002),(1,.al 28003)] [(2,.ptr 28002 0),(3,.ptr 28003 0)] [(28002,.cells 63 (k7 a)),(28003,.cells 63 (k7 b))]<|A.seq<|A.mid [(2,.ptr 28002 0),(3,.ptr 28003 0),(19,.bool ((!decide (a.b9=b.b9))||(!decide ((a.Links.length:Int)=(b.Links.length:Int)))))] [(28002,.cells 63 (k7 a)),(28003,.cells 63 (k7 b))] (λhk=>?_) ?_
 ·rcases tf (!decide (a.b9=b.b9))with c1|c1
  ·exact qS [(5,hto (bE c1)),(13,hto (orT (q:=!decide ((a.Links.length:Int)=(b.Links.length:Int))) c1))] _ _ hk
  exact qS [(5,hto (bE c1)),(8,hto (lnE bt a.Links)),(11,hto (lnE bt b.Links)),(13,hto (orF (q:=!decide ((a.Links.length:Int)=(b.Links.length:Int))) c1))] _ _ hk
 rcases aq hm with⟨c2,hm⟩|⟨c2,hm⟩
 ·refine qT c2<|qS [] [(4,.bool false)] [] ?_
  cases hm
  exact A.ret qE
 refine qF c2<|A.skip<|A.seq<|qDs [(2,hto (lnE bt a.Links))] [19] [(22,i6 (a.Links.length:Int)),(23,i6 0)]<|A.block<|A.bC 2 1 rfl rfl rfl λhb1=>?_
 obtain⟨B1,K1,hB1,hK1,hm⟩:=bA hm
 refine A.lpI (l:=a.Links) (j0:=0) (B:=B1) (K:=K1) hm (λj1=>λ()=>[(2,.ptr 28002 0),(3,.ptr 28003 0),(22,i6 (a.Links.length:Int)),(23,i6 (j1:Int))]) (λj1=>λ()=>[(28002,.cells 63 (k7 a)),(28003,.cells 63 (k7 b))]) ?_ ?_ ?_
 ·exact qW
 ·rintro j1 e1 Z1 ⟨⟩ hj1 hx1 hm
  rw[hB1]at hm
  refine qDs [] [] [(24,.bool (decide ((j1:Int)<(a.Links.length:Int))))]<|A.seq<|qT (ltT hx1)<|A.skip<|A.seq<|A.block<|qDs [] [24] [(5,i6 (j1:Int))] ?_
  obtain⟨e_1,h1,hm⟩:=aa hm
  refine qDs [(3,hix (ix bt (bK hx1))),(8,hix (ix bt h1)),(10,.sq true 67 (.agg (k3 e1)) (.agg (k3 e_1)) (!(vV e1 e_1)) (λx y w=>afw x y _ _ _ _ w))] [5] [(36,.bool (!(vV e1 e_1)))] ?_
  rcases aq hm with⟨c3,hm⟩|⟨c3,hm⟩
  ·refine qT c3<|qS [] [(4,.bool false)] [] ?_
   cases hm
   exact A.ret qE
  exact qF c3<|A.skip<|qGs [(0,hto (inc hx1 hb1))] [23,36] [(23,i6 ((j1+1:Nat):Int))]<|qX () hm
 rintro j1 ⟨⟩ hj1 hl1 hm
 rw[hK1]at hm
 refine qDs [] [] [(24,.bool (decide ((j1:Int)<(a.Links.length:Int))))]<|A.seq<|qF (ltF hl1)<|A.exit<|qS [] [(4,.bool true)] [] ?_
 cases hm
 exact A.ret qE
end Go.Proofs.YtdjeacigeegklaaGreat
