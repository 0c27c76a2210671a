/- The eN of cu of the program. No condition but bH bq stand in each. -/
import Derived.Test.YtjdopimopgpagaaGreatVU
import Derived.Test.YtjdopimopgpagaaGreatVK
import Derived.Test.YtjdopimopgpagaaGreatV5
namespace Go.Proofs.YtjdopimopgpagaaGreat
open Go Go.Proofs.Tryz
set_option maxRecDepth 100000
set_option linter.all false
variable {f:aj}
theorem fk{r:aB}(hm:dO f=some r):bM prog 32 [] [.agg (k12 f)] (λa σ'=>a=.agg [.own 500003200,.own 500003201]∧σ'=[(500003200,.slice 93 2 (ml aX r.aI) 0 false),(500003201,.slice 86 5 (ml aC r.Links) 0 false)]):=by
 refine aZ func32 rfl rfl ?_
 unfold dO at hm
 refine qS [(0,.al 32001),(1,.al 32002)] [(1,.ptr 32001 0),(2,.ptr 32002 0)] [(32001,.cells 27 (k12 f)),(32002,.cells 45 [.aH,.aH])] ?_
 obtain⟨ah,h1,hm⟩:=aa hm
 refine qD [(2,hdc [500008800] (eZ h1) agA),(4,.al 32003)] [] [(3,.ptr 32003 0)] [] [(500008800,.slice 86 5 (ml aC ah) 0 false),(32003,.cells 45 [.aH,.own 500008800])]<|A.seq<|qD [(2,hto (lnE aN f.aA))] [1] [(11,lf aN f.aA),(12,i6 (f.aA.length:Int)),(13,i6 0)] [32001] []<|A.block<|A.bS 11 rfl λhb1=>?_
 obtain⟨B1,K1,hB1,hK1,hm⟩:=bF hm
 refine A.lpI (l:=f.aA) (j0:=0) (B:=B1) (K:=K1) hm (λj1=>λm_1=>[(2,.ptr 32002 0),(3,.ptr 32003 0),(11,lf aN f.aA),(12,i6 (f.aA.length:Int)),(13,i6 (j1:Int))]) (λj1=>λm_1=>[(32002,.cells 45 [.aH,.aH]),(500008800,.slice 86 5 (ml aC ah) 0 false),(32003,.cells 45 [.own 703200300,.own 500008800]),(703200300,.slice 93 2 (ml aX m_1) 0 false)]) ?_ ?_ ?_
 ·exact bA.go [.ac 32003 703200300 93 2 0] [] (by kernel_rfl)
 ·rintro j1 e1 Z1 m_1 hj1 hx1 hm
  rw[hB1]at hm
  refine qDs [] [] [(14,.bool (decide ((j1:Int)<(f.aA.length:Int))))]<|A.seq<|qT (ltT hx1)<|A.skip<|A.seq<|A.block<|qD [(0,hix (ix aN (bh hx1))),(2,.al 32005)] [14] [(5,.ptr 32005 0)] [] [(32005,.cells 53 (k9 e1))] ?_
  obtain⟨l_1,h2,hm⟩:=aa hm
  exact qG [(8,hap 32525 (ap aX (bytes:=16) (by decide) h2))] [5] [] [32003,703200300,32005] [(32003,.cells 45 [.own 32525,.own 500008800]),(32525,.slice 93 2 (ml aX l_1) 0 false)]<|qGs [(0,hto (inc hx1 hb1))] [13] [(13,i6 ((j1+1:Nat):Int))]<|Exists.intro l_1 (And.intro hm (bA.go [.sw 32525 703200300] [] (by kernel_rfl)))
 rintro j1 m_1 hj1 hl1 hm
 rw[hK1]at hm
 refine qDs [] [] [(14,.bool (decide ((j1:Int)<(f.aA.length:Int))))]<|A.seq<|qF (ltF hl1)<|A.exit<|qD [] [3,11,12,13,14] [] [32002,32003] [(32002,.cells 45 [.own 703200300,.own 500008800])]<|A.ret ?_
 obtain rfl:=some_inj hm
 exact A.fin W0 [.sw 703200300 500003200,.sw 500008800 500003201] rfl (by kernel_rfl)
variable {r:Bool}
theorem yf{n:aO}{c_0:Int}(hm:nO n c_0=some r):RO prog 140 [] [.agg (k9 n),.dZ [i6 c_0]] (.bool r):=by
 refine aZ func140 rfl rfl ?_
 unfold nO at hm
 refine qS [(0,.al 140002)] [(1,.dZ [i6 c_0]),(2,.ptr 140002 0)] [(140002,.cells 53 (k9 n))]<|qS [] [(3,.bool (decide (n.af=c_0)))] [] ?_
 cases hm
 exact A.ret qE
theorem kI{aM:Int}{r:Int×Bool}(hm:fM f aM=some r):RO prog 87 [] [.agg (k12 f),i6 aM] (.tup [i6 r.1,.bool r.2]):=by
 refine aZ func87 rfl rfl ?_
 unfold fM at hm
 refine qS [(0,.al 87002),(1,.al 87003)] [(2,.ptr 87002 0),(3,.ptr 87003 0)] [(87002,.cells 27 (k12 f)),(87003,.cells 3 [i6 aM])] ?_
 obtain⟨ah,h1,hm⟩:=aa hm
 refine qS [(3,hle [87003] (oD (f_g:=140) (f_c:=[.dZ [i6 aM]]) (f_k:=asX) (f_f:=λ_ _ h=>yf h) h1) asW)] [(6,i6 ah)] []<|qS [] [(4,i6 ah),(5,.bool (decide (0≤ah)))] [] ?_
 cases hm
 exact A.ret qE
theorem dG{r:Int}(hm:di f=some r):RO prog 29 [] [.agg (k12 f)] (i6 r):=by
 refine aZ func29 rfl rfl ?_
 unfold di at hm
 refine qS [(0,.al 29001)] [(1,.ptr 29001 0)] [(29001,.cells 27 (k12 f))]<|A.seq ?_
 obtain⟨J1,hJ1,hm⟩:=bQ hm
 refine A.J (J:=J1) (r:=r) (λv_1=>[(1,.ptr 29001 0),(20,.bool v_1)]) (λv_1=>[(29001,.cells 27 (k12 f))]) ?_ ?_
 ·obtain⟨ah,h1,hm⟩:=aa hm
  obtain⟨aD,h2,hm⟩:=aa hm
  rcases az hm with⟨c1,hm⟩|⟨c1,hm⟩
  ·exact qGs [(1,hdc [510029001,510029002] (SC.at [(500003200,510029001),(500003201,510029002)] (fk h1)) aa3),(2,hle [510029001,510029002] (jI h2) aep),(4,hto (bE c1))] [] [(20,.bool true)]<|qX true hm
  exact qGs [(1,hdc [510029001,510029002] (SC.at [(500003200,510029001),(500003201,510029002)] (fk h1)) aa3),(2,hle [510029001,510029002] (jI h2) aep),(4,hto (bE c1)),(7,hto (lnE aJ f.aq))] [] [(20,.bool (decide (400<(f.aq.length:Int))))]<|qX (decide (400<(f.aq.length:Int))) hm
 rintro v_1 hm
 rw[hJ1]at hm
 rcases az hm with⟨c2,hm⟩|⟨c2,hm⟩
 ·refine qT c2<|qS [] [(2,i6 1)] [] ?_
  cases hm
  exact A.ret qE
 refine qF c2<|A.skip<|A.seq<|qDs [(2,hto (lnE aN f.aA))] [20] [(22,lf aN f.aA),(23,i6 (f.aA.length:Int)),(24,i6 0)]<|A.block<|A.bS 22 rfl λhb1=>?_
 obtain⟨B1,K1,hB1,hK1,hm⟩:=bF hm
 refine A.lpI (l:=f.aA) (j0:=0) (B:=B1) (K:=K1) hm (λj1=>λ()=>[(1,.ptr 29001 0),(22,lf aN f.aA),(23,i6 (f.aA.length:Int)),(24,i6 (j1:Int))]) (λj1=>λ()=>[(29001,.cells 27 (k12 f))]) ?_ ?_ ?_
 ·exact qW
 ·rintro j1 e1 Z1 ⟨⟩ hj1 hx1 hm
  rw[hB1]at hm
  refine qDs [] [] [(25,.bool (decide ((j1:Int)<(f.aA.length:Int))))]<|A.seq<|qT (ltT hx1)<|A.skip<|A.seq<|A.block<|qD [(0,hix (ix aN (bh hx1))),(2,.al 29004)] [25] [(4,.ptr 29004 0)] [] [(29004,.cells 53 (k9 e1))] ?_
  obtain⟨J2,hJ2,hm⟩:=bQ hm
  refine A.J (J:=J2) (r:=r) (λv_2=>[(1,.ptr 29001 0),(22,lf aN f.aA),(23,i6 (f.aA.length:Int)),(24,i6 (j1:Int)),(50,.bool v_2)]) (λv_2=>[(29001,.cells 27 (k12 f))]) ?_ ?_
  ·rcases az hm with⟨c3,hm⟩|⟨c3,hm⟩
   ·exact qG [(3,hto (bE c3))] [4] [(50,.bool true)] [29004] []<|qX true hm
   rcases az hm with⟨c4,hm⟩|⟨c4,hm⟩
   ·exact qG [(3,hto (bE c3)),(8,hto (bE c4))] [4] [(50,.bool true)] [29004] []<|qX true hm
   obtain⟨aP,h3,hm⟩:=aa hm
   rcases az hm with⟨c5,hm⟩|⟨c5,hm⟩
   ·exact qG [(3,hto (bE c3)),(8,hto (bE c4)),(14,hro (jx h3) acq),(17,hto (bE c5))] [4] [(50,.bool true)] [29004] []<|qX true hm
   obtain⟨bt,h4,hm⟩:=aa hm
   exact qG [(3,hto (bE c3)),(8,hto (bE c4)),(14,hro (jx h3) acq),(17,hto (bE c5)),(20,hro (gw h4) aa5)] [4] [(50,.bool (!decide (bt=0)))] [29004] []<|qX (!decide (bt=0)) hm
  rintro v_2 hm
  rw[hJ2]at hm
  rcases az hm with⟨c6,hm⟩|⟨c6,hm⟩
  ·refine qT c6<|qS [] [(2,i6 1)] [] ?_
   cases hm
   exact A.ret qE
  exact qF c6<|A.skip<|qGs [(0,hto (inc hx1 hb1))] [24,50] [(24,i6 ((j1+1:Nat):Int))]<|qX () hm
 rintro j1 ⟨⟩ hj1 hl1 hm
 rw[hK1]at hm
 refine qDs [] [] [(25,.bool (decide ((j1:Int)<(f.aA.length:Int))))]<|A.seq<|qF (ltF hl1)<|A.exit<|A.seq<|qDs [(2,hto (lnE aJ f.aq))] [22,23,24,25] [(53,lf aJ f.aq),(54,i6 (f.aq.length:Int)),(55,i6 0)]<|A.block<|A.bS 53 rfl λhb2=>?_
 obtain⟨B2,K2,hB2,hK2,hm⟩:=bF hm
 refine A.lpI (l:=f.aq) (j0:=0) (B:=B2) (K:=K2) hm (λj2=>λ()=>[(1,.ptr 29001 0),(53,lf aJ f.aq),(54,i6 (f.aq.length:Int)),(55,i6 (j2:Int))]) (λj2=>λ()=>[(29001,.cells 27 (k12 f))]) ?_ ?_ ?_
 ·exact qW
 ·rintro j2 e2 Z2 ⟨⟩ hj2 hx2 hm
  rw[hB2]at hm
  refine qDs [] [] [(56,.bool (decide ((j2:Int)<(f.aq.length:Int))))]<|A.seq<|qT (ltT hx2)<|A.skip<|A.seq<|A.block<|qD [(0,hix (ix aJ (bh hx2))),(2,.al 29006)] [56] [(6,.ptr 29006 0)] [] [(29006,.cells 75 (k10 e2))] ?_
  obtain⟨bL,h5,hm⟩:=aa hm
  refine qDs [(3,hro (kI h5) aeq)] [] [(8,.bool bL.2)] ?_
  obtain⟨cq,h6,hm⟩:=aa hm
  refine qDs [(3,hro (kI h6) aeq)] [] [(10,.bool cq.2)] ?_
  obtain⟨J3,hJ3,hm⟩:=bQ hm
  refine A.J (J:=J3) (r:=r) (λv_3=>[(1,.ptr 29001 0),(53,lf aJ f.aq),(54,i6 (f.aq.length:Int)),(55,i6 (j2:Int)),(91,.bool v_3)]) (λv_3=>[(29001,.cells 27 (k12 f))]) ?_ ?_
  ·rcases az hm with⟨c7,hm⟩|⟨c7,hm⟩
   ·exact qG [(2,hto (bE c7))] [6,8,10] [(91,.bool true)] [29006] []<|qX true hm
   rcases az hm with⟨c8,hm⟩|⟨c8,hm⟩
   ·exact qG [(2,hto (bE c7)),(6,hto (bE c8))] [6,8,10] [(91,.bool true)] [29006] []<|qX true hm
   rcases az hm with⟨c9,hm⟩|⟨c9,hm⟩
   ·exact qG [(2,hto (bE c7)),(6,hto (bE c8)),(13,hto (bE c9))] [6,8,10] [(91,.bool true)] [29006] []<|qX true hm
   obtain⟨cU,h7,hm⟩:=aa hm
   exact qG [(2,hto (bE c7)),(6,hto (bE c8)),(13,hto (bE c9)),(16,hro (gw h7) aa5)] [6,8,10] [(91,.bool (!decide (cU=0)))] [29006] []<|qX (!decide (cU=0)) hm
  rintro v_3 hm
  rw[hJ3]at hm
  rcases az hm with⟨c10,hm⟩|⟨c10,hm⟩
  ·refine qT c10<|qS [] [(2,i6 1)] [] ?_
   cases hm
   exact A.ret qE
  exact qF c10<|A.skip<|qGs [(0,hto (inc hx2 hb2))] [55,91] [(55,i6 ((j2+1:Nat):Int))]<|qX () hm
 rintro j2 ⟨⟩ hj2 hl2 hm
 rw[hK2]at hm
 refine qDs [] [] [(56,.bool (decide ((j2:Int)<(f.aq.length:Int))))]<|A.seq<|qF (ltF hl2)<|A.exit<|qS [] [(2,i6 0)] [] ?_
 cases hm
 exact A.ret qE
theorem lE{n:aO}{r:ai×Bool}(hm:gm f n=some r):bM prog 70 [] [.agg (k12 f),.agg (k9 n)] (λa σ'=>a=.tup [.agg [i6 r.1.af,i6 r.1.Seq,.bool r.1.aY,.own 500007000,.own 500007001],.bool r.2]∧σ'=[(500007000,.slice 105 3 (ml bx r.1.Links) 0 false),(500007001,.slice 91 3 (ml bn r.1.Claims) 0 false)]):=by
 refine aZ func70 rfl rfl ?_
 unfold gm at hm
 refine qS [(0,.al 70002),(1,.al 70003),(2,.al 70004)] [(2,.ptr 70002 0),(3,.ptr 70003 0),(4,.ptr 70004 0)] [(70002,.cells 27 (k12 f)),(70003,.cells 53 (k9 n)),(70004,.cells 66 [i6 0,i6 0,.bool false,.aH,.aH])]<|A.seq<|qDs [] [] [(10,.bool (decide (n.Seq=0)))] ?_
 rcases az hm with⟨c1,hm⟩|⟨c1,hm⟩
 ·refine qT c1<|qD [] [2,3,10] [(5,.bool false)] [70002,70003] []<|A.ret ?_
  obtain rfl:=some_inj hm
  exact A.fin W0 [.ac 70004 500007000 105 3 3,.ac 70004 500007001 91 3 4] rfl (by kernel_rfl)
 refine qF c1<|A.skip ?_
 obtain⟨ah,h1,hm⟩:=aa hm
 obtain⟨aD,h2,hm⟩:=aa hm
 refine qD [(1,hdc [500003200,500003201] (fk h1) aa3),(8,hdl [500003200,500003201] [500011200,500011201] (acA h2) asL ⟨jt bx (λ_=>rfl) _,jt bn (λ_=>rfl) _,trivial⟩),(12,.al 70006)] [2,3,10] [(6,.ptr 70006 0),(7,i6 aD.2)] [70002,70003] [(70006,.cells 66 [i6 aD.1.af,i6 aD.1.Seq,.bool aD.1.aY,.own 500011200,.own 500011201]),(500011200,.slice 105 3 (ml bx aD.1.Links) 0 false),(500011201,.slice 91 3 (ml bn aD.1.Claims) 0 false)]<|qD [] [6,7] [(5,.bool (decide (aD.2=0)))] [70004,70006] [(70004,.cells 66 [i6 aD.1.af,i6 aD.1.Seq,.bool aD.1.aY,.own 500011200,.own 500011201])]<|A.ret ?_
 obtain rfl:=some_inj hm
 exact A.fin W0 [.sw 500011200 500007000,.sw 500011201 500007001] rfl (by kernel_rfl)
theorem ga{d:aF}{r:aF}(hm:dN d=some r):RO prog 98 [] [.agg (k8 d)] (.agg (k8 r)):=by
 refine aZ func98 rfl rfl ?_
 unfold dN at hm
 refine qS [(0,.al 98001),(1,.al 98002)] [(1,.ptr 98001 0),(2,.ptr 98002 0)] [(98001,.cells 51 (k8 d)),(98002,.cells 51 [.aH])]<|qD [(0,.al 98003)] [] [(3,.ptr 98003 0)] [] [(98003,.cells 51 [.aH])]<|A.seq<|qD [(2,hto (lnE aQ d.aG))] [1] [(7,lf aQ d.aG),(8,i6 (d.aG.length:Int)),(9,i6 0)] [98001] []<|A.block<|A.bS 7 rfl λhb1=>?_
 obtain⟨B1,K1,hB1,hK1,hm⟩:=bF hm
 refine A.lpI (l:=d.aG) (j0:=0) (B:=B1) (K:=K1) hm (λj1=>λm_1=>[(2,.ptr 98002 0),(3,.ptr 98003 0),(7,lf aQ d.aG),(8,i6 (d.aG.length:Int)),(9,i6 (j1:Int))]) (λj1=>λm_1=>[(98002,.cells 51 [.aH]),(98003,.cells 51 [.own 709800300]),(709800300,.slice 66 5 (ml aQ m_1) 0 false)]) ?_ ?_ ?_
 ·exact bA.go [.ac 98003 709800300 66 5 0] [] (by kernel_rfl)
 ·rintro j1 e1 Z1 m_1 hj1 hx1 hm
  rw[hB1]at hm
  refine qDs [] [] [(10,.bool (decide ((j1:Int)<(d.aG.length:Int))))]<|A.seq<|qT (ltT hx1)<|A.skip<|A.seq<|A.block<|qD [(0,hix (ix aQ (bh hx1))),(2,.al 98005)] [10] [(5,.ptr 98005 0)] [] [(98005,.cells 66 (k7 e1))] ?_
  obtain⟨ah,h1,hm⟩:=aa hm
  obtain⟨aD,h2,hm⟩:=aa hm
  refine qD [(2,hro (SC.zS (r':=lf bx ah) (σ3:=[]) [500014900] (jJ h1) (by kernel_rfl) (by kernel_rfl)) akC),(5,hro (SC.zS (r':=lf bn aD) (σ3:=[]) [500011000] (gv h2) (by kernel_rfl) (by kernel_rfl)) agC)] [] [] [98005] [(98005,.cells 66 [i6 e1.af,i6 e1.Seq,.bool e1.aY,lf bx ah,lf bn aD])] ?_
  obtain⟨l_1,h3,hm⟩:=aa hm
  exact qG [(4,hap 98525 (ap aQ (bytes:=72) (by decide) h3))] [5] [] [98003,709800300,98005] [(98003,.cells 51 [.own 98525]),(98525,.slice 66 5 (ml aQ l_1) 0 false)]<|qGs [(0,hto (inc hx1 hb1))] [9] [(9,i6 ((j1+1:Nat):Int))]<|Exists.intro l_1 (And.intro hm (bA.go [.sw 98525 709800300] [] (by kernel_rfl)))
 rintro j1 m_1 hj1 hl1 hm
 rw[hK1]at hm
 refine qDs [] [] [(10,.bool (decide ((j1:Int)<(d.aG.length:Int))))]<|A.seq<|qF (ltF hl1)<|A.exit<|qD [] [3,7,8,9,10] [] [98002,98003] [(98002,.cells 51 [.own 709800300])]<|A.ret ?_
 obtain rfl:=some_inj hm
 exact A.fin W0 [.fz [709800300]] rfl (by kernel_rfl)
theorem iJ{r:aj}(hm:en f=some r):bM prog 63 [] [.agg (k12 f)] (λa σ'=>a=.agg [.own 500006300,.own 500006301,.own 500006302]∧σ'=[(500006300,.slice 86 5 (ml aC r.Links) 0 false),(500006301,.slice 53 5 (ml aN r.aA) 0 false),(500006302,.slice 75 3 (ml aJ r.aq) 0 false)]):=by
 refine aZ func63 rfl rfl ?_
 unfold en at hm
 refine qS [(0,.al 63001),(1,.al 63002)] [(1,.ptr 63001 0),(2,.ptr 63002 0)] [(63001,.cells 27 (k12 f)),(63002,.cells 27 [.aH,.aH,.aH])] ?_
 obtain⟨ah,h1,hm⟩:=aa hm
 refine qD [(2,hdc [500008800] (eZ h1) agA),(4,.al 63003)] [] [(3,.ptr 63003 0)] [] [(500008800,.slice 86 5 (ml aC ah) 0 false),(63003,.cells 27 [.own 500008800,.aH,.aH])]<|A.seq<|qDs [(2,hto (lnE aN f.aA))] [] [(13,lf aN f.aA),(14,i6 (f.aA.length:Int)),(15,i6 0)]<|A.block<|A.bS 13 rfl λhb1=>?_
 obtain⟨B1,K1,hB1,hK1,hm⟩:=bF hm
 refine A.lpI (l:=f.aA) (j0:=0) (B:=B1) (K:=K1) hm (λj1=>λm_1=>[(1,.ptr 63001 0),(2,.ptr 63002 0),(3,.ptr 63003 0),(13,lf aN f.aA),(14,i6 (f.aA.length:Int)),(15,i6 (j1:Int))]) (λj1=>λm_1=>[(63001,.cells 27 (k12 f)),(63002,.cells 27 [.aH,.aH,.aH]),(500008800,.slice 86 5 (ml aC ah) 0 false),(63003,.cells 27 [.own 500008800,.own 706300301,.aH]),(706300301,.slice 53 5 (ml aN m_1) 0 false)]) ?_ ?_ ?_
 ·exact bA.go [.ac 63003 706300301 53 5 1] [] (by kernel_rfl)
 ·rintro j1 e1 Z1 m_1 hj1 hx1 hm
  rw[hB1]at hm
  refine qDs [] [] [(16,.bool (decide ((j1:Int)<(f.aA.length:Int))))]<|A.seq<|qT (ltT hx1)<|A.skip<|A.seq<|A.block<|qD [(0,hix (ix aN (bh hx1))),(2,.al 63005)] [16] [(5,.ptr 63005 0)] [] [(63005,.cells 53 (k9 e1))] ?_
  obtain⟨aD,h2,hm⟩:=aa hm
  obtain⟨aP,h3,hm⟩:=aa hm
  refine qD [(2,hro (SC.zS (r':=lf bn aD) (σ3:=[]) [500011000] (gv h2) (by kernel_rfl) (by kernel_rfl)) agC),(5,hro (ga h3) aer)] [] [] [63005] [(63005,.cells 53 [i6 e1.af,i6 e1.Seq,.bool e1.aY,lf bn aD,lf aQ aP.aG])] ?_
  obtain⟨l_1,h4,hm⟩:=aa hm
  exact qG [(4,hap 63531 (ap aN (bytes:=72) (by decide) h4))] [5] [] [63003,706300301,63005] [(63003,.cells 27 [.own 500008800,.own 63531,.aH]),(63531,.slice 53 5 (ml aN l_1) 0 false)]<|qGs [(0,hto (inc hx1 hb1))] [15] [(15,i6 ((j1+1:Nat):Int))]<|Exists.intro l_1 (And.intro hm (bA.go [.sw 63531 706300301] [] (by kernel_rfl)))
 rintro j1 m_1 hj1 hl1 hm
 rw[hK1]at hm
 refine qDs [] [] [(16,.bool (decide ((j1:Int)<(f.aA.length:Int))))]<|A.seq<|qF (ltF hl1)<|A.exit<|A.seq<|qD [(2,hto (lnE aJ f.aq))] [1,13,14,15,16] [(35,lf aJ f.aq),(36,i6 (f.aq.length:Int)),(37,i6 0)] [63001] []<|A.block<|A.bS 35 rfl λhb2=>?_
 obtain⟨B2,K2,hB2,hK2,hm⟩:=bF hm
 refine A.lpI (l:=f.aq) (j0:=0) (B:=B2) (K:=K2) hm (λj2=>λm_2=>[(2,.ptr 63002 0),(3,.ptr 63003 0),(35,lf aJ f.aq),(36,i6 (f.aq.length:Int)),(37,i6 (j2:Int))]) (λj2=>λm_2=>[(63002,.cells 27 [.aH,.aH,.aH]),(500008800,.slice 86 5 (ml aC ah) 0 false),(63003,.cells 27 [.own 500008800,.own 706300301,.own 706300302]),(706300301,.slice 53 5 (ml aN m_1) 0 false),(706300302,.slice 75 3 (ml aJ m_2) 0 false)]) ?_ ?_ ?_
 ·exact bA.go [.ac 63003 706300302 75 3 2] [] (by kernel_rfl)
 ·rintro j2 e2 Z2 m_2 hj2 hx2 hm
  rw[hB2]at hm
  refine qDs [] [] [(38,.bool (decide ((j2:Int)<(f.aq.length:Int))))]<|A.seq<|qT (ltT hx2)<|A.skip<|A.seq<|A.block<|qD [(0,hix (ix aJ (bh hx2))),(2,.al 63007)] [38] [(7,.ptr 63007 0)] [] [(63007,.cells 75 (k10 e2))] ?_
  obtain⟨bt,h5,hm⟩:=aa hm
  refine qD [(2,hro (ga h5) aer)] [] [] [63007] [(63007,.cells 75 [i6 e2.cD,i6 e2.To,lf aQ bt.aG])] ?_
  obtain⟨l_2,h6,hm⟩:=aa hm
  exact qG [(4,hap 63549 (ap aJ (bytes:=40) (by decide) h6))] [7] [] [63003,706300302,63007] [(63003,.cells 27 [.own 500008800,.own 706300301,.own 63549]),(63549,.slice 75 3 (ml aJ l_2) 0 false)]<|qGs [(0,hto (inc hx2 hb2))] [37] [(37,i6 ((j2+1:Nat):Int))]<|Exists.intro l_2 (And.intro hm (bA.go [.sw 63549 706300302] [] (by kernel_rfl)))
 rintro j2 m_2 hj2 hl2 hm
 rw[hK2]at hm
 refine qDs [] [] [(38,.bool (decide ((j2:Int)<(f.aq.length:Int))))]<|A.seq<|qF (ltF hl2)<|A.exit<|qD [] [3,35,36,37,38] [] [63002,63003] [(63002,.cells 27 [.own 500008800,.own 706300301,.own 706300302])]<|A.ret ?_
 obtain rfl:=some_inj hm
 exact A.fin W0 [.sw 500008800 500006300,.sw 706300301 500006301,.sw 706300302 500006302] rfl (by kernel_rfl)
theorem oc(hm:gX f=some r):RO prog 22 [] [.agg (k12 f)] (.bool r):=by
 refine aZ func22 rfl rfl ?_
 unfold gX at hm
 refine qS [(0,.al 22001)] [(1,.ptr 22001 0)] [(22001,.cells 27 (k12 f))]<|A.seq ?_
 obtain⟨J1,hJ1,hm⟩:=bQ hm
 refine A.J (J:=J1) (r:=r) (λv_1=>[(1,.ptr 22001 0),(20,.bool v_1)]) (λv_1=>[(22001,.cells 27 (k12 f))]) ?_ ?_
 ·obtain⟨ah,h1,hm⟩:=aa hm
  rcases az hm with⟨c1,hm⟩|⟨c1,hm⟩
  ·exact qGs [(1,hro (dG h1) uN),(3,hto (bE c1))] [] [(20,.bool true)]<|qX true hm
  exact qGs [(1,hro (dG h1) uN),(3,hto (bE c1)),(6,hto (lnE aJ f.aq))] [] [(20,.bool (decide (0<(f.aq.length:Int))))]<|qX (decide (0<(f.aq.length:Int))) hm
 rintro v_1 hm
 rw[hJ1]at hm
 rcases az hm with⟨c2,hm⟩|⟨c2,hm⟩
 ·refine qT c2<|qS [] [(2,.bool false)] [] ?_
  cases hm
  exact A.ret qE
 refine qF c2<|A.skip ?_
 obtain⟨aD,h2,hm⟩:=aa hm
 refine qD [(1,hdc [500003200,500003201] (fk h2) aa3),(2,.al 22003)] [20] [(3,.ptr 22003 0)] [] [(500003200,.slice 93 2 (ml aX aD.aI) 0 false),(500003201,.slice 86 5 (ml aC aD.Links) 0 false),(22003,.cells 45 [.own 500003200,.own 500003201])]<|A.seq<|qDs [(2,hto (lnE aN f.aA))] [] [(24,lf aN f.aA),(25,i6 (f.aA.length:Int)),(26,i6 0)]<|A.block<|A.bS 24 rfl λhb1=>?_
 obtain⟨B1,K1,hB1,hK1,hm⟩:=bF hm
 refine A.lpI (l:=f.aA) (j0:=0) (B:=B1) (K:=K1) hm (λj1=>λ()=>[(1,.ptr 22001 0),(3,.ptr 22003 0),(24,lf aN f.aA),(25,i6 (f.aA.length:Int)),(26,i6 (j1:Int))]) (λj1=>λ()=>[(22001,.cells 27 (k12 f)),(500003200,.slice 93 2 (ml aX aD.aI) 0 false),(500003201,.slice 86 5 (ml aC aD.Links) 0 false),(22003,.cells 45 [.own 500003200,.own 500003201])]) ?_ ?_ ?_
 ·exact qW
 ·rintro j1 e1 Z1 ⟨⟩ hj1 hx1 hm
  rw[hB1]at hm
  refine qDs [] [] [(27,.bool (decide ((j1:Int)<(f.aA.length:Int))))]<|A.seq<|qT (ltT hx1)<|A.skip<|A.seq<|A.block<|qD [(1,hix (ix aN (bh hx1))),(3,.al 22005)] [27] [(5,.ptr 22005 0),(4,i6 (j1:Int))] [] [(22005,.cells 53 (k9 e1))] ?_
  obtain⟨aP,h3,hm⟩:=aa hm
  refine qD [(2,hdc [510022001,510022002] (SC.at [(500007000,510022001),(500007001,510022002)] (lE h3)) aeo),(6,.al 22006)] [] [(6,.ptr 22006 0),(7,.bool aP.2)] [] [(510022001,.slice 105 3 (ml bx aP.1.Links) 0 false),(510022002,.slice 91 3 (ml bn aP.1.Claims) 0 false),(22006,.cells 66 [i6 aP.1.af,i6 aP.1.Seq,.bool aP.1.aY,.own 510022001,.own 510022002])] ?_
  obtain⟨bt,h4,hm⟩:=aa hm
  refine qD [(4,hro (uw h4) apF),(8,.al 22008)] [] [(8,.ptr 22008 0),(9,.bool bt.2)] [] [(22008,.cells 66 (k7 bt.1))]<|A.seq ?_
  obtain⟨J2,hJ2,hm⟩:=bQ hm
  refine A.J (J:=J2) (r:=r) (λv_2=>[(1,.ptr 22001 0),(3,.ptr 22003 0),(4,i6 (j1:Int)),(5,.ptr 22005 0),(24,lf aN f.aA),(25,i6 (f.aA.length:Int)),(26,i6 (j1:Int)),(56,.bool v_2)]) (λv_2=>[(22001,.cells 27 (k12 f)),(500003200,.slice 93 2 (ml aX aD.aI) 0 false),(500003201,.slice 86 5 (ml aC aD.Links) 0 false),(22003,.cells 45 [.own 500003200,.own 500003201]),(22005,.cells 53 (k9 e1))]) ?_ ?_
  ·rcases az hm with⟨c3,hm⟩|⟨c3,hm⟩
   ·exact qG [(2,hto (bE c3))] [6,7,8,9] [(56,.bool true)] [510022001,510022002,22006,22008] []<|qX true hm
   rcases az hm with⟨c4,hm⟩|⟨c4,hm⟩
   ·exact qG [(2,hto (bE c3)),(6,hto (bE c4))] [6,7,8,9] [(56,.bool true)] [510022001,510022002,22006,22008] []<|qX true hm
   obtain⟨bL,h5,hm⟩:=aa hm
   exact qG [(2,hto (bE c3)),(6,hto (bE c4)),(9,hle [510022001,510022002] (jT h5) aco)] [6,7,8,9] [(56,.bool (!bL))] [510022001,510022002,22006,22008] []<|qX (!bL) hm
  rintro v_2 hm
  rw[hJ2]at hm
  rcases az hm with⟨c5,hm⟩|⟨c5,hm⟩
  ·refine qT c5<|qS [] [(2,.bool false)] [] ?_
   cases hm
   exact A.ret qE
  refine qF c5<|A.skip ?_
  obtain⟨l_1,h6,hm⟩:=aa hm
  refine qDs [(3,hsl (sl aN h6)),(4,hto (lnE aN l_1))] [4,56] [(60,lf aN l_1),(61,i6 (l_1.length:Int)),(62,i6 0)]<|A.block<|A.bS 60 rfl λhb2=>?_
  obtain⟨B2,K2,hB2,hK2,hm⟩:=bF hm
  refine A.lpI (l:=l_1) (j0:=0) (B:=B2) (K:=K2) hm (λj2=>λ()=>[(1,.ptr 22001 0),(3,.ptr 22003 0),(5,.ptr 22005 0),(24,lf aN f.aA),(25,i6 (f.aA.length:Int)),(26,i6 (j1:Int)),(60,lf aN l_1),(61,i6 (l_1.length:Int)),(62,i6 (j2:Int))]) (λj2=>λ()=>[(22001,.cells 27 (k12 f)),(500003200,.slice 93 2 (ml aX aD.aI) 0 false),(500003201,.slice 86 5 (ml aC aD.Links) 0 false),(22003,.cells 45 [.own 500003200,.own 500003201]),(22005,.cells 53 (k9 e1))]) ?_ ?_ ?_
  ·exact qW
  ·rintro j2 e2 Z2 ⟨⟩ hj2 hx2 hm
   rw[hB2]at hm
   refine qDs [] [] [(63,.bool (decide ((j2:Int)<(l_1.length:Int))))]<|A.seq<|qT (ltT hx2)<|A.skip<|A.seq<|A.block<|qD [(0,hix (ix aN (bh hx2))),(2,.al 22011)] [63] [(11,.ptr 22011 0)] [] [(22011,.cells 53 (k9 e2))] ?_
   obtain⟨J3,hJ3,hm⟩:=bQ hm
   refine A.J (J:=J3) (r:=r) (λv_3=>[(1,.ptr 22001 0),(3,.ptr 22003 0),(5,.ptr 22005 0),(24,lf aN f.aA),(25,i6 (f.aA.length:Int)),(26,i6 (j1:Int)),(60,lf aN l_1),(61,i6 (l_1.length:Int)),(62,i6 (j2:Int)),(79,.bool v_3)]) (λv_3=>[(22001,.cells 27 (k12 f)),(500003200,.slice 93 2 (ml aX aD.aI) 0 false),(500003201,.slice 86 5 (ml aC aD.Links) 0 false),(22003,.cells 45 [.own 500003200,.own 500003201]),(22005,.cells 53 (k9 e1))]) ?_ ?_
   ·obtain⟨cq,h7,hm⟩:=aa hm
    rcases az hm with⟨c6,hm⟩|⟨c6,hm⟩
    ·obtain⟨cU,h8,hm⟩:=aa hm
     exact qG [(5,hle [500003200,500003201] (qC h7) apG),(6,hto (bE c6)),(11,hro (zl h8) ck74)] [11] [(79,.bool (!cU))] [22011] []<|qX (!cU) hm
    exact qG [(5,hle [500003200,500003201] (qC h7) apG),(6,hto (bE c6))] [11] [(79,.bool false)] [22011] []<|qX false hm
   rintro v_3 hm
   rw[hJ3]at hm
   rcases az hm with⟨c7,hm⟩|⟨c7,hm⟩
   ·refine qT c7<|qS [] [(2,.bool false)] [] ?_
    cases hm
    exact A.ret qE
   exact qF c7<|A.skip<|qGs [(0,hto (inc hx2 hb2))] [62,79] [(62,i6 ((j2+1:Nat):Int))]<|qX () hm
  rintro j2 ⟨⟩ hj2 hl2 hm
  rw[hK2]at hm
  exact qDs [] [] [(63,.bool (decide ((j2:Int)<(l_1.length:Int))))]<|A.seq<|qF (ltF hl2)<|A.exit<|qG [(0,hto (inc hx1 hb1))] [5,26,60,61,62,63] [(26,i6 ((j1+1:Nat):Int))] [22005] []<|qX () hm
 rintro j1 ⟨⟩ hj1 hl1 hm
 rw[hK1]at hm
 refine qDs [] [] [(27,.bool (decide ((j1:Int)<(f.aA.length:Int))))]<|A.seq<|qF (ltF hl1)<|A.exit<|qS [] [(2,.bool true)] [] ?_
 cases hm
 exact A.ret qE
end Go.Proofs.YtjdopimopgpagaaGreat
