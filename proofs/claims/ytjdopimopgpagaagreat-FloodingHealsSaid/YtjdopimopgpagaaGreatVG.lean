/- The eN of cu of the program. No condition but bH bq stand in each. -/
import Derived.Test.YtjdopimopgpagaaGreatVM
namespace Go.Proofs.YtjdopimopgpagaaGreat
open Go Go.Proofs.Tryz
set_option maxRecDepth 100000
set_option linter.all false
variable {aM:Int}{f:aj}
theorem mC{r:aK×Int×Int}(hm:eC f aM=some r):bM prog 91 [] [.agg (k12 f),i6 aM] (λa σ'=>a=.tup [.ptr 900000097 0,i6 r.2.1,i6 r.2.2]∧σ'=[(507009100,.slice 53 5 (ml aN r.1.f_.aA) 0 false),(507009101,.slice 75 3 (ml aJ r.1.f_.aq) 0 false),(900000097,.cells 97 [lf aC r.1.f_.Links,.own 507009100,.own 507009101])]):=by
 refine aZ func91 rfl rfl ?_
 unfold eC at hm
 refine qS [(0,.al 91002)] [(1,i6 aM),(2,.ptr 91002 0)] [(91002,.cells 27 (k12 f))]<|A.seq ?_
 obtain⟨ah,h1,hm⟩:=aa hm
 refine qDs [(1,hro (dG h1) uN)] [] [(11,.bool (!decide (ah=0)))] ?_
 rcases az hm with⟨c1,hm⟩|⟨c1,hm⟩
 ·refine qT c1<|qS [] [(4,.gE),(5,i6 0),(6,i6 1)] []<|A.ret ?_
  cases hm
 refine qF c1<|A.skip ?_
 obtain⟨aD,h2,hm⟩:=aa hm
 refine qDs [(2,hro (kI h2) aeq)] [1,11] [(7,i6 aD.1),(8,.bool aD.2)]<|A.seq<|qDs [] [8] [(19,.bool (!aD.2))] ?_
 rcases az hm with⟨c2,hm⟩|⟨c2,hm⟩
 ·refine qT c2<|qS [] [(4,.gE),(5,i6 0),(6,i6 4)] []<|A.ret ?_
  cases hm
 refine qF c2<|A.skip ?_
 obtain⟨aP,h3,hm⟩:=aa hm
 refine qS [(1,hdc [500006300,500006301,500006302] (iJ h3) acn),(3,.al 91023)] [(4,.ptr 91023 0),(5,i6 aD.1),(6,i6 0)] [(500006300,.slice 86 5 (ml aC aP.Links) 0 false),(500006301,.slice 53 5 (ml aN aP.aA) 0 false),(500006302,.slice 75 3 (ml aJ aP.aq) 0 false),(91023,.cells 97 [.own 500006300,.own 500006301,.own 500006302])]<|A.ret ?_
 obtain rfl:=some_inj hm
 exact A.fin W0 [.fz [500006300],.sw 91023 900000097,.sw 500006301 507009100,.sw 500006302 507009101,.sc 900000097 [507009100,507009101]] rfl (by kernel_rfl)
theorem nF{r:Int×Int}(hm:gx f aM=some r):RO prog 91 [] [.agg (k12 f),i6 aM] (.tup [.gE,i6 r.1,i6 r.2]):=by
 refine aZ func91 rfl rfl ?_
 unfold gx at hm
 refine qS [(0,.al 91002)] [(1,i6 aM),(2,.ptr 91002 0)] [(91002,.cells 27 (k12 f))]<|A.seq ?_
 obtain⟨ah,h1,hm⟩:=aa hm
 refine qDs [(1,hro (dG h1) uN)] [] [(11,.bool (!decide (ah=0)))] ?_
 rcases az hm with⟨c1,hm⟩|⟨c1,hm⟩
 ·refine qT c1<|qS [] [(4,.gE),(5,i6 0),(6,i6 1)] [] ?_
  cases hm
  exact A.ret qE
 refine qF c1<|A.skip ?_
 obtain⟨aD,h2,hm⟩:=aa hm
 refine qDs [(2,hro (kI h2) aeq)] [1,11] [(7,i6 aD.1),(8,.bool aD.2)]<|A.seq<|qDs [] [8] [(19,.bool (!aD.2))] ?_
 rcases az hm with⟨c2,hm⟩|⟨c2,hm⟩
 ·refine qT c2<|qS [] [(4,.gE),(5,i6 0),(6,i6 4)] [] ?_
  cases hm
  exact A.ret qE
 refine qF c2<|A.skip ?_
 obtain⟨aP,h3,hm⟩:=aa hm
 refine qS [(1,hdc [500006300,500006301,500006302] (iJ h3) acn),(3,.al 91023)] [(4,.ptr 91023 0),(5,i6 aD.1),(6,i6 0)] [(500006300,.slice 86 5 (ml aC aP.Links) 0 false),(500006301,.slice 53 5 (ml aN aP.aA) 0 false),(500006302,.slice 75 3 (ml aJ aP.aq) 0 false),(91023,.cells 97 [.own 500006300,.own 500006301,.own 500006302])]<|A.ret ?_
 cases hm
variable {k:Int}
theorem lP{r:aK×Int}(hm:dX f k=some r):bM prog 97 [] [.agg (k12 f),i6 k] (λa σ'=>a=.tup [.ptr 900000097 0,i6 r.2]∧σ'=[(507009700,.slice 53 5 (ml aN r.1.f_.aA) 0 false),(507009701,.slice 75 3 (ml aJ r.1.f_.aq) 0 false),(900000097,.cells 97 [lf aC r.1.f_.Links,.own 507009700,.own 507009701])]):=by
 refine aZ func97 rfl rfl ?_
 unfold dX at hm
 refine qS [(0,.al 97002)] [(1,i6 k),(2,.ptr 97002 0)] [(97002,.cells 27 (k12 f))]<|A.seq<|A.block ?_
 obtain⟨ah,h1,hm⟩:=aa hm
 refine qDs [(1,hro (dG h1) uN)] [] [(6,.bool (!decide (ah=0)))] ?_
 rcases az hm with⟨c1,hm⟩|⟨c1,hm⟩
 ·refine qT c1<|qS [] [(4,.gE),(5,i6 1)] []<|A.ret ?_
  cases hm
 refine qF c1<|A.mid [(2,.ptr 97002 0),(10,.bool ((decide (k<0))||(decide ((f.aq.length:Int)≤k))))] [(97002,.cells 27 (k12 f))] (λhk=>?_) ?_
 ·rcases tf (decide (k<0))with c2|c2
  ·exact qS [(2,hto (bE c2)),(9,hto (orT (q:=decide ((f.aq.length:Int)≤k)) c2))] _ _ hk
  exact qS [(2,hto (bE c2)),(6,hto (lnE aJ f.aq)),(9,hto (orF (q:=decide ((f.aq.length:Int)≤k)) c2))] _ _ hk
 rcases az hm with⟨c3,hm⟩|⟨c3,hm⟩
 ·refine qT c3<|qS [] [(4,.gE),(5,i6 4)] []<|A.ret ?_
  cases hm
 refine qF c3<|A.skip ?_
 obtain⟨aD,h2,hm⟩:=aa hm
 refine qS [(1,hdc [500006300,500006301,500006302] (iJ h2) acn),(3,.al 97023)] [(4,.ptr 97023 0),(5,i6 0)] [(500006300,.slice 86 5 (ml aC aD.Links) 0 false),(500006301,.slice 53 5 (ml aN aD.aA) 0 false),(500006302,.slice 75 3 (ml aJ aD.aq) 0 false),(97023,.cells 97 [.own 500006300,.own 500006301,.own 500006302])]<|A.ret ?_
 obtain rfl:=some_inj hm
 exact A.fin W0 [.fz [500006300],.sw 97023 900000097,.sw 500006301 507009700,.sw 500006302 507009701,.sc 900000097 [507009700,507009701]] rfl (by kernel_rfl)
theorem l9{r:Int}(hm:fI f k=some r):RO prog 97 [] [.agg (k12 f),i6 k] (.tup [.gE,i6 r]):=by
 refine aZ func97 rfl rfl ?_
 unfold fI at hm
 refine qS [(0,.al 97002)] [(1,i6 k),(2,.ptr 97002 0)] [(97002,.cells 27 (k12 f))]<|A.seq<|A.block ?_
 obtain⟨ah,h1,hm⟩:=aa hm
 refine qDs [(1,hro (dG h1) uN)] [] [(6,.bool (!decide (ah=0)))] ?_
 rcases az hm with⟨c1,hm⟩|⟨c1,hm⟩
 ·refine qT c1<|qS [] [(4,.gE),(5,i6 1)] [] ?_
  cases hm
  exact A.ret qE
 refine qF c1<|A.mid [(2,.ptr 97002 0),(10,.bool ((decide (k<0))||(decide ((f.aq.length:Int)≤k))))] [(97002,.cells 27 (k12 f))] (λhk=>?_) ?_
 ·rcases tf (decide (k<0))with c2|c2
  ·exact qS [(2,hto (bE c2)),(9,hto (orT (q:=decide ((f.aq.length:Int)≤k)) c2))] _ _ hk
  exact qS [(2,hto (bE c2)),(6,hto (lnE aJ f.aq)),(9,hto (orF (q:=decide ((f.aq.length:Int)≤k)) c2))] _ _ hk
 rcases az hm with⟨c3,hm⟩|⟨c3,hm⟩
 ·refine qT c3<|qS [] [(4,.gE),(5,i6 4)] [] ?_
  cases hm
  exact A.ret qE
 refine qF c3<|A.skip ?_
 obtain⟨aD,h2,hm⟩:=aa hm
 refine qS [(1,hdc [500006300,500006301,500006302] (iJ h2) acn),(3,.al 97023)] [(4,.ptr 97023 0),(5,i6 0)] [(500006300,.slice 86 5 (ml aC aD.Links) 0 false),(500006301,.slice 53 5 (ml aN aD.aA) 0 false),(500006302,.slice 75 3 (ml aJ aD.aq) 0 false),(97023,.cells 97 [.own 500006300,.own 500006301,.own 500006302])]<|A.ret ?_
 cases hm
variable {c_0:aB}
theorem xB{oa0:gR}{r:Bool}(hm:qh oa0 c_0=some r):RO prog 146 [] [.agg (k11 oa0),.dZ (k2 c_0)] (.bool r):=by
 refine aZ func146 rfl rfl ?_
 unfold qh at hm
 refine qS [(0,.al 146002)] [(1,.dZ (k2 c_0)),(2,.ptr 146002 0)] [(146002,.cells 164 (k11 oa0))] ?_
 obtain⟨ah,h1,hm⟩:=aa hm
 refine qS [(3,hro (iC h1) x8)] [(3,.bool (!ah))] [] ?_
 cases hm
 exact A.ret qE
variable {r:aj×Int}
theorem yT{t:aB}{cL:List gR}(hm:rQ t cL=some r):RO prog 96 [] [.agg (k2 t),lf eR cL] (.tup [.agg (k12 r.1),i6 r.2]):=by
 refine aZ func96 rfl rfl ?_
 unfold rQ at hm
 refine qS [(0,.al 96002),(1,.al 96004)] [(1,lf eR cL),(2,.ptr 96002 0),(4,.ptr 96004 0)] [(96002,.cells 45 (k2 t)),(96004,.cells 27 [.aH,.aH,.aH])]<|A.seq ?_
 obtain⟨ah,h1,hm⟩:=aa hm
 refine qDs [(1,hro (jI h1) aep)] [] [(15,.bool (!decide (ah=0)))] ?_
 rcases az hm with⟨c1,hm⟩|⟨c1,hm⟩
 ·refine qT c1<|qD [] [1,2,15] [(5,i6 1)] [96002] [] ?_
  cases hm
  exact A.ret qE
 refine qF c1<|A.skip<|A.seq ?_
 obtain⟨aD,h2,hm⟩:=aa hm
 refine qDs [(2,hle [96002] (mU (f_g:=146) (f_c:=[.dZ (k2 t)]) (f_k:=as2) (f_f:=λ_ _ h=>xB h) h2) as1)] [15] [(19,.bool aD)] ?_
 rcases az hm with⟨c2,hm⟩|⟨c2,hm⟩
 ·refine qT c2<|qD [] [1,2,19] [(5,i6 4)] [96002] [] ?_
  cases hm
  exact A.ret qE
 refine qF c2<|A.skip<|A.seq<|qDs [(1,hto (lnE eR cL))] [19] [(22,i6 (cL.length:Int)),(23,i6 0)]<|A.block<|A.bS 1 rfl λhb1=>?_
 obtain⟨B1,K1,hB1,hK1,hm⟩:=bF hm
 refine A.lpI (l:=cL) (j0:=0) (B:=B1) (K:=K1) hm (λj1=>λ()=>[(1,lf eR cL),(2,.ptr 96002 0),(4,.ptr 96004 0),(22,i6 (cL.length:Int)),(23,i6 (j1:Int))]) (λj1=>λ()=>[(96002,.cells 45 (k2 t)),(96004,.cells 27 [.aH,.aH,.aH])]) ?_ ?_ ?_
 ·exact qW
 ·rintro j1 e1 Z1 ⟨⟩ hj1 hx1 hm
  rw[hB1]at hm
  refine qDs [] [] [(24,.bool (decide ((j1:Int)<(cL.length:Int))))]<|A.seq<|qT (ltT hx1)<|A.skip<|A.seq<|A.block<|qDs [] [24] [(6,i6 (j1:Int))] ?_
  obtain⟨J1,hJ1,hm⟩:=bQ hm
  refine A.J (J:=J1) (r:=r) (λv_1=>[(1,lf eR cL),(2,.ptr 96002 0),(4,.ptr 96004 0),(22,i6 (cL.length:Int)),(23,i6 (j1:Int)),(58,.bool v_1)]) (λv_1=>[(96002,.cells 45 (k2 t)),(96004,.cells 27 [.aH,.aH,.aH])]) ?_ ?_
  ·rcases az hm with⟨c3,hm⟩|⟨c3,hm⟩
   ·obtain⟨e_1,h3,hm⟩:=aa hm
    obtain⟨aP,h4,hm⟩:=aa hm
    obtain⟨bt,h5,hm⟩:=aa hm
    obtain⟨bL,h6,hm⟩:=aa hm
    exact qGs [(2,hto (bE c3)),(6,hix (ix eR h3)),(11,hix (ix eR (bh hx1))),(14,hro (ij h4) aac),(18,hix (ix eR h3)),(24,hix (ix eR (bh hx1))),(28,hro (ij h5) aac),(30,hro (wF h6) akB)] [6] [(58,.bool (decide (0≤bL)))]<|qX (decide (0≤bL)) hm
   exact qGs [(2,hto (bE c3))] [6] [(58,.bool false)]<|qX false hm
  rintro v_1 hm
  rw[hJ1]at hm
  rcases az hm with⟨c4,hm⟩|⟨c4,hm⟩
  ·refine qT c4<|qD [] [1,2,22,23,58] [(5,i6 25)] [96002] [] ?_
   cases hm
   exact A.ret qE
  exact qF c4<|A.skip<|qGs [(0,hto (inc hx1 hb1))] [23,58] [(23,i6 ((j1+1:Nat):Int))]<|qX () hm
 rintro j1 ⟨⟩ hj1 hl1 hm
 rw[hK1]at hm
 refine qDs [] [] [(24,.bool (decide ((j1:Int)<(cL.length:Int))))]<|A.seq<|qF (ltF hl1)<|A.exit ?_
 obtain⟨cq,h7,hm⟩:=aa hm
 refine qD [(2,hdc [500008800] (eZ h7) agA),(4,.al 96007)] [22,23,24] [(7,.ptr 96007 0)] [] [(500008800,.slice 86 5 (ml aC cq) 0 false),(96007,.cells 27 [.own 500008800,.aH,.aH])]<|A.seq<|qD [(2,hto (lnE aX t.aI))] [2] [(66,lf aX t.aI),(67,i6 (t.aI.length:Int)),(68,i6 0)] [96002] []<|A.block<|A.bS 66 rfl λhb2=>?_
 obtain⟨B2,K2,hB2,hK2,hm⟩:=bF hm
 refine A.lpI (l:=t.aI) (j0:=0) (B:=B2) (K:=K2) hm (λj2=>λm_1=>[(1,lf eR cL),(4,.ptr 96004 0),(7,.ptr 96007 0),(66,lf aX t.aI),(67,i6 (t.aI.length:Int)),(68,i6 (j2:Int))]) (λj2=>λm_1=>[(96004,.cells 27 [.aH,.aH,.aH]),(500008800,.slice 86 5 (ml aC cq) 0 false),(96007,.cells 27 [.own 500008800,.own 709600701,.aH]),(709600701,.slice 53 5 (ml aN m_1) 0 false)]) ?_ ?_ ?_
 ·exact bA.go [.ac 96007 709600701 53 5 1] [] (by kernel_rfl)
 ·rintro j2 e2 Z2 m_1 hj2 hx2 hm
  rw[hB2]at hm
  refine qDs [] [] [(69,.bool (decide ((j2:Int)<(t.aI.length:Int))))]<|A.seq<|qT (ltT hx2)<|A.skip<|A.seq<|A.block<|qD [(0,hix (ix aX (bh hx2))),(2,.al 96009)] [69] [(9,.ptr 96009 0)] [] [(96009,.cells 93 (k0 e2))]<|qD [(5,.al 96010)] [] [(10,.ptr 96010 0)] [] [(96010,.cells 53 [i6 e2.ID,i6 0,.bool e2.aY,.aH,.aH])]<|A.seq<|qDs [(1,hto (lnE eR cL))] [] [(77,lf eR cL),(78,i6 (cL.length:Int)),(79,i6 0)]<|A.block<|A.bS 1 rfl λhb3=>?_
  obtain⟨B3,K3,hB3,hK3,hm⟩:=bF hm
  refine A.lpI (l:=cL) (j0:=0) (B:=B3) (K:=K3) hm (λj3=>λm_2=>[(1,lf eR cL),(4,.ptr 96004 0),(7,.ptr 96007 0),(9,.ptr 96009 0),(10,.ptr 96010 0),(66,lf aX t.aI),(67,i6 (t.aI.length:Int)),(68,i6 (j2:Int)),(77,lf eR cL),(78,i6 (cL.length:Int)),(79,i6 (j3:Int))]) (λj3=>λm_2=>[(96004,.cells 27 [.aH,.aH,.aH]),(500008800,.slice 86 5 (ml aC cq) 0 false),(96007,.cells 27 [.own 500008800,.own 709600701,.aH]),(709600701,.slice 53 5 (ml aN m_1) 0 false),(96009,.cells 93 (k0 e2)),(96010,.cells 53 [i6 e2.ID,i6 0,.bool e2.aY,.own 709601003,.aH]),(709601003,.slice 91 3 (ml bn m_2) 0 false)]) ?_ ?_ ?_
  ·exact bA.go [.ac 96010 709601003 91 3 3] [] (by kernel_rfl)
  ·rintro j3 e3 Z3 m_2 hj3 hx3 hm
   rw[hB3]at hm
   refine qDs [] [] [(80,.bool (decide ((j3:Int)<(cL.length:Int))))]<|A.seq<|qT (ltT hx3)<|A.skip ?_
   obtain⟨J2,hJ2,hm⟩:=bQ hm
   refine A.J (J:=J2) (r:=r) (λm_3=>[(1,lf eR cL),(4,.ptr 96004 0),(7,.ptr 96007 0),(9,.ptr 96009 0),(10,.ptr 96010 0),(66,lf aX t.aI),(67,i6 (t.aI.length:Int)),(68,i6 (j2:Int)),(77,lf eR cL),(78,i6 (cL.length:Int)),(79,i6 (j3:Int))]) (λm_3=>[(96004,.cells 27 [.aH,.aH,.aH]),(500008800,.slice 86 5 (ml aC cq) 0 false),(96007,.cells 27 [.own 500008800,.own 709600701,.aH]),(709600701,.slice 53 5 (ml aN m_1) 0 false),(96009,.cells 93 (k0 e2)),(96010,.cells 53 [i6 e2.ID,i6 0,.bool e2.aY,.own 709601003,.aH]),(709601003,.slice 91 3 (ml bn m_3) 0 false)]) ?_ ?_
   ·refine A.block<|qD [(0,hix (ix eR (bh hx3))),(2,.al 96012)] [80] [(12,.ptr 96012 0)] [] [(96012,.cells 164 (k11 e3))] ?_
    refine qDs [] [] [(87,.bool (decide (e3.af=e2.ID)))] ?_
    rcases az hm with⟨c5,hm⟩|⟨c5,hm⟩
    ·refine qT c5 ?_
     obtain⟨l_1,h8,hm⟩:=aa hm
     exact qG [(5,hap 96593 (ap bn (bytes:=24) (by decide) h8))] [12,87] [] [96010,709601003,96012] [(96010,.cells 53 [i6 e2.ID,i6 0,.bool e2.aY,.own 96593,.aH]),(96593,.slice 91 3 (ml bn l_1) 0 false)]<|Exists.intro l_1 (And.intro hm (bA.go [.sw 96593 709601003] [] (by kernel_rfl)))
    exact qF c5<|A.skip<|qX m_2 hm
   rintro m_3 hm
   rw[hJ2]at hm
   exact qGs [(0,hto (inc hx3 hb3))] [79] [(79,i6 ((j3+1:Nat):Int))]<|qX m_3 hm
  rintro j3 m_2 hj3 hl3 hm
  rw[hK3]at hm
  refine qDs [] [] [(80,.bool (decide ((j3:Int)<(cL.length:Int))))]<|A.seq<|qF (ltF hl3)<|A.exit ?_
  obtain⟨l_2,h9,hm⟩:=aa hm
  exact A.R W0 [.fz [709601003],.sc 96010 [96004,500008800,96007,709600701,96009,96010]] [(4,hap 96600 (ap aN (bytes:=72) (by decide) h9))] [(1,lf eR cL),(4,.ptr 96004 0),(7,.ptr 96007 0),(66,lf aX t.aI),(67,i6 (t.aI.length:Int)),(68,i6 (j2:Int))] [(96004,.cells 27 [.aH,.aH,.aH]),(500008800,.slice 86 5 (ml aC cq) 0 false),(96007,.cells 27 [.own 500008800,.own 96600,.aH]),(96600,.slice 53 5 (ml aN l_2) 0 false)] (by kernel_rfl)<|qR [(0,hto (inc hx2 hb2))] [(1,lf eR cL),(4,.ptr 96004 0),(7,.ptr 96007 0),(66,lf aX t.aI),(67,i6 (t.aI.length:Int)),(68,i6 ((j2+1:Nat):Int))] [(96004,.cells 27 [.aH,.aH,.aH]),(500008800,.slice 86 5 (ml aC cq) 0 false),(96007,.cells 27 [.own 500008800,.own 96600,.aH]),(96600,.slice 53 5 (ml aN l_2) 0 false)]<|Exists.intro l_2 (And.intro hm (bA.go [.sw 96600 709600701] [] (by kernel_rfl)))
 rintro j2 m_1 hj2 hl2 hm
 rw[hK2]at hm
 refine qDs [] [] [(69,.bool (decide ((j2:Int)<(t.aI.length:Int))))]<|A.seq<|qF (ltF hl2)<|A.exit<|A.seq ?_
 obtain⟨cU,h10,hm⟩:=aa hm
 refine qDs [(1,hle [500008800,709600701] (dG h10) uN)] [1,66,67,68,69] [(105,.bool (!decide (cU=0)))] ?_
 rcases az hm with⟨c6,hm⟩|⟨c6,hm⟩
 ·refine qT c6<|qD [] [7,105] [(5,i6 1)] [500008800,96007,709600701] [] ?_
  cases hm
  exact A.ret qE
 refine qF c6<|A.skip<|qD [] [7,105] [(5,i6 0)] [96004,96007] [(96004,.cells 27 [.own 500008800,.own 709600701,.aH])]<|A.ret ?_
 obtain rfl:=some_inj hm
 exact A.fin W0 [.fz [500008800,709600701]] rfl (by kernel_rfl)
theorem qH(hm:lN f aM=some r):bM prog 37 [] [.agg (k12 f),i6 aM] (λa σ'=>a=.tup [.agg [lf aC r.1.Links,.own 500003700,.own 500003701],i6 r.2]∧σ'=[(500003700,.slice 53 5 (ml aN r.1.aA) 0 false),(500003701,.slice 75 3 (ml aJ r.1.aq) 0 false)]):=by
 refine aZ func37 rfl rfl ?_
 unfold lN at hm
 refine qS [(0,.al 37002),(1,.al 37004)] [(1,i6 aM),(2,.ptr 37002 0),(4,.ptr 37004 0)] [(37002,.cells 27 (k12 f)),(37004,.cells 27 [.aH,.aH,.aH])] ?_
 rcases tI hm with⟨ah,h1,hm⟩|hm
 ·refine qS [(2,hdc [900000097,507009100,507009101] (mC h1) acr)] [(4,.ptr 37004 0),(6,.ptr 900000097 0),(7,i6 ah.2.1),(8,i6 ah.2.2)] [(37004,.cells 27 [.aH,.aH,.aH]),(507009100,.slice 53 5 (ml aN ah.1.f_.aA) 0 false),(507009101,.slice 75 3 (ml aJ ah.1.f_.aq) 0 false),(900000097,.cells 97 [lf aC ah.1.f_.Links,.own 507009100,.own 507009101])]<|A.seq<|qDs [] [] [(17,.bool (!decide (ah.2.2=0)))] ?_
  rcases az hm with⟨c1,hm⟩|⟨c1,hm⟩
  ·refine qT c1<|qD [] [6,7,8,17] [(5,i6 ah.2.2)] [507009100,507009101,900000097] []<|A.ret ?_
   obtain rfl:=some_inj hm
   exact A.fin W0 [.ac 37004 500003700 53 5 1,.ac 37004 500003701 75 3 2] rfl (by kernel_rfl)
  refine qF c1<|A.skip<|A.seq ?_
  obtain⟨e_1,h2,hm⟩:=aa hm
  refine qDs [(6,hix (ix aN h2)),(8,hlo 507009100 1 (ix aN h2))] [8,17] [(29,.bool (decide (e_1.Seq=1000000)))] ?_
  rcases az hm with⟨c2,hm⟩|⟨c2,hm⟩
  ·refine qT c2<|qD [] [6,7,29] [(5,i6 7)] [507009100,507009101,900000097] []<|A.ret ?_
   obtain rfl:=some_inj hm
   exact A.fin W0 [.ac 37004 500003700 53 5 1,.ac 37004 500003701 75 3 2] rfl (by kernel_rfl)
  refine qF c2<|A.skip ?_
  obtain⟨l_1,h3,hm⟩:=aa hm
  refine qD [(6,hix (ix aN h2)),(8,hlo 507009100 1 (ix aN h2)),(10,hix (ix aN h2)),(12,hso 507009100 (st aN (off:=1) (ca:=[i6 (w64 (e_1.Seq+1))]) h2 h3 rfl) (gP h2).1.1)] [29] [] [507009100] [(507009100,.slice 53 5 (ml aN l_1) 0 false)] ?_
  obtain⟨aD,h4,hm⟩:=aa hm
  refine qD [(2,hdc [520037001,520037002] (SC.at [(505009200,507009100),(505009202,507009101),(505009201,520037001),(505009203,520037002)] (gN h4)) agB)] [7] [] [507009100,507009101,900000097] [(900000097,.cells 97 [lf aC aD.f_.Links,.own 520037001,.own 520037002]),(520037001,.slice 53 5 (ml aN aD.f_.aA) 0 false),(520037002,.slice 75 3 (ml aJ aD.f_.aq) 0 false)]<|qD [] [6] [(5,i6 0)] [37004,900000097] [(37004,.cells 27 [lf aC aD.f_.Links,.own 520037001,.own 520037002])]<|A.ret ?_
  obtain rfl:=some_inj hm
  exact A.fin W0 [.sw 520037001 500003700,.sw 520037002 500003701] rfl (by kernel_rfl)
 obtain⟨aP,h5,hm⟩:=aa hm
 refine qS [(2,hro (nF h5) acr)] [(4,.ptr 37004 0),(6,.gE),(7,i6 aP.1),(8,i6 aP.2)] [(37004,.cells 27 [.aH,.aH,.aH])]<|A.seq<|qDs [] [] [(17,.bool (!decide (aP.2=0)))] ?_
 rcases az hm with⟨c3,hm⟩|⟨c3,hm⟩
 ·refine qT c3<|qDs [] [6,7,8,17] [(5,i6 aP.2)]<|A.ret ?_
  obtain rfl:=some_inj hm
  exact A.fin W0 [.ac 37004 500003700 53 5 1,.ac 37004 500003701 75 3 2] rfl (by kernel_rfl)
 refine qF c3<|A.skip<|A.seq ?_
 cases hm
theorem xC(hm:kJ f aM=some r):RO prog 39 [] [.agg (k12 f),i6 aM] (.tup [.agg (k12 r.1),i6 r.2]):=by
 refine aZ func39 rfl rfl ?_
 unfold kJ at hm
 refine qS [(0,.al 39002),(1,.al 39004)] [(1,i6 aM),(2,.ptr 39002 0),(4,.ptr 39004 0)] [(39002,.cells 27 (k12 f)),(39004,.cells 27 [.aH,.aH,.aH])] ?_
 rcases tI hm with⟨ah,h1,hm⟩|hm
 ·refine qS [(2,hdc [900000097,507009100,507009101] (mC h1) acr)] [(4,.ptr 39004 0),(6,.ptr 900000097 0),(7,i6 ah.2.1),(8,i6 ah.2.2)] [(39004,.cells 27 [.aH,.aH,.aH]),(507009100,.slice 53 5 (ml aN ah.1.f_.aA) 0 false),(507009101,.slice 75 3 (ml aJ ah.1.f_.aq) 0 false),(900000097,.cells 97 [lf aC ah.1.f_.Links,.own 507009100,.own 507009101])]<|A.seq<|qDs [] [] [(17,.bool (!decide (ah.2.2=0)))] ?_
  rcases az hm with⟨c1,hm⟩|⟨c1,hm⟩
  ·refine qT c1<|qD [] [6,7,8,17] [(5,i6 ah.2.2)] [507009100,507009101,900000097] [] ?_
   cases hm
   exact A.ret qE
  refine qF c1<|A.skip ?_
  obtain⟨e_1,h2,hm⟩:=aa hm
  obtain⟨l_1,h3,hm⟩:=aa hm
  obtain⟨e_2,h4,hm⟩:=aa hm
  obtain⟨l_2,h5,hm⟩:=aa hm
  refine qD [(13,hix (ix aN h2)),(15,hso 507009100 (st aN (off:=4) (ca:=[.lst false []]) h2 h3 rfl) (gP h2).1.1),(16,hix (ix aN h4)),(18,hso 507009100 (st aN (off:=1) (ca:=[i6 1]) h4 h5 rfl) (gP h4).1.1)] [8,17] [] [507009100] [(507009100,.slice 53 5 (ml aN l_2) 0 false)] ?_
  obtain⟨aD,h6,hm⟩:=aa hm
  refine qD [(2,hdc [520039001,520039002] (SC.at [(505009200,507009100),(505009202,507009101),(505009201,520039001),(505009203,520039002)] (gN h6)) agB)] [7] [] [507009100,507009101,900000097] [(900000097,.cells 97 [lf aC aD.f_.Links,.own 520039001,.own 520039002]),(520039001,.slice 53 5 (ml aN aD.f_.aA) 0 false),(520039002,.slice 75 3 (ml aJ aD.f_.aq) 0 false)]<|qD [] [6] [(5,i6 0)] [39004,900000097] [(39004,.cells 27 [lf aC aD.f_.Links,.own 520039001,.own 520039002])]<|A.ret ?_
  obtain rfl:=some_inj hm
  exact A.fin W0 [.fz [520039001,520039002]] rfl (by kernel_rfl)
 obtain⟨aP,h7,hm⟩:=aa hm
 refine qS [(2,hro (nF h7) acr)] [(4,.ptr 39004 0),(6,.gE),(7,i6 aP.1),(8,i6 aP.2)] [(39004,.cells 27 [.aH,.aH,.aH])]<|A.seq<|qDs [] [] [(17,.bool (!decide (aP.2=0)))] ?_
 rcases az hm with⟨c2,hm⟩|⟨c2,hm⟩
 ·refine qT c2<|qDs [] [6,7,8,17] [(5,i6 aP.2)] ?_
  cases hm
  exact A.ret qE
 refine qF c2<|A.skip ?_
 cases hm
theorem zn(hm:mX f aM=some r):RO prog 41 [] [.agg (k12 f),i6 aM] (.tup [.agg (k12 r.1),i6 r.2]):=by
 refine aZ func41 rfl rfl ?_
 unfold mX at hm
 refine qS [(0,.al 41002),(1,.al 41004)] [(1,i6 aM),(2,.ptr 41002 0),(4,.ptr 41004 0)] [(41002,.cells 27 (k12 f)),(41004,.cells 27 [.aH,.aH,.aH])] ?_
 rcases tI hm with⟨ah,h1,hm⟩|hm
 ·refine qS [(2,hdc [900000097,507009100,507009101] (mC h1) acr)] [(4,.ptr 41004 0),(6,.ptr 900000097 0),(7,i6 ah.2.1),(8,i6 ah.2.2)] [(41004,.cells 27 [.aH,.aH,.aH]),(507009100,.slice 53 5 (ml aN ah.1.f_.aA) 0 false),(507009101,.slice 75 3 (ml aJ ah.1.f_.aq) 0 false),(900000097,.cells 97 [lf aC ah.1.f_.Links,.own 507009100,.own 507009101])]<|A.seq<|qDs [] [] [(17,.bool (!decide (ah.2.2=0)))] ?_
  rcases az hm with⟨c1,hm⟩|⟨c1,hm⟩
  ·refine qT c1<|qD [] [6,7,8,17] [(5,i6 ah.2.2)] [507009100,507009101,900000097] [] ?_
   cases hm
   exact A.ret qE
  refine qF c1<|A.skip ?_
  obtain⟨aD,h2,hm⟩:=aa hm
  refine qD [(2,hdc [520041001,520041002] (SC.at [(505009500,507009100),(505009502,507009101),(505009501,520041001),(505009503,520041002)] (o4 h2)) apI)] [7,8,17] [] [507009100,507009101,900000097] [(900000097,.cells 97 [lf aC aD.f_.Links,.own 520041001,.own 520041002]),(520041001,.slice 53 5 (ml aN aD.f_.aA) 0 false),(520041002,.slice 75 3 (ml aJ aD.f_.aq) 0 false)]<|A.seq<|qDs [(5,hto (lnE aJ aD.f_.aq))] [] [(29,.bool (decide (400<(aD.f_.aq.length:Int))))] ?_
  rcases az hm with⟨c2,hm⟩|⟨c2,hm⟩
  ·refine qT c2<|qD [] [6,29] [(5,i6 3)] [900000097,520041001,520041002] [] ?_
   cases hm
   exact A.ret qE
  refine qF c2<|A.skip<|qD [] [6,29] [(5,i6 0)] [41004,900000097] [(41004,.cells 27 [lf aC aD.f_.Links,.own 520041001,.own 520041002])]<|A.ret ?_
  obtain rfl:=some_inj hm
  exact A.fin W0 [.fz [520041001,520041002]] rfl (by kernel_rfl)
 obtain⟨aP,h3,hm⟩:=aa hm
 refine qS [(2,hro (nF h3) acr)] [(4,.ptr 41004 0),(6,.gE),(7,i6 aP.1),(8,i6 aP.2)] [(41004,.cells 27 [.aH,.aH,.aH])]<|A.seq<|qDs [] [] [(17,.bool (!decide (aP.2=0)))] ?_
 rcases az hm with⟨c3,hm⟩|⟨c3,hm⟩
 ·refine qT c3<|qDs [] [6,7,8,17] [(5,i6 aP.2)] ?_
  cases hm
  exact A.ret qE
 refine qF c3<|A.skip ?_
 cases hm
theorem xD(hm:kK f k=some r):RO prog 49 [] [.agg (k12 f),i6 k] (.tup [.agg (k12 r.1),i6 r.2]):=by
 refine aZ func49 rfl rfl ?_
 unfold kK at hm
 refine qS [(0,.al 49002),(1,.al 49004)] [(1,i6 k),(2,.ptr 49002 0),(4,.ptr 49004 0)] [(49002,.cells 27 (k12 f)),(49004,.cells 27 [.aH,.aH,.aH])] ?_
 rcases tI hm with⟨ah,h1,hm⟩|hm
 ·refine qS [(2,hdc [900000097,507009700,507009701] (lP h1) acs)] [(1,i6 k),(4,.ptr 49004 0),(6,.ptr 900000097 0),(7,i6 ah.2)] [(49004,.cells 27 [.aH,.aH,.aH]),(507009700,.slice 53 5 (ml aN ah.1.f_.aA) 0 false),(507009701,.slice 75 3 (ml aJ ah.1.f_.aq) 0 false),(900000097,.cells 97 [lf aC ah.1.f_.Links,.own 507009700,.own 507009701])]<|A.seq<|qDs [] [] [(15,.bool (!decide (ah.2=0)))] ?_
  rcases az hm with⟨c1,hm⟩|⟨c1,hm⟩
  ·refine qT c1<|qD [] [1,6,7,15] [(5,i6 ah.2)] [507009700,507009701,900000097] [] ?_
   cases hm
   exact A.ret qE
  refine qF c1<|A.skip ?_
  obtain⟨aD,h2,hm⟩:=aa hm
  refine qD [(2,hdc [520049001,520049002] (SC.at [(505010400,507009700),(505010402,507009701),(505010401,520049001),(505010403,520049002)] (nL h2)) akt)] [1,7,15] [] [507009700,507009701,900000097] [(900000097,.cells 97 [lf aC aD.f_.Links,.own 520049001,.own 520049002]),(520049001,.slice 53 5 (ml aN aD.f_.aA) 0 false),(520049002,.slice 75 3 (ml aJ aD.f_.aq) 0 false)]<|qD [] [6] [(5,i6 0)] [49004,900000097] [(49004,.cells 27 [lf aC aD.f_.Links,.own 520049001,.own 520049002])]<|A.ret ?_
  obtain rfl:=some_inj hm
  exact A.fin W0 [.fz [520049001,520049002]] rfl (by kernel_rfl)
 obtain⟨aP,h3,hm⟩:=aa hm
 refine qS [(2,hro (l9 h3) acs)] [(1,i6 k),(4,.ptr 49004 0),(6,.gE),(7,i6 aP)] [(49004,.cells 27 [.aH,.aH,.aH])]<|A.seq<|qDs [] [] [(15,.bool (!decide (aP=0)))] ?_
 rcases az hm with⟨c2,hm⟩|⟨c2,hm⟩
 ·refine qT c2<|qDs [] [1,6,7,15] [(5,i6 aP)] ?_
  cases hm
  exact A.ret qE
 refine qF c2<|A.skip ?_
 cases hm
theorem zo(hm:mY f k=some r):RO prog 51 [] [.agg (k12 f),i6 k] (.tup [.agg (k12 r.1),i6 r.2]):=by
 refine aZ func51 rfl rfl ?_
 unfold mY at hm
 refine qS [(0,.al 51002),(1,.al 51004)] [(1,i6 k),(2,.ptr 51002 0),(4,.ptr 51004 0)] [(51002,.cells 27 (k12 f)),(51004,.cells 27 [.aH,.aH,.aH])] ?_
 rcases tI hm with⟨ah,h1,hm⟩|hm
 ·refine qS [(2,hdc [900000097,507009700,507009701] (lP h1) acs)] [(1,i6 k),(4,.ptr 51004 0),(6,.ptr 900000097 0),(7,i6 ah.2)] [(51004,.cells 27 [.aH,.aH,.aH]),(507009700,.slice 53 5 (ml aN ah.1.f_.aA) 0 false),(507009701,.slice 75 3 (ml aJ ah.1.f_.aq) 0 false),(900000097,.cells 97 [lf aC ah.1.f_.Links,.own 507009700,.own 507009701])]<|A.seq<|qDs [] [] [(15,.bool (!decide (ah.2=0)))] ?_
  rcases az hm with⟨c1,hm⟩|⟨c1,hm⟩
  ·refine qT c1<|qD [] [1,6,7,15] [(5,i6 ah.2)] [507009700,507009701,900000097] [] ?_
   cases hm
   exact A.ret qE
  refine qF c1<|A.skip ?_
  obtain⟨l_1,h2,hm⟩:=aa hm
  refine qD [(9,hdc [520051001] (adg (d:=507009701) (D:=520051001) h2 (by decide)) aku)] [1,7,15] [] [507009701,900000097] [(900000097,.cells 97 [lf aC ah.1.f_.Links,.own 507009700,.own 520051001]),(520051001,.slice 75 3 (ml aJ l_1) 0 false)]<|qD [] [6] [(5,i6 0)] [51004,900000097] [(51004,.cells 27 [lf aC ah.1.f_.Links,.own 507009700,.own 520051001])]<|A.ret ?_
  obtain rfl:=some_inj hm
  exact A.fin W0 [.fz [507009700,520051001]] rfl (by kernel_rfl)
 obtain⟨aD,h3,hm⟩:=aa hm
 refine qS [(2,hro (l9 h3) acs)] [(1,i6 k),(4,.ptr 51004 0),(6,.gE),(7,i6 aD)] [(51004,.cells 27 [.aH,.aH,.aH])]<|A.seq<|qDs [] [] [(15,.bool (!decide (aD=0)))] ?_
 rcases az hm with⟨c2,hm⟩|⟨c2,hm⟩
 ·refine qT c2<|qDs [] [1,6,7,15] [(5,i6 aD)] ?_
  cases hm
  exact A.ret qE
 refine qF c2<|A.skip ?_
 cases hm
theorem yh(hm:lF f k=some r):RO prog 44 [] [.agg (k12 f),i6 k] (.tup [.agg (k12 r.1),i6 r.2]):=by
 refine aZ func44 rfl rfl ?_
 unfold lF at hm
 refine qS [(0,.al 44002),(1,.al 44004)] [(1,i6 k),(2,.ptr 44002 0),(4,.ptr 44004 0)] [(44002,.cells 27 (k12 f)),(44004,.cells 27 [.aH,.aH,.aH])] ?_
 rcases tI hm with⟨ah,h1,hm⟩|hm
 ·refine qS [(2,hdc [900000097,507009700,507009701] (lP h1) acs)] [(1,i6 k),(2,.ptr 44002 0),(4,.ptr 44004 0),(6,.ptr 900000097 0),(7,i6 ah.2)] [(44002,.cells 27 (k12 f)),(44004,.cells 27 [.aH,.aH,.aH]),(507009700,.slice 53 5 (ml aN ah.1.f_.aA) 0 false),(507009701,.slice 75 3 (ml aJ ah.1.f_.aq) 0 false),(900000097,.cells 97 [lf aC ah.1.f_.Links,.own 507009700,.own 507009701])]<|A.seq<|A.block<|qDs [] [] [(15,.bool (!decide (ah.2=0)))] ?_
  rcases az hm with⟨c1,hm⟩|⟨c1,hm⟩
  ·refine qT c1<|qD [] [1,2,6,7,15] [(5,i6 ah.2)] [44002,507009700,507009701,900000097] [] ?_
   cases hm
   exact A.ret qE
  refine qF c1<|qDs [(2,hto (lnE aJ f.aq))] [7,15] [(20,.bool (decide ((f.aq.length:Int)=(400:Int))))] ?_
  rcases az hm with⟨c2,hm⟩|⟨c2,hm⟩
  ·refine qT c2<|qD [] [1,2,6,20] [(5,i6 3)] [44002,507009700,507009701,900000097] [] ?_
   cases hm
   exact A.ret qE
  refine qF c2<|A.skip ?_
  obtain⟨e_1,h2,hm⟩:=aa hm
  refine qD [(3,hix (ix aJ h2)),(5,.al 44008)] [1,2,20] [(8,.ptr 44008 0)] [44002] [(44008,.cells 75 (k10 e_1))] ?_
  obtain⟨aD,h3,hm⟩:=aa hm
  refine qD [(2,hro (ga h3) aer)] [] [] [44008] [(44008,.cells 75 [i6 e_1.cD,i6 e_1.To,lf aQ aD.aG])] ?_
  obtain⟨l_1,h4,hm⟩:=aa hm
  refine qD [(8,hap 44543 (ap aJ (bytes:=40) (by decide) h4))] [8] [] [507009701,900000097,44008] [(900000097,.cells 97 [lf aC ah.1.f_.Links,.own 507009700,.own 44543]),(44543,.slice 75 3 (ml aJ l_1) 0 false)]<|qD [] [6] [(5,i6 0)] [44004,900000097] [(44004,.cells 27 [lf aC ah.1.f_.Links,.own 507009700,.own 44543])]<|A.ret ?_
  obtain rfl:=some_inj hm
  exact A.fin W0 [.fz [507009700,44543]] rfl (by kernel_rfl)
 obtain⟨aP,h5,hm⟩:=aa hm
 refine qS [(2,hro (l9 h5) acs)] [(1,i6 k),(2,.ptr 44002 0),(4,.ptr 44004 0),(6,.gE),(7,i6 aP)] [(44002,.cells 27 (k12 f)),(44004,.cells 27 [.aH,.aH,.aH])]<|A.seq<|A.block<|qDs [] [] [(15,.bool (!decide (aP=0)))] ?_
 rcases az hm with⟨c3,hm⟩|⟨c3,hm⟩
 ·refine qT c3<|qD [] [1,2,6,7,15] [(5,i6 aP)] [44002] [] ?_
  cases hm
  exact A.ret qE
 refine qF c3<|qDs [(2,hto (lnE aJ f.aq))] [7,15] [(20,.bool (decide ((f.aq.length:Int)=(400:Int))))] ?_
 rcases az hm with⟨c4,hm⟩|⟨c4,hm⟩
 ·refine qT c4<|qD [] [1,2,6,20] [(5,i6 3)] [44002] [] ?_
  cases hm
  exact A.ret qE
 refine qF c4<|A.skip ?_
 obtain⟨e_2,h6,hm⟩:=aa hm
 refine qD [(3,hix (ix aJ h6)),(5,.al 44008)] [1,2,20] [(8,.ptr 44008 0)] [44002] [(44008,.cells 75 (k10 e_2))] ?_
 obtain⟨bt,h7,hm⟩:=aa hm
 refine qD [(2,hro (ga h7) aer)] [] [] [44008] [(44008,.cells 75 [i6 e_2.cD,i6 e_2.To,lf aQ bt.aG])] ?_
 cases hm
theorem wX{xa0:aR}{r:Bool}(hm:jK xa0 c_0=some r):RO prog 101 [] [.agg (k10 xa0),.dZ (k2 c_0)] (.bool r):=by
 refine aZ func101 rfl rfl ?_
 unfold jK at hm
 refine qS [(0,.al 101002)] [(1,.dZ (k2 c_0)),(2,.ptr 101002 0)] [(101002,.cells 75 (k10 xa0))] ?_
 obtain⟨ah,h1,hm⟩:=aa hm
 refine qS [(5,hro (uu h1) akr)] [(5,.bool ah.2)] []<|qS [] [(3,.bool (!ah.2))] [] ?_
 cases hm
 exact A.ret qE
theorem yj{links:List aV}(hm:gp f links=some r):RO prog 47 [] [.agg (k12 f),lf aC links] (.tup [.agg (k12 r.1),i6 r.2]):=by
 refine aZ func47 rfl rfl ?_
 unfold gp at hm
 refine qS [(0,.al 47002),(1,.al 47004)] [(1,lf aC links),(2,.ptr 47002 0),(4,.ptr 47004 0)] [(47002,.cells 27 (k12 f)),(47004,.cells 27 [.aH,.aH,.aH])] ?_
 obtain⟨ah,h1,hm⟩:=aa hm
 refine qD [(1,hdc [500006300,500006301,500006302] (iJ h1) acn),(3,.al 47017)] [] [(6,.ptr 47017 0)] [] [(500006300,.slice 86 5 (ml aC ah.Links) 0 false),(500006301,.slice 53 5 (ml aN ah.aA) 0 false),(500006302,.slice 75 3 (ml aJ ah.aq) 0 false),(47017,.cells 97 [.own 500006300,.own 500006301,.own 500006302])] ?_
 obtain⟨aD,h2,hm⟩:=aa hm
 refine qD [(2,hdc [500008800] (eZ h2) agA)] [1] [] [500006300,47017] [(47017,.cells 97 [.own 500008800,.own 500006301,.own 500006302]),(500008800,.slice 86 5 (ml aC aD) 0 false)]<|A.seq ?_
 obtain⟨J1,hJ1,hm⟩:=bQ hm
 refine A.J (J:=J1) (r:=r) (λv_1=>[(2,.ptr 47002 0),(4,.ptr 47004 0),(6,.ptr 47017 0),(34,.bool v_1)]) (λv_1=>[(47002,.cells 27 (k12 f)),(47004,.cells 27 [.aH,.aH,.aH]),(500006301,.slice 53 5 (ml aN ah.aA) 0 false),(500006302,.slice 75 3 (ml aJ ah.aq) 0 false),(47017,.cells 97 [.own 500008800,.own 500006301,.own 500006302]),(500008800,.slice 86 5 (ml aC aD) 0 false)]) ?_ ?_
 ·obtain⟨aP,h3,hm⟩:=aa hm
  rcases az hm with⟨c1,hm⟩|⟨c1,hm⟩
  ·exact qGs [(1,hro (dG h3) uN),(3,hto (bE c1))] [] [(34,.bool true)]<|qX true hm
  obtain⟨bt,h4,hm⟩:=aa hm
  exact qGs [(1,hro (dG h3) uN),(3,hto (bE c1)),(8,hle [500008800,500006301,500006302] (dG h4) uN)] [] [(34,.bool (!decide (bt=0)))]<|qX (!decide (bt=0)) hm
 rintro v_1 hm
 rw[hJ1]at hm
 rcases az hm with⟨c2,hm⟩|⟨c2,hm⟩
 ·refine qT c2<|qS [] [(4,.ptr 47004 0),(5,i6 1)] [(47004,.cells 27 [.aH,.aH,.aH])] ?_
  cases hm
  exact A.ret qE
 refine qF c2<|A.skip ?_
 obtain⟨bL,h5,hm⟩:=aa hm
 refine qD [(4,hdl [500008800,500006301,500006302] [500003200,500003201] (fk h5) aa3 ⟨jt aX (λ_=>rfl) _,jt aC (λ_=>rfl) _,trivial⟩),(5,.al 47007)] [34] [(7,.ptr 47007 0)] [] [(500003200,.slice 93 2 (ml aX bL.aI) 0 false),(500003201,.slice 86 5 (ml aC bL.Links) 0 false),(47007,.cells 45 [.own 500003200,.own 500003201])]<|A.weak ((bA.go (cE:=[(2,.ptr 47002 0),(4,.ptr 47004 0),(6,.ptr 47017 0),(7,.ptr 47007 0)]) (σ2:=[(47002,.cells 27 (k12 f)),(47004,.cells 27 [.aH,.aH,.aH]),(500006301,.slice 53 5 (ml aN ah.aA) 0 false),(500006302,.slice 75 3 (ml aJ ah.aq) 0 false),(47017,.cells 97 [.own 500008800,.own 500006301,.own 500006302]),(500008800,.slice 86 5 (ml aC aD) 0 false),(500003200,.slice 93 2 (ml aX bL.aI) (ml aX bL.aI).length true),(500003201,.slice 86 5 (ml aC bL.Links) (ml aC bL.Links).length true),(47007,.cells 45 (k2 bL))]) [.fz [500003200,500003201],.sc 47007 []] [] (by kernel_rfl)).trans (bA.lp (T:=45) (cs:=(k2 bL)) 7 47007 (by kernel_rfl) (by kernel_rfl) (by kernel_rfl))) ?_
 obtain⟨cq,h6,hm⟩:=aa hm
 refine qS [(6,hcf),(7,hdc [500010000] (SC.at [(508010000,500006302)] (mw (wG:=101) (yg:=[.dZ (k2 bL)]) (agK:=asJ) (agL:=λ_ _ h=>wX h) h6)) asI)] [(2,.ptr 47002 0),(4,.ptr 47004 0),(6,.ptr 47017 0)] [(47002,.cells 27 (k12 f)),(47004,.cells 27 [.aH,.aH,.aH]),(500006301,.slice 53 5 (ml aN ah.aA) 0 false),(47017,.cells 97 [.own 500008800,.own 500006301,.own 500010000]),(500008800,.slice 86 5 (ml aC aD) 0 false),(500010000,.slice 75 3 (ml aJ cq) 0 false)]<|A.seq<|qDs [(5,hto (lnE aN ah.aA))] [] [(57,i6 (ah.aA.length:Int)),(58,i6 0)]<|A.block<|A.bD 6 1 rfl rfl rfl rfl λhb1=>?_
 obtain⟨B1,K1,hB1,hK1,hm⟩:=bF hm
 refine A.lpI (l:=ah.aA) (j0:=0) (B:=B1) (K:=K1) hm (λj1=>λ(m_1,m_2,m_3)=>[(2,.ptr 47002 0),(4,.ptr 47004 0),(6,.ptr 47017 0),(57,i6 (ah.aA.length:Int)),(58,i6 (j1:Int))]) (λj1=>λ(m_1,m_2,m_3)=>[(47002,.cells 27 (k12 f)),(47004,.cells 27 [.aH,.aH,.aH]),(47017,.cells 97 [lf aC m_1,.own 704701701,.own 704701702]),(704701701,.slice 53 5 (ml aN m_2) 0 false),(704701702,.slice 75 3 (ml aJ m_3) 0 false)]) ?_ ?_ ?_
 ·exact bA.go [.fz [500008800],.sw 500006301 704701701,.sw 500010000 704701702,.sc 47017 [47002,47004,47017,704701701,704701702]] [] (by kernel_rfl)
 ·rintro j1 e1 Z1 ⟨m_1,m_2,m_3⟩ hj1 hx1 hm
  rw[hB1]at hm
  refine qDs [] [] [(59,.bool (decide ((j1:Int)<(ah.aA.length:Int))))]<|A.seq<|qT (ltT hx1)<|A.skip ?_
  obtain⟨J2,hJ2,hm⟩:=bQ hm
  refine A.J (J:=J2) (r:=r) (λ(m_4,m_5,m_6)=>[(2,.ptr 47002 0),(4,.ptr 47004 0),(6,.ptr 47017 0),(57,i6 (ah.aA.length:Int)),(58,i6 (j1:Int))]) (λ(m_4,m_5,m_6)=>[(47002,.cells 27 (k12 f)),(47004,.cells 27 [.aH,.aH,.aH]),(47017,.cells 97 [lf aC m_4,.own 704701701,.own 704701702]),(704701701,.slice 53 5 (ml aN m_5) 0 false),(704701702,.slice 75 3 (ml aJ m_6) 0 false)]) ?_ ?_
  ·refine A.block<|qDs [] [59] [(8,i6 (j1:Int))] ?_
   obtain⟨e_1,h7,hm⟩:=aa hm
   refine qDs [(6,hix (ix aN h7))] [] [(9,.ptr 704701701 ((j1:Int).toNat*5))] ?_
   obtain⟨e_2,h8,hm⟩:=aa hm
   obtain⟨cU,h9,hm⟩:=aa hm
   refine qD [(4,hix (ix aN h8)),(6,hdc [510047001,510047002] (SC.at [(500007000,510047001),(500007001,510047002)] (lE h9)) aeo),(10,.al 47010)] [] [(10,.ptr 47010 0)] [] [(47010,.cells 66 [i6 cU.1.af,i6 cU.1.Seq,.bool cU.1.aY,.own 510047001,.own 510047002]),(510047001,.slice 105 3 (ml bx cU.1.Links) 0 false),(510047002,.slice 91 3 (ml bn cU.1.Claims) 0 false)] ?_
   obtain⟨dz,h10,hm⟩:=aa hm
   refine qD [(6,hlo 704701701 0 (ix aN h7)),(7,hdl [704701701,704701702] [510047003,510047004] (SC.at [(500007000,510047003),(500007001,510047004)] (lE h10)) aeo ⟨jt bx (λ_=>rfl) _,jt bn (λ_=>rfl) _,trivial⟩),(11,.al 47012)] [] [(12,.ptr 47012 0),(13,.bool dz.2)] [] [(47012,.cells 66 [i6 dz.1.af,i6 dz.1.Seq,.bool dz.1.aY,.own 510047003,.own 510047004]),(510047003,.slice 105 3 (ml bx dz.1.Links) 0 false),(510047004,.slice 91 3 (ml bn dz.1.Claims) 0 false)] ?_
   obtain⟨J3,hJ3,hm⟩:=bQ hm
   refine A.J (J:=J3) (r:=r) (λv_2=>[(2,.ptr 47002 0),(4,.ptr 47004 0),(6,.ptr 47017 0),(8,i6 (j1:Int)),(9,.ptr 704701701 ((j1:Int).toNat*5)),(57,i6 (ah.aA.length:Int)),(58,i6 (j1:Int)),(102,.bool v_2)]) (λv_2=>[(47002,.cells 27 (k12 f)),(47004,.cells 27 [.aH,.aH,.aH]),(47017,.cells 97 [lf aC m_1,.own 704701701,.own 704701702]),(704701701,.slice 53 5 (ml aN m_2) 0 false),(704701702,.slice 75 3 (ml aJ m_3) 0 false)]) ?_ ?_
   ·rcases az hm with⟨c3,hm⟩|⟨c3,hm⟩
    ·obtain⟨dW,h11,hm⟩:=aa hm
     rcases az hm with⟨c4,hm⟩|⟨c4,hm⟩
     ·exact qG [(1,hto (bE c3)),(4,hle [510047001,510047002,510047003,510047004] (jT h11) aco),(7,hto (bE c4)),(11,hlo 704701701 1 (ix aN h7))] [10,12,13] [(102,.bool (decide (e_1.Seq<1000000)))] [47010,510047001,510047002,47012,510047003,510047004] []<|qX (decide (e_1.Seq<1000000)) hm
     exact qG [(1,hto (bE c3)),(4,hle [510047001,510047002,510047003,510047004] (jT h11) aco),(7,hto (bE c4))] [10,12,13] [(102,.bool false)] [47010,510047001,510047002,47012,510047003,510047004] []<|qX false hm
    exact qG [(1,hto (bE c3))] [10,12,13] [(102,.bool false)] [47010,510047001,510047002,47012,510047003,510047004] []<|qX false hm
   rintro v_2 hm
   rw[hJ3]at hm
   rcases az hm with⟨c5,hm⟩|⟨c5,hm⟩
   ·refine qT c5 ?_
    obtain⟨l_1,h12,hm⟩:=aa hm
    refine qD [(3,hlo 704701701 1 (ix aN h7)),(7,hso 704701701 (st aN (off:=1) (ca:=[i6 (w64 (e_1.Seq+1))]) h7 h12 rfl) (gP h7).1.1)] [9,102] [] [704701701] [(704701701,.slice 53 5 (ml aN l_1) 0 false)] ?_
    obtain⟨bJ,h13,hm⟩:=aa hm
    exact qG [(2,hdc [520047005,520047006] (SC.at [(505009200,704701701),(505009202,704701702),(900000097,47017),(505009201,520047005),(505009203,520047006)] (gN h13)) agB)] [8] [] [47017,704701701,704701702] [(47017,.cells 97 [lf aC bJ.f_.Links,.own 520047005,.own 520047006]),(520047005,.slice 53 5 (ml aN bJ.f_.aA) 0 false),(520047006,.slice 75 3 (ml aJ bJ.f_.aq) 0 false)]<|Exists.intro (bJ.f_.Links,bJ.f_.aA,bJ.f_.aq) (And.intro hm (bA.go [.sw 520047005 704701701,.sw 520047006 704701702] [] (by kernel_rfl)))
   exact qF c5<|A.skip<|qX (m_1,m_2,m_3) hm
  rintro⟨m_4,m_5,m_6⟩ hm
  rw[hJ2]at hm
  exact qGs [(0,hto (inc hx1 hb1))] [58] [(58,i6 ((j1+1:Nat):Int))]<|qX (m_4,m_5,m_6) hm
 rintro j1 ⟨m_1,m_2,m_3⟩ hj1 hl1 hm
 rw[hK1]at hm
 refine qDs [] [] [(59,.bool (decide ((j1:Int)<(ah.aA.length:Int))))]<|A.seq<|qF (ltF hl1)<|A.exit<|qD [] [2,6,57,58,59] [(5,i6 0)] [47002,47004,47017] [(47004,.cells 27 [lf aC m_1,.own 704701701,.own 704701702])]<|A.ret ?_
 obtain rfl:=some_inj hm
 exact A.fin W0 [.fz [704701701,704701702]] rfl (by kernel_rfl)
theorem tw(hm:gY f=some r):RO prog 15 [] [.agg (k12 f)] (.tup [.agg (k12 r.1),i6 r.2]):=by
 refine aZ func15 rfl rfl ?_
 unfold gY at hm
 refine qS [(0,.al 15001),(1,.al 15002)] [(1,.ptr 15001 0),(2,.ptr 15002 0)] [(15001,.cells 27 (k12 f)),(15002,.cells 27 [.aH,.aH,.aH])]<|A.seq ?_
 obtain⟨ah,h1,hm⟩:=aa hm
 refine qDs [(1,hro (dG h1) uN)] [] [(9,.bool (!decide (ah=0)))] ?_
 rcases az hm with⟨c1,hm⟩|⟨c1,hm⟩
 ·refine qT c1<|qD [] [1,9] [(3,i6 1)] [15001] [] ?_
  cases hm
  exact A.ret qE
 refine qF c1<|A.skip ?_
 obtain⟨aD,h2,hm⟩:=aa hm
 refine qD [(1,hdc [500006300,500006301,500006302] (iJ h2) acn),(3,.al 15014)] [1,9] [(4,.ptr 15014 0)] [15001] [(500006300,.slice 86 5 (ml aC aD.Links) 0 false),(500006301,.slice 53 5 (ml aN aD.aA) 0 false),(500006302,.slice 75 3 (ml aJ aD.aq) 0 false),(15014,.cells 97 [.own 500006300,.own 500006301,.own 500006302])]<|A.seq<|qD [(1,hmk),(3,hmk),(5,hmk),(6,hbsC W0 15021),(7,hlnC W0)] [] [(21,.hnd (.csl 3) 15021),(22,i6 3),(23,i6 0)] [] [(15021,.cells 1 [.hnd (.jD 64) 15014,.hnd (.jD 65) 15014,.hnd (.jD 64) 15014])]<|A.block<|A.aoK 4<|A.rnd<|qS [] [(2,.ptr 15002 0),(4,.ptr 15014 0),(21,.hnd (.csl 3) 15021),(22,i6 3),(23,i6 0),(24,.bool true)] [(15002,.cells 27 [.aH,.aH,.aH]),(500006300,.slice 86 5 (ml aC aD.Links) 0 false),(500006301,.slice 53 5 (ml aN aD.aA) 0 false),(500006302,.slice 75 3 (ml aJ aD.aq) 0 false),(15014,.cells 97 [.own 500006300,.own 500006301,.own 500006302]),(15021,.cells 1 [.hnd (.jD 64) 15014,.hnd (.jD 65) 15014,.hnd (.jD 64) 15014])]<|A.seq<|A.cT rfl rfl<|A.skip<|A.seq<|A.block<|qDs [(0,ai9 W0)] [24] [(6,.hnd (.jD 64) 15014)] ?_
 obtain⟨aP,h3,hm⟩:=aa hm
 refine A.R W0 [.fz [500006300],.sc 15014 [15002,500006301,500006302,15014,15021]] [(1,hdm [520015001,520015002] (SC.at [(505006400,500006301),(505006402,500006302),(900000097,15014),(505006401,520015001),(505006403,520015002)] (oo h3)) apD)] [(2,.ptr 15002 0),(4,.ptr 15014 0),(21,.hnd (.csl 3) 15021),(22,i6 3),(23,i6 0)] [(15002,.cells 27 [.aH,.aH,.aH]),(15014,.cells 97 [lf aC aP.f_.Links,.own 520015001,.own 520015002]),(15021,.cells 1 [.hnd (.jD 64) 15014,.hnd (.jD 65) 15014,.hnd (.jD 64) 15014]),(520015001,.slice 53 5 (ml aN aP.f_.aA) 0 false),(520015002,.slice 75 3 (ml aJ aP.f_.aq) 0 false)] (by kernel_rfl)<|qR [] [(2,.ptr 15002 0),(4,.ptr 15014 0),(21,.hnd (.csl 3) 15021),(22,i6 3),(23,i6 1)] [(15002,.cells 27 [.aH,.aH,.aH]),(15014,.cells 97 [lf aC aP.f_.Links,.own 520015001,.own 520015002]),(15021,.cells 1 [.hnd (.jD 64) 15014,.hnd (.jD 65) 15014,.hnd (.jD 64) 15014]),(520015001,.slice 53 5 (ml aN aP.f_.aA) 0 false),(520015002,.slice 75 3 (ml aJ aP.f_.aq) 0 false)] ?_
 show rZ _ _ _ _ _ _
 refine A.rnd<|qS [] [(2,.ptr 15002 0),(4,.ptr 15014 0),(21,.hnd (.csl 3) 15021),(22,i6 3),(23,i6 1),(24,.bool true)] [(15002,.cells 27 [.aH,.aH,.aH]),(15014,.cells 97 [lf aC aP.f_.Links,.own 520015001,.own 520015002]),(15021,.cells 1 [.hnd (.jD 64) 15014,.hnd (.jD 65) 15014,.hnd (.jD 64) 15014]),(520015001,.slice 53 5 (ml aN aP.f_.aA) 0 false),(520015002,.slice 75 3 (ml aJ aP.f_.aq) 0 false)] ?_
 refine A.seq<|A.cT rfl rfl ?_
 refine A.skip<|A.seq ?_
 refine A.block<|qDs [(0,ai9 W0)] [24] [(6,.hnd (.jD 65) 15014)] ?_
 obtain⟨bt,h4,hm⟩:=aa hm
 refine qG [(1,hdm [520015003,520015004] (SC.at [(505006500,520015001),(505006502,520015002),(900000097,15014),(505006501,520015003),(505006503,520015004)] (th h4)) ck65)] [6] [] [15014,520015001,520015002] [(15014,.cells 97 [lf aC bt.f_.Links,.own 520015003,.own 520015004]),(520015003,.slice 53 5 (ml aN bt.f_.aA) 0 false),(520015004,.slice 75 3 (ml aJ bt.f_.aq) 0 false)]<|qGs [] [23] [(23,i6 2)] ?_
 show rZ _ _ _ _ _ _
 refine A.rnd<|qS [] [(2,.ptr 15002 0),(4,.ptr 15014 0),(21,.hnd (.csl 3) 15021),(22,i6 3),(23,i6 2),(24,.bool true)] [(15002,.cells 27 [.aH,.aH,.aH]),(15014,.cells 97 [lf aC bt.f_.Links,.own 520015003,.own 520015004]),(15021,.cells 1 [.hnd (.jD 64) 15014,.hnd (.jD 65) 15014,.hnd (.jD 64) 15014]),(520015003,.slice 53 5 (ml aN bt.f_.aA) 0 false),(520015004,.slice 75 3 (ml aJ bt.f_.aq) 0 false)] ?_
 refine A.seq<|A.cT rfl rfl ?_
 refine A.skip<|A.seq ?_
 refine A.block<|qDs [(0,ai9 W0)] [24] [(6,.hnd (.jD 64) 15014)] ?_
 obtain⟨bL,h5,hm⟩:=aa hm
 refine qG [(1,hdm [520015005,520015006] (SC.at [(505006400,520015003),(505006402,520015004),(900000097,15014),(505006401,520015005),(505006403,520015006)] (oo h5)) apD)] [6] [] [15014,520015003,520015004] [(15014,.cells 97 [lf aC bL.f_.Links,.own 520015005,.own 520015006]),(520015005,.slice 53 5 (ml aN bL.f_.aA) 0 false),(520015006,.slice 75 3 (ml aJ bL.f_.aq) 0 false)]<|qGs [] [23] [(23,i6 3)] ?_
 show rZ _ _ _ _ _ _
 refine A.rnd<|qS [] [(2,.ptr 15002 0),(4,.ptr 15014 0),(21,.hnd (.csl 3) 15021),(22,i6 3),(23,i6 3),(24,.bool false)] [(15002,.cells 27 [.aH,.aH,.aH]),(15014,.cells 97 [lf aC bL.f_.Links,.own 520015005,.own 520015006]),(15021,.cells 1 [.hnd (.jD 64) 15014,.hnd (.jD 65) 15014,.hnd (.jD 64) 15014]),(520015005,.slice 53 5 (ml aN bL.f_.aA) 0 false),(520015006,.slice 75 3 (ml aJ bL.f_.aq) 0 false)] ?_
 refine A.seq<|A.cF rfl rfl ?_
 refine A.exit<|qD [] [4,21,22,23,24] [(3,i6 0)] [15002,15014,15021] [(15002,.cells 27 [lf aC bL.f_.Links,.own 520015005,.own 520015006])] ?_
 refine A.ret ?_
 obtain rfl:=some_inj hm
 exact A.fin W0 [.fz [520015005,520015006]] rfl (by kernel_rfl)
theorem sX{n:Int}{r:Int}(hm:jy n=some r):RO prog 21 [] [i6 n] (i6 r):=by
 refine aZ func21 rfl rfl ?_
 unfold jy at hm
 refine qS [] [(0,i6 n)] []<|qS [] [(2,i6 (w64 ((2:Int)*(if(1099511627776:Int)<(if(0:Int)>n then(0:Int)else n)then(1099511627776:Int)else(if(0:Int)>n then(0:Int)else n)))))] [] ?_
 cases hm
 exact A.ret qE
end Go.Proofs.YtjdopimopgpagaaGreat
