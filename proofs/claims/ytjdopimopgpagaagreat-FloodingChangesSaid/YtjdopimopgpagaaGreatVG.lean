/- The ew of cA of the program. No condition but bM bw stand in each. -/
import Derived.Test.YtjdopimopgpagaaGreatVM
namespace Go.Proofs.YtjdopimopgpagaaGreat
open Go Go.Proofs.Tryz
set_option maxRecDepth 100000
set_option linter.all false
variable {aN:Int}{f:aB}
theorem vP{r:aV×Int×Int}(hm:oy f aN=some r):bP prog 91 [] [.agg (k12 f),i6 aN] (λa σ'=>a=.tup [.ptr 900000097 0,i6 r.2.1,i6 r.2.2]∧σ'=[(507009100,.slice 53 5 (ml aL r.1.f_.aF) 0 false),(507009101,.slice 75 3 (ml aJ r.1.f_.ay) 0 false),(900000097,.cells 97 [lf az r.1.f_.Links,.own 507009100,.own 507009101])]):=by
 refine aZ func91 rfl rfl ?_
 unfold oy at hm
 refine qS [(0,.al 91002)] [(1,i6 aN),(2,.ptr 91002 0)] [(91002,.cells 27 (k12 f))]<|A.seq ?_
 obtain⟨af,h1,hm⟩:=aa hm
 refine qDs [(1,hro (ez h1) xH)] [] [(11,.bool (!decide (af=0)))] ?_
 rcases aq hm with⟨c1,hm⟩|⟨c1,hm⟩
 ·refine qT c1<|qS [] [(4,.jT),(5,i6 0),(6,i6 1)] []<|A.ret ?_
  cases hm
 refine qF c1<|A.skip ?_
 obtain⟨aD,h2,hm⟩:=aa hm
 refine qDs [(2,hro (kf h2) ad6)] [1,11] [(7,i6 aD.1),(8,.bool aD.2)]<|A.seq<|qDs [] [8] [(19,.bool (!aD.2))] ?_
 rcases aq hm with⟨c2,hm⟩|⟨c2,hm⟩
 ·refine qT c2<|qS [] [(4,.jT),(5,i6 0),(6,i6 4)] []<|A.ret ?_
  cases hm
 refine qF c2<|A.skip ?_
 obtain⟨aP,h3,hm⟩:=aa hm
 refine qS [(1,hdc [500006300,500006301,500006302] (lV h3) af8),(3,.al 91023)] [(4,.ptr 91023 0),(5,i6 aD.1),(6,i6 0)] [(500006300,.slice 86 5 (ml az aP.Links) 0 false),(500006301,.slice 53 5 (ml aL aP.aF) 0 false),(500006302,.slice 75 3 (ml aJ aP.ay) 0 false),(91023,.cells 97 [.own 500006300,.own 500006301,.own 500006302])]<|A.ret ?_
 obtain rfl:=some_inj hm
 exact A.fin W0 [.fz [500006300],.sw 91023 900000097,.sw 500006301 507009100,.sw 500006302 507009101,.sc 900000097 [507009100,507009101]] rfl (by kernel_rfl)
theorem wC{r:Int×Int}(hm:oV f aN=some r):RO prog 91 [] [.agg (k12 f),i6 aN] (.tup [.jT,i6 r.1,i6 r.2]):=by
 refine aZ func91 rfl rfl ?_
 unfold oV at hm
 refine qS [(0,.al 91002)] [(1,i6 aN),(2,.ptr 91002 0)] [(91002,.cells 27 (k12 f))]<|A.seq ?_
 obtain⟨af,h1,hm⟩:=aa hm
 refine qDs [(1,hro (ez h1) xH)] [] [(11,.bool (!decide (af=0)))] ?_
 rcases aq hm with⟨c1,hm⟩|⟨c1,hm⟩
 ·refine qT c1<|qS [] [(4,.jT),(5,i6 0),(6,i6 1)] [] ?_
  cases hm
  exact A.ret qE
 refine qF c1<|A.skip ?_
 obtain⟨aD,h2,hm⟩:=aa hm
 refine qDs [(2,hro (kf h2) ad6)] [1,11] [(7,i6 aD.1),(8,.bool aD.2)]<|A.seq<|qDs [] [8] [(19,.bool (!aD.2))] ?_
 rcases aq hm with⟨c2,hm⟩|⟨c2,hm⟩
 ·refine qT c2<|qS [] [(4,.jT),(5,i6 0),(6,i6 4)] [] ?_
  cases hm
  exact A.ret qE
 refine qF c2<|A.skip ?_
 obtain⟨aP,h3,hm⟩:=aa hm
 refine qS [(1,hdc [500006300,500006301,500006302] (lV h3) af8),(3,.al 91023)] [(4,.ptr 91023 0),(5,i6 aD.1),(6,i6 0)] [(500006300,.slice 86 5 (ml az aP.Links) 0 false),(500006301,.slice 53 5 (ml aL aP.aF) 0 false),(500006302,.slice 75 3 (ml aJ aP.ay) 0 false),(91023,.cells 97 [.own 500006300,.own 500006301,.own 500006302])]<|A.ret ?_
 cases hm
variable {c_0:aA}
theorem w5{oa0:gy}{r:Bool}(hm:pP oa0 c_0=some r):RO prog 146 [] [.agg (k11 oa0),.dU (k2 c_0)] (.bool r):=by
 refine aZ func146 rfl rfl ?_
 unfold pP at hm
 refine qS [(0,.al 146002)] [(1,.dU (k2 c_0)),(2,.ptr 146002 0)] [(146002,.cells 164 (k11 oa0))] ?_
 obtain⟨af,h1,hm⟩:=aa hm
 refine qS [(3,hro (gV h1) xI)] [(3,.bool (!af))] [] ?_
 cases hm
 exact A.ret qE
variable {r:aB×Int}
theorem yA{t:aA}{cM:List gy}(hm:rA t cM=some r):RO prog 96 [] [.agg (k2 t),lf eD cM] (.tup [.agg (k12 r.1),i6 r.2]):=by
 refine aZ func96 rfl rfl ?_
 unfold rA at hm
 refine qS [(0,.al 96002),(1,.al 96004)] [(1,lf eD cM),(2,.ptr 96002 0),(4,.ptr 96004 0)] [(96002,.cells 45 (k2 t)),(96004,.cells 27 [.aI,.aI,.aI])]<|A.seq ?_
 obtain⟨af,h1,hm⟩:=aa hm
 refine qDs [(1,hro (jx h1) ad5)] [] [(15,.bool (!decide (af=0)))] ?_
 rcases aq hm with⟨c1,hm⟩|⟨c1,hm⟩
 ·refine qT c1<|qD [] [1,2,15] [(5,i6 1)] [96002] [] ?_
  cases hm
  exact A.ret qE
 refine qF c1<|A.skip<|A.seq ?_
 obtain⟨aD,h2,hm⟩:=aa hm
 refine qDs [(2,hle [96002] (mG (f_g:=146) (f_c:=[.dU (k2 t)]) (f_k:=asJ) (f_f:=λ_ _ h=>w5 h) h2) asI)] [15] [(19,.bool aD)] ?_
 rcases aq hm with⟨c2,hm⟩|⟨c2,hm⟩
 ·refine qT c2<|qD [] [1,2,19] [(5,i6 4)] [96002] [] ?_
  cases hm
  exact A.ret qE
 refine qF c2<|A.skip<|A.seq<|qDs [(1,hto (lnE eD cM))] [19] [(22,i6 (cM.length:Int)),(23,i6 0)]<|A.block<|A.bS 1 rfl λhb1=>?_
 obtain⟨B1,K1,hB1,hK1,hm⟩:=bu hm
 refine A.lpI (l:=cM) (j0:=0) (B:=B1) (K:=K1) hm (λj1=>λ()=>[(1,lf eD cM),(2,.ptr 96002 0),(4,.ptr 96004 0),(22,i6 (cM.length:Int)),(23,i6 (j1:Int))]) (λj1=>λ()=>[(96002,.cells 45 (k2 t)),(96004,.cells 27 [.aI,.aI,.aI])]) ?_ ?_ ?_
 ·exact qW
 ·rintro j1 e1 Z1 ⟨⟩ hj1 hx1 hm
  rw[hB1]at hm
  refine qDs [] [] [(24,.bool (decide ((j1:Int)<(cM.length:Int))))]<|A.seq<|qT (ltT hx1)<|A.skip<|A.seq<|A.block<|qDs [] [24] [(6,i6 (j1:Int))] ?_
  obtain⟨J1,hJ1,hm⟩:=bI hm
  refine A.J (J:=J1) (r:=r) (λv_1=>[(1,lf eD cM),(2,.ptr 96002 0),(4,.ptr 96004 0),(22,i6 (cM.length:Int)),(23,i6 (j1:Int)),(58,.bool v_1)]) (λv_1=>[(96002,.cells 45 (k2 t)),(96004,.cells 27 [.aI,.aI,.aI])]) ?_ ?_
  ·rcases aq hm with⟨c3,hm⟩|⟨c3,hm⟩
   ·obtain⟨e_1,h3,hm⟩:=aa hm
    obtain⟨aP,h4,hm⟩:=aa hm
    obtain⟨bt,h5,hm⟩:=aa hm
    obtain⟨bF,h6,hm⟩:=aa hm
    exact qGs [(2,hto (bE c3)),(6,hix (ix eD h3)),(11,hix (ix eD (bf hx1))),(14,hro (gI h4) zM),(18,hix (ix eD h3)),(24,hix (ix eD (bf hx1))),(28,hro (gI h5) zM),(30,hro (vY h6) aj2)] [6] [(58,.bool (decide (0≤bF)))]<|qX (decide (0≤bF)) hm
   exact qGs [(2,hto (bE c3))] [6] [(58,.bool false)]<|qX false hm
  rintro v_1 hm
  rw[hJ1]at hm
  rcases aq hm with⟨c4,hm⟩|⟨c4,hm⟩
  ·refine qT c4<|qD [] [1,2,22,23,58] [(5,i6 25)] [96002] [] ?_
   cases hm
   exact A.ret qE
  exact qF c4<|A.skip<|qGs [(0,hto (inc hx1 hb1))] [23,58] [(23,i6 ((j1+1:Nat):Int))]<|qX () hm
 rintro j1 ⟨⟩ hj1 hl1 hm
 rw[hK1]at hm
 refine qDs [] [] [(24,.bool (decide ((j1:Int)<(cM.length:Int))))]<|A.seq<|qF (ltF hl1)<|A.exit ?_
 obtain⟨cg,h7,hm⟩:=aa hm
 refine qD [(2,hdc [500008800] (eV h7) aga),(4,.al 96007)] [22,23,24] [(7,.ptr 96007 0)] [] [(500008800,.slice 86 5 (ml az cg) 0 false),(96007,.cells 27 [.own 500008800,.aI,.aI])]<|A.seq<|qD [(2,hto (lnE aU t.aH))] [2] [(66,lf aU t.aH),(67,i6 (t.aH.length:Int)),(68,i6 0)] [96002] []<|A.block<|A.bS 66 rfl λhb2=>?_
 obtain⟨B2,K2,hB2,hK2,hm⟩:=bu hm
 refine A.lpI (l:=t.aH) (j0:=0) (B:=B2) (K:=K2) hm (λj2=>λm_1=>[(1,lf eD cM),(4,.ptr 96004 0),(7,.ptr 96007 0),(66,lf aU t.aH),(67,i6 (t.aH.length:Int)),(68,i6 (j2:Int))]) (λj2=>λm_1=>[(96004,.cells 27 [.aI,.aI,.aI]),(500008800,.slice 86 5 (ml az cg) 0 false),(96007,.cells 27 [.own 500008800,.own 709600701,.aI]),(709600701,.slice 53 5 (ml aL m_1) 0 false)]) ?_ ?_ ?_
 ·exact bz.go [.ac 96007 709600701 53 5 1] [] (by kernel_rfl)
 ·rintro j2 e2 Z2 m_1 hj2 hx2 hm
  rw[hB2]at hm
  refine qDs [] [] [(69,.bool (decide ((j2:Int)<(t.aH.length:Int))))]<|A.seq<|qT (ltT hx2)<|A.skip<|A.seq<|A.block<|qD [(0,hix (ix aU (bf hx2))),(2,.al 96009)] [69] [(9,.ptr 96009 0)] [] [(96009,.cells 93 (k0 e2))]<|qD [(5,.al 96010)] [] [(10,.ptr 96010 0)] [] [(96010,.cells 53 [i6 e2.ID,i6 0,.bool e2.aX,.aI,.aI])]<|A.seq<|qDs [(1,hto (lnE eD cM))] [] [(77,lf eD cM),(78,i6 (cM.length:Int)),(79,i6 0)]<|A.block<|A.bS 1 rfl λhb3=>?_
  obtain⟨B3,K3,hB3,hK3,hm⟩:=bu hm
  refine A.lpI (l:=cM) (j0:=0) (B:=B3) (K:=K3) hm (λj3=>λm_2=>[(1,lf eD cM),(4,.ptr 96004 0),(7,.ptr 96007 0),(9,.ptr 96009 0),(10,.ptr 96010 0),(66,lf aU t.aH),(67,i6 (t.aH.length:Int)),(68,i6 (j2:Int)),(77,lf eD cM),(78,i6 (cM.length:Int)),(79,i6 (j3:Int))]) (λj3=>λm_2=>[(96004,.cells 27 [.aI,.aI,.aI]),(500008800,.slice 86 5 (ml az cg) 0 false),(96007,.cells 27 [.own 500008800,.own 709600701,.aI]),(709600701,.slice 53 5 (ml aL m_1) 0 false),(96009,.cells 93 (k0 e2)),(96010,.cells 53 [i6 e2.ID,i6 0,.bool e2.aX,.own 709601003,.aI]),(709601003,.slice 91 3 (ml bg m_2) 0 false)]) ?_ ?_ ?_
  ·exact bz.go [.ac 96010 709601003 91 3 3] [] (by kernel_rfl)
  ·rintro j3 e3 Z3 m_2 hj3 hx3 hm
   rw[hB3]at hm
   refine qDs [] [] [(80,.bool (decide ((j3:Int)<(cM.length:Int))))]<|A.seq<|qT (ltT hx3)<|A.skip ?_
   obtain⟨J2,hJ2,hm⟩:=bI hm
   refine A.J (J:=J2) (r:=r) (λm_3=>[(1,lf eD cM),(4,.ptr 96004 0),(7,.ptr 96007 0),(9,.ptr 96009 0),(10,.ptr 96010 0),(66,lf aU t.aH),(67,i6 (t.aH.length:Int)),(68,i6 (j2:Int)),(77,lf eD cM),(78,i6 (cM.length:Int)),(79,i6 (j3:Int))]) (λm_3=>[(96004,.cells 27 [.aI,.aI,.aI]),(500008800,.slice 86 5 (ml az cg) 0 false),(96007,.cells 27 [.own 500008800,.own 709600701,.aI]),(709600701,.slice 53 5 (ml aL m_1) 0 false),(96009,.cells 93 (k0 e2)),(96010,.cells 53 [i6 e2.ID,i6 0,.bool e2.aX,.own 709601003,.aI]),(709601003,.slice 91 3 (ml bg m_3) 0 false)]) ?_ ?_
   ·refine A.block<|qD [(0,hix (ix eD (bf hx3))),(2,.al 96012)] [80] [(12,.ptr 96012 0)] [] [(96012,.cells 164 (k11 e3))] ?_
    refine qDs [] [] [(87,.bool (decide (e3.ah=e2.ID)))] ?_
    rcases aq hm with⟨c5,hm⟩|⟨c5,hm⟩
    ·refine qT c5 ?_
     obtain⟨l_1,h8,hm⟩:=aa hm
     exact qG [(5,hap 96593 (ap bg (bytes:=24) (by decide) h8))] [12,87] [] [96010,709601003,96012] [(96010,.cells 53 [i6 e2.ID,i6 0,.bool e2.aX,.own 96593,.aI]),(96593,.slice 91 3 (ml bg l_1) 0 false)]<|Exists.intro l_1 (And.intro hm (bz.go [.sw 96593 709601003] [] (by kernel_rfl)))
    exact qF c5<|A.skip<|qX m_2 hm
   rintro m_3 hm
   rw[hJ2]at hm
   exact qGs [(0,hto (inc hx3 hb3))] [79] [(79,i6 ((j3+1:Nat):Int))]<|qX m_3 hm
  rintro j3 m_2 hj3 hl3 hm
  rw[hK3]at hm
  refine qDs [] [] [(80,.bool (decide ((j3:Int)<(cM.length:Int))))]<|A.seq<|qF (ltF hl3)<|A.exit ?_
  obtain⟨l_2,h9,hm⟩:=aa hm
  exact A.R W0 [.fz [709601003],.sc 96010 [96004,500008800,96007,709600701,96009,96010]] [(4,hap 96600 (ap aL (bytes:=72) (by decide) h9))] [(1,lf eD cM),(4,.ptr 96004 0),(7,.ptr 96007 0),(66,lf aU t.aH),(67,i6 (t.aH.length:Int)),(68,i6 (j2:Int))] [(96004,.cells 27 [.aI,.aI,.aI]),(500008800,.slice 86 5 (ml az cg) 0 false),(96007,.cells 27 [.own 500008800,.own 96600,.aI]),(96600,.slice 53 5 (ml aL l_2) 0 false)] (by kernel_rfl)<|qR [(0,hto (inc hx2 hb2))] [(1,lf eD cM),(4,.ptr 96004 0),(7,.ptr 96007 0),(66,lf aU t.aH),(67,i6 (t.aH.length:Int)),(68,i6 ((j2+1:Nat):Int))] [(96004,.cells 27 [.aI,.aI,.aI]),(500008800,.slice 86 5 (ml az cg) 0 false),(96007,.cells 27 [.own 500008800,.own 96600,.aI]),(96600,.slice 53 5 (ml aL l_2) 0 false)]<|Exists.intro l_2 (And.intro hm (bz.go [.sw 96600 709600701] [] (by kernel_rfl)))
 rintro j2 m_1 hj2 hl2 hm
 rw[hK2]at hm
 refine qDs [] [] [(69,.bool (decide ((j2:Int)<(t.aH.length:Int))))]<|A.seq<|qF (ltF hl2)<|A.exit<|A.seq ?_
 obtain⟨cw,h10,hm⟩:=aa hm
 refine qDs [(1,hle [500008800,709600701] (ez h10) xH)] [1,66,67,68,69] [(105,.bool (!decide (cw=0)))] ?_
 rcases aq hm with⟨c6,hm⟩|⟨c6,hm⟩
 ·refine qT c6<|qD [] [7,105] [(5,i6 1)] [500008800,96007,709600701] [] ?_
  cases hm
  exact A.ret qE
 refine qF c6<|A.skip<|qD [] [7,105] [(5,i6 0)] [96004,96007] [(96004,.cells 27 [.own 500008800,.own 709600701,.aI])]<|A.ret ?_
 obtain rfl:=some_inj hm
 exact A.fin W0 [.fz [500008800,709600701]] rfl (by kernel_rfl)
theorem qj(hm:lu f aN=some r):bP prog 37 [] [.agg (k12 f),i6 aN] (λa σ'=>a=.tup [.agg [lf az r.1.Links,.own 500003700,.own 500003701],i6 r.2]∧σ'=[(500003700,.slice 53 5 (ml aL r.1.aF) 0 false),(500003701,.slice 75 3 (ml aJ r.1.ay) 0 false)]):=by
 refine aZ func37 rfl rfl ?_
 unfold lu at hm
 refine qS [(0,.al 37002),(1,.al 37004)] [(1,i6 aN),(2,.ptr 37002 0),(4,.ptr 37004 0)] [(37002,.cells 27 (k12 f)),(37004,.cells 27 [.aI,.aI,.aI])] ?_
 rcases aio hm with⟨af,h1,hm⟩|hm
 ·refine qS [(2,hdc [900000097,507009100,507009101] (vP h1) apf)] [(4,.ptr 37004 0),(6,.ptr 900000097 0),(7,i6 af.2.1),(8,i6 af.2.2)] [(37004,.cells 27 [.aI,.aI,.aI]),(507009100,.slice 53 5 (ml aL af.1.f_.aF) 0 false),(507009101,.slice 75 3 (ml aJ af.1.f_.ay) 0 false),(900000097,.cells 97 [lf az af.1.f_.Links,.own 507009100,.own 507009101])]<|A.seq<|qDs [] [] [(17,.bool (!decide (af.2.2=0)))] ?_
  rcases aq hm with⟨c1,hm⟩|⟨c1,hm⟩
  ·refine qT c1<|qD [] [6,7,8,17] [(5,i6 af.2.2)] [507009100,507009101,900000097] []<|A.ret ?_
   obtain rfl:=some_inj hm
   exact A.fin W0 [.ac 37004 500003700 53 5 1,.ac 37004 500003701 75 3 2] rfl (by kernel_rfl)
  refine qF c1<|A.skip<|A.seq ?_
  obtain⟨e_1,h2,hm⟩:=aa hm
  refine qDs [(6,hix (ix aL h2)),(8,hlo 507009100 1 (ix aL h2))] [8,17] [(29,.bool (decide (e_1.Seq=1000000)))] ?_
  rcases aq hm with⟨c2,hm⟩|⟨c2,hm⟩
  ·refine qT c2<|qD [] [6,7,29] [(5,i6 7)] [507009100,507009101,900000097] []<|A.ret ?_
   obtain rfl:=some_inj hm
   exact A.fin W0 [.ac 37004 500003700 53 5 1,.ac 37004 500003701 75 3 2] rfl (by kernel_rfl)
  refine qF c2<|A.skip ?_
  obtain⟨l_1,h3,hm⟩:=aa hm
  refine qD [(6,hix (ix aL h2)),(8,hlo 507009100 1 (ix aL h2)),(10,hix (ix aL h2)),(12,hso 507009100 (st aL (off:=1) (ca:=[i6 (w64 (e_1.Seq+1))]) h2 h3 rfl) (iu h2).1.1)] [29] [] [507009100] [(507009100,.slice 53 5 (ml aL l_1) 0 false)] ?_
  obtain⟨aD,h4,hm⟩:=aa hm
  refine qD [(2,hdc [520037001,520037002] (SC.at [(505009200,507009100),(505009202,507009101),(505009201,520037001),(505009203,520037002)] (jr h4)) aiJ)] [7] [] [507009100,507009101,900000097] [(900000097,.cells 97 [lf az aD.f_.Links,.own 520037001,.own 520037002]),(520037001,.slice 53 5 (ml aL aD.f_.aF) 0 false),(520037002,.slice 75 3 (ml aJ aD.f_.ay) 0 false)]<|qD [] [6] [(5,i6 0)] [37004,900000097] [(37004,.cells 27 [lf az aD.f_.Links,.own 520037001,.own 520037002])]<|A.ret ?_
  obtain rfl:=some_inj hm
  exact A.fin W0 [.sw 520037001 500003700,.sw 520037002 500003701] rfl (by kernel_rfl)
 obtain⟨aP,h5,hm⟩:=aa hm
 refine qS [(2,hro (wC h5) apf)] [(4,.ptr 37004 0),(6,.jT),(7,i6 aP.1),(8,i6 aP.2)] [(37004,.cells 27 [.aI,.aI,.aI])]<|A.seq<|qDs [] [] [(17,.bool (!decide (aP.2=0)))] ?_
 rcases aq hm with⟨c3,hm⟩|⟨c3,hm⟩
 ·refine qT c3<|qDs [] [6,7,8,17] [(5,i6 aP.2)]<|A.ret ?_
  obtain rfl:=some_inj hm
  exact A.fin W0 [.ac 37004 500003700 53 5 1,.ac 37004 500003701 75 3 2] rfl (by kernel_rfl)
 refine qF c3<|A.skip<|A.seq ?_
 cases hm
theorem wD{xa0:aR}{r:Bool}(hm:jA xa0 c_0=some r):RO prog 101 [] [.agg (k10 xa0),.dU (k2 c_0)] (.bool r):=by
 refine aZ func101 rfl rfl ?_
 unfold jA at hm
 refine qS [(0,.al 101002)] [(1,.dU (k2 c_0)),(2,.ptr 101002 0)] [(101002,.cells 75 (k10 xa0))] ?_
 obtain⟨af,h1,hm⟩:=aa hm
 refine qS [(5,hro (tU h1) ajW)] [(5,.bool af.2)] []<|qS [] [(3,.bool (!af.2))] [] ?_
 cases hm
 exact A.ret qE
theorem xR{links:List aK}(hm:gW f links=some r):RO prog 47 [] [.agg (k12 f),lf az links] (.tup [.agg (k12 r.1),i6 r.2]):=by
 refine aZ func47 rfl rfl ?_
 unfold gW at hm
 refine qS [(0,.al 47002),(1,.al 47004)] [(1,lf az links),(2,.ptr 47002 0),(4,.ptr 47004 0)] [(47002,.cells 27 (k12 f)),(47004,.cells 27 [.aI,.aI,.aI])] ?_
 obtain⟨af,h1,hm⟩:=aa hm
 refine qD [(1,hdc [500006300,500006301,500006302] (lV h1) af8),(3,.al 47017)] [] [(6,.ptr 47017 0)] [] [(500006300,.slice 86 5 (ml az af.Links) 0 false),(500006301,.slice 53 5 (ml aL af.aF) 0 false),(500006302,.slice 75 3 (ml aJ af.ay) 0 false),(47017,.cells 97 [.own 500006300,.own 500006301,.own 500006302])] ?_
 obtain⟨aD,h2,hm⟩:=aa hm
 refine qD [(2,hdc [500008800] (eV h2) aga)] [1] [] [500006300,47017] [(47017,.cells 97 [.own 500008800,.own 500006301,.own 500006302]),(500008800,.slice 86 5 (ml az aD) 0 false)]<|A.seq ?_
 obtain⟨J1,hJ1,hm⟩:=bI hm
 refine A.J (J:=J1) (r:=r) (λv_1=>[(2,.ptr 47002 0),(4,.ptr 47004 0),(6,.ptr 47017 0),(34,.bool v_1)]) (λv_1=>[(47002,.cells 27 (k12 f)),(47004,.cells 27 [.aI,.aI,.aI]),(500006301,.slice 53 5 (ml aL af.aF) 0 false),(500006302,.slice 75 3 (ml aJ af.ay) 0 false),(47017,.cells 97 [.own 500008800,.own 500006301,.own 500006302]),(500008800,.slice 86 5 (ml az aD) 0 false)]) ?_ ?_
 ·obtain⟨aP,h3,hm⟩:=aa hm
  rcases aq hm with⟨c1,hm⟩|⟨c1,hm⟩
  ·exact qGs [(1,hro (ez h3) xH),(3,hto (bE c1))] [] [(34,.bool true)]<|qX true hm
  obtain⟨bt,h4,hm⟩:=aa hm
  exact qGs [(1,hro (ez h3) xH),(3,hto (bE c1)),(8,hle [500008800,500006301,500006302] (ez h4) xH)] [] [(34,.bool (!decide (bt=0)))]<|qX (!decide (bt=0)) hm
 rintro v_1 hm
 rw[hJ1]at hm
 rcases aq hm with⟨c2,hm⟩|⟨c2,hm⟩
 ·refine qT c2<|qS [] [(4,.ptr 47004 0),(5,i6 1)] [(47004,.cells 27 [.aI,.aI,.aI])] ?_
  cases hm
  exact A.ret qE
 refine qF c2<|A.skip ?_
 obtain⟨bF,h5,hm⟩:=aa hm
 refine qD [(4,hdl [500008800,500006301,500006302] [500003200,500003201] (fc h5) aaN ⟨jg aU (λ_=>rfl) _,jg az (λ_=>rfl) _,trivial⟩),(5,.al 47007)] [34] [(7,.ptr 47007 0)] [] [(500003200,.slice 93 2 (ml aU bF.aH) 0 false),(500003201,.slice 86 5 (ml az bF.Links) 0 false),(47007,.cells 45 [.own 500003200,.own 500003201])]<|A.weak ((bz.go (cH:=[(2,.ptr 47002 0),(4,.ptr 47004 0),(6,.ptr 47017 0),(7,.ptr 47007 0)]) (σ2:=[(47002,.cells 27 (k12 f)),(47004,.cells 27 [.aI,.aI,.aI]),(500006301,.slice 53 5 (ml aL af.aF) 0 false),(500006302,.slice 75 3 (ml aJ af.ay) 0 false),(47017,.cells 97 [.own 500008800,.own 500006301,.own 500006302]),(500008800,.slice 86 5 (ml az aD) 0 false),(500003200,.slice 93 2 (ml aU bF.aH) (ml aU bF.aH).length true),(500003201,.slice 86 5 (ml az bF.Links) (ml az bF.Links).length true),(47007,.cells 45 (k2 bF))]) [.fz [500003200,500003201],.sc 47007 []] [] (by kernel_rfl)).trans (bz.lp (T:=45) (cs:=(k2 bF)) 7 47007 (by kernel_rfl) (by kernel_rfl) (by kernel_rfl))) ?_
 obtain⟨cg,h6,hm⟩:=aa hm
 refine qS [(6,hcf),(7,hdc [500010000] (SC.at [(508010000,500006302)] (lY (we:=101) (xQ:=[.dU (k2 bF)]) (agm:=asn) (agn:=λ_ _ h=>wD h) h6)) asm)] [(2,.ptr 47002 0),(4,.ptr 47004 0),(6,.ptr 47017 0)] [(47002,.cells 27 (k12 f)),(47004,.cells 27 [.aI,.aI,.aI]),(500006301,.slice 53 5 (ml aL af.aF) 0 false),(47017,.cells 97 [.own 500008800,.own 500006301,.own 500010000]),(500008800,.slice 86 5 (ml az aD) 0 false),(500010000,.slice 75 3 (ml aJ cg) 0 false)]<|A.seq<|qDs [(5,hto (lnE aL af.aF))] [] [(57,i6 (af.aF.length:Int)),(58,i6 0)]<|A.block<|A.bD 6 1 rfl rfl rfl rfl λhb1=>?_
 obtain⟨B1,K1,hB1,hK1,hm⟩:=bu hm
 refine A.lpI (l:=af.aF) (j0:=0) (B:=B1) (K:=K1) hm (λj1=>λ(m_1,m_2,m_3)=>[(2,.ptr 47002 0),(4,.ptr 47004 0),(6,.ptr 47017 0),(57,i6 (af.aF.length:Int)),(58,i6 (j1:Int))]) (λj1=>λ(m_1,m_2,m_3)=>[(47002,.cells 27 (k12 f)),(47004,.cells 27 [.aI,.aI,.aI]),(47017,.cells 97 [lf az m_1,.own 704701701,.own 704701702]),(704701701,.slice 53 5 (ml aL m_2) 0 false),(704701702,.slice 75 3 (ml aJ m_3) 0 false)]) ?_ ?_ ?_
 ·exact bz.go [.fz [500008800],.sw 500006301 704701701,.sw 500010000 704701702,.sc 47017 [47002,47004,47017,704701701,704701702]] [] (by kernel_rfl)
 ·rintro j1 e1 Z1 ⟨m_1,m_2,m_3⟩ hj1 hx1 hm
  rw[hB1]at hm
  refine qDs [] [] [(59,.bool (decide ((j1:Int)<(af.aF.length:Int))))]<|A.seq<|qT (ltT hx1)<|A.skip ?_
  obtain⟨J2,hJ2,hm⟩:=bI hm
  refine A.J (J:=J2) (r:=r) (λ(m_4,m_5,m_6)=>[(2,.ptr 47002 0),(4,.ptr 47004 0),(6,.ptr 47017 0),(57,i6 (af.aF.length:Int)),(58,i6 (j1:Int))]) (λ(m_4,m_5,m_6)=>[(47002,.cells 27 (k12 f)),(47004,.cells 27 [.aI,.aI,.aI]),(47017,.cells 97 [lf az m_4,.own 704701701,.own 704701702]),(704701701,.slice 53 5 (ml aL m_5) 0 false),(704701702,.slice 75 3 (ml aJ m_6) 0 false)]) ?_ ?_
  ·refine A.block<|qDs [] [59] [(8,i6 (j1:Int))] ?_
   obtain⟨e_1,h7,hm⟩:=aa hm
   refine qDs [(6,hix (ix aL h7))] [] [(9,.ptr 704701701 ((j1:Int).toNat*5))] ?_
   obtain⟨e_2,h8,hm⟩:=aa hm
   obtain⟨cw,h9,hm⟩:=aa hm
   refine qD [(4,hix (ix aL h8)),(6,hdc [510047001,510047002] (SC.at [(500007000,510047001),(500007001,510047002)] (kV h9)) ad4),(10,.al 47010)] [] [(10,.ptr 47010 0)] [] [(47010,.cells 66 [i6 cw.1.ah,i6 cw.1.Seq,.bool cw.1.aX,.own 510047001,.own 510047002]),(510047001,.slice 105 3 (ml bq cw.1.Links) 0 false),(510047002,.slice 91 3 (ml bg cw.1.Claims) 0 false)] ?_
   obtain⟨cr,h10,hm⟩:=aa hm
   refine qD [(6,hlo 704701701 0 (ix aL h7)),(7,hdl [704701701,704701702] [510047003,510047004] (SC.at [(500007000,510047003),(500007001,510047004)] (kV h10)) ad4 ⟨jg bq (λ_=>rfl) _,jg bg (λ_=>rfl) _,trivial⟩),(11,.al 47012)] [] [(12,.ptr 47012 0),(13,.bool cr.2)] [] [(47012,.cells 66 [i6 cr.1.ah,i6 cr.1.Seq,.bool cr.1.aX,.own 510047003,.own 510047004]),(510047003,.slice 105 3 (ml bq cr.1.Links) 0 false),(510047004,.slice 91 3 (ml bg cr.1.Claims) 0 false)] ?_
   obtain⟨J3,hJ3,hm⟩:=bI hm
   refine A.J (J:=J3) (r:=r) (λv_2=>[(2,.ptr 47002 0),(4,.ptr 47004 0),(6,.ptr 47017 0),(8,i6 (j1:Int)),(9,.ptr 704701701 ((j1:Int).toNat*5)),(57,i6 (af.aF.length:Int)),(58,i6 (j1:Int)),(102,.bool v_2)]) (λv_2=>[(47002,.cells 27 (k12 f)),(47004,.cells 27 [.aI,.aI,.aI]),(47017,.cells 97 [lf az m_1,.own 704701701,.own 704701702]),(704701701,.slice 53 5 (ml aL m_2) 0 false),(704701702,.slice 75 3 (ml aJ m_3) 0 false)]) ?_ ?_
   ·rcases aq hm with⟨c3,hm⟩|⟨c3,hm⟩
    ·obtain⟨dJ,h11,hm⟩:=aa hm
     rcases aq hm with⟨c4,hm⟩|⟨c4,hm⟩
     ·exact qG [(1,hto (bE c3)),(4,hle [510047001,510047002,510047003,510047004] (jI h11) acd),(7,hto (bE c4)),(11,hlo 704701701 1 (ix aL h7))] [10,12,13] [(102,.bool (decide (e_1.Seq<1000000)))] [47010,510047001,510047002,47012,510047003,510047004] []<|qX (decide (e_1.Seq<1000000)) hm
     exact qG [(1,hto (bE c3)),(4,hle [510047001,510047002,510047003,510047004] (jI h11) acd),(7,hto (bE c4))] [10,12,13] [(102,.bool false)] [47010,510047001,510047002,47012,510047003,510047004] []<|qX false hm
    exact qG [(1,hto (bE c3))] [10,12,13] [(102,.bool false)] [47010,510047001,510047002,47012,510047003,510047004] []<|qX false hm
   rintro v_2 hm
   rw[hJ3]at hm
   rcases aq hm with⟨c5,hm⟩|⟨c5,hm⟩
   ·refine qT c5 ?_
    obtain⟨l_1,h12,hm⟩:=aa hm
    refine qD [(3,hlo 704701701 1 (ix aL h7)),(7,hso 704701701 (st aL (off:=1) (ca:=[i6 (w64 (e_1.Seq+1))]) h7 h12 rfl) (iu h7).1.1)] [9,102] [] [704701701] [(704701701,.slice 53 5 (ml aL l_1) 0 false)] ?_
    obtain⟨bK,h13,hm⟩:=aa hm
    exact qG [(2,hdc [520047005,520047006] (SC.at [(505009200,704701701),(505009202,704701702),(900000097,47017),(505009201,520047005),(505009203,520047006)] (jr h13)) aiJ)] [8] [] [47017,704701701,704701702] [(47017,.cells 97 [lf az bK.f_.Links,.own 520047005,.own 520047006]),(520047005,.slice 53 5 (ml aL bK.f_.aF) 0 false),(520047006,.slice 75 3 (ml aJ bK.f_.ay) 0 false)]<|Exists.intro (bK.f_.Links,bK.f_.aF,bK.f_.ay) (And.intro hm (bz.go [.sw 520047005 704701701,.sw 520047006 704701702] [] (by kernel_rfl)))
   exact qF c5<|A.skip<|qX (m_1,m_2,m_3) hm
  rintro⟨m_4,m_5,m_6⟩ hm
  rw[hJ2]at hm
  exact qGs [(0,hto (inc hx1 hb1))] [58] [(58,i6 ((j1+1:Nat):Int))]<|qX (m_4,m_5,m_6) hm
 rintro j1 ⟨m_1,m_2,m_3⟩ hj1 hl1 hm
 rw[hK1]at hm
 refine qDs [] [] [(59,.bool (decide ((j1:Int)<(af.aF.length:Int))))]<|A.seq<|qF (ltF hl1)<|A.exit<|qD [] [2,6,57,58,59] [(5,i6 0)] [47002,47004,47017] [(47004,.cells 27 [lf az m_1,.own 704701701,.own 704701702])]<|A.ret ?_
 obtain rfl:=some_inj hm
 exact A.fin W0 [.fz [704701701,704701702]] rfl (by kernel_rfl)
theorem yB(hm:rB f=some r):RO prog 15 [] [.agg (k12 f)] (.tup [.agg (k12 r.1),i6 r.2]):=by
 refine aZ func15 rfl rfl ?_
 unfold rB at hm
 refine qS [(0,.al 15001),(1,.al 15002)] [(1,.ptr 15001 0),(2,.ptr 15002 0)] [(15001,.cells 27 (k12 f)),(15002,.cells 27 [.aI,.aI,.aI])]<|A.seq ?_
 obtain⟨af,h1,hm⟩:=aa hm
 refine qDs [(1,hro (ez h1) xH)] [] [(9,.bool (!decide (af=0)))] ?_
 rcases aq hm with⟨c1,hm⟩|⟨c1,hm⟩
 ·refine qT c1<|qD [] [1,9] [(3,i6 1)] [15001] [] ?_
  cases hm
  exact A.ret qE
 refine qF c1<|A.skip ?_
 obtain⟨aD,h2,hm⟩:=aa hm
 refine qD [(1,hdc [500006300,500006301,500006302] (lV h2) af8),(3,.al 15014)] [1,9] [(4,.ptr 15014 0)] [15001] [(500006300,.slice 86 5 (ml az aD.Links) 0 false),(500006301,.slice 53 5 (ml aL aD.aF) 0 false),(500006302,.slice 75 3 (ml aJ aD.ay) 0 false),(15014,.cells 97 [.own 500006300,.own 500006301,.own 500006302])]<|A.seq<|qD [(1,hmk),(3,hmk),(5,hmk),(6,hbsC W0 15021),(7,hlnC W0)] [] [(21,.hnd (.csl 3) 15021),(22,i6 3),(23,i6 0)] [] [(15021,.cells 1 [.hnd (.jm 64) 15014,.hnd (.jm 65) 15014,.hnd (.jm 64) 15014])]<|A.block<|A.aog 4<|A.rnd<|qS [] [(2,.ptr 15002 0),(4,.ptr 15014 0),(21,.hnd (.csl 3) 15021),(22,i6 3),(23,i6 0),(24,.bool true)] [(15002,.cells 27 [.aI,.aI,.aI]),(500006300,.slice 86 5 (ml az aD.Links) 0 false),(500006301,.slice 53 5 (ml aL aD.aF) 0 false),(500006302,.slice 75 3 (ml aJ aD.ay) 0 false),(15014,.cells 97 [.own 500006300,.own 500006301,.own 500006302]),(15021,.cells 1 [.hnd (.jm 64) 15014,.hnd (.jm 65) 15014,.hnd (.jm 64) 15014])]<|A.seq<|A.cT rfl rfl<|A.skip<|A.seq<|A.block<|qDs [(0,aiF W0)] [24] [(6,.hnd (.jm 64) 15014)] ?_
 obtain⟨aP,h3,hm⟩:=aa hm
 refine A.R W0 [.fz [500006300],.sc 15014 [15002,500006301,500006302,15014,15021]] [(1,hdm [520015001,520015002] (SC.at [(505006400,500006301),(505006402,500006302),(900000097,15014),(505006401,520015001),(505006403,520015002)] (nR h3)) apb)] [(2,.ptr 15002 0),(4,.ptr 15014 0),(21,.hnd (.csl 3) 15021),(22,i6 3),(23,i6 0)] [(15002,.cells 27 [.aI,.aI,.aI]),(15014,.cells 97 [lf az aP.f_.Links,.own 520015001,.own 520015002]),(15021,.cells 1 [.hnd (.jm 64) 15014,.hnd (.jm 65) 15014,.hnd (.jm 64) 15014]),(520015001,.slice 53 5 (ml aL aP.f_.aF) 0 false),(520015002,.slice 75 3 (ml aJ aP.f_.ay) 0 false)] (by kernel_rfl)<|qR [] [(2,.ptr 15002 0),(4,.ptr 15014 0),(21,.hnd (.csl 3) 15021),(22,i6 3),(23,i6 1)] [(15002,.cells 27 [.aI,.aI,.aI]),(15014,.cells 97 [lf az aP.f_.Links,.own 520015001,.own 520015002]),(15021,.cells 1 [.hnd (.jm 64) 15014,.hnd (.jm 65) 15014,.hnd (.jm 64) 15014]),(520015001,.slice 53 5 (ml aL aP.f_.aF) 0 false),(520015002,.slice 75 3 (ml aJ aP.f_.ay) 0 false)] ?_
 show rI _ _ _ _ _ _
 refine A.rnd<|qS [] [(2,.ptr 15002 0),(4,.ptr 15014 0),(21,.hnd (.csl 3) 15021),(22,i6 3),(23,i6 1),(24,.bool true)] [(15002,.cells 27 [.aI,.aI,.aI]),(15014,.cells 97 [lf az aP.f_.Links,.own 520015001,.own 520015002]),(15021,.cells 1 [.hnd (.jm 64) 15014,.hnd (.jm 65) 15014,.hnd (.jm 64) 15014]),(520015001,.slice 53 5 (ml aL aP.f_.aF) 0 false),(520015002,.slice 75 3 (ml aJ aP.f_.ay) 0 false)] ?_
 refine A.seq<|A.cT rfl rfl ?_
 refine A.skip<|A.seq ?_
 refine A.block<|qDs [(0,aiF W0)] [24] [(6,.hnd (.jm 65) 15014)] ?_
 obtain⟨bt,h4,hm⟩:=aa hm
 refine qG [(1,hdm [520015003,520015004] (SC.at [(505006500,520015001),(505006502,520015002),(900000097,15014),(505006501,520015003),(505006503,520015004)] (sR h4)) ck65)] [6] [] [15014,520015001,520015002] [(15014,.cells 97 [lf az bt.f_.Links,.own 520015003,.own 520015004]),(520015003,.slice 53 5 (ml aL bt.f_.aF) 0 false),(520015004,.slice 75 3 (ml aJ bt.f_.ay) 0 false)]<|qGs [] [23] [(23,i6 2)] ?_
 show rI _ _ _ _ _ _
 refine A.rnd<|qS [] [(2,.ptr 15002 0),(4,.ptr 15014 0),(21,.hnd (.csl 3) 15021),(22,i6 3),(23,i6 2),(24,.bool true)] [(15002,.cells 27 [.aI,.aI,.aI]),(15014,.cells 97 [lf az bt.f_.Links,.own 520015003,.own 520015004]),(15021,.cells 1 [.hnd (.jm 64) 15014,.hnd (.jm 65) 15014,.hnd (.jm 64) 15014]),(520015003,.slice 53 5 (ml aL bt.f_.aF) 0 false),(520015004,.slice 75 3 (ml aJ bt.f_.ay) 0 false)] ?_
 refine A.seq<|A.cT rfl rfl ?_
 refine A.skip<|A.seq ?_
 refine A.block<|qDs [(0,aiF W0)] [24] [(6,.hnd (.jm 64) 15014)] ?_
 obtain⟨bF,h5,hm⟩:=aa hm
 refine qG [(1,hdm [520015005,520015006] (SC.at [(505006400,520015003),(505006402,520015004),(900000097,15014),(505006401,520015005),(505006403,520015006)] (nR h5)) apb)] [6] [] [15014,520015003,520015004] [(15014,.cells 97 [lf az bF.f_.Links,.own 520015005,.own 520015006]),(520015005,.slice 53 5 (ml aL bF.f_.aF) 0 false),(520015006,.slice 75 3 (ml aJ bF.f_.ay) 0 false)]<|qGs [] [23] [(23,i6 3)] ?_
 show rI _ _ _ _ _ _
 refine A.rnd<|qS [] [(2,.ptr 15002 0),(4,.ptr 15014 0),(21,.hnd (.csl 3) 15021),(22,i6 3),(23,i6 3),(24,.bool false)] [(15002,.cells 27 [.aI,.aI,.aI]),(15014,.cells 97 [lf az bF.f_.Links,.own 520015005,.own 520015006]),(15021,.cells 1 [.hnd (.jm 64) 15014,.hnd (.jm 65) 15014,.hnd (.jm 64) 15014]),(520015005,.slice 53 5 (ml aL bF.f_.aF) 0 false),(520015006,.slice 75 3 (ml aJ bF.f_.ay) 0 false)] ?_
 refine A.seq<|A.cF rfl rfl ?_
 refine A.exit<|qD [] [4,21,22,23,24] [(3,i6 0)] [15002,15014,15021] [(15002,.cells 27 [lf az bF.f_.Links,.own 520015005,.own 520015006])] ?_
 refine A.ret ?_
 obtain rfl:=some_inj hm
 exact A.fin W0 [.fz [520015005,520015006]] rfl (by kernel_rfl)
end Go.Proofs.YtjdopimopgpagaaGreat
