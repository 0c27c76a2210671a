/- The eD of cw of the program. No condition but bK bu stand in each. -/
import Derived.Test.YtjdopimopgpagaaGreatVM
namespace Go.Proofs.YtjdopimopgpagaaGreat
open Go Go.Proofs.Tryz
set_option maxRecDepth 100000
set_option linter.all false
variable {aJ:Int}{f:aA}
theorem vW{r:aM×Int×Int}(hm:oo f aJ=some r):bO prog 91 [] [.agg (k12 f),i6 aJ] (λa σ'=>a=.tup [.ptr 900000097 0,i6 r.2.1,i6 r.2.2]∧σ'=[(507009100,.slice 53 5 (ml aO r.1.f_.aB) 0 false),(507009101,.slice 75 3 (ml bf r.1.f_.aF) 0 false),(900000097,.cells 97 [lf aC r.1.f_.Links,.own 507009100,.own 507009101])]):=by
 refine aY func91 rfl rfl ?_
 unfold oo at hm
 refine qS [(0,.al 91002)] [(1,i6 aJ),(2,.ptr 91002 0)] [(91002,.cells 27 (k12 f))]<|A.seq ?_
 obtain⟨ah,h1,hm⟩:=aa hm
 refine qDs [(1,hro (iw h1) ab7)] [] [(11,.bool (!decide (ah=0)))] ?_
 rcases aq hm with⟨c1,hm⟩|⟨c1,hm⟩
 ·refine qT c1<|qS [] [(4,.jW),(5,i6 0),(6,i6 1)] []<|A.ret ?_
  cases hm
 refine qF c1<|A.skip ?_
 obtain⟨aD,h2,hm⟩:=aa hm
 refine qDs [(2,hro (ko h2) ad4)] [1,11] [(7,i6 aD.1),(8,.bool aD.2)]<|A.seq<|qDs [] [8] [(19,.bool (!aD.2))] ?_
 rcases aq hm with⟨c2,hm⟩|⟨c2,hm⟩
 ·refine qT c2<|qS [] [(4,.jW),(5,i6 0),(6,i6 4)] []<|A.ret ?_
  cases hm
 refine qF c2<|A.skip ?_
 obtain⟨aN,h3,hm⟩:=aa hm
 refine qS [(1,hdc [500006300,500006301,500006302] (oS h3) aiM),(3,.al 91023)] [(4,.ptr 91023 0),(5,i6 aD.1),(6,i6 0)] [(500006300,.slice 86 5 (ml aC aN.Links) 0 false),(500006301,.slice 53 5 (ml aO aN.aB) 0 false),(500006302,.slice 75 3 (ml bf aN.aF) 0 false),(91023,.cells 97 [.own 500006300,.own 500006301,.own 500006302])]<|A.ret ?_
 obtain rfl:=some_inj hm
 exact A.fin W0 [.fz [500006300],.sw 91023 900000097,.sw 500006301 507009100,.sw 500006302 507009101,.sc 900000097 [507009100,507009101]] rfl (by kernel_rfl)
theorem wP{r:Int×Int}(hm:oT f aJ=some r):RO prog 91 [] [.agg (k12 f),i6 aJ] (.tup [.jW,i6 r.1,i6 r.2]):=by
 refine aY func91 rfl rfl ?_
 unfold oT at hm
 refine qS [(0,.al 91002)] [(1,i6 aJ),(2,.ptr 91002 0)] [(91002,.cells 27 (k12 f))]<|A.seq ?_
 obtain⟨ah,h1,hm⟩:=aa hm
 refine qDs [(1,hro (iw h1) ab7)] [] [(11,.bool (!decide (ah=0)))] ?_
 rcases aq hm with⟨c1,hm⟩|⟨c1,hm⟩
 ·refine qT c1<|qS [] [(4,.jW),(5,i6 0),(6,i6 1)] [] ?_
  cases hm
  exact A.ret qE
 refine qF c1<|A.skip ?_
 obtain⟨aD,h2,hm⟩:=aa hm
 refine qDs [(2,hro (ko h2) ad4)] [1,11] [(7,i6 aD.1),(8,.bool aD.2)]<|A.seq<|qDs [] [8] [(19,.bool (!aD.2))] ?_
 rcases aq hm with⟨c2,hm⟩|⟨c2,hm⟩
 ·refine qT c2<|qS [] [(4,.jW),(5,i6 0),(6,i6 4)] [] ?_
  cases hm
  exact A.ret qE
 refine qF c2<|A.skip ?_
 obtain⟨aN,h3,hm⟩:=aa hm
 refine qS [(1,hdc [500006300,500006301,500006302] (oS h3) aiM),(3,.al 91023)] [(4,.ptr 91023 0),(5,i6 aD.1),(6,i6 0)] [(500006300,.slice 86 5 (ml aC aN.Links) 0 false),(500006301,.slice 53 5 (ml aO aN.aB) 0 false),(500006302,.slice 75 3 (ml bf aN.aF) 0 false),(91023,.cells 97 [.own 500006300,.own 500006301,.own 500006302])]<|A.ret ?_
 cases hm
theorem xk{oa0:gB}{c_0:az}{r:Bool}(hm:pJ oa0 c_0=some r):RO prog 146 [] [.agg (k11 oa0),.dZ (k2 c_0)] (.bool r):=by
 refine aY func146 rfl rfl ?_
 unfold pJ at hm
 refine qS [(0,.al 146002)] [(1,.dZ (k2 c_0)),(2,.ptr 146002 0)] [(146002,.cells 164 (k11 oa0))] ?_
 obtain⟨ah,h1,hm⟩:=aa hm
 refine qS [(3,hro (ia h1) xN)] [(3,.bool (!ah))] [] ?_
 cases hm
 exact A.ret qE
variable {r:aA×Int}
theorem yu{t:az}{cI:List gB}(hm:rH t cI=some r):RO prog 96 [] [.agg (k2 t),lf ew cI] (.tup [.agg (k12 r.1),i6 r.2]):=by
 refine aY func96 rfl rfl ?_
 unfold rH at hm
 refine qS [(0,.al 96002),(1,.al 96004)] [(1,lf ew cI),(2,.ptr 96002 0),(4,.ptr 96004 0)] [(96002,.cells 45 (k2 t)),(96004,.cells 27 [.aI,.aI,.aI])]<|A.seq ?_
 obtain⟨ah,h1,hm⟩:=aa hm
 refine qDs [(1,hro (jr h1) ad3)] [] [(15,.bool (!decide (ah=0)))] ?_
 rcases aq hm with⟨c1,hm⟩|⟨c1,hm⟩
 ·refine qT c1<|qD [] [1,2,15] [(5,i6 1)] [96002] [] ?_
  cases hm
  exact A.ret qE
 refine qF c1<|A.skip<|A.seq ?_
 obtain⟨aD,h2,hm⟩:=aa hm
 refine qDs [(2,hle [96002] (mE (f_g:=146) (f_c:=[.dZ (k2 t)]) (f_k:=asE) (f_f:=λ_ _ h=>xk h) h2) asD)] [15] [(19,.bool aD)] ?_
 rcases aq hm with⟨c2,hm⟩|⟨c2,hm⟩
 ·refine qT c2<|qD [] [1,2,19] [(5,i6 4)] [96002] [] ?_
  cases hm
  exact A.ret qE
 refine qF c2<|A.skip<|A.seq<|qDs [(1,hto (lnE ew cI))] [19] [(22,i6 (cI.length:Int)),(23,i6 0)]<|A.block<|A.bS 1 rfl λhb1=>?_
 obtain⟨B1,K1,hB1,hK1,hm⟩:=bw hm
 refine A.lpI (l:=cI) (j0:=0) (B:=B1) (K:=K1) hm (λj1=>λ()=>[(1,lf ew cI),(2,.ptr 96002 0),(4,.ptr 96004 0),(22,i6 (cI.length:Int)),(23,i6 (j1:Int))]) (λj1=>λ()=>[(96002,.cells 45 (k2 t)),(96004,.cells 27 [.aI,.aI,.aI])]) ?_ ?_ ?_
 ·exact qW
 ·rintro j1 e1 Z1 ⟨⟩ hj1 hx1 hm
  rw[hB1]at hm
  refine qDs [] [] [(24,.bool (decide ((j1:Int)<(cI.length:Int))))]<|A.seq<|qT (ltT hx1)<|A.skip<|A.seq<|A.block<|qDs [] [24] [(6,i6 (j1:Int))] ?_
  obtain⟨J1,hJ1,hm⟩:=bN hm
  refine A.J (J:=J1) (r:=r) (λv_1=>[(1,lf ew cI),(2,.ptr 96002 0),(4,.ptr 96004 0),(22,i6 (cI.length:Int)),(23,i6 (j1:Int)),(58,.bool v_1)]) (λv_1=>[(96002,.cells 45 (k2 t)),(96004,.cells 27 [.aI,.aI,.aI])]) ?_ ?_
  ·rcases aq hm with⟨c3,hm⟩|⟨c3,hm⟩
   ·obtain⟨e_1,h3,hm⟩:=aa hm
    obtain⟨aN,h4,hm⟩:=aa hm
    obtain⟨bt,h5,hm⟩:=aa hm
    obtain⟨bL,h6,hm⟩:=aa hm
    exact qGs [(2,hto (bE c3)),(6,hix (ix ew h3)),(11,hix (ix ew (aV hx1))),(14,hro (gR h4) zO),(18,hix (ix ew h3)),(24,hix (ix ew (aV hx1))),(28,hro (gR h5) zO),(30,hro (wm h6) akc)] [6] [(58,.bool (decide (0≤bL)))]<|qX (decide (0≤bL)) hm
   exact qGs [(2,hto (bE c3))] [6] [(58,.bool false)]<|qX false hm
  rintro v_1 hm
  rw[hJ1]at hm
  rcases aq hm with⟨c4,hm⟩|⟨c4,hm⟩
  ·refine qT c4<|qD [] [1,2,22,23,58] [(5,i6 25)] [96002] [] ?_
   cases hm
   exact A.ret qE
  exact qF c4<|A.skip<|qGs [(0,hto (inc hx1 hb1))] [23,58] [(23,i6 ((j1+1:Nat):Int))]<|qX () hm
 rintro j1 ⟨⟩ hj1 hl1 hm
 rw[hK1]at hm
 refine qDs [] [] [(24,.bool (decide ((j1:Int)<(cI.length:Int))))]<|A.seq<|qF (ltF hl1)<|A.exit ?_
 obtain⟨cc,h7,hm⟩:=aa hm
 refine qD [(2,hdc [500008800] (gH h7) aiR),(4,.al 96007)] [22,23,24] [(7,.ptr 96007 0)] [] [(500008800,.slice 86 5 (ml aC cc) 0 false),(96007,.cells 27 [.own 500008800,.aI,.aI])]<|A.seq<|qD [(2,hto (lnE aP t.aG))] [2] [(66,lf aP t.aG),(67,i6 (t.aG.length:Int)),(68,i6 0)] [96002] []<|A.block<|A.bS 66 rfl λhb2=>?_
 obtain⟨B2,K2,hB2,hK2,hm⟩:=bw hm
 refine A.lpI (l:=t.aG) (j0:=0) (B:=B2) (K:=K2) hm (λj2=>λm_1=>[(1,lf ew cI),(4,.ptr 96004 0),(7,.ptr 96007 0),(66,lf aP t.aG),(67,i6 (t.aG.length:Int)),(68,i6 (j2:Int))]) (λj2=>λm_1=>[(96004,.cells 27 [.aI,.aI,.aI]),(500008800,.slice 86 5 (ml aC cc) 0 false),(96007,.cells 27 [.own 500008800,.own 709600701,.aI]),(709600701,.slice 53 5 (ml aO m_1) 0 false)]) ?_ ?_ ?_
 ·exact bA.go [.ac 96007 709600701 53 5 1] [] (by kernel_rfl)
 ·rintro j2 e2 Z2 m_1 hj2 hx2 hm
  rw[hB2]at hm
  refine qDs [] [] [(69,.bool (decide ((j2:Int)<(t.aG.length:Int))))]<|A.seq<|qT (ltT hx2)<|A.skip<|A.seq<|A.block<|qD [(0,hix (ix aP (aV hx2))),(2,.al 96009)] [69] [(9,.ptr 96009 0)] [] [(96009,.cells 93 (k0 e2))]<|qD [(5,.al 96010)] [] [(10,.ptr 96010 0)] [] [(96010,.cells 53 [i6 e2.ID,i6 0,.bool e2.aW,.aI,.aI])]<|A.seq<|qDs [(1,hto (lnE ew cI))] [] [(77,lf ew cI),(78,i6 (cI.length:Int)),(79,i6 0)]<|A.block<|A.bS 1 rfl λhb3=>?_
  obtain⟨B3,K3,hB3,hK3,hm⟩:=bw hm
  refine A.lpI (l:=cI) (j0:=0) (B:=B3) (K:=K3) hm (λj3=>λm_2=>[(1,lf ew cI),(4,.ptr 96004 0),(7,.ptr 96007 0),(9,.ptr 96009 0),(10,.ptr 96010 0),(66,lf aP t.aG),(67,i6 (t.aG.length:Int)),(68,i6 (j2:Int)),(77,lf ew cI),(78,i6 (cI.length:Int)),(79,i6 (j3:Int))]) (λj3=>λm_2=>[(96004,.cells 27 [.aI,.aI,.aI]),(500008800,.slice 86 5 (ml aC cc) 0 false),(96007,.cells 27 [.own 500008800,.own 709600701,.aI]),(709600701,.slice 53 5 (ml aO m_1) 0 false),(96009,.cells 93 (k0 e2)),(96010,.cells 53 [i6 e2.ID,i6 0,.bool e2.aW,.own 709601003,.aI]),(709601003,.slice 91 3 (ml bh m_2) 0 false)]) ?_ ?_ ?_
  ·exact bA.go [.ac 96010 709601003 91 3 3] [] (by kernel_rfl)
  ·rintro j3 e3 Z3 m_2 hj3 hx3 hm
   rw[hB3]at hm
   refine qDs [] [] [(80,.bool (decide ((j3:Int)<(cI.length:Int))))]<|A.seq<|qT (ltT hx3)<|A.skip ?_
   obtain⟨J2,hJ2,hm⟩:=bN hm
   refine A.J (J:=J2) (r:=r) (λm_3=>[(1,lf ew cI),(4,.ptr 96004 0),(7,.ptr 96007 0),(9,.ptr 96009 0),(10,.ptr 96010 0),(66,lf aP t.aG),(67,i6 (t.aG.length:Int)),(68,i6 (j2:Int)),(77,lf ew cI),(78,i6 (cI.length:Int)),(79,i6 (j3:Int))]) (λm_3=>[(96004,.cells 27 [.aI,.aI,.aI]),(500008800,.slice 86 5 (ml aC cc) 0 false),(96007,.cells 27 [.own 500008800,.own 709600701,.aI]),(709600701,.slice 53 5 (ml aO m_1) 0 false),(96009,.cells 93 (k0 e2)),(96010,.cells 53 [i6 e2.ID,i6 0,.bool e2.aW,.own 709601003,.aI]),(709601003,.slice 91 3 (ml bh m_3) 0 false)]) ?_ ?_
   ·refine A.block<|qD [(0,hix (ix ew (aV hx3))),(2,.al 96012)] [80] [(12,.ptr 96012 0)] [] [(96012,.cells 164 (k11 e3))] ?_
    refine qDs [] [] [(87,.bool (decide (e3.af=e2.ID)))] ?_
    rcases aq hm with⟨c5,hm⟩|⟨c5,hm⟩
    ·refine qT c5 ?_
     obtain⟨l_1,h8,hm⟩:=aa hm
     exact qG [(5,hap 96593 (ap bh (bytes:=24) (by decide) h8))] [12,87] [] [96010,709601003,96012] [(96010,.cells 53 [i6 e2.ID,i6 0,.bool e2.aW,.own 96593,.aI]),(96593,.slice 91 3 (ml bh l_1) 0 false)]<|Exists.intro l_1 (And.intro hm (bA.go [.sw 96593 709601003] [] (by kernel_rfl)))
    exact qF c5<|A.skip<|qX m_2 hm
   rintro m_3 hm
   rw[hJ2]at hm
   exact qGs [(0,hto (inc hx3 hb3))] [79] [(79,i6 ((j3+1:Nat):Int))]<|qX m_3 hm
  rintro j3 m_2 hj3 hl3 hm
  rw[hK3]at hm
  refine qDs [] [] [(80,.bool (decide ((j3:Int)<(cI.length:Int))))]<|A.seq<|qF (ltF hl3)<|A.exit ?_
  obtain⟨l_2,h9,hm⟩:=aa hm
  exact A.R W0 [.fz [709601003],.sc 96010 [96004,500008800,96007,709600701,96009,96010]] [(4,hap 96600 (ap aO (bytes:=72) (by decide) h9))] [(1,lf ew cI),(4,.ptr 96004 0),(7,.ptr 96007 0),(66,lf aP t.aG),(67,i6 (t.aG.length:Int)),(68,i6 (j2:Int))] [(96004,.cells 27 [.aI,.aI,.aI]),(500008800,.slice 86 5 (ml aC cc) 0 false),(96007,.cells 27 [.own 500008800,.own 96600,.aI]),(96600,.slice 53 5 (ml aO l_2) 0 false)] (by kernel_rfl)<|qR [(0,hto (inc hx2 hb2))] [(1,lf ew cI),(4,.ptr 96004 0),(7,.ptr 96007 0),(66,lf aP t.aG),(67,i6 (t.aG.length:Int)),(68,i6 ((j2+1:Nat):Int))] [(96004,.cells 27 [.aI,.aI,.aI]),(500008800,.slice 86 5 (ml aC cc) 0 false),(96007,.cells 27 [.own 500008800,.own 96600,.aI]),(96600,.slice 53 5 (ml aO l_2) 0 false)]<|Exists.intro l_2 (And.intro hm (bA.go [.sw 96600 709600701] [] (by kernel_rfl)))
 rintro j2 m_1 hj2 hl2 hm
 rw[hK2]at hm
 refine qDs [] [] [(69,.bool (decide ((j2:Int)<(t.aG.length:Int))))]<|A.seq<|qF (ltF hl2)<|A.exit<|A.seq ?_
 obtain⟨de,h10,hm⟩:=aa hm
 refine qDs [(1,hle [500008800,709600701] (iw h10) ab7)] [1,66,67,68,69] [(105,.bool (!decide (de=0)))] ?_
 rcases aq hm with⟨c6,hm⟩|⟨c6,hm⟩
 ·refine qT c6<|qD [] [7,105] [(5,i6 1)] [500008800,96007,709600701] [] ?_
  cases hm
  exact A.ret qE
 refine qF c6<|A.skip<|qD [] [7,105] [(5,i6 0)] [96004,96007] [(96004,.cells 27 [.own 500008800,.own 709600701,.aI])]<|A.ret ?_
 obtain rfl:=some_inj hm
 exact A.fin W0 [.fz [500008800,709600701]] rfl (by kernel_rfl)
theorem ql(hm:lz f aJ=some r):bO prog 37 [] [.agg (k12 f),i6 aJ] (λa σ'=>a=.tup [.agg [lf aC r.1.Links,.own 500003700,.own 500003701],i6 r.2]∧σ'=[(500003700,.slice 53 5 (ml aO r.1.aB) 0 false),(500003701,.slice 75 3 (ml bf r.1.aF) 0 false)]):=by
 refine aY func37 rfl rfl ?_
 unfold lz at hm
 refine qS [(0,.al 37002),(1,.al 37004)] [(1,i6 aJ),(2,.ptr 37002 0),(4,.ptr 37004 0)] [(37002,.cells 27 (k12 f)),(37004,.cells 27 [.aI,.aI,.aI])] ?_
 rcases aiu hm with⟨ah,h1,hm⟩|hm
 ·refine qS [(2,hdc [900000097,507009100,507009101] (vW h1) ape)] [(4,.ptr 37004 0),(6,.ptr 900000097 0),(7,i6 ah.2.1),(8,i6 ah.2.2)] [(37004,.cells 27 [.aI,.aI,.aI]),(507009100,.slice 53 5 (ml aO ah.1.f_.aB) 0 false),(507009101,.slice 75 3 (ml bf ah.1.f_.aF) 0 false),(900000097,.cells 97 [lf aC ah.1.f_.Links,.own 507009100,.own 507009101])]<|A.seq<|qDs [] [] [(17,.bool (!decide (ah.2.2=0)))] ?_
  rcases aq hm with⟨c1,hm⟩|⟨c1,hm⟩
  ·refine qT c1<|qD [] [6,7,8,17] [(5,i6 ah.2.2)] [507009100,507009101,900000097] []<|A.ret ?_
   obtain rfl:=some_inj hm
   exact A.fin W0 [.ac 37004 500003700 53 5 1,.ac 37004 500003701 75 3 2] rfl (by kernel_rfl)
  refine qF c1<|A.skip<|A.seq ?_
  obtain⟨e_1,h2,hm⟩:=aa hm
  refine qDs [(6,hix (ix aO h2)),(8,hlo 507009100 1 (ix aO h2))] [8,17] [(29,.bool (decide (e_1.Seq=1000000)))] ?_
  rcases aq hm with⟨c2,hm⟩|⟨c2,hm⟩
  ·refine qT c2<|qD [] [6,7,29] [(5,i6 7)] [507009100,507009101,900000097] []<|A.ret ?_
   obtain rfl:=some_inj hm
   exact A.fin W0 [.ac 37004 500003700 53 5 1,.ac 37004 500003701 75 3 2] rfl (by kernel_rfl)
  refine qF c2<|A.skip ?_
  obtain⟨l_1,h3,hm⟩:=aa hm
  refine qD [(6,hix (ix aO h2)),(8,hlo 507009100 1 (ix aO h2)),(10,hix (ix aO h2)),(12,hso 507009100 (st aO (off:=1) (ca:=[i6 (w64 (e_1.Seq+1))]) h2 h3 rfl) (jD h2).1.1)] [29] [] [507009100] [(507009100,.slice 53 5 (ml aO l_1) 0 false)] ?_
  obtain⟨aD,h4,hm⟩:=aa hm
  refine qD [(2,hdc [520037001,520037002] (SC.at [(505009200,507009100),(505009202,507009101),(505009201,520037001),(505009203,520037002)] (mZ h4)) apf)] [7] [] [507009100,507009101,900000097] [(900000097,.cells 97 [lf aC aD.f_.Links,.own 520037001,.own 520037002]),(520037001,.slice 53 5 (ml aO aD.f_.aB) 0 false),(520037002,.slice 75 3 (ml bf aD.f_.aF) 0 false)]<|qD [] [6] [(5,i6 0)] [37004,900000097] [(37004,.cells 27 [lf aC aD.f_.Links,.own 520037001,.own 520037002])]<|A.ret ?_
  obtain rfl:=some_inj hm
  exact A.fin W0 [.sw 520037001 500003700,.sw 520037002 500003701] rfl (by kernel_rfl)
 obtain⟨aN,h5,hm⟩:=aa hm
 refine qS [(2,hro (wP h5) ape)] [(4,.ptr 37004 0),(6,.jW),(7,i6 aN.1),(8,i6 aN.2)] [(37004,.cells 27 [.aI,.aI,.aI])]<|A.seq<|qDs [] [] [(17,.bool (!decide (aN.2=0)))] ?_
 rcases aq hm with⟨c3,hm⟩|⟨c3,hm⟩
 ·refine qT c3<|qDs [] [6,7,8,17] [(5,i6 aN.2)]<|A.ret ?_
  obtain rfl:=some_inj hm
  exact A.fin W0 [.ac 37004 500003700 53 5 1,.ac 37004 500003701 75 3 2] rfl (by kernel_rfl)
 refine qF c3<|A.skip<|A.seq ?_
 cases hm
theorem oU(hm:eX f=some r):RO prog 15 [] [.agg (k12 f)] (.tup [.agg (k12 r.1),i6 r.2]):=by
 refine aY func15 rfl rfl ?_
 unfold eX at hm
 refine qS [(0,.al 15001),(1,.al 15002)] [(1,.ptr 15001 0),(2,.ptr 15002 0)] [(15001,.cells 27 (k12 f)),(15002,.cells 27 [.aI,.aI,.aI])]<|A.seq ?_
 obtain⟨ah,h1,hm⟩:=aa hm
 refine qDs [(1,hro (iw h1) ab7)] [] [(9,.bool (!decide (ah=0)))] ?_
 rcases aq hm with⟨c1,hm⟩|⟨c1,hm⟩
 ·refine qT c1<|qD [] [1,9] [(3,i6 1)] [15001] [] ?_
  cases hm
  exact A.ret qE
 refine qF c1<|A.skip ?_
 obtain⟨aD,h2,hm⟩:=aa hm
 refine qD [(1,hdc [500006300,500006301,500006302] (oS h2) aiM),(3,.al 15014)] [1,9] [(4,.ptr 15014 0)] [15001] [(500006300,.slice 86 5 (ml aC aD.Links) 0 false),(500006301,.slice 53 5 (ml aO aD.aB) 0 false),(500006302,.slice 75 3 (ml bf aD.aF) 0 false),(15014,.cells 97 [.own 500006300,.own 500006301,.own 500006302])]<|A.seq<|qD [(1,hmk),(3,hmk),(5,hmk),(6,hbsC W0 15021),(7,hlnC W0)] [] [(21,.hnd (.csl 3) 15021),(22,i6 3),(23,i6 0)] [] [(15021,.cells 1 [.hnd (.jg 64) 15014,.hnd (.jg 65) 15014,.hnd (.jg 64) 15014])]<|A.block<|A.aon 4<|A.rnd<|qS [] [(2,.ptr 15002 0),(4,.ptr 15014 0),(21,.hnd (.csl 3) 15021),(22,i6 3),(23,i6 0),(24,.bool true)] [(15002,.cells 27 [.aI,.aI,.aI]),(500006300,.slice 86 5 (ml aC aD.Links) 0 false),(500006301,.slice 53 5 (ml aO aD.aB) 0 false),(500006302,.slice 75 3 (ml bf aD.aF) 0 false),(15014,.cells 97 [.own 500006300,.own 500006301,.own 500006302]),(15021,.cells 1 [.hnd (.jg 64) 15014,.hnd (.jg 65) 15014,.hnd (.jg 64) 15014])]<|A.seq<|A.cT rfl rfl<|A.skip<|A.seq<|A.block<|qDs [(0,aiK W0)] [24] [(6,.hnd (.jg 64) 15014)] ?_
 obtain⟨aN,h3,hm⟩:=aa hm
 refine A.R W0 [.fz [500006300],.sc 15014 [15002,500006301,500006302,15014,15021]] [(1,hdm [520015001,520015002] (SC.at [(505006400,500006301),(505006402,500006302),(900000097,15014),(505006401,520015001),(505006403,520015002)] (nQ h3)) ao9)] [(2,.ptr 15002 0),(4,.ptr 15014 0),(21,.hnd (.csl 3) 15021),(22,i6 3),(23,i6 0)] [(15002,.cells 27 [.aI,.aI,.aI]),(15014,.cells 97 [lf aC aN.f_.Links,.own 520015001,.own 520015002]),(15021,.cells 1 [.hnd (.jg 64) 15014,.hnd (.jg 65) 15014,.hnd (.jg 64) 15014]),(520015001,.slice 53 5 (ml aO aN.f_.aB) 0 false),(520015002,.slice 75 3 (ml bf aN.f_.aF) 0 false)] (by kernel_rfl)<|qR [] [(2,.ptr 15002 0),(4,.ptr 15014 0),(21,.hnd (.csl 3) 15021),(22,i6 3),(23,i6 1)] [(15002,.cells 27 [.aI,.aI,.aI]),(15014,.cells 97 [lf aC aN.f_.Links,.own 520015001,.own 520015002]),(15021,.cells 1 [.hnd (.jg 64) 15014,.hnd (.jg 65) 15014,.hnd (.jg 64) 15014]),(520015001,.slice 53 5 (ml aO aN.f_.aB) 0 false),(520015002,.slice 75 3 (ml bf aN.f_.aF) 0 false)] ?_
 show rS _ _ _ _ _ _
 refine A.rnd<|qS [] [(2,.ptr 15002 0),(4,.ptr 15014 0),(21,.hnd (.csl 3) 15021),(22,i6 3),(23,i6 1),(24,.bool true)] [(15002,.cells 27 [.aI,.aI,.aI]),(15014,.cells 97 [lf aC aN.f_.Links,.own 520015001,.own 520015002]),(15021,.cells 1 [.hnd (.jg 64) 15014,.hnd (.jg 65) 15014,.hnd (.jg 64) 15014]),(520015001,.slice 53 5 (ml aO aN.f_.aB) 0 false),(520015002,.slice 75 3 (ml bf aN.f_.aF) 0 false)] ?_
 refine A.seq<|A.cT rfl rfl ?_
 refine A.skip<|A.seq ?_
 refine A.block<|qDs [(0,aiK W0)] [24] [(6,.hnd (.jg 65) 15014)] ?_
 obtain⟨bt,h4,hm⟩:=aa hm
 refine qG [(1,hdm [520015003,520015004] (SC.at [(505006500,520015001),(505006502,520015002),(900000097,15014),(505006501,520015003),(505006503,520015004)] (ta h4)) ck65)] [6] [] [15014,520015001,520015002] [(15014,.cells 97 [lf aC bt.f_.Links,.own 520015003,.own 520015004]),(520015003,.slice 53 5 (ml aO bt.f_.aB) 0 false),(520015004,.slice 75 3 (ml bf bt.f_.aF) 0 false)]<|qGs [] [23] [(23,i6 2)] ?_
 show rS _ _ _ _ _ _
 refine A.rnd<|qS [] [(2,.ptr 15002 0),(4,.ptr 15014 0),(21,.hnd (.csl 3) 15021),(22,i6 3),(23,i6 2),(24,.bool true)] [(15002,.cells 27 [.aI,.aI,.aI]),(15014,.cells 97 [lf aC bt.f_.Links,.own 520015003,.own 520015004]),(15021,.cells 1 [.hnd (.jg 64) 15014,.hnd (.jg 65) 15014,.hnd (.jg 64) 15014]),(520015003,.slice 53 5 (ml aO bt.f_.aB) 0 false),(520015004,.slice 75 3 (ml bf bt.f_.aF) 0 false)] ?_
 refine A.seq<|A.cT rfl rfl ?_
 refine A.skip<|A.seq ?_
 refine A.block<|qDs [(0,aiK W0)] [24] [(6,.hnd (.jg 64) 15014)] ?_
 obtain⟨bL,h5,hm⟩:=aa hm
 refine qG [(1,hdm [520015005,520015006] (SC.at [(505006400,520015003),(505006402,520015004),(900000097,15014),(505006401,520015005),(505006403,520015006)] (nQ h5)) ao9)] [6] [] [15014,520015003,520015004] [(15014,.cells 97 [lf aC bL.f_.Links,.own 520015005,.own 520015006]),(520015005,.slice 53 5 (ml aO bL.f_.aB) 0 false),(520015006,.slice 75 3 (ml bf bL.f_.aF) 0 false)]<|qGs [] [23] [(23,i6 3)] ?_
 show rS _ _ _ _ _ _
 refine A.rnd<|qS [] [(2,.ptr 15002 0),(4,.ptr 15014 0),(21,.hnd (.csl 3) 15021),(22,i6 3),(23,i6 3),(24,.bool false)] [(15002,.cells 27 [.aI,.aI,.aI]),(15014,.cells 97 [lf aC bL.f_.Links,.own 520015005,.own 520015006]),(15021,.cells 1 [.hnd (.jg 64) 15014,.hnd (.jg 65) 15014,.hnd (.jg 64) 15014]),(520015005,.slice 53 5 (ml aO bL.f_.aB) 0 false),(520015006,.slice 75 3 (ml bf bL.f_.aF) 0 false)] ?_
 refine A.seq<|A.cF rfl rfl ?_
 refine A.exit<|qD [] [4,21,22,23,24] [(3,i6 0)] [15002,15014,15021] [(15002,.cells 27 [lf aC bL.f_.Links,.own 520015005,.own 520015006])] ?_
 refine A.ret ?_
 obtain rfl:=some_inj hm
 exact A.fin W0 [.fz [520015005,520015006]] rfl (by kernel_rfl)
theorem xV{n:Int}{r:Int}(hm:jd n=some r):RO prog 21 [] [i6 n] (i6 r):=by
 refine aY func21 rfl rfl ?_
 unfold jd at hm
 refine qS [] [(0,i6 n)] []<|qS [] [(2,i6 (w64 ((2:Int)*(if(1099511627776:Int)<(if(0:Int)>n then(0:Int)else n)then(1099511627776:Int)else(if(0:Int)>n then(0:Int)else n)))))] [] ?_
 cases hm
 exact A.ret qE
end Go.Proofs.YtjdopimopgpagaaGreat
