/- The ew of cA of the program. No condition but bM bw stand in each. -/
import Derived.Test.YtjdopimopgpagaaGreatVF
namespace Go.Proofs.YtjdopimopgpagaaGreat
open Go Go.Proofs.Tryz
set_option maxRecDepth 100000
set_option linter.all false
variable {i:Int}{m r:aV}
theorem jr(hm:dB m i=some r):bP prog 92 [(505009200,.slice 53 5 (ml aL m.f_.aF) 0 false),(505009202,.slice 75 3 (ml aJ m.f_.ay) 0 false),(900000097,.cells 97 [lf az m.f_.Links,.own 505009200,.own 505009202])] [.ptr 900000097 0,i6 i] (λa σ'=>a=.tup []∧σ'=[(900000097,.cells 97 [lf az r.f_.Links,.own 505009201,.own 505009203]),(505009201,.slice 53 5 (ml aL r.f_.aF) 0 false),(505009203,.slice 75 3 (ml aJ r.f_.ay) 0 false)]):=by
 refine aZ func92 rfl rfl ?_
 unfold dB at hm
 obtain⟨e_1,h1,hm⟩:=aa hm
 refine qS [(6,hix (ix aL h1))] [(0,.ptr 900000097 0),(4,.ptr 505009200 (i.toNat*5))] [(505009200,.slice 53 5 (ml aL m.f_.aF) 0 false),(505009202,.slice 75 3 (ml aJ m.f_.ay) 0 false),(900000097,.cells 97 [lf az m.f_.Links,.own 505009200,.own 505009202])] ?_
 obtain⟨af,h2,hm⟩:=aa hm
 refine qD [(6,hlo 505009200 0 (ix aL h1)),(7,hdl [505009200,505009202] [500007000,500007001] (kV h2) ad4 ⟨jg bq (λ_=>rfl) _,jg bg (λ_=>rfl) _,trivial⟩),(11,.al 92005)] [0] [(5,.ptr 92005 0),(6,.bool af.2)] [] [(92005,.cells 66 [i6 af.1.ah,i6 af.1.Seq,.bool af.1.aX,.own 500007000,.own 500007001]),(500007000,.slice 105 3 (ml bq af.1.Links) 0 false),(500007001,.slice 91 3 (ml bg af.1.Claims) 0 false)]<|qDs [] [6] [(25,.bool af.2)] ?_
 rcases aq hm with⟨c1,hm⟩|⟨c1,hm⟩
 ·refine qT c1 ?_
  obtain⟨aD,h3,hm⟩:=aa hm
  obtain⟨l_1,h4,hm⟩:=aa hm
  refine A.R W0 [.fz [500007000,500007001]] [(4,hlo 505009200 4 (ix aL h1)),(6,hro (z7 h3) asF),(12,hso 505009200 (st aL (off:=4) (ca:=(k8 aD.1)) h1 h4 rfl) (iu h1).1.1)] [] [(505009200,.slice 53 5 (ml aL l_1) 0 false),(505009202,.slice 75 3 (ml aJ m.f_.ay) 0 false),(900000097,.cells 97 [lf az m.f_.Links,.own 505009200,.own 505009202])] (by kernel_rfl) ?_
  obtain rfl:=some_inj hm
  exact A.fin W0 [.rn 505009200 505009201,.rn 505009202 505009203] rfl (by kernel_rfl)
 refine qF c1<|A.skip ?_
 obtain rfl:=some_inj hm
 exact A.fin W0 [.rn 505009200 505009201,.rn 505009202 505009203] rfl (by kernel_rfl)
theorem ux(hm:l9 m i=some r):bP prog 95 [(505009500,.slice 53 5 (ml aL m.f_.aF) 0 false),(505009502,.slice 75 3 (ml aJ m.f_.ay) 0 false),(900000097,.cells 97 [lf az m.f_.Links,.own 505009500,.own 505009502])] [.ptr 900000097 0,i6 i] (λa σ'=>a=.tup []∧σ'=[(900000097,.cells 97 [lf az r.f_.Links,.own 505009501,.own 505009503]),(505009501,.slice 53 5 (ml aL r.f_.aF) 0 false),(505009503,.slice 75 3 (ml aJ r.f_.ay) 0 false)]):=by
 refine aZ func95 rfl rfl ?_
 unfold l9 at hm
 obtain⟨e_1,h1,hm⟩:=aa hm
 refine qS [(6,hix (ix aL h1)),(7,hlo 505009500 0 (ix aL h1)),(8,.al 95004)] [(0,.ptr 900000097 0),(4,.ptr 95004 0)] [(505009500,.slice 53 5 (ml aL m.f_.aF) 0 false),(505009502,.slice 75 3 (ml aJ m.f_.ay) 0 false),(900000097,.cells 97 [lf az m.f_.Links,.own 505009500,.own 505009502]),(95004,.cells 53 (k9 e_1))] ?_
 obtain⟨af,h2,hm⟩:=aa hm
 obtain⟨aD,h3,hm⟩:=aa hm
 refine qD [(4,hdl [505009500,505009502] [500003200,500003201] (fc h2) aaN ⟨jg aU (λ_=>rfl) _,jg az (λ_=>rfl) _,trivial⟩),(7,hdl [500003200,500003201] [500014400] (vw h3) asH ⟨jg bO (λ_=>rfl) _,trivial⟩),(8,hto (lnE bO aD))] [] [(24,i6 0),(22,.own 500014400),(23,i6 (aD.length:Int))] [] [(500014400,.slice 3 1 (ml bO aD) 0 false)]<|A.block<|A.bW 22 rfl rfl λhb1=>?_
 obtain⟨B1,K1,hB1,hK1,hm⟩:=bu hm
 refine A.lpI (l:=aD) (j0:=0) (B:=B1) (K:=K1) hm (λj1=>λm_1=>[(0,.ptr 900000097 0),(4,.ptr 95004 0),(22,.own 500014400),(23,i6 (aD.length:Int)),(24,i6 (j1:Int))]) (λj1=>λm_1=>[(505009500,.slice 53 5 (ml aL m.f_.aF) 0 false),(900000097,.cells 97 [lf az m.f_.Links,.own 505009500,.own 700009702]),(95004,.cells 53 (k9 e_1)),(500014400,.slice 3 1 (ml bO aD) 0 false),(700009702,.slice 75 3 (ml aJ m_1) 0 false)]) ?_ ?_ ?_
 ·exact bz.go [.rn 505009502 700009702] [] (by kernel_rfl)
 ·rintro j1 e1 Z1 m_1 hj1 hx1 hm
  rw[hB1]at hm
  refine qDs [] [] [(25,.bool (decide ((j1:Int)<(aD.length:Int))))]<|A.seq<|qT (ltT hx1)<|A.skip<|A.seq<|A.block<|qDs [(0,hix (ix bO (bf hx1))),(1,hlo 500014400 0 (ix bO (bf hx1)))] [25] [(6,i6 e1)] ?_
  obtain⟨aP,h4,hm⟩:=aa hm
  obtain⟨l_1,h5,hm⟩:=aa hm
  exact qG [(11,hro (kP h4) aiK),(14,hap 95542 (ap aJ (bytes:=40) (by decide) h5))] [6] [] [900000097,700009702] [(900000097,.cells 97 [lf az m.f_.Links,.own 505009500,.own 95542]),(95542,.slice 75 3 (ml aJ l_1) 0 false)]<|qGs [(0,hto (inc hx1 hb1))] [24] [(24,i6 ((j1+1:Nat):Int))]<|Exists.intro l_1 (And.intro hm (bz.go [.sw 95542 700009702] [] (by kernel_rfl)))
 rintro j1 m_1 hj1 hl1 hm
 rw[hK1]at hm
 refine qDs [] [] [(25,.bool (decide ((j1:Int)<(aD.length:Int))))]<|A.seq<|qF (ltF hl1)<|A.exit ?_
 obtain rfl:=some_inj hm
 exact A.fin W0 [.rn 505009500 505009501,.sw 700009702 505009503] rfl (by kernel_rfl)
theorem sQ{k:Int}(hm:eT m k=some r):bP prog 104 [(505010400,.slice 53 5 (ml aL m.f_.aF) 0 false),(505010402,.slice 75 3 (ml aJ m.f_.ay) 0 false),(900000097,.cells 97 [lf az m.f_.Links,.own 505010400,.own 505010402])] [.ptr 900000097 0,i6 k] (λa σ'=>a=.tup []∧σ'=[(900000097,.cells 97 [lf az r.f_.Links,.own 505010401,.own 505010403]),(505010401,.slice 53 5 (ml aL r.f_.aF) 0 false),(505010403,.slice 75 3 (ml aJ r.f_.ay) 0 false)]):=by
 refine aZ func104 rfl rfl ?_
 unfold eT at hm
 obtain⟨e_1,h1,hm⟩:=aa hm
 refine qS [(6,hix (ix aJ h1)),(7,hlo 505010402 0 (ix aJ h1)),(8,.al 104004)] [(0,.ptr 900000097 0),(1,i6 k),(4,.ptr 104004 0)] [(505010400,.slice 53 5 (ml aL m.f_.aF) 0 false),(505010402,.slice 75 3 (ml aJ m.f_.ay) 0 false),(900000097,.cells 97 [lf az m.f_.Links,.own 505010400,.own 505010402]),(104004,.cells 75 (k10 e_1))] ?_
 obtain⟨l_1,h2,hm⟩:=aa hm
 refine qD [(9,hdc [520104001] (ahd (d:=505010402) (D:=520104001) h2 (by decide)) asp)] [1] [] [505010402,900000097] [(900000097,.cells 97 [lf az m.f_.Links,.own 505010400,.own 520104001]),(520104001,.slice 75 3 (ml aJ l_1) 0 false)]<|A.seq ?_
 obtain⟨af,h3,hm⟩:=aa hm
 obtain⟨aD,h4,hm⟩:=aa hm
 refine qDs [(4,hdl [505010400,520104001] [500003200,500003201] (fc h3) aaN ⟨jg aU (λ_=>rfl) _,jg az (λ_=>rfl) _,trivial⟩),(9,hle [500003200,500003201] (tU h4) ajW)] [] [(6,.bool aD.2)]<|qDs [] [6] [(49,.bool (!aD.2))] ?_
 rcases aq hm with⟨c1,hm⟩|⟨c1,hm⟩
 ·refine qT c1<|A.ret ?_
  obtain rfl:=some_inj hm
  exact A.fin W0 [.rn 505010400 505010401,.sw 520104001 505010403] rfl (by kernel_rfl)
 refine qF c1<|A.skip ?_
 obtain⟨aP,h5,hm⟩:=aa hm
 refine qDs [(6,hle [505010400,520104001] (kf h5) ad6)] [49] [(7,i6 aP.1)] ?_
 obtain⟨e_2,h6,hm⟩:=aa hm
 refine qDs [(6,hix (ix aL h6))] [] [(9,.ptr 505010400 (aP.1.toNat*5))] ?_
 obtain⟨bt,h7,hm⟩:=aa hm
 obtain⟨l_2,h8,hm⟩:=aa hm
 refine qD [(4,hlo 505010400 4 (ix aL h6)),(7,hro (yz h7) asM),(13,hso 505010400 (st aL (off:=4) (ca:=(k8 bt.1)) h6 h8 rfl) (iu h6).1.1)] [4] [] [505010400,104004] [(505010400,.slice 53 5 (ml aL l_2) 0 false)] ?_
 obtain⟨e_3,h9,hm⟩:=aa hm
 obtain⟨bF,h10,hm⟩:=aa hm
 refine qD [(3,hlo 505010400 4 (ix aL h9)),(7,hlo 505010400 0 (ix aL h9)),(8,hro (tW h10) apd),(12,.al 104010)] [] [(10,.ptr 104010 0),(11,.bool bF.2)] [] [(104010,.cells 66 (k7 bF.1))] ?_
 obtain⟨cg,h11,hm⟩:=aa hm
 refine qD [(6,hlo 505010400 0 (ix aL h9)),(7,hdl [505010400,520104001] [500007000,500007001] (kV h11) ad4 ⟨jg bq (λ_=>rfl) _,jg bg (λ_=>rfl) _,trivial⟩),(11,.al 104012)] [] [(12,.ptr 104012 0),(13,.bool cg.2)] [] [(104012,.cells 66 [i6 cg.1.ah,i6 cg.1.Seq,.bool cg.1.aX,.own 500007000,.own 500007001]),(500007000,.slice 105 3 (ml bq cg.1.Links) 0 false),(500007001,.slice 91 3 (ml bg cg.1.Claims) 0 false)] ?_
 obtain⟨J1,hJ1,hm⟩:=bI hm
 refine A.J (J:=J1) (r:=r) (λv_1=>[(0,.ptr 900000097 0),(7,i6 aP.1),(9,.ptr 505010400 (aP.1.toNat*5)),(10,.ptr 104010 0),(118,.bool v_1)]) (λv_1=>[(505010400,.slice 53 5 (ml aL l_2) 0 false),(900000097,.cells 97 [lf az m.f_.Links,.own 505010400,.own 520104001]),(520104001,.slice 75 3 (ml aJ l_1) 0 false),(104010,.cells 66 (k7 bF.1))]) ?_ ?_
 ·rcases aq hm with⟨c2,hm⟩|⟨c2,hm⟩
  ·rcases aq hm with⟨c3,hm⟩|⟨c3,hm⟩
   ·exact qG [(1,hto (bE c2)),(4,hto (bE c3))] [11,12,13] [(118,.bool (decide (bF.1.Seq<1000000)))] [104012,500007000,500007001] []<|qX (decide (bF.1.Seq<1000000)) hm
   obtain⟨cw,h12,hm⟩:=aa hm
   rcases aq hm with⟨c4,hm⟩|⟨c4,hm⟩
   ·exact qG [(1,hto (bE c2)),(4,hto (bE c3)),(7,hle [500007000,500007001] (jI h12) acd),(11,hto (bE c4))] [11,12,13] [(118,.bool (decide (bF.1.Seq<1000000)))] [104012,500007000,500007001] []<|qX (decide (bF.1.Seq<1000000)) hm
   exact qG [(1,hto (bE c2)),(4,hto (bE c3)),(7,hle [500007000,500007001] (jI h12) acd),(11,hto (bE c4))] [11,12,13] [(118,.bool false)] [104012,500007000,500007001] []<|qX false hm
  exact qG [(1,hto (bE c2))] [11,12,13] [(118,.bool false)] [104012,500007000,500007001] []<|qX false hm
 rintro v_1 hm
 rw[hJ1]at hm
 rcases aq hm with⟨c5,hm⟩|⟨c5,hm⟩
 ·refine qT c5 ?_
  obtain⟨l_3,h13,hm⟩:=aa hm
  refine qD [(6,hso 505010400 (st aL (off:=1) (ca:=[i6 (w64 (bF.1.Seq+1))]) h9 h13 rfl) (iu h9).1.1)] [9,10,118] [] [505010400,104010] [(505010400,.slice 53 5 (ml aL l_3) 0 false)] ?_
  obtain⟨cr,h14,hm⟩:=aa hm
  refine qR [(2,hdc [520104002,520104003] (SC.at [(505009200,505010400),(505009202,520104001),(505009201,520104002),(505009203,520104003)] (jr h14)) aiJ)] [] [(900000097,.cells 97 [lf az cr.f_.Links,.own 520104002,.own 520104003]),(520104002,.slice 53 5 (ml aL cr.f_.aF) 0 false),(520104003,.slice 75 3 (ml aJ cr.f_.ay) 0 false)] ?_
  obtain rfl:=some_inj hm
  exact A.fin W0 [.sw 520104002 505010401,.sw 520104003 505010403] rfl (by kernel_rfl)
 refine qF c5<|A.skip ?_
 obtain rfl:=some_inj hm
 exact A.fin W0 [.rn 505010400 505010401,.sw 520104001 505010403] rfl (by kernel_rfl)
theorem nR(hm:jc m=some r):bP prog 64 [(505006400,.slice 53 5 (ml aL m.f_.aF) 0 false),(505006402,.slice 75 3 (ml aJ m.f_.ay) 0 false),(900000097,.cells 97 [lf az m.f_.Links,.own 505006400,.own 505006402])] [.ptr 900000097 0] (λa σ'=>a=.tup []∧σ'=[(900000097,.cells 97 [lf az r.f_.Links,.own 505006401,.own 505006403]),(505006401,.slice 53 5 (ml aL r.f_.aF) 0 false),(505006403,.slice 75 3 (ml aJ r.f_.ay) 0 false)]):=by
 refine aZ func64 rfl rfl ?_
 unfold jc at hm
 refine A.block ?_
 obtain⟨F1,n1,hF1,hm⟩:=gw hm
 refine A.lpW (F:=F1) hm (λ(m_1,m_2,m_3)=>[(0,.ptr 900000097 0)]) (λ(m_1,m_2,m_3)=>[(900000097,.cells 97 [lf az m_1,.own 700009701,.own 700009702]),(700009701,.slice 53 5 (ml aL m_2) 0 false),(700009702,.slice 75 3 (ml aJ m_3) 0 false)]) ?_ ?_
 ·exact bz.go [.rn 505006400 700009701,.rn 505006402 700009702] [] (by kernel_rfl)
 rintro Z1 ⟨m_1,m_2,m_3⟩ hm
 rw[hF1]at hm
 refine A.seq<|qDs [(5,hto (lnE aJ m_3))] [] [(8,.bool (decide (0<(m_3.length:Int))))] ?_
 rcases aq hm with⟨c1,hm⟩|⟨c1,hm⟩
 ·refine qT c1<|A.skip<|A.block ?_
  obtain⟨af,h1,hm⟩:=aa hm
  exact qR [(1,hdc [520064001,520064002] (SC.at [(505010400,700009701),(505010402,700009702),(505010401,520064001),(505010403,520064002)] (sQ h1)) aso)] [(0,.ptr 900000097 0)] [(900000097,.cells 97 [lf az af.f_.Links,.own 520064001,.own 520064002]),(520064001,.slice 53 5 (ml aL af.f_.aF) 0 false),(520064002,.slice 75 3 (ml aJ af.f_.ay) 0 false)]<|Exists.intro (af.f_.Links,af.f_.aF,af.f_.ay) (And.intro hm (bz.go [.sw 520064001 700009701,.sw 520064002 700009702] [] (by kernel_rfl)))
 refine qF c1<|A.exit ?_
 obtain rfl:=some_inj hm
 exact A.fin W0 [.sw 700009701 505006401,.sw 700009702 505006403] rfl (by kernel_rfl)
theorem sR(hm:kQ m=some r):bP prog 65 [(505006500,.slice 53 5 (ml aL m.f_.aF) 0 false),(505006502,.slice 75 3 (ml aJ m.f_.ay) 0 false),(900000097,.cells 97 [lf az m.f_.Links,.own 505006500,.own 505006502])] [.ptr 900000097 0] (λa σ'=>a=.tup []∧σ'=[(900000097,.cells 97 [lf az r.f_.Links,.own 505006501,.own 505006503]),(505006501,.slice 53 5 (ml aL r.f_.aF) 0 false),(505006503,.slice 75 3 (ml aJ r.f_.ay) 0 false)]):=by
 refine aZ func65 rfl rfl ?_
 unfold kQ at hm
 refine qS [(5,hto (lnE aL m.f_.aF))] [(0,.ptr 900000097 0),(8,i6 (m.f_.aF.length:Int)),(9,i6 0)] [(505006500,.slice 53 5 (ml aL m.f_.aF) 0 false),(505006502,.slice 75 3 (ml aJ m.f_.ay) 0 false),(900000097,.cells 97 [lf az m.f_.Links,.own 505006500,.own 505006502])]<|A.block<|A.bD 0 1 rfl rfl rfl rfl λhb1=>?_
 obtain⟨B1,K1,hB1,hK1,hm⟩:=bu hm
 refine A.lpI (l:=m.f_.aF) (j0:=0) (B:=B1) (K:=K1) hm (λj1=>λ(m_1,m_2,m_3)=>[(0,.ptr 900000097 0),(8,i6 (m.f_.aF.length:Int)),(9,i6 (j1:Int))]) (λj1=>λ(m_1,m_2,m_3)=>[(900000097,.cells 97 [lf az m_1,.own 700009701,.own 700009702]),(700009701,.slice 53 5 (ml aL m_2) 0 false),(700009702,.slice 75 3 (ml aJ m_3) 0 false)]) ?_ ?_ ?_
 ·exact bz.go [.rn 505006500 700009701,.rn 505006502 700009702] [] (by kernel_rfl)
 ·rintro j1 e1 Z1 ⟨m_1,m_2,m_3⟩ hj1 hx1 hm
  rw[hB1]at hm
  refine qDs [] [] [(10,.bool (decide ((j1:Int)<(m.f_.aF.length:Int))))]<|A.seq<|qT (ltT hx1)<|A.skip<|A.seq<|A.block<|qDs [] [10] [(2,i6 (j1:Int))] ?_
  obtain⟨af,h1,hm⟩:=aa hm
  exact qG [(2,hdc [520065001,520065002] (SC.at [(505009500,700009701),(505009502,700009702),(505009501,520065001),(505009503,520065002)] (ux h1)) ck95)] [2] [] [900000097,700009701,700009702] [(900000097,.cells 97 [lf az af.f_.Links,.own 520065001,.own 520065002]),(520065001,.slice 53 5 (ml aL af.f_.aF) 0 false),(520065002,.slice 75 3 (ml aJ af.f_.ay) 0 false)]<|qGs [(0,hto (inc hx1 hb1))] [9] [(9,i6 ((j1+1:Nat):Int))]<|Exists.intro (af.f_.Links,af.f_.aF,af.f_.ay) (And.intro hm (bz.go [.sw 520065001 700009701,.sw 520065002 700009702] [] (by kernel_rfl)))
 rintro j1 ⟨m_1,m_2,m_3⟩ hj1 hl1 hm
 rw[hK1]at hm
 refine qDs [] [] [(10,.bool (decide ((j1:Int)<(m.f_.aF.length:Int))))]<|A.seq<|qF (ltF hl1)<|A.exit ?_
 obtain rfl:=some_inj hm
 exact A.fin W0 [.sw 700009701 505006501,.sw 700009702 505006503] rfl (by kernel_rfl)
theorem lY{sa0:List aR}{del:aR→Option Bool}{we:Nat}{xQ:List AV}(agm:aQ prog we)(agn:∀(y0:aR) (q:Bool),del y0=some q→RO prog we [] ([.agg (k10 y0)]++xQ) (.bool q)){r:(List aR)}(hm:cS sa0 del=some r):bP prog 100 [(508010000,.slice 75 3 (ml aJ sa0) 0 false)] [.own 508010000,.cfn we xQ] (λa σ'=>a=.own 500010000∧σ'=[(500010000,.slice 75 3 (ml aJ r) 0 false)]):=by
 refine aZ func100 rfl rfl ?_
 unfold cS at hm
 refine qS [] [(0,.own 508010000),(1,.cfn we xQ)] [(508010000,.slice 75 3 (ml aJ sa0) 0 false)] ?_
 obtain⟨af,h1,hm⟩:=aa hm
 refine qDs [(2,hle [508010000] (l7 (f_k:=agm) (f_f:=agn) h1) asK)] [] [(5,i6 af)]<|A.seq<|qDs [] [] [(12,.bool (decide (af=(-1:Int))))] ?_
 rcases aq hm with⟨c1,hm⟩|⟨c1,hm⟩
 ·refine qT c1<|qDs [] [0,1,5,12] [(4,.own 508010000)]<|A.ret ?_
  obtain rfl:=some_inj hm
  exact A.fin W0 [.rn 508010000 500010000] rfl (by kernel_rfl)
 refine qF c1<|A.skip<|A.seq<|qDs [] [12] [(6,i6 (w64 (af+1)))]<|A.block ?_
 obtain⟨F1,n1,hF1,hm⟩:=gw hm
 refine A.lpW (F:=F1) hm (λ(ov,i_1,j_1)=>[(0,.own 600100000),(1,.cfn we xQ),(5,i6 i_1),(6,i6 j_1)]) (λ(ov,i_1,j_1)=>[(600100000,.slice 75 3 (ml aJ ov) 0 false)]) ?_ ?_
 ·exact bz.go [.rn 508010000 600100000] [] (by kernel_rfl)
 rintro Z1 ⟨ov,i_1,j_1⟩ hm
 rw[hF1]at hm
 refine A.seq<|qDs [(2,hto (lnE aJ ov))] [] [(19,.bool (decide (j_1<(ov.length:Int))))] ?_
 rcases aq hm with⟨c2,hm⟩|⟨c2,hm⟩
 ·refine qT c2<|A.skip ?_
  obtain⟨J1,hJ1,hm⟩:=bI hm
  refine A.J (J:=J1) (r:=r) (λ(acp,i_2)=>[(0,.own 600100000),(1,.cfn we xQ),(5,i6 i_2),(6,i6 j_1)]) (λ(acp,i_2)=>[(600100000,.slice 75 3 (ml aJ acp) 0 false)]) ?_ ?_
  ·refine A.block ?_
   obtain⟨e_1,h2,hm⟩:=aa hm
   refine qD [(2,hix (ix aJ h2)),(3,hlo 600100000 0 (ix aJ h2)),(4,.al 100007)] [19] [(7,.ptr 100007 0)] [] [(100007,.cells 75 (k10 e_1))] ?_
   obtain⟨aD,h3,hm⟩:=aa hm
   refine qDs [(2,hrf (agn _ _ h3) agm)] [] [(29,.bool (!aD))] ?_
   rcases aq hm with⟨c3,hm⟩|⟨c3,hm⟩
   ·refine qT c3 ?_
    obtain⟨e_2,h4,hm⟩:=aa hm
    obtain⟨l_1,h5,hm⟩:=aa hm
    exact qD [(3,hix (ix aJ h4)),(4,hso 600100000 (st aJ (off:=0) (ca:=(k10 e_1)) h4 h5 rfl) (iu h4).1.1)] [7,29] [] [600100000,100007] [(600100000,.slice 75 3 (ml aJ l_1) 0 false)]<|qGs [] [5] [(5,i6 (w64 (i_1+1)))]<|qX (l_1,w64 (i_1+1)) hm
   exact qF c3<|A.skip<|qX (ov,i_1) hm
  rintro⟨acp,i_2⟩ hm
  rw[hJ1]at hm
  exact qGs [] [6] [(6,i6 (w64 (j_1+1)))]<|qX (acp,i_2,w64 (j_1+1)) hm
 refine qF c2<|A.exit ?_
 obtain⟨h6,hm⟩:=fA hm
 have h6:=of_decide_eq_true h6
 refine A.seq (A.clr (T:=25) 0 5 36 37 38 75 3 600100000 (zr:=aJ.enc (aR.mk (0:Int) (0:Int) (aG.mk []))) ⟨rfl,rfl,rfl⟩ ⟨rfl,rfl,rfl⟩ ⟨rfl,rfl,rfl⟩ ⟨rfl,rfl,rfl⟩ ⟨Nat.le_of_ble_eq_true rfl,Nat.le_of_ble_eq_true rfl,Nat.le_of_ble_eq_true rfl⟩ (by decide) ahX zeroValue75 (by decide) (λI=>by show bV I [i6 ((aR.mk (0:Int) (0:Int) (aG.mk [])).cD),i6 ((aR.mk (0:Int) (0:Int) (aG.mk [])).To),lf aM (((aR.mk (0:Int) (0:Int) (aG.mk [])).Database).aC)] _;simp only[bV,bn];exact⟨_,_,rfl,rfl,⟨_,_,rfl,rfl,⟨_,_,rfl,⟨none,0,rfl,Nat.le_refl _,Nat.zero_le _,λ_=>rfl,.inl rfl⟩,rfl⟩⟩⟩) rfl rfl rfl rfl (arU aJ h6) ⟨rfl,rfl,rfl⟩ (aoi aJ ov i_1.toNat (aR.mk (0:Int) (0:Int) (aG.mk []))) ?_)
 show aj _ _ _ [(0,.own 600100000),(1,.cfn we xQ),(5,i6 i_1),(6,i6 j_1),(19,.bool (decide (j_1<(ov.length:Int))))] [(600100000,.slice 75 3 (ml aJ (ov.take i_1.toNat++List.replicate (ov.length-i_1.toNat) (aR.mk (0:Int) (0:Int) (aG.mk [])))) 0 false)]
 obtain⟨l_2,h7,hm⟩:=aa hm
 refine qS [(2,hcB 100541 ahX (sl aJ h7))] [(4,.own 100541)] [(100541,.slice 75 3 (ml aJ l_2) 0 false)]<|A.ret ?_
 obtain rfl:=some_inj hm
 exact A.fin W0 [.sw 100541 500010000] rfl (by kernel_rfl)
end Go.Proofs.YtjdopimopgpagaaGreat
