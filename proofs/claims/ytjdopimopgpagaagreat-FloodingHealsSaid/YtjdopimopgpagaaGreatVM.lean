/- The eN of cu of the program. No condition but bH bq stand in each. -/
import Derived.Test.YtjdopimopgpagaaGreatVF
namespace Go.Proofs.YtjdopimopgpagaaGreat
open Go Go.Proofs.Tryz
set_option maxRecDepth 100000
set_option linter.all false
variable {i:Int}{m r:aK}
theorem gN(hm:dg m i=some r):bM prog 92 [(505009200,.slice 53 5 (ml aN m.f_.aA) 0 false),(505009202,.slice 75 3 (ml aJ m.f_.aq) 0 false),(900000097,.cells 97 [lf aC m.f_.Links,.own 505009200,.own 505009202])] [.ptr 900000097 0,i6 i] (λa σ'=>a=.tup []∧σ'=[(900000097,.cells 97 [lf aC r.f_.Links,.own 505009201,.own 505009203]),(505009201,.slice 53 5 (ml aN r.f_.aA) 0 false),(505009203,.slice 75 3 (ml aJ r.f_.aq) 0 false)]):=by
 refine aZ func92 rfl rfl ?_
 unfold dg at hm
 obtain⟨e_1,h1,hm⟩:=aa hm
 refine qS [(6,hix (ix aN h1))] [(0,.ptr 900000097 0),(4,.ptr 505009200 (i.toNat*5))] [(505009200,.slice 53 5 (ml aN m.f_.aA) 0 false),(505009202,.slice 75 3 (ml aJ m.f_.aq) 0 false),(900000097,.cells 97 [lf aC m.f_.Links,.own 505009200,.own 505009202])] ?_
 obtain⟨ah,h2,hm⟩:=aa hm
 refine qD [(6,hlo 505009200 0 (ix aN h1)),(7,hdl [505009200,505009202] [500007000,500007001] (lE h2) aeo ⟨jt bx (λ_=>rfl) _,jt bn (λ_=>rfl) _,trivial⟩),(11,.al 92005)] [0] [(5,.ptr 92005 0),(6,.bool ah.2)] [] [(92005,.cells 66 [i6 ah.1.af,i6 ah.1.Seq,.bool ah.1.aY,.own 500007000,.own 500007001]),(500007000,.slice 105 3 (ml bx ah.1.Links) 0 false),(500007001,.slice 91 3 (ml bn ah.1.Claims) 0 false)]<|qDs [] [6] [(25,.bool ah.2)] ?_
 rcases az hm with⟨c1,hm⟩|⟨c1,hm⟩
 ·refine qT c1 ?_
  obtain⟨aD,h3,hm⟩:=aa hm
  obtain⟨l_1,h4,hm⟩:=aa hm
  refine A.R W0 [.fz [500007000,500007001]] [(4,hlo 505009200 4 (ix aN h1)),(6,hro (aaq h3) asZ),(12,hso 505009200 (st aN (off:=4) (ca:=(k8 aD.1)) h1 h4 rfl) (gP h1).1.1)] [] [(505009200,.slice 53 5 (ml aN l_1) 0 false),(505009202,.slice 75 3 (ml aJ m.f_.aq) 0 false),(900000097,.cells 97 [lf aC m.f_.Links,.own 505009200,.own 505009202])] (by kernel_rfl) ?_
  obtain rfl:=some_inj hm
  exact A.fin W0 [.rn 505009200 505009201,.rn 505009202 505009203] rfl (by kernel_rfl)
 refine qF c1<|A.skip ?_
 obtain rfl:=some_inj hm
 exact A.fin W0 [.rn 505009200 505009201,.rn 505009202 505009203] rfl (by kernel_rfl)
theorem o4(hm:fR m i=some r):bM prog 95 [(505009500,.slice 53 5 (ml aN m.f_.aA) 0 false),(505009502,.slice 75 3 (ml aJ m.f_.aq) 0 false),(900000097,.cells 97 [lf aC m.f_.Links,.own 505009500,.own 505009502])] [.ptr 900000097 0,i6 i] (λa σ'=>a=.tup []∧σ'=[(900000097,.cells 97 [lf aC r.f_.Links,.own 505009501,.own 505009503]),(505009501,.slice 53 5 (ml aN r.f_.aA) 0 false),(505009503,.slice 75 3 (ml aJ r.f_.aq) 0 false)]):=by
 refine aZ func95 rfl rfl ?_
 unfold fR at hm
 obtain⟨e_1,h1,hm⟩:=aa hm
 refine qS [(6,hix (ix aN h1)),(7,hlo 505009500 0 (ix aN h1)),(8,.al 95004)] [(0,.ptr 900000097 0),(4,.ptr 95004 0)] [(505009500,.slice 53 5 (ml aN m.f_.aA) 0 false),(505009502,.slice 75 3 (ml aJ m.f_.aq) 0 false),(900000097,.cells 97 [lf aC m.f_.Links,.own 505009500,.own 505009502]),(95004,.cells 53 (k9 e_1))] ?_
 obtain⟨ah,h2,hm⟩:=aa hm
 obtain⟨aD,h3,hm⟩:=aa hm
 refine qD [(4,hdl [505009500,505009502] [500003200,500003201] (fk h2) aa3 ⟨jt aX (λ_=>rfl) _,jt aC (λ_=>rfl) _,trivial⟩),(7,hdl [500003200,500003201] [500014400] (vI h3) as0 ⟨jt bK (λ_=>rfl) _,trivial⟩),(8,hto (lnE bK aD))] [] [(24,i6 0),(22,.own 500014400),(23,i6 (aD.length:Int))] [] [(500014400,.slice 3 1 (ml bK aD) 0 false)]<|A.block<|A.bW 22 rfl rfl λhb1=>?_
 obtain⟨B1,K1,hB1,hK1,hm⟩:=bF hm
 refine A.lpI (l:=aD) (j0:=0) (B:=B1) (K:=K1) hm (λj1=>λm_1=>[(0,.ptr 900000097 0),(4,.ptr 95004 0),(22,.own 500014400),(23,i6 (aD.length:Int)),(24,i6 (j1:Int))]) (λj1=>λm_1=>[(505009500,.slice 53 5 (ml aN m.f_.aA) 0 false),(900000097,.cells 97 [lf aC m.f_.Links,.own 505009500,.own 700009702]),(95004,.cells 53 (k9 e_1)),(500014400,.slice 3 1 (ml bK aD) 0 false),(700009702,.slice 75 3 (ml aJ m_1) 0 false)]) ?_ ?_ ?_
 ·exact bA.go [.rn 505009502 700009702] [] (by kernel_rfl)
 ·rintro j1 e1 Z1 m_1 hj1 hx1 hm
  rw[hB1]at hm
  refine qDs [] [] [(25,.bool (decide ((j1:Int)<(aD.length:Int))))]<|A.seq<|qT (ltT hx1)<|A.skip<|A.seq<|A.block<|qDs [(0,hix (ix bK (bh hx1))),(1,hlo 500014400 0 (ix bK (bh hx1)))] [25] [(6,i6 e1)] ?_
  obtain⟨aP,h4,hm⟩:=aa hm
  obtain⟨l_1,h5,hm⟩:=aa hm
  exact qG [(11,hro (ga h4) aer),(14,hap 95542 (ap aJ (bytes:=40) (by decide) h5))] [6] [] [900000097,700009702] [(900000097,.cells 97 [lf aC m.f_.Links,.own 505009500,.own 95542]),(95542,.slice 75 3 (ml aJ l_1) 0 false)]<|qGs [(0,hto (inc hx1 hb1))] [24] [(24,i6 ((j1+1:Nat):Int))]<|Exists.intro l_1 (And.intro hm (bA.go [.sw 95542 700009702] [] (by kernel_rfl)))
 rintro j1 m_1 hj1 hl1 hm
 rw[hK1]at hm
 refine qDs [] [] [(25,.bool (decide ((j1:Int)<(aD.length:Int))))]<|A.seq<|qF (ltF hl1)<|A.exit ?_
 obtain rfl:=some_inj hm
 exact A.fin W0 [.rn 505009500 505009501,.sw 700009702 505009503] rfl (by kernel_rfl)
theorem nL{k:Int}(hm:eo m k=some r):bM prog 104 [(505010400,.slice 53 5 (ml aN m.f_.aA) 0 false),(505010402,.slice 75 3 (ml aJ m.f_.aq) 0 false),(900000097,.cells 97 [lf aC m.f_.Links,.own 505010400,.own 505010402])] [.ptr 900000097 0,i6 k] (λa σ'=>a=.tup []∧σ'=[(900000097,.cells 97 [lf aC r.f_.Links,.own 505010401,.own 505010403]),(505010401,.slice 53 5 (ml aN r.f_.aA) 0 false),(505010403,.slice 75 3 (ml aJ r.f_.aq) 0 false)]):=by
 refine aZ func104 rfl rfl ?_
 unfold eo at hm
 obtain⟨e_1,h1,hm⟩:=aa hm
 refine qS [(6,hix (ix aJ h1)),(7,hlo 505010402 0 (ix aJ h1)),(8,.al 104004)] [(0,.ptr 900000097 0),(1,i6 k),(4,.ptr 104004 0)] [(505010400,.slice 53 5 (ml aN m.f_.aA) 0 false),(505010402,.slice 75 3 (ml aJ m.f_.aq) 0 false),(900000097,.cells 97 [lf aC m.f_.Links,.own 505010400,.own 505010402]),(104004,.cells 75 (k10 e_1))] ?_
 obtain⟨l_1,h2,hm⟩:=aa hm
 refine qD [(9,hdc [520104001] (adg (d:=505010402) (D:=520104001) h2 (by decide)) aku)] [1] [] [505010402,900000097] [(900000097,.cells 97 [lf aC m.f_.Links,.own 505010400,.own 520104001]),(520104001,.slice 75 3 (ml aJ l_1) 0 false)]<|A.seq ?_
 obtain⟨ah,h3,hm⟩:=aa hm
 obtain⟨aD,h4,hm⟩:=aa hm
 refine qDs [(4,hdl [505010400,520104001] [500003200,500003201] (fk h3) aa3 ⟨jt aX (λ_=>rfl) _,jt aC (λ_=>rfl) _,trivial⟩),(9,hle [500003200,500003201] (uu h4) akr)] [] [(6,.bool aD.2)]<|qDs [] [6] [(49,.bool (!aD.2))] ?_
 rcases az hm with⟨c1,hm⟩|⟨c1,hm⟩
 ·refine qT c1<|A.ret ?_
  obtain rfl:=some_inj hm
  exact A.fin W0 [.rn 505010400 505010401,.sw 520104001 505010403] rfl (by kernel_rfl)
 refine qF c1<|A.skip ?_
 obtain⟨aP,h5,hm⟩:=aa hm
 refine qDs [(6,hle [505010400,520104001] (kI h5) aeq)] [49] [(7,i6 aP.1)] ?_
 obtain⟨e_2,h6,hm⟩:=aa hm
 refine qDs [(6,hix (ix aN h6))] [] [(9,.ptr 505010400 (aP.1.toNat*5))] ?_
 obtain⟨bt,h7,hm⟩:=aa hm
 obtain⟨l_2,h8,hm⟩:=aa hm
 refine qD [(4,hlo 505010400 4 (ix aN h6)),(7,hro (yS h7) as5),(13,hso 505010400 (st aN (off:=4) (ca:=(k8 bt.1)) h6 h8 rfl) (gP h6).1.1)] [4] [] [505010400,104004] [(505010400,.slice 53 5 (ml aN l_2) 0 false)] ?_
 obtain⟨e_3,h9,hm⟩:=aa hm
 obtain⟨bL,h10,hm⟩:=aa hm
 refine qD [(3,hlo 505010400 4 (ix aN h9)),(7,hlo 505010400 0 (ix aN h9)),(8,hro (uw h10) apF),(12,.al 104010)] [] [(10,.ptr 104010 0),(11,.bool bL.2)] [] [(104010,.cells 66 (k7 bL.1))] ?_
 obtain⟨cq,h11,hm⟩:=aa hm
 refine qD [(6,hlo 505010400 0 (ix aN h9)),(7,hdl [505010400,520104001] [500007000,500007001] (lE h11) aeo ⟨jt bx (λ_=>rfl) _,jt bn (λ_=>rfl) _,trivial⟩),(11,.al 104012)] [] [(12,.ptr 104012 0),(13,.bool cq.2)] [] [(104012,.cells 66 [i6 cq.1.af,i6 cq.1.Seq,.bool cq.1.aY,.own 500007000,.own 500007001]),(500007000,.slice 105 3 (ml bx cq.1.Links) 0 false),(500007001,.slice 91 3 (ml bn cq.1.Claims) 0 false)] ?_
 obtain⟨J1,hJ1,hm⟩:=bQ hm
 refine A.J (J:=J1) (r:=r) (λv_1=>[(0,.ptr 900000097 0),(7,i6 aP.1),(9,.ptr 505010400 (aP.1.toNat*5)),(10,.ptr 104010 0),(118,.bool v_1)]) (λv_1=>[(505010400,.slice 53 5 (ml aN l_2) 0 false),(900000097,.cells 97 [lf aC m.f_.Links,.own 505010400,.own 520104001]),(520104001,.slice 75 3 (ml aJ l_1) 0 false),(104010,.cells 66 (k7 bL.1))]) ?_ ?_
 ·rcases az hm with⟨c2,hm⟩|⟨c2,hm⟩
  ·rcases az hm with⟨c3,hm⟩|⟨c3,hm⟩
   ·exact qG [(1,hto (bE c2)),(4,hto (bE c3))] [11,12,13] [(118,.bool (decide (bL.1.Seq<1000000)))] [104012,500007000,500007001] []<|qX (decide (bL.1.Seq<1000000)) hm
   obtain⟨cU,h12,hm⟩:=aa hm
   rcases az hm with⟨c4,hm⟩|⟨c4,hm⟩
   ·exact qG [(1,hto (bE c2)),(4,hto (bE c3)),(7,hle [500007000,500007001] (jT h12) aco),(11,hto (bE c4))] [11,12,13] [(118,.bool (decide (bL.1.Seq<1000000)))] [104012,500007000,500007001] []<|qX (decide (bL.1.Seq<1000000)) hm
   exact qG [(1,hto (bE c2)),(4,hto (bE c3)),(7,hle [500007000,500007001] (jT h12) aco),(11,hto (bE c4))] [11,12,13] [(118,.bool false)] [104012,500007000,500007001] []<|qX false hm
  exact qG [(1,hto (bE c2))] [11,12,13] [(118,.bool false)] [104012,500007000,500007001] []<|qX false hm
 rintro v_1 hm
 rw[hJ1]at hm
 rcases az hm with⟨c5,hm⟩|⟨c5,hm⟩
 ·refine qT c5 ?_
  obtain⟨l_3,h13,hm⟩:=aa hm
  refine qD [(6,hso 505010400 (st aN (off:=1) (ca:=[i6 (w64 (bL.1.Seq+1))]) h9 h13 rfl) (gP h9).1.1)] [9,10,118] [] [505010400,104010] [(505010400,.slice 53 5 (ml aN l_3) 0 false)] ?_
  obtain⟨dz,h14,hm⟩:=aa hm
  refine qR [(2,hdc [520104002,520104003] (SC.at [(505009200,505010400),(505009202,520104001),(505009201,520104002),(505009203,520104003)] (gN h14)) agB)] [] [(900000097,.cells 97 [lf aC dz.f_.Links,.own 520104002,.own 520104003]),(520104002,.slice 53 5 (ml aN dz.f_.aA) 0 false),(520104003,.slice 75 3 (ml aJ dz.f_.aq) 0 false)] ?_
  obtain rfl:=some_inj hm
  exact A.fin W0 [.sw 520104002 505010401,.sw 520104003 505010403] rfl (by kernel_rfl)
 refine qF c5<|A.skip ?_
 obtain rfl:=some_inj hm
 exact A.fin W0 [.rn 505010400 505010401,.sw 520104001 505010403] rfl (by kernel_rfl)
theorem oo(hm:fH m=some r):bM prog 64 [(505006400,.slice 53 5 (ml aN m.f_.aA) 0 false),(505006402,.slice 75 3 (ml aJ m.f_.aq) 0 false),(900000097,.cells 97 [lf aC m.f_.Links,.own 505006400,.own 505006402])] [.ptr 900000097 0] (λa σ'=>a=.tup []∧σ'=[(900000097,.cells 97 [lf aC r.f_.Links,.own 505006401,.own 505006403]),(505006401,.slice 53 5 (ml aN r.f_.aA) 0 false),(505006403,.slice 75 3 (ml aJ r.f_.aq) 0 false)]):=by
 refine aZ func64 rfl rfl ?_
 unfold fH at hm
 refine A.block ?_
 obtain⟨F1,n1,hF1,hm⟩:=ji hm
 refine A.lpW (F:=F1) hm (λ(m_1,m_2,m_3)=>[(0,.ptr 900000097 0)]) (λ(m_1,m_2,m_3)=>[(900000097,.cells 97 [lf aC m_1,.own 700009701,.own 700009702]),(700009701,.slice 53 5 (ml aN m_2) 0 false),(700009702,.slice 75 3 (ml aJ m_3) 0 false)]) ?_ ?_
 ·exact bA.go [.rn 505006400 700009701,.rn 505006402 700009702] [] (by kernel_rfl)
 rintro Z1 ⟨m_1,m_2,m_3⟩ hm
 rw[hF1]at hm
 refine A.seq<|qDs [(5,hto (lnE aJ m_3))] [] [(8,.bool (decide (0<(m_3.length:Int))))] ?_
 rcases az hm with⟨c1,hm⟩|⟨c1,hm⟩
 ·refine qT c1<|A.skip<|A.block ?_
  obtain⟨ah,h1,hm⟩:=aa hm
  exact qR [(1,hdc [520064001,520064002] (SC.at [(505010400,700009701),(505010402,700009702),(505010401,520064001),(505010403,520064002)] (nL h1)) akt)] [(0,.ptr 900000097 0)] [(900000097,.cells 97 [lf aC ah.f_.Links,.own 520064001,.own 520064002]),(520064001,.slice 53 5 (ml aN ah.f_.aA) 0 false),(520064002,.slice 75 3 (ml aJ ah.f_.aq) 0 false)]<|Exists.intro (ah.f_.Links,ah.f_.aA,ah.f_.aq) (And.intro hm (bA.go [.sw 520064001 700009701,.sw 520064002 700009702] [] (by kernel_rfl)))
 refine qF c1<|A.exit ?_
 obtain rfl:=some_inj hm
 exact A.fin W0 [.sw 700009701 505006401,.sw 700009702 505006403] rfl (by kernel_rfl)
theorem th(hm:gb m=some r):bM prog 65 [(505006500,.slice 53 5 (ml aN m.f_.aA) 0 false),(505006502,.slice 75 3 (ml aJ m.f_.aq) 0 false),(900000097,.cells 97 [lf aC m.f_.Links,.own 505006500,.own 505006502])] [.ptr 900000097 0] (λa σ'=>a=.tup []∧σ'=[(900000097,.cells 97 [lf aC r.f_.Links,.own 505006501,.own 505006503]),(505006501,.slice 53 5 (ml aN r.f_.aA) 0 false),(505006503,.slice 75 3 (ml aJ r.f_.aq) 0 false)]):=by
 refine aZ func65 rfl rfl ?_
 unfold gb at hm
 refine qS [(5,hto (lnE aN m.f_.aA))] [(0,.ptr 900000097 0),(8,i6 (m.f_.aA.length:Int)),(9,i6 0)] [(505006500,.slice 53 5 (ml aN m.f_.aA) 0 false),(505006502,.slice 75 3 (ml aJ m.f_.aq) 0 false),(900000097,.cells 97 [lf aC m.f_.Links,.own 505006500,.own 505006502])]<|A.block<|A.bD 0 1 rfl rfl rfl rfl λhb1=>?_
 obtain⟨B1,K1,hB1,hK1,hm⟩:=bF hm
 refine A.lpI (l:=m.f_.aA) (j0:=0) (B:=B1) (K:=K1) hm (λj1=>λ(m_1,m_2,m_3)=>[(0,.ptr 900000097 0),(8,i6 (m.f_.aA.length:Int)),(9,i6 (j1:Int))]) (λj1=>λ(m_1,m_2,m_3)=>[(900000097,.cells 97 [lf aC m_1,.own 700009701,.own 700009702]),(700009701,.slice 53 5 (ml aN m_2) 0 false),(700009702,.slice 75 3 (ml aJ m_3) 0 false)]) ?_ ?_ ?_
 ·exact bA.go [.rn 505006500 700009701,.rn 505006502 700009702] [] (by kernel_rfl)
 ·rintro j1 e1 Z1 ⟨m_1,m_2,m_3⟩ hj1 hx1 hm
  rw[hB1]at hm
  refine qDs [] [] [(10,.bool (decide ((j1:Int)<(m.f_.aA.length:Int))))]<|A.seq<|qT (ltT hx1)<|A.skip<|A.seq<|A.block<|qDs [] [10] [(2,i6 (j1:Int))] ?_
  obtain⟨ah,h1,hm⟩:=aa hm
  exact qG [(2,hdc [520065001,520065002] (SC.at [(505009500,700009701),(505009502,700009702),(505009501,520065001),(505009503,520065002)] (o4 h1)) apI)] [2] [] [900000097,700009701,700009702] [(900000097,.cells 97 [lf aC ah.f_.Links,.own 520065001,.own 520065002]),(520065001,.slice 53 5 (ml aN ah.f_.aA) 0 false),(520065002,.slice 75 3 (ml aJ ah.f_.aq) 0 false)]<|qGs [(0,hto (inc hx1 hb1))] [9] [(9,i6 ((j1+1:Nat):Int))]<|Exists.intro (ah.f_.Links,ah.f_.aA,ah.f_.aq) (And.intro hm (bA.go [.sw 520065001 700009701,.sw 520065002 700009702] [] (by kernel_rfl)))
 rintro j1 ⟨m_1,m_2,m_3⟩ hj1 hl1 hm
 rw[hK1]at hm
 refine qDs [] [] [(10,.bool (decide ((j1:Int)<(m.f_.aA.length:Int))))]<|A.seq<|qF (ltF hl1)<|A.exit ?_
 obtain rfl:=some_inj hm
 exact A.fin W0 [.sw 700009701 505006501,.sw 700009702 505006503] rfl (by kernel_rfl)
theorem mw{sa0:List aR}{del:aR→Option Bool}{wG:Nat}{yg:List AV}(agK:aT prog wG)(agL:∀(y0:aR) (q:Bool),del y0=some q→RO prog wG [] ([.agg (k10 y0)]++yg) (.bool q)){r:(List aR)}(hm:cQ sa0 del=some r):bM prog 100 [(508010000,.slice 75 3 (ml aJ sa0) 0 false)] [.own 508010000,.cfn wG yg] (λa σ'=>a=.own 500010000∧σ'=[(500010000,.slice 75 3 (ml aJ r) 0 false)]):=by
 refine aZ func100 rfl rfl ?_
 unfold cQ at hm
 refine qS [] [(0,.own 508010000),(1,.cfn wG yg)] [(508010000,.slice 75 3 (ml aJ sa0) 0 false)] ?_
 obtain⟨ah,h1,hm⟩:=aa hm
 refine qDs [(2,hle [508010000] (mA (f_k:=agK) (f_f:=agL) h1) as3)] [] [(5,i6 ah)]<|A.seq<|qDs [] [] [(12,.bool (decide (ah=(-1:Int))))] ?_
 rcases az hm with⟨c1,hm⟩|⟨c1,hm⟩
 ·refine qT c1<|qDs [] [0,1,5,12] [(4,.own 508010000)]<|A.ret ?_
  obtain rfl:=some_inj hm
  exact A.fin W0 [.rn 508010000 500010000] rfl (by kernel_rfl)
 refine qF c1<|A.skip<|A.seq<|qDs [] [12] [(6,i6 (w64 (ah+1)))]<|A.block ?_
 obtain⟨F1,n1,hF1,hm⟩:=ji hm
 refine A.lpW (F:=F1) hm (λ(oK,i_1,j_1)=>[(0,.own 600100000),(1,.cfn wG yg),(5,i6 i_1),(6,i6 j_1)]) (λ(oK,i_1,j_1)=>[(600100000,.slice 75 3 (ml aJ oK) 0 false)]) ?_ ?_
 ·exact bA.go [.rn 508010000 600100000] [] (by kernel_rfl)
 rintro Z1 ⟨oK,i_1,j_1⟩ hm
 rw[hF1]at hm
 refine A.seq<|qDs [(2,hto (lnE aJ oK))] [] [(19,.bool (decide (j_1<(oK.length:Int))))] ?_
 rcases az hm with⟨c2,hm⟩|⟨c2,hm⟩
 ·refine qT c2<|A.skip ?_
  obtain⟨J1,hJ1,hm⟩:=bQ hm
  refine A.J (J:=J1) (r:=r) (λ(acB,i_2)=>[(0,.own 600100000),(1,.cfn wG yg),(5,i6 i_2),(6,i6 j_1)]) (λ(acB,i_2)=>[(600100000,.slice 75 3 (ml aJ acB) 0 false)]) ?_ ?_
  ·refine A.block ?_
   obtain⟨e_1,h2,hm⟩:=aa hm
   refine qD [(2,hix (ix aJ h2)),(3,hlo 600100000 0 (ix aJ h2)),(4,.al 100007)] [19] [(7,.ptr 100007 0)] [] [(100007,.cells 75 (k10 e_1))] ?_
   obtain⟨aD,h3,hm⟩:=aa hm
   refine qDs [(2,hrf (agL _ _ h3) agK)] [] [(29,.bool (!aD))] ?_
   rcases az hm with⟨c3,hm⟩|⟨c3,hm⟩
   ·refine qT c3 ?_
    obtain⟨e_2,h4,hm⟩:=aa hm
    obtain⟨l_1,h5,hm⟩:=aa hm
    exact qD [(3,hix (ix aJ h4)),(4,hso 600100000 (st aJ (off:=0) (ca:=(k10 e_1)) h4 h5 rfl) (gP h4).1.1)] [7,29] [] [600100000,100007] [(600100000,.slice 75 3 (ml aJ l_1) 0 false)]<|qGs [] [5] [(5,i6 (w64 (i_1+1)))]<|qX (l_1,w64 (i_1+1)) hm
   exact qF c3<|A.skip<|qX (oK,i_1) hm
  rintro⟨acB,i_2⟩ hm
  rw[hJ1]at hm
  exact qGs [] [6] [(6,i6 (w64 (j_1+1)))]<|qX (acB,i_2,w64 (j_1+1)) hm
 refine qF c2<|A.exit ?_
 obtain⟨h6,hm⟩:=iB hm
 have h6:=of_decide_eq_true h6
 refine A.seq (A.clr (T:=25) 0 5 36 37 38 75 3 600100000 (zr:=aJ.enc (aR.mk (0:Int) (0:Int) (aF.mk []))) ⟨rfl,rfl,rfl⟩ ⟨rfl,rfl,rfl⟩ ⟨rfl,rfl,rfl⟩ ⟨rfl,rfl,rfl⟩ ⟨Nat.le_of_ble_eq_true rfl,Nat.le_of_ble_eq_true rfl,Nat.le_of_ble_eq_true rfl⟩ (by decide) aiw zeroValue75 (by decide) (λI=>by show bY I [i6 ((aR.mk (0:Int) (0:Int) (aF.mk [])).cD),i6 ((aR.mk (0:Int) (0:Int) (aF.mk [])).To),lf aQ (((aR.mk (0:Int) (0:Int) (aF.mk [])).Database).aG)] _;simp only[bY,bg];exact⟨_,_,rfl,rfl,⟨_,_,rfl,rfl,⟨_,_,rfl,⟨none,0,rfl,Nat.le_refl _,Nat.zero_le _,λ_=>rfl,.inl rfl⟩,rfl⟩⟩⟩) rfl rfl rfl rfl (ash aJ h6) ⟨rfl,rfl,rfl⟩ (aoM aJ oK i_1.toNat (aR.mk (0:Int) (0:Int) (aF.mk []))) ?_)
 show ay _ _ _ [(0,.own 600100000),(1,.cfn wG yg),(5,i6 i_1),(6,i6 j_1),(19,.bool (decide (j_1<(oK.length:Int))))] [(600100000,.slice 75 3 (ml aJ (oK.take i_1.toNat++List.replicate (oK.length-i_1.toNat) (aR.mk (0:Int) (0:Int) (aF.mk [])))) 0 false)]
 obtain⟨l_2,h7,hm⟩:=aa hm
 refine qS [(2,hcB 100541 aiw (sl aJ h7))] [(4,.own 100541)] [(100541,.slice 75 3 (ml aJ l_2) 0 false)]<|A.ret ?_
 obtain rfl:=some_inj hm
 exact A.fin W0 [.sw 100541 500010000] rfl (by kernel_rfl)
end Go.Proofs.YtjdopimopgpagaaGreat
