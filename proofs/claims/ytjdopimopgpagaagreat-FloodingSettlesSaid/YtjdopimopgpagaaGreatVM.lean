/- The eD of cw of the program. No condition but bK bu stand in each. -/
import Derived.Test.YtjdopimopgpagaaGreatVF
namespace Go.Proofs.YtjdopimopgpagaaGreat
open Go Go.Proofs.Tryz
set_option maxRecDepth 100000
set_option linter.all false
variable {i:Int}{m r:aM}
theorem mZ(hm:dI m i=some r):bO prog 92 [(505009200,.slice 53 5 (ml aO m.f_.aB) 0 false),(505009202,.slice 75 3 (ml bf m.f_.aF) 0 false),(900000097,.cells 97 [lf aC m.f_.Links,.own 505009200,.own 505009202])] [.ptr 900000097 0,i6 i] (λa σ'=>a=.tup []∧σ'=[(900000097,.cells 97 [lf aC r.f_.Links,.own 505009201,.own 505009203]),(505009201,.slice 53 5 (ml aO r.f_.aB) 0 false),(505009203,.slice 75 3 (ml bf r.f_.aF) 0 false)]):=by
 refine aY func92 rfl rfl ?_
 unfold dI at hm
 obtain⟨e_1,h1,hm⟩:=aa hm
 refine qS [(6,hix (ix aO h1))] [(0,.ptr 900000097 0),(4,.ptr 505009200 (i.toNat*5))] [(505009200,.slice 53 5 (ml aO m.f_.aB) 0 false),(505009202,.slice 75 3 (ml bf m.f_.aF) 0 false),(900000097,.cells 97 [lf aC m.f_.Links,.own 505009200,.own 505009202])] ?_
 obtain⟨ah,h2,hm⟩:=aa hm
 refine qD [(6,hlo 505009200 0 (ix aO h1)),(7,hdl [505009200,505009202] [500007000,500007001] (qv h2) aiO ⟨l7 bz (λ_=>rfl) _,l7 bh (λ_=>rfl) _,trivial⟩),(11,.al 92005)] [0] [(5,.ptr 92005 0),(6,.bool ah.2)] [] [(92005,.cells 66 [i6 ah.1.af,i6 ah.1.Seq,.bool ah.1.aW,.own 500007000,.own 500007001]),(500007000,.slice 105 3 (ml bz ah.1.Links) 0 false),(500007001,.slice 91 3 (ml bh ah.1.Claims) 0 false)]<|qDs [] [6] [(25,.bool ah.2)] ?_
 rcases aq hm with⟨c1,hm⟩|⟨c1,hm⟩
 ·refine qT c1 ?_
  obtain⟨aD,h3,hm⟩:=aa hm
  obtain⟨l_1,h4,hm⟩:=aa hm
  refine A.R W0 [.fz [500007000,500007001]] [(4,hlo 505009200 4 (ix aO h1)),(6,hro (aad h3) asB),(12,hso 505009200 (st aO (off:=4) (ca:=(k8 aD.1)) h1 h4 rfl) (jD h1).1.1)] [] [(505009200,.slice 53 5 (ml aO l_1) 0 false),(505009202,.slice 75 3 (ml bf m.f_.aF) 0 false),(900000097,.cells 97 [lf aC m.f_.Links,.own 505009200,.own 505009202])] (by kernel_rfl) ?_
  obtain rfl:=some_inj hm
  exact A.fin W0 [.rn 505009200 505009201,.rn 505009202 505009203] rfl (by kernel_rfl)
 refine qF c1<|A.skip ?_
 obtain rfl:=some_inj hm
 exact A.fin W0 [.rn 505009200 505009201,.rn 505009202 505009203] rfl (by kernel_rfl)
theorem uE(hm:gW m i=some r):bO prog 95 [(505009500,.slice 53 5 (ml aO m.f_.aB) 0 false),(505009502,.slice 75 3 (ml bf m.f_.aF) 0 false),(900000097,.cells 97 [lf aC m.f_.Links,.own 505009500,.own 505009502])] [.ptr 900000097 0,i6 i] (λa σ'=>a=.tup []∧σ'=[(900000097,.cells 97 [lf aC r.f_.Links,.own 505009501,.own 505009503]),(505009501,.slice 53 5 (ml aO r.f_.aB) 0 false),(505009503,.slice 75 3 (ml bf r.f_.aF) 0 false)]):=by
 refine aY func95 rfl rfl ?_
 unfold gW at hm
 obtain⟨e_1,h1,hm⟩:=aa hm
 refine qS [(6,hix (ix aO h1)),(7,hlo 505009500 0 (ix aO h1)),(8,.al 95004)] [(0,.ptr 900000097 0),(4,.ptr 95004 0)] [(505009500,.slice 53 5 (ml aO m.f_.aB) 0 false),(505009502,.slice 75 3 (ml bf m.f_.aF) 0 false),(900000097,.cells 97 [lf aC m.f_.Links,.own 505009500,.own 505009502]),(95004,.cells 53 (k9 e_1))] ?_
 obtain⟨ah,h2,hm⟩:=aa hm
 obtain⟨aD,h3,hm⟩:=aa hm
 refine qD [(4,hdl [505009500,505009502] [500003200,500003201] (fZ h2) ab8 ⟨l7 aP (λ_=>rfl) _,l7 aC (λ_=>rfl) _,trivial⟩),(7,hdl [500003200,500003201] [500014400] (vB h3) asC ⟨l7 bg (λ_=>rfl) _,trivial⟩),(8,hto (lnE bg aD))] [] [(24,i6 0),(22,.own 500014400),(23,i6 (aD.length:Int))] [] [(500014400,.slice 3 1 (ml bg aD) 0 false)]<|A.block<|A.bW 22 rfl rfl λhb1=>?_
 obtain⟨B1,K1,hB1,hK1,hm⟩:=bw hm
 refine A.lpI (l:=aD) (j0:=0) (B:=B1) (K:=K1) hm (λj1=>λm_1=>[(0,.ptr 900000097 0),(4,.ptr 95004 0),(22,.own 500014400),(23,i6 (aD.length:Int)),(24,i6 (j1:Int))]) (λj1=>λm_1=>[(505009500,.slice 53 5 (ml aO m.f_.aB) 0 false),(900000097,.cells 97 [lf aC m.f_.Links,.own 505009500,.own 700009702]),(95004,.cells 53 (k9 e_1)),(500014400,.slice 3 1 (ml bg aD) 0 false),(700009702,.slice 75 3 (ml bf m_1) 0 false)]) ?_ ?_ ?_
 ·exact bA.go [.rn 505009502 700009702] [] (by kernel_rfl)
 ·rintro j1 e1 Z1 m_1 hj1 hx1 hm
  rw[hB1]at hm
  refine qDs [] [] [(25,.bool (decide ((j1:Int)<(aD.length:Int))))]<|A.seq<|qT (ltT hx1)<|A.skip<|A.seq<|A.block<|qDs [(0,hix (ix bg (aV hx1))),(1,hlo 500014400 0 (ix bg (aV hx1)))] [25] [(6,i6 e1)] ?_
  obtain⟨aN,h4,hm⟩:=aa hm
  obtain⟨l_1,h5,hm⟩:=aa hm
  exact qG [(11,hro (kT h4) aiS),(14,hap 95542 (ap bf (bytes:=40) (by decide) h5))] [6] [] [900000097,700009702] [(900000097,.cells 97 [lf aC m.f_.Links,.own 505009500,.own 95542]),(95542,.slice 75 3 (ml bf l_1) 0 false)]<|qGs [(0,hto (inc hx1 hb1))] [24] [(24,i6 ((j1+1:Nat):Int))]<|Exists.intro l_1 (And.intro hm (bA.go [.sw 95542 700009702] [] (by kernel_rfl)))
 rintro j1 m_1 hj1 hl1 hm
 rw[hK1]at hm
 refine qDs [] [] [(25,.bool (decide ((j1:Int)<(aD.length:Int))))]<|A.seq<|qF (ltF hl1)<|A.exit ?_
 obtain rfl:=some_inj hm
 exact A.fin W0 [.rn 505009500 505009501,.sw 700009702 505009503] rfl (by kernel_rfl)
theorem s9{k:Int}(hm:eN m k=some r):bO prog 104 [(505010400,.slice 53 5 (ml aO m.f_.aB) 0 false),(505010402,.slice 75 3 (ml bf m.f_.aF) 0 false),(900000097,.cells 97 [lf aC m.f_.Links,.own 505010400,.own 505010402])] [.ptr 900000097 0,i6 k] (λa σ'=>a=.tup []∧σ'=[(900000097,.cells 97 [lf aC r.f_.Links,.own 505010401,.own 505010403]),(505010401,.slice 53 5 (ml aO r.f_.aB) 0 false),(505010403,.slice 75 3 (ml bf r.f_.aF) 0 false)]):=by
 refine aY func104 rfl rfl ?_
 unfold eN at hm
 obtain⟨e_1,h1,hm⟩:=aa hm
 refine qS [(6,hix (ix bf h1)),(7,hlo 505010402 0 (ix bf h1)),(8,.al 104004)] [(0,.ptr 900000097 0),(1,i6 k),(4,.ptr 104004 0)] [(505010400,.slice 53 5 (ml aO m.f_.aB) 0 false),(505010402,.slice 75 3 (ml bf m.f_.aF) 0 false),(900000097,.cells 97 [lf aC m.f_.Links,.own 505010400,.own 505010402]),(104004,.cells 75 (k10 e_1))] ?_
 obtain⟨l_1,h2,hm⟩:=aa hm
 refine qD [(9,hdc [520104001] (ahc (d:=505010402) (D:=520104001) h2 (by decide)) asl)] [1] [] [505010402,900000097] [(900000097,.cells 97 [lf aC m.f_.Links,.own 505010400,.own 520104001]),(520104001,.slice 75 3 (ml bf l_1) 0 false)]<|A.seq ?_
 obtain⟨ah,h3,hm⟩:=aa hm
 obtain⟨aD,h4,hm⟩:=aa hm
 refine qDs [(4,hdl [505010400,520104001] [500003200,500003201] (fZ h3) ab8 ⟨l7 aP (λ_=>rfl) _,l7 aC (λ_=>rfl) _,trivial⟩),(9,hle [500003200,500003201] (yU h4) asi)] [] [(6,.bool aD.2)]<|qDs [] [6] [(49,.bool (!aD.2))] ?_
 rcases aq hm with⟨c1,hm⟩|⟨c1,hm⟩
 ·refine qT c1<|A.ret ?_
  obtain rfl:=some_inj hm
  exact A.fin W0 [.rn 505010400 505010401,.sw 520104001 505010403] rfl (by kernel_rfl)
 refine qF c1<|A.skip ?_
 obtain⟨aN,h5,hm⟩:=aa hm
 refine qDs [(6,hle [505010400,520104001] (ko h5) ad4)] [49] [(7,i6 aN.1)] ?_
 obtain⟨e_2,h6,hm⟩:=aa hm
 refine qDs [(6,hix (ix aO h6))] [] [(9,.ptr 505010400 (aN.1.toNat*5))] ?_
 obtain⟨bt,h7,hm⟩:=aa hm
 obtain⟨l_2,h8,hm⟩:=aa hm
 refine qD [(4,hlo 505010400 4 (ix aO h6)),(7,hro (yt h7) asG),(13,hso 505010400 (st aO (off:=4) (ca:=(k8 bt.1)) h6 h8 rfl) (jD h6).1.1)] [4] [] [505010400,104004] [(505010400,.slice 53 5 (ml aO l_2) 0 false)] ?_
 obtain⟨e_3,h9,hm⟩:=aa hm
 obtain⟨bL,h10,hm⟩:=aa hm
 refine qD [(3,hlo 505010400 4 (ix aO h9)),(7,hlo 505010400 0 (ix aO h9)),(8,hro (ug h10) apa),(12,.al 104010)] [] [(10,.ptr 104010 0),(11,.bool bL.2)] [] [(104010,.cells 66 (k7 bL.1))] ?_
 obtain⟨cc,h11,hm⟩:=aa hm
 refine qD [(6,hlo 505010400 0 (ix aO h9)),(7,hdl [505010400,520104001] [500007000,500007001] (qv h11) aiO ⟨l7 bz (λ_=>rfl) _,l7 bh (λ_=>rfl) _,trivial⟩),(11,.al 104012)] [] [(12,.ptr 104012 0),(13,.bool cc.2)] [] [(104012,.cells 66 [i6 cc.1.af,i6 cc.1.Seq,.bool cc.1.aW,.own 500007000,.own 500007001]),(500007000,.slice 105 3 (ml bz cc.1.Links) 0 false),(500007001,.slice 91 3 (ml bh cc.1.Claims) 0 false)] ?_
 obtain⟨J1,hJ1,hm⟩:=bN hm
 refine A.J (J:=J1) (r:=r) (λv_1=>[(0,.ptr 900000097 0),(7,i6 aN.1),(9,.ptr 505010400 (aN.1.toNat*5)),(10,.ptr 104010 0),(118,.bool v_1)]) (λv_1=>[(505010400,.slice 53 5 (ml aO l_2) 0 false),(900000097,.cells 97 [lf aC m.f_.Links,.own 505010400,.own 520104001]),(520104001,.slice 75 3 (ml bf l_1) 0 false),(104010,.cells 66 (k7 bL.1))]) ?_ ?_
 ·rcases aq hm with⟨c2,hm⟩|⟨c2,hm⟩
  ·rcases aq hm with⟨c3,hm⟩|⟨c3,hm⟩
   ·exact qG [(1,hto (bE c2)),(4,hto (bE c3))] [11,12,13] [(118,.bool (decide (bL.1.Seq<1000000)))] [104012,500007000,500007001] []<|qX (decide (bL.1.Seq<1000000)) hm
   obtain⟨de,h12,hm⟩:=aa hm
   rcases aq hm with⟨c4,hm⟩|⟨c4,hm⟩
   ·exact qG [(1,hto (bE c2)),(4,hto (bE c3)),(7,hle [500007000,500007001] (n9 h12) agf),(11,hto (bE c4))] [11,12,13] [(118,.bool (decide (bL.1.Seq<1000000)))] [104012,500007000,500007001] []<|qX (decide (bL.1.Seq<1000000)) hm
   exact qG [(1,hto (bE c2)),(4,hto (bE c3)),(7,hle [500007000,500007001] (n9 h12) agf),(11,hto (bE c4))] [11,12,13] [(118,.bool false)] [104012,500007000,500007001] []<|qX false hm
  exact qG [(1,hto (bE c2))] [11,12,13] [(118,.bool false)] [104012,500007000,500007001] []<|qX false hm
 rintro v_1 hm
 rw[hJ1]at hm
 rcases aq hm with⟨c5,hm⟩|⟨c5,hm⟩
 ·refine qT c5 ?_
  obtain⟨l_3,h13,hm⟩:=aa hm
  refine qD [(6,hso 505010400 (st aO (off:=1) (ca:=[i6 (w64 (bL.1.Seq+1))]) h9 h13 rfl) (jD h9).1.1)] [9,10,118] [] [505010400,104010] [(505010400,.slice 53 5 (ml aO l_3) 0 false)] ?_
  obtain⟨di,h14,hm⟩:=aa hm
  refine qR [(2,hdc [520104002,520104003] (SC.at [(505009200,505010400),(505009202,520104001),(505009201,520104002),(505009203,520104003)] (mZ h14)) apf)] [] [(900000097,.cells 97 [lf aC di.f_.Links,.own 520104002,.own 520104003]),(520104002,.slice 53 5 (ml aO di.f_.aB) 0 false),(520104003,.slice 75 3 (ml bf di.f_.aF) 0 false)] ?_
  obtain rfl:=some_inj hm
  exact A.fin W0 [.sw 520104002 505010401,.sw 520104003 505010403] rfl (by kernel_rfl)
 refine qF c5<|A.skip ?_
 obtain rfl:=some_inj hm
 exact A.fin W0 [.rn 505010400 505010401,.sw 520104001 505010403] rfl (by kernel_rfl)
theorem nQ(hm:fq m=some r):bO prog 64 [(505006400,.slice 53 5 (ml aO m.f_.aB) 0 false),(505006402,.slice 75 3 (ml bf m.f_.aF) 0 false),(900000097,.cells 97 [lf aC m.f_.Links,.own 505006400,.own 505006402])] [.ptr 900000097 0] (λa σ'=>a=.tup []∧σ'=[(900000097,.cells 97 [lf aC r.f_.Links,.own 505006401,.own 505006403]),(505006401,.slice 53 5 (ml aO r.f_.aB) 0 false),(505006403,.slice 75 3 (ml bf r.f_.aF) 0 false)]):=by
 refine aY func64 rfl rfl ?_
 unfold fq at hm
 refine A.block ?_
 obtain⟨F1,n1,hF1,hm⟩:=gZ hm
 refine A.lpW (F:=F1) hm (λ(m_1,m_2,m_3)=>[(0,.ptr 900000097 0)]) (λ(m_1,m_2,m_3)=>[(900000097,.cells 97 [lf aC m_1,.own 700009701,.own 700009702]),(700009701,.slice 53 5 (ml aO m_2) 0 false),(700009702,.slice 75 3 (ml bf m_3) 0 false)]) ?_ ?_
 ·exact bA.go [.rn 505006400 700009701,.rn 505006402 700009702] [] (by kernel_rfl)
 rintro Z1 ⟨m_1,m_2,m_3⟩ hm
 rw[hF1]at hm
 refine A.seq<|qDs [(5,hto (lnE bf m_3))] [] [(8,.bool (decide (0<(m_3.length:Int))))] ?_
 rcases aq hm with⟨c1,hm⟩|⟨c1,hm⟩
 ·refine qT c1<|A.skip<|A.block ?_
  obtain⟨ah,h1,hm⟩:=aa hm
  exact qR [(1,hdc [520064001,520064002] (SC.at [(505010400,700009701),(505010402,700009702),(505010401,520064001),(505010403,520064002)] (s9 h1)) asj)] [(0,.ptr 900000097 0)] [(900000097,.cells 97 [lf aC ah.f_.Links,.own 520064001,.own 520064002]),(520064001,.slice 53 5 (ml aO ah.f_.aB) 0 false),(520064002,.slice 75 3 (ml bf ah.f_.aF) 0 false)]<|Exists.intro (ah.f_.Links,ah.f_.aB,ah.f_.aF) (And.intro hm (bA.go [.sw 520064001 700009701,.sw 520064002 700009702] [] (by kernel_rfl)))
 refine qF c1<|A.exit ?_
 obtain rfl:=some_inj hm
 exact A.fin W0 [.sw 700009701 505006401,.sw 700009702 505006403] rfl (by kernel_rfl)
theorem ta(hm:fP m=some r):bO prog 65 [(505006500,.slice 53 5 (ml aO m.f_.aB) 0 false),(505006502,.slice 75 3 (ml bf m.f_.aF) 0 false),(900000097,.cells 97 [lf aC m.f_.Links,.own 505006500,.own 505006502])] [.ptr 900000097 0] (λa σ'=>a=.tup []∧σ'=[(900000097,.cells 97 [lf aC r.f_.Links,.own 505006501,.own 505006503]),(505006501,.slice 53 5 (ml aO r.f_.aB) 0 false),(505006503,.slice 75 3 (ml bf r.f_.aF) 0 false)]):=by
 refine aY func65 rfl rfl ?_
 unfold fP at hm
 refine qS [(5,hto (lnE aO m.f_.aB))] [(0,.ptr 900000097 0),(8,i6 (m.f_.aB.length:Int)),(9,i6 0)] [(505006500,.slice 53 5 (ml aO m.f_.aB) 0 false),(505006502,.slice 75 3 (ml bf m.f_.aF) 0 false),(900000097,.cells 97 [lf aC m.f_.Links,.own 505006500,.own 505006502])]<|A.block<|A.bD 0 1 rfl rfl rfl rfl λhb1=>?_
 obtain⟨B1,K1,hB1,hK1,hm⟩:=bw hm
 refine A.lpI (l:=m.f_.aB) (j0:=0) (B:=B1) (K:=K1) hm (λj1=>λ(m_1,m_2,m_3)=>[(0,.ptr 900000097 0),(8,i6 (m.f_.aB.length:Int)),(9,i6 (j1:Int))]) (λj1=>λ(m_1,m_2,m_3)=>[(900000097,.cells 97 [lf aC m_1,.own 700009701,.own 700009702]),(700009701,.slice 53 5 (ml aO m_2) 0 false),(700009702,.slice 75 3 (ml bf m_3) 0 false)]) ?_ ?_ ?_
 ·exact bA.go [.rn 505006500 700009701,.rn 505006502 700009702] [] (by kernel_rfl)
 ·rintro j1 e1 Z1 ⟨m_1,m_2,m_3⟩ hj1 hx1 hm
  rw[hB1]at hm
  refine qDs [] [] [(10,.bool (decide ((j1:Int)<(m.f_.aB.length:Int))))]<|A.seq<|qT (ltT hx1)<|A.skip<|A.seq<|A.block<|qDs [] [10] [(2,i6 (j1:Int))] ?_
  obtain⟨ah,h1,hm⟩:=aa hm
  exact qG [(2,hdc [520065001,520065002] (SC.at [(505009500,700009701),(505009502,700009702),(505009501,520065001),(505009503,520065002)] (uE h1)) ck95)] [2] [] [900000097,700009701,700009702] [(900000097,.cells 97 [lf aC ah.f_.Links,.own 520065001,.own 520065002]),(520065001,.slice 53 5 (ml aO ah.f_.aB) 0 false),(520065002,.slice 75 3 (ml bf ah.f_.aF) 0 false)]<|qGs [(0,hto (inc hx1 hb1))] [9] [(9,i6 ((j1+1:Nat):Int))]<|Exists.intro (ah.f_.Links,ah.f_.aB,ah.f_.aF) (And.intro hm (bA.go [.sw 520065001 700009701,.sw 520065002 700009702] [] (by kernel_rfl)))
 rintro j1 ⟨m_1,m_2,m_3⟩ hj1 hl1 hm
 rw[hK1]at hm
 refine qDs [] [] [(10,.bool (decide ((j1:Int)<(m.f_.aB.length:Int))))]<|A.seq<|qF (ltF hl1)<|A.exit ?_
 obtain rfl:=some_inj hm
 exact A.fin W0 [.sw 700009701 505006501,.sw 700009702 505006503] rfl (by kernel_rfl)
end Go.Proofs.YtjdopimopgpagaaGreat
