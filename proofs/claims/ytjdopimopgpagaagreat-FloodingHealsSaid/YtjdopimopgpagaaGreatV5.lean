/- The eN of cu of the program. No condition but bH bq stand in each. -/
import Derived.Test.YtjdopimopgpagaaGreatV4
import Derived.Test.YtjdopimopgpagaaGreatSO
namespace Go.Proofs.YtjdopimopgpagaaGreat
open Go Go.Proofs.Tryz
set_option maxRecDepth 100000
set_option linter.all false
variable {aM:Int}{r:(List Int)}{t:aB}
theorem qf(hm:gJ t aM=some r):bM prog 161 [] [.agg (k2 t),i6 aM] (λa σ'=>a=.own 500016100∧σ'=[(500016100,.slice 3 1 (ml bK r) 0 false)]):=by
 refine aZ func161 rfl rfl ?_
 unfold gJ at hm
 refine qS [(0,.al 161002)] [(1,i6 aM),(2,.ptr 161002 0)] [(161002,.cells 45 (k2 t))]<|qDs [] [] [(5,.aH)]<|A.seq<|qD [(2,hto (lnE aC t.Links))] [2] [(9,lf aC t.Links),(10,i6 (t.Links.length:Int)),(11,i6 0)] [161002] []<|A.block<|A.bS 9 rfl λhb1=>?_
 obtain⟨B1,K1,hB1,hK1,hm⟩:=bF hm
 refine A.lpI (l:=t.Links) (j0:=0) (B:=B1) (K:=K1) hm (λj1=>λdH=>[(1,i6 aM),(5,.own 600161005),(9,lf aC t.Links),(10,i6 (t.Links.length:Int)),(11,i6 (j1:Int))]) (λj1=>λdH=>[(600161005,.slice 3 1 (ml bK dH) 0 false)]) ?_ ?_ ?_
 ·exact bA.go [.ad 5 600161005 3 1] [] (by kernel_rfl)
 ·rintro j1 e1 Z1 dH hj1 hx1 hm
  rw[hB1]at hm
  refine qDs [] [] [(12,.bool (decide ((j1:Int)<(t.Links.length:Int))))]<|A.seq<|qT (ltT hx1)<|A.skip ?_
  obtain⟨J1,hJ1,hm⟩:=bQ hm
  refine A.J (J:=J1) (r:=r) (λqt=>[(1,i6 aM),(5,.own 600161005),(9,lf aC t.Links),(10,i6 (t.Links.length:Int)),(11,i6 (j1:Int))]) (λqt=>[(600161005,.slice 3 1 (ml bK qt) 0 false)]) ?_ ?_
  ·refine A.block<|qD [(0,hix (ix aC (bh hx1))),(2,.al 161007)] [12] [(7,.ptr 161007 0)] [] [(161007,.cells 86 (k1 e1))] ?_
   refine qDs [] [] [(15,i6 aM)]<|A.block<|qDs [] [] [(16,.bool (decide (aM=e1.A)))] ?_
   rcases az hm with⟨c1,hm⟩|⟨c1,hm⟩
   ·refine qT c1 ?_
    obtain⟨l_1,h1,hm⟩:=aa hm
    exact qG [(4,hap 161524 (ap bK (bytes:=8) (by decide) h1))] [5,7,15,16] [(5,.own 161524)] [600161005,161007] [(161524,.slice 3 1 (ml bK l_1) 0 false)]<|Exists.intro l_1 (And.intro hm (bA.go [.sw 161524 600161005] [] (by kernel_rfl)))
   refine qF c1<|qDs [] [15,16] [(25,.bool (decide (aM=e1.B)))] ?_
   rcases az hm with⟨c2,hm⟩|⟨c2,hm⟩
   ·refine qT c2 ?_
    obtain⟨l_2,h2,hm⟩:=aa hm
    exact qG [(4,hap 161533 (ap bK (bytes:=8) (by decide) h2))] [5,7,25] [(5,.own 161533)] [600161005,161007] [(161533,.slice 3 1 (ml bK l_2) 0 false)]<|Exists.intro l_2 (And.intro hm (bA.go [.sw 161533 600161005] [] (by kernel_rfl)))
   exact qF c2<|A.skip<|qX dH hm
  rintro qt hm
  rw[hJ1]at hm
  exact qGs [(0,hto (inc hx1 hb1))] [11] [(11,i6 ((j1+1:Nat):Int))]<|qX qt hm
 rintro j1 dH hj1 hl1 hm
 rw[hK1]at hm
 refine qDs [] [] [(12,.bool (decide ((j1:Int)<(t.Links.length:Int))))]<|A.seq<|qF (ltF hl1)<|A.exit ?_
 obtain⟨h3,hm⟩:=iB hm
 refine qS [(1,hdc [] (aes (d:=600161005) (T:=3) dH (of_decide_eq_true h3)) akG)] [(5,.own 600161005)] [(600161005,.slice 3 1 (ml bK (jG dH)) 0 false)]<|qDs [] [5] [(4,.own 600161005)]<|A.ret ?_
 obtain rfl:=some_inj hm
 exact A.fin W0 [.sw 600161005 500016100] rfl (by kernel_rfl)
theorem wq:∀(n_:Nat) {ra0:Int} {wW:List Int} {vF:List Int} {vG:List bf} {vH:List aV} {r:(List Int)} (hm:iq n_ ra0 wW vF vG vH=some r),bM prog 160 [(800160000,.cells 22 [.own 800160500]),(800160001,.cells 22 [lf bK vF]),(800160002,.cells 45 [lf aX vG,lf aC vH]),(800160003,.cells 121 [.fn 160 [.ptr 800160000 0,.ptr 800160001 0,.ptr 800160002 0,.ptr 800160003 0]]),(800160500,.slice 3 1 (ml bK wW) 0 false)] [i6 ra0,.ptr 800160000 0,.ptr 800160001 0,.ptr 800160002 0,.ptr 800160003 0] (λa σ'=>a=.tup []∧σ'=[(800160000,.cells 22 [.own 800160501]),(800160001,.cells 22 [lf bK vF]),(800160002,.cells 45 [lf aX vG,lf aC vH]),(800160003,.cells 121 [.fn 160 [.ptr 800160000 0,.ptr 800160001 0,.ptr 800160002 0,.ptr 800160003 0]]),(800160501,.slice 3 1 (ml bK r) 0 false)]):=by
 intro n_
 induction n_ with
 |zero=>intros;rename_i hm;cases hm
 |succ n_ ih=>
 intro ra0 wW vF vG vH r hm
 refine aZ func160 rfl rfl ?_
 rw[iq]at hm
 refine A.seq ?_
 obtain⟨J1,hJ1,hm⟩:=bQ hm
 refine A.J (J:=J1) (r:=r) (λv_1=>[(0,i6 ra0),(1,.ptr 800160000 0),(3,.ptr 800160002 0),(4,.ptr 800160003 0),(15,.bool v_1)]) (λv_1=>[(800160000,.cells 22 [.own 800160500]),(800160001,.cells 22 [lf bK vF]),(800160002,.cells 45 [lf aX vG,lf aC vH]),(800160003,.cells 121 [.fn 160 [.ptr 800160000 0,.ptr 800160001 0,.ptr 800160002 0,.ptr 800160003 0]]),(800160500,.slice 3 1 (ml bK wW) 0 false)]) ?_ ?_
 ·obtain⟨ah,h1,hm⟩:=aa hm
  rcases az hm with⟨c1,hm⟩|⟨c1,hm⟩
  ·exact qR [(2,hle [800160500] (gM h1) adO),(3,hto (bE c1))] [(0,i6 ra0),(1,.ptr 800160000 0),(3,.ptr 800160002 0),(4,.ptr 800160003 0),(15,.bool true)] [(800160000,.cells 22 [.own 800160500]),(800160001,.cells 22 [lf bK vF]),(800160002,.cells 45 [lf aX vG,lf aC vH]),(800160003,.cells 121 [.fn 160 [.ptr 800160000 0,.ptr 800160001 0,.ptr 800160002 0,.ptr 800160003 0]]),(800160500,.slice 3 1 (ml bK wW) 0 false)]<|qX true hm
  obtain⟨aD,h2,hm⟩:=aa hm
  exact qR [(2,hle [800160500] (gM h1) adO),(3,hto (bE c1)),(6,hro (gM h2) adO)] [(0,i6 ra0),(1,.ptr 800160000 0),(3,.ptr 800160002 0),(4,.ptr 800160003 0),(15,.bool aD)] [(800160000,.cells 22 [.own 800160500]),(800160001,.cells 22 [lf bK vF]),(800160002,.cells 45 [lf aX vG,lf aC vH]),(800160003,.cells 121 [.fn 160 [.ptr 800160000 0,.ptr 800160001 0,.ptr 800160002 0,.ptr 800160003 0]]),(800160500,.slice 3 1 (ml bK wW) 0 false)]<|qX aD hm
 rintro v_1 hm
 rw[hJ1]at hm
 rcases az hm with⟨c2,hm⟩|⟨c2,hm⟩
 ·refine qT c2<|A.ret ?_
  obtain rfl:=some_inj hm
  exact A.fin W0 [.rn 800160500 800160501] rfl (by kernel_rfl)
 refine qF c2<|A.skip ?_
 obtain⟨l_1,h3,hm⟩:=aa hm
 refine qD [(3,hap 160519 (ap bK (bytes:=8) (by decide) h3))] [1,15] [] [800160000,800160500] [(800160000,.cells 22 [.own 160519]),(160519,.slice 3 1 (ml bK l_1) 0 false)] ?_
 obtain⟨aP,h4,hm⟩:=aa hm
 refine qD [(2,hdc [500016100] (qf h4) akF),(3,hto (lnE bK aP))] [0,3] [(22,.own 500016100),(23,i6 (aP.length:Int)),(24,i6 0)] [] [(500016100,.slice 3 1 (ml bK aP) 0 false)]<|A.block<|A.bW 22 rfl rfl λhb1=>?_
 obtain⟨B1,K1,hB1,hK1,hm⟩:=bF hm
 refine A.lpI (l:=aP) (j0:=0) (B:=B1) (K:=K1) hm (λj1=>λm_1=>[(4,.ptr 800160003 0),(22,.own 500016100),(23,i6 (aP.length:Int)),(24,i6 (j1:Int))]) (λj1=>λm_1=>[(800160000,.cells 22 [.own 716000000]),(800160001,.cells 22 [lf bK vF]),(800160002,.cells 45 [lf aX vG,lf aC vH]),(800160003,.cells 121 [.fn 160 [.ptr 800160000 0,.ptr 800160001 0,.ptr 800160002 0,.ptr 800160003 0]]),(500016100,.slice 3 1 (ml bK aP) 0 false),(716000000,.slice 3 1 (ml bK m_1) 0 false)]) ?_ ?_ ?_
 ·exact bA.go [.sw 160519 716000000] [] (by kernel_rfl)
 ·rintro j1 e1 Z1 m_1 hj1 hx1 hm
  rw[hB1]at hm
  refine qDs [] [] [(25,.bool (decide ((j1:Int)<(aP.length:Int))))]<|A.seq<|qT (ltT hx1)<|A.skip<|A.seq<|A.block<|qDs [(0,hix (ix bK (bh hx1))),(1,hlo 500016100 0 (ix bK (bh hx1)))] [25] [(7,i6 e1)] ?_
  obtain⟨bt,h5,hm⟩:=aa hm
  exact qG [(2,hdc [520160001] (SC.at [(800160500,716000000),(800160501,520160001)] (ih h5)) akE)] [7] [] [800160000,716000000] [(800160000,.cells 22 [.own 520160001]),(520160001,.slice 3 1 (ml bK bt) 0 false)]<|qGs [(0,hto (inc hx1 hb1))] [24] [(24,i6 ((j1+1:Nat):Int))]<|Exists.intro bt (And.intro hm (bA.go [.sw 520160001 716000000] [] (by kernel_rfl)))
 rintro j1 m_1 hj1 hl1 hm
 rw[hK1]at hm
 refine qDs [] [] [(25,.bool (decide ((j1:Int)<(aP.length:Int))))]<|A.seq<|qF (ltF hl1)<|A.exit ?_
 obtain rfl:=some_inj hm
 exact A.fin W0 [.sw 716000000 800160501] rfl (by kernel_rfl)
theorem xu{eU:Int}{closed:List Int}(hm:ku t eU closed=some r):RO prog 118 [] [.agg (k2 t),i6 eU,lf bK closed] (lf bK r):=by
 refine aZ func118 rfl rfl ?_
 unfold ku at hm
 refine qS [(0,.al 118003),(1,.al 118005)] [(1,i6 eU),(3,.ptr 118003 0),(5,.ptr 118005 0)] [(118003,.cells 45 (k2 t)),(118005,.cells 22 [lf bK closed])]<|qD [(0,.al 118007)] [] [(7,.ptr 118007 0)] [] [(118007,.cells 22 [.aH])]<|qD [(0,.al 118008)] [] [(8,.ptr 118008 0)] [] [(118008,.cells 121 [.eS])]<|qD [] [3,5] [] [118008] [(118008,.cells 121 [.fn 160 [.ptr 118007 0,.ptr 118005 0,.ptr 118003 0,.ptr 118008 0]])] ?_
 obtain⟨ah,h1,hm⟩:=aa hm
 refine A.RS W0 [.ac 118007 800160500 3 1 0] [(2,hdc [520118001] (SC.at [(800160000,118007),(800160001,118005),(800160002,118003),(800160003,118008),(800160501,520118001)] (wq fuel h1)) akE)] [(7,.ptr 118007 0)] [(118007,.cells 22 [.own 520118001]),(520118001,.slice 3 1 (ml bK ah) 0 false)] (by kernel_rfl) ?_
 obtain⟨h2,hm⟩:=iB hm
 refine qS [(1,hdc [] (aes (d:=520118001) (T:=3) ah (of_decide_eq_true h2)) akG)] [(7,.ptr 118007 0)] [(118007,.cells 22 [.own 520118001]),(520118001,.slice 3 1 (ml bK (jG ah)) 0 false)]<|qD [] [7] [(6,.own 520118001)] [118007] []<|A.ret ?_
 obtain rfl:=some_inj hm
 exact A.fin W0 [.fz [520118001]] rfl (by kernel_rfl)
theorem vI(hm:iV t aM=some r):bM prog 144 [] [.agg (k2 t),i6 aM] (λa σ'=>a=.own 500014400∧σ'=[(500014400,.slice 3 1 (ml bK r) 0 false)]):=by
 refine aZ func144 rfl rfl ?_
 unfold iV at hm
 refine qS [(0,.al 144002)] [(1,i6 aM),(2,.ptr 144002 0)] [(144002,.cells 45 (k2 t))]<|A.seq ?_
 obtain⟨ah,h1,hm⟩:=aa hm
 refine qDs [(1,hro (iH h1) aad)] [] [(7,.bool (!ah))] ?_
 rcases az hm with⟨c1,hm⟩|⟨c1,hm⟩
 ·refine qT c1<|qS [] [(4,.aH)] []<|A.ret ?_
  obtain rfl:=some_inj hm
  exact A.fin W0 [.ad 4 500014400 3 1] rfl (by kernel_rfl)
 refine qF c1<|A.skip ?_
 obtain⟨aD,h2,hm⟩:=aa hm
 refine qS [(2,hdc [500016100] (qf h2) akF)] [(4,.own 500016100)] [(500016100,.slice 3 1 (ml bK aD) 0 false)]<|A.ret ?_
 obtain rfl:=some_inj hm
 exact A.fin W0 [.sw 500016100 500014400] rfl (by kernel_rfl)
theorem qC{a:Int}{b:Int}{r:Bool}(hm:ir t a b=some r):RO prog 73 [] [.agg (k2 t),i6 a,i6 b] (.bool r):=by
 refine aZ func73 rfl rfl ?_
 unfold ir at hm
 refine qS [(0,.al 73003)] [(1,i6 a),(2,i6 b),(3,.ptr 73003 0)] [(73003,.cells 45 (k2 t))] ?_
 obtain⟨ah,h1,hm⟩:=aa hm
 rcases az hm with⟨c1,hm⟩|⟨c1,hm⟩
 ·obtain⟨aD,h2,hm⟩:=aa hm
  rcases az hm with⟨c2,hm⟩|⟨c2,hm⟩
  ·obtain⟨aP,h3,hm⟩:=aa hm
   obtain⟨bt,h4,hm⟩:=aa hm
   refine qS [(2,hro (iC h1) x8),(3,hto (bE c1)),(6,hro (iC h2) x8),(8,hto (bE c2)),(11,hro (xu h3) asN),(13,hro (gM h4) adO)] [(6,.bool bt)] [] ?_
   cases hm
   exact A.ret qE
  refine qS [(2,hro (iC h1) x8),(3,hto (bE c1)),(6,hro (iC h2) x8),(8,hto (bE c2))] [(6,.bool false)] [] ?_
  cases hm
  exact A.ret qE
 refine qS [(2,hro (iC h1) x8),(3,hto (bE c1))] [(6,.bool false)] [] ?_
 cases hm
 exact A.ret qE
end Go.Proofs.YtjdopimopgpagaaGreat
