/- The ew of cA of the program. No condition but bM bw stand in each. -/
import Derived.Test.YtjdopimopgpagaaGreatVR
import Derived.Test.YtjdopimopgpagaaGreatV7
namespace Go.Proofs.YtjdopimopgpagaaGreat
open Go Go.Proofs.Tryz
set_option maxRecDepth 100000
set_option linter.all false
theorem eS{sa0:bp}{n:Int}{width:Int}{r:bp}(hm:dA sa0 n width=some r):RO prog 194 [] [.agg [lf (eK .u8) sa0.Data,i6 sa0.Bits],i6 n,i6 width] (.agg [lf (eK .u8) r.Data,i6 r.Bits]):=by
 refine aZ func194 rfl rfl ?_
 unfold dA at hm
 refine qS [(0,.al 194003),(1,.al 194006)] [(1,i6 n),(2,i6 width),(3,.ptr 194003 0),(6,.ptr 194006 0)] [(194003,.cells 208 [lf (eK .u8) sa0.Data,i6 sa0.Bits]),(194006,.cells 208 [.aI,i6 0])] ?_
 obtain⟨af,h1,hm⟩:=aa hm
 refine qD [(4,hro (zZ h1) as8),(8,.al 194007)] [1,2,3] [(7,.ptr 194007 0)] [194003] [(194007,.cells 208 [lf (eK .u8) af.1.Data,i6 af.1.Bits])]<|qS [] [(6,.ptr 194006 0)] [(194006,.cells 208 [lf (eK .u8) af.1.Data,i6 af.1.Bits])] ?_
 cases hm
 exact A.ret qE
theorem uF{a:ai}{r:(List Int)×Int}(hm:iJ a=some r):RO prog 178 [] [.agg (k7 a)] (.tup [lf (eK .u8) r.1,i6 r.2]):=by
 refine aZ func178 rfl rfl ?_
 unfold iJ at hm
 refine qS [(0,.al 178001)] [(1,.ptr 178001 0)] [(178001,.cells 66 (k7 a))]<|A.seq ?_
 obtain⟨af,h1,hm⟩:=aa hm
 refine qDs [(1,hro (fK h1) uN)] [] [(12,.bool (!af))] ?_
 rcases aq hm with⟨c1,hm⟩|⟨c1,hm⟩
 ·refine qT c1<|qS [] [(2,.aI),(3,i6 1)] [] ?_
  cases hm
  exact A.ret qE
 refine qF c1<|A.skip<|qDs [] [12] [(4,i6 0)] ?_
 obtain⟨J1,hJ1,hm⟩:=bI hm
 refine A.J (J:=J1) (r:=r) (λj8=>[(1,.ptr 178001 0),(4,i6 j8)]) (λj8=>[(178001,.cells 66 (k7 a))]) ?_ ?_
 ·refine qDs [] [] [(14,.bool a.aX)] ?_
  rcases aq hm with⟨c2,hm⟩|⟨c2,hm⟩
  ·exact qT c2<|qGs [] [4,14] [(4,i6 1)]<|qX (1:Int) hm
  exact qF c2<|A.skip<|qX (0:Int) hm
 rintro j8 hm
 rw[hJ1]at hm
 obtain⟨aD,h2,hm⟩:=aa hm
 obtain⟨aP,h3,hm⟩:=aa hm
 obtain⟨bt,h4,hm⟩:=aa hm
 obtain⟨bF,h5,hm⟩:=aa hm
 refine qD [(3,hro (eS h2) qN),(6,hro (eS h3) qN),(8,hro (eS h4) qN),(11,hto (lnE bq a.Links)),(12,hro (eS h5) qN),(13,.al 178005)] [4] [(5,.ptr 178005 0)] [] [(178005,.cells 208 [lf (eK .u8) bF.Data,i6 bF.Bits])]<|A.seq<|qDs [] [] [(6,i6 0)]<|A.block<|A.bC 1 3 rfl rfl rfl λhb1=>?_
 obtain⟨B1,K1,hB1,hK1,hm⟩:=bu hm
 refine A.lpI (l:=a.Links) (j0:=0) (B:=B1) (K:=K1) hm (λj1=>λ(m_1,m_2)=>[(1,.ptr 178001 0),(5,.ptr 178005 0),(6,i6 (j1:Int))]) (λj1=>λ(m_1,m_2)=>[(178001,.cells 66 (k7 a)),(178005,.cells 208 [lf (eK .u8) m_1,i6 m_2])]) ?_ ?_ ?_
 ·exact qW
 ·rintro j1 e1 Z1 ⟨m_1,m_2⟩ hj1 hx1 hm
  rw[hB1]at hm
  refine A.seq<|qDs [(3,hto (lnE bq a.Links))] [] [(32,.bool (decide ((j1:Int)<(a.Links.length:Int))))] ?_
  refine qT (ltT hx1)<|A.skip<|A.seq<|A.block ?_
  obtain⟨cg,h6,hm⟩:=aa hm
  obtain⟨cw,h7,hm⟩:=aa hm
  obtain⟨cr,h8,hm⟩:=aa hm
  exact qG [(4,hix (ix bq (bf hx1))),(7,hro (eS h6) qN),(11,hix (ix bq (bf hx1))),(14,hro (eS h7) qN),(18,hix (ix bq (bf hx1))),(21,hro (eS h8) qN)] [32] [] [178005] [(178005,.cells 208 [lf (eK .u8) cr.Data,i6 cr.Bits])]<|qGs [(1,hto (inc hx1 hb1))] [6] [(6,i6 ((j1+1:Nat):Int))]<|qX (cr.Data,cr.Bits) hm
 rintro j1 ⟨m_1,m_2⟩ hj1 hl1 hm
 rw[hK1]at hm
 refine A.seq<|qDs [(3,hto (lnE bq a.Links))] [] [(32,.bool (decide ((j1:Int)<(a.Links.length:Int))))] ?_
 refine qF (ltF hl1)<|A.exit ?_
 obtain⟨dJ,h9,hm⟩:=aa hm
 refine qD [(3,hto (lnE bg a.Claims)),(4,hro (eS h9) qN)] [6,32] [] [178005] [(178005,.cells 208 [lf (eK .u8) dJ.Data,i6 dJ.Bits])]<|A.seq<|qDs [] [] [(7,i6 0)]<|A.block<|A.bC 1 4 rfl rfl rfl λhb2=>?_
 obtain⟨B2,K2,hB2,hK2,hm⟩:=bu hm
 refine A.lpI (l:=a.Claims) (j0:=0) (B:=B2) (K:=K2) hm (λj2=>λ(m_3,m_4)=>[(1,.ptr 178001 0),(5,.ptr 178005 0),(7,i6 (j2:Int))]) (λj2=>λ(m_3,m_4)=>[(178001,.cells 66 (k7 a)),(178005,.cells 208 [lf (eK .u8) m_3,i6 m_4])]) ?_ ?_ ?_
 ·exact qW
 ·rintro j2 e2 Z2 ⟨m_3,m_4⟩ hj2 hx2 hm
  rw[hB2]at hm
  refine A.seq<|qDs [(3,hto (lnE bg a.Claims))] [] [(66,.bool (decide ((j2:Int)<(a.Claims.length:Int))))] ?_
  refine qT (ltT hx2)<|A.skip<|A.seq<|A.block ?_
  obtain⟨bK,h10,hm⟩:=aa hm
  obtain⟨ei,h11,hm⟩:=aa hm
  obtain⟨cn,h12,hm⟩:=aa hm
  obtain⟨gY,h13,hm⟩:=aa hm
  exact qG [(4,hix (ix bg (bf hx2))),(7,hro (eS h10) qN),(11,hix (ix bg (bf hx2))),(14,hro (eS h11) qN),(18,hix (ix bg (bf hx2))),(21,hro (abC h12) as4),(22,hro (eS h13) qN)] [66] [] [178005] [(178005,.cells 208 [lf (eK .u8) gY.Data,i6 gY.Bits])]<|qGs [(1,hto (inc hx2 hb2))] [7] [(7,i6 ((j2+1:Nat):Int))]<|qX (gY.Data,gY.Bits) hm
 rintro j2 ⟨m_3,m_4⟩ hj2 hl2 hm
 rw[hK2]at hm
 refine A.seq<|qDs [(3,hto (lnE bg a.Claims))] [] [(66,.bool (decide ((j2:Int)<(a.Claims.length:Int))))] ?_
 refine qF (ltF hl2)<|A.exit ?_
 obtain⟨mA,h14,hm⟩:=aa hm
 refine qD [(1,hro (aa2 h14) as5)] [1,7,66] [(8,.int .u64 mA.1)] [178001] [] ?_
 obtain⟨lR,h15,hm⟩:=aa hm
 obtain⟨lS,h16,hm⟩:=aa hm
 refine qD [(3,hro (eS h15) qN),(4,hro (aa1 h16) as6)] [8] [] [178005] [(178005,.cells 208 [lf (eK .u8) lS.1.Data,i6 lS.1.Bits])]<|qS [] [(2,lf (eK .u8) lS.1.Data),(3,i6 0)] [] ?_
 cases hm
 exact A.ret qE
theorem aa3{a:ai}{b:ai}{r:Bool}(hm:oI a b=some r):RO prog 169 [] [.agg (k7 a),.agg (k7 b)] (.bool r):=by
 refine aZ func169 rfl rfl ?_
 unfold oI at hm
 refine qS [(0,.al 169002),(1,.al 169003)] [(2,.ptr 169002 0),(3,.ptr 169003 0)] [(169002,.cells 66 (k7 a)),(169003,.cells 66 (k7 b))]<|A.seq ?_
 obtain⟨J1,hJ1,hm⟩:=bI hm
 refine A.J (J:=J1) (r:=r) (λv_1=>[(2,.ptr 169002 0),(3,.ptr 169003 0),(23,.bool v_1)]) (λv_1=>[(169002,.cells 66 (k7 a)),(169003,.cells 66 (k7 b))]) ?_ ?_
 ·obtain⟨af,h1,hm⟩:=aa hm
  rcases aq hm with⟨c1,hm⟩|⟨c1,hm⟩
  ·exact qGs [(1,hro (fK h1) uN),(3,hto (bE c1))] [] [(23,.bool true)]<|qX true hm
  obtain⟨aD,h2,hm⟩:=aa hm
  rcases aq hm with⟨c2,hm⟩|⟨c2,hm⟩
  ·exact qGs [(1,hro (fK h1) uN),(3,hto (bE c1)),(5,hro (fK h2) uN),(8,hto (bE c2))] [] [(23,.bool true)]<|qX true hm
  exact qGs [(1,hro (fK h1) uN),(3,hto (bE c1)),(5,hro (fK h2) uN),(8,hto (bE c2))] [] [(23,.bool (!decide (a.ah=b.ah)))]<|qX (!decide (a.ah=b.ah)) hm
 rintro v_1 hm
 rw[hJ1]at hm
 rcases aq hm with⟨c3,hm⟩|⟨c3,hm⟩
 ·refine qT c3<|qS [] [(4,.bool false)] [] ?_
  cases hm
  exact A.ret qE
 refine qF c3<|A.skip ?_
 obtain⟨aP,h3,hm⟩:=aa hm
 refine qDs [(1,hro (uF h3) akb)] [23] [(5,lf (eK .u8) aP.1)] ?_
 obtain⟨bt,h4,hm⟩:=aa hm
 refine qDs [(1,hro (uF h4) akb)] [] [(7,lf (eK .u8) bt.1)]<|A.mid [(4,.bool ((decide (b.Seq<a.Seq))||((decide (a.Seq=b.Seq))&&(vk .gtr (iW aP.1) (iW bt.1)))))] [] (λhk=>?_) ?_
 ·rcases tf (decide (b.Seq<a.Seq))with c4|c4
  ·exact qS [(5,hto (bE c4)),(19,hto (orT (q:=((decide (a.Seq=b.Seq))&&(vk .gtr (iW aP.1) (iW bt.1)))) c4))] _ _ hk
  rcases tf (decide (a.Seq=b.Seq))with c5|c5
  ·exact qS [(5,hto (bE c4)),(11,hto (bE c5)),(13,hcb aP.1 false underlying189 underlying5 underlying9),(15,hcb bt.1 false underlying189 underlying5 underlying9),(16,hsg .gtr 9 (iW aP.1) (iW bt.1) rfl),(19,hto ((pE (q:=vk .gtr (iW aP.1) (iW bt.1)) c5).trans (orF (q:=((decide (a.Seq=b.Seq))&&(vk .gtr (iW aP.1) (iW bt.1)))) c4)))] _ _ hk
  exact qS [(5,hto (bE c4)),(11,hto (bE c5)),(19,hto ((qn (q:=vk .gtr (iW aP.1) (iW bt.1)) c5).trans (orF (q:=((decide (a.Seq=b.Seq))&&(vk .gtr (iW aP.1) (iW bt.1)))) c4)))] _ _ hk
 cases hm
 exact A.ret qE
end Go.Proofs.YtjdopimopgpagaaGreat
