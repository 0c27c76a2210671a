/- The walks of cz of the program. No condition but aX aL stand in each. -/
import Derived.Test.YtmnbolcmepihlaaGreatDL6
import Derived.Test.YtmnbolcmepihlaaGreatVLC
import Derived.Test.YtmnbolcmepihlaaGreatVY
namespace Go.Proofs.YtmnbolcmepihlaaGreat
open Go Go.Proofs.Tryz
set_option maxRecDepth 100000
set_option linter.all false
theorem rL{t:List Int}{r:Bool}(hm:iP t=some r):RO prog 5 [] [lf aj t] (.bool r):=by
 refine aY func5 rfl rfl ?_;unfold iP at hm;refine qS [] [(0,lf aj t)] [] ?_;obtain⟨az,h1,hm⟩:=aa hm;refine qS [(1,hdc [900000103] (va h1) ck12)] [(3,.ptr 900000103 0)] [(900000103,.cells 103 (k5 az))] ?_;obtain⟨aH,h2,hm⟩:=aa hm;refine qD [(1,hdc [500001300] (xY h2) ck13),(2,.al 5004)] [] [(4,.ptr 5004 0)] [900000103] [(900000103,.cells 103 (k5 aH.2)),(500001300,.slice 62 5 (ml bw aH.1.Links) 0 false),(5004,.cells 28 [lf aV aH.1.ay,.own 500001300])]<|A.seq<|qDs [(2,hto (lnE bw aH.1.Links))] [] [(24,i6 (aH.1.Links.length:Int)),(25,i6 0)]<|A.block<|A.bD 4 1 rfl rfl rfl rfl λhb1=>?_
 obtain⟨B1,K1,hB1,hK1,hm⟩:=bh hm;refine A.lpI (l:=aH.1.Links) (j0:=0) (B:=B1) (K:=K1) hm (λj1=>λm_1=>[(3,.ptr 900000103 0),(4,.ptr 5004 0),(24,i6 (aH.1.Links.length:Int)),(25,i6 (j1:Int))]) (λj1=>λm_1=>[(900000103,.cells 103 (k5 aH.2)),(5004,.cells 28 [lf aV aH.1.ay,.own 700500401]),(700500401,.slice 62 5 (ml bw m_1) 0 false)]) ?_ ?_ ?_
 ·exact aZ.go [.sw 500001300 700500401] [] (by kernel_rfl)
 ·rintro j1 e1 Z1 m_1 hj1 hx1 hm;rw[hB1]at hm;refine qDs [] [] [(26,.bool (decide ((j1:Int)<(aH.1.Links.length:Int))))]<|A.seq<|qT (ltT hx1)<|A.skip<|A.seq<|A.block<|qDs [] [26] [(5,i6 (j1:Int))] ?_
  obtain⟨e_1,h3,hm⟩:=aa hm;obtain⟨l_1,h4,hm⟩:=aa hm;exact qG [(3,hix (ix bw h3)),(5,hso 700500401 (st bw (off:=4) (ca:=[i6 7]) h3 h4 rfl) (l9 h3).1.1)] [5] [] [700500401] [(700500401,.slice 62 5 (ml bw l_1) 0 false)]<|qGs [(0,hto (inc hx1 hb1))] [25] [(25,i6 ((j1+1:Nat):Int))]<|qX l_1 hm
 rintro j1 m_1 hj1 hl1 hm;rw[hK1]at hm;refine qDs [] [] [(26,.bool (decide ((j1:Int)<(aH.1.Links.length:Int))))]<|A.seq<|qF (ltF hl1)<|A.exit ?_
 obtain⟨bA,h5,hm⟩:=aa hm;obtain⟨e_2,h6,hm⟩:=aa hm;obtain⟨bU,h7,hm⟩:=aa hm;obtain⟨dP,h8,hm⟩:=aa hm;refine A.RS W0 [.fz [700500401]] [(5,hto (lnE aV aH.1.ay)),(6,hdc [] (cE h5) sF),(7,hix (ix aV h6)),(12,hdc [] (abL h7) ck15),(14,hdc [] (gi h8) aeX),(16,.al 5006)] [(4,.ptr 5004 0),(6,.ptr 5006 0)] [(5004,.cells 28 [lf aV aH.1.ay,.own 700500401]),(700500401,.slice 62 5 (ml bw m_1) (ml bw m_1).length true),(5006,.cells 52 [i6 e_2.ID,lf aj bU.1,i6 dP.1])] (by kernel_rfl)<|A.RY W0 3 [4,5,6,7,8] [] [] (mN hm) ahZ (by kernel_rfl) (by kernel_rfl) (by kernel_rfl) (by rintro _ _ ⟨rfl,_,_,rfl⟩;exact⟨rfl,rfl⟩) ?_
 rintro _ _ ⟨rfl,cV,hm,rfl⟩
 try dsimp only at hm
 refine⟨[],[(4,.ptr 5004 0),(6,.ptr 5006 0),(7,lf cu cV.1),(8,i6 cV.2)],[(5004,.cells 28 [lf aV aH.1.ay,.own 700500401]),(700500401,.slice 62 5 (ml bw m_1) (ml bw m_1).length true),(5006,.cells 52 [i6 e_2.ID,lf aj bU.1,i6 dP.1])],by kernel_rfl,?_⟩;obtain⟨cB,h9,hm⟩:=aa hm;refine qS [(5,hro (vX h9) ck17)] [(4,.ptr 5004 0),(6,.ptr 5006 0),(7,lf cu cV.1),(8,i6 cV.2),(9,i6 cB.1),(10,i6 cB.2)] [(5004,.cells 28 [lf aV aH.1.ay,.own 700500401]),(700500401,.slice 62 5 (ml bw m_1) (ml bw m_1).length true),(5006,.cells 52 [i6 e_2.ID,lf aj bU.1,i6 dP.1])]<|A.seq ?_
 obtain⟨J1,hJ1,hm⟩:=dF hm;refine A.J (J:=J1) (r:=r) (λv_1=>[(4,.ptr 5004 0),(6,.ptr 5006 0),(7,lf cu cV.1),(9,i6 cB.1),(10,i6 cB.2),(84,.bool v_1)]) (λv_1=>[(5004,.cells 28 [lf aV aH.1.ay,.own 700500401]),(700500401,.slice 62 5 (ml bw m_1) (ml bw m_1).length true),(5006,.cells 52 [i6 e_2.ID,lf aj bU.1,i6 dP.1])]) ?_ ?_
 ·rcases aB hm with⟨c1,hm⟩|⟨c1,hm⟩
  ·exact qGs [(2,hto (bE c1))] [8] [(84,.bool true)]<|qX true hm
  rcases aB hm with⟨c2,hm⟩|⟨c2,hm⟩
  ·exact qGs [(2,hto (bE c1)),(4,hto (lnE cu cV.1)),(7,hto (bE c2))] [8] [(84,.bool true)]<|qX true hm
  obtain⟨e_3,h10,hm⟩:=aa hm;exact qGs [(2,hto (bE c1)),(4,hto (lnE cu cV.1)),(7,hto (bE c2)),(11,hix (ix cu h10))] [8] [(84,.bool (!((decide (cB.2=0))==(decide (e_3.bx=e_2.ID)))))]<|qX (!((decide (cB.2=0))==(decide (e_3.bx=e_2.ID)))) hm
 rintro v_1 hm;rw[hJ1]at hm;rcases aB hm with⟨c3,hm⟩|⟨c3,hm⟩
 ·refine qT c3<|qS [] [(2,.bool false)] [] ?_
  cases hm;exact A.ret qE
 refine qF c3<|A.skip<|A.seq ?_
 obtain⟨e_4,h11,hm⟩:=aa hm;obtain⟨gd,h12,hm⟩:=aa hm;refine qDs [(2,hix (ix cu h11)),(4,hro (zP h12) ck29)] [7,84] [(11,i6 gd.1),(12,i6 gd.2)]<|A.mid [(4,.ptr 5004 0),(6,.ptr 5006 0),(103,.bool ((decide (cB.2=0))&&((!decide (gd.2=0))||(!decide (gd.1=cB.1)))))] [(5004,.cells 28 [lf aV aH.1.ay,.own 700500401]),(700500401,.slice 62 5 (ml bw m_1) (ml bw m_1).length true),(5006,.cells 52 [i6 e_2.ID,lf aj bU.1,i6 dP.1])] (λhk=>?_) ?_
 ·rcases tf (decide (cB.2=0))with c4|c4
  ·rcases tf (!decide (gd.2=0))with c5|c5
   ·exact qS [(2,hto (bE c4)),(5,hto (bE c5)),(10,hto ((orT (q:=!decide (gd.1=cB.1)) c5).trans (o9 (q:=((!decide (gd.2=0))||(!decide (gd.1=cB.1)))) c4)))] _ _ hk
   exact qS [(2,hto (bE c4)),(5,hto (bE c5)),(10,hto ((orF (q:=!decide (gd.1=cB.1)) c5).trans (o9 (q:=((!decide (gd.2=0))||(!decide (gd.1=cB.1)))) c4)))] _ _ hk
  exact qS [(2,hto (bE c4)),(10,hto (qf (q:=((!decide (gd.2=0))||(!decide (gd.1=cB.1)))) c4))] _ _ hk
 rcases aB hm with⟨c6,hm⟩|⟨c6,hm⟩
 ·refine qT c6<|qS [] [(2,.bool false)] [] ?_
  cases hm;exact A.ret qE
 refine qF c6<|A.skip<|qD [] [103] [] [5006] [(5006,.cells 52 [i6 e_2.ID,lf aj bU.1,i6 8])]<|A.RY W0 3 [4,5,6,7,8] [] [] (mN hm) ahZ (by kernel_rfl) (by kernel_rfl) (by kernel_rfl) (by rintro _ _ ⟨rfl,_,_,rfl⟩;exact⟨rfl,rfl⟩) ?_
 rintro _ _ ⟨rfl,gI,hm,rfl⟩
 try dsimp only at hm
 refine⟨[],[(6,.ptr 5006 0),(13,lf cu gI.1),(14,i6 gI.2)],[(5006,.cells 52 [i6 e_2.ID,lf aj bU.1,i6 8])],by kernel_rfl,?_⟩;refine qS [] [(6,.ptr 5006 0),(13,lf cu gI.1),(14,i6 gI.2),(15,.bool true)] [(5006,.cells 52 [i6 e_2.ID,lf aj bU.1,i6 8])]<|A.seq<|qDs [(2,hto (lnE aj bU.1))] [] [(113,lf aj bU.1),(114,i6 (bU.1.length:Int)),(115,i6 0)]<|A.block<|A.bS 113 rfl λhb2=>?_
 obtain⟨B2,K2,hB2,hK2,hm⟩:=bh hm;refine A.lpI (l:=bU.1) (j0:=0) (B:=B2) (K:=K2) hm (λj2=>λmG=>[(6,.ptr 5006 0),(13,lf cu gI.1),(14,i6 gI.2),(15,.bool mG),(113,lf aj bU.1),(114,i6 (bU.1.length:Int)),(115,i6 (j2:Int))]) (λj2=>λmG=>[(5006,.cells 52 [i6 e_2.ID,lf aj bU.1,i6 8])]) ?_ ?_ ?_
 ·exact qW
 ·rintro j2 e2 Z2 mG hj2 hx2 hm;rw[hB2]at hm;refine qDs [] [] [(116,.bool (decide ((j2:Int)<(bU.1.length:Int))))]<|A.seq<|qT (ltT hx2)<|A.skip<|A.seq<|A.block<|qDs [(0,hix (ix aj (bn hx2)))] [116] [(17,i6 e2)] ?_
  rcases aB hm with⟨c7,hm⟩|⟨c7,hm⟩
  ·exact qGs [(1,hto (bE c7))] [15,17] [(15,.bool (decide (e2=e_2.ID)))]<|qGs [(0,hto (inc hx2 hb2))] [115] [(115,i6 ((j2+1:Nat):Int))]<|qX (decide (e2=e_2.ID)) hm
  exact qGs [(1,hto (bE c7))] [15,17] [(15,.bool false)]<|qGs [(0,hto (inc hx2 hb2))] [115] [(115,i6 ((j2+1:Nat):Int))]<|qX false hm
 rintro j2 mG hj2 hl2 hm;rw[hK2]at hm;refine qDs [] [] [(116,.bool (decide ((j2:Int)<(bU.1.length:Int))))]<|A.seq<|qF (ltF hl2)<|A.exit ?_
 rcases aB hm with⟨c8,hm⟩|⟨c8,hm⟩
 ·rcases aB hm with⟨c9,hm⟩|⟨c9,hm⟩
  ·obtain⟨e_5,h13,hm⟩:=aa hm;obtain⟨s5,h14,hm⟩:=aa hm;obtain⟨mS,h15,hm⟩:=aa hm;rcases aB hm with⟨c10,hm⟩|⟨c10,hm⟩
   ·obtain⟨rH,h16,hm⟩:=aa hm;refine qS [(2,hto (bE c8)),(4,hto (lnE cu gI.1)),(7,hto (bE c9)),(9,hix (ix cu h13)),(14,hro (s9 h14) apg),(16,hro (pW h15) apf),(18,hto (bE c10)),(19,hro (yW h16) ck27)] [(2,.bool rH)] [] ?_;cases hm;exact A.ret qE
   refine qS [(2,hto (bE c8)),(4,hto (lnE cu gI.1)),(7,hto (bE c9)),(9,hix (ix cu h13)),(14,hro (s9 h14) apg),(16,hro (pW h15) apf),(18,hto (bE c10))] [(2,.bool false)] [] ?_;cases hm;exact A.ret qE
  refine qS [(2,hto (bE c8)),(4,hto (lnE cu gI.1)),(7,hto (bE c9))] [(2,.bool false)] [] ?_;cases hm;exact A.ret qE
 refine qS [(2,hto (bE c8))] [(2,.bool false)] [] ?_;cases hm;exact A.ret qE
end Go.Proofs.YtmnbolcmepihlaaGreat
