/- gw iD of h7 of aR program. bM bN cu cg bz cv in ck. -/
import Derived.Test.YtmnbolcmepihlaaGreatDL7
import Derived.Test.YtmnbolcmepihlaaGreatVLC
namespace Go.Proofs.YtmnbolcmepihlaaGreat
open Go Go.Proofs.Tryz
set_option maxRecDepth 100000
set_option linter.all false
theorem aiR{t:List Int}{r:Bool}(hm:EE t=some r):ef prog 6 [] [bm bq t] (.bool r):=by
 refine eu func6 rfl rfl ?_;unfold EE at hm;refine bn [] [(0,bm bq t)] [] ?_;obtain⟨a8,h1,hm⟩:=bI hm;refine bn [(1,gN [900000103] (ajH h1) afb)] [(3,.ptr 900000103 0)] [(900000103,.cells 103 (hw a8))] ?_;obtain⟨bt,D,hm⟩:=bI hm;refine eV [(1,gN [500001300] (ak4 D) afc),(2,.al 6004)] [] [(4,.ptr 6004 0)] [900000103] [(900000103,.cells 103 (hw bt.2)),(500001300,.slice 62 5 (aD eW bt.1.Links) 0 false),(6004,.cells 28 [bm fK bt.1.dU,.own 500001300])] ?_;obtain⟨c7,ak,hm⟩:=bI hm;refine A.eB cm [.cU [500001300]] [(2,gN [] (alc ak) afe)] [(4,.ptr 6004 0),(5,bm hI c7.1)] [(500001300,.slice 62 5 (aD eW bt.1.Links) (aD eW bt.1.Links).length true),(6004,.cells 28 [bm fK bt.1.dU,.own 500001300])] (by kernel_rfl)<|A.M6 cm 2 [3,4,5,6,7] [] [] (S4 hm) Rx (by kernel_rfl) (by kernel_rfl) (by kernel_rfl) (by rintro _ _ ⟨rfl,_,_,rfl⟩;exact⟨rfl,rfl⟩) ?_
 rintro _ _ ⟨rfl,fl,hm,rfl⟩
 try dsimp only at hm
 refine⟨[],[(4,.ptr 6004 0),(5,bm hI c7.1),(6,bm gD fl.1),(7,ag fl.2)],[(500001300,.slice 62 5 (aD eW bt.1.Links) (aD eW bt.1.Links).length true),(6004,.cells 28 [bm fK bt.1.dU,.own 500001300])],by kernel_rfl,?_⟩;refine A.seq<|A.mid [(4,.ptr 6004 0),(5,bm hI c7.1),(6,bm gD fl.1),(44,.bool ((!decide (fl.2=0))||(!decide ((fl.1.length:Int)=(c7.1.length:Int)))))] [(500001300,.slice 62 5 (aD eW bt.1.Links) (aD eW bt.1.Links).length true),(6004,.cells 28 [bm fK bt.1.dU,.own 500001300])] (λhk=>?_) ?_
 ·rcases mx (!decide (fl.2=0))with bk|bk
  ·exact bn [(2,aZ (c9 bk)),(8,aZ (uG (q:=!decide ((fl.1.length:Int)=(c7.1.length:Int))) bk))] _ _ hk
  exact bn [(2,aZ (c9 bk)),(4,aZ (ew gD fl.1)),(6,aZ (ew hI c7.1)),(8,aZ (sx (q:=!decide ((fl.1.length:Int)=(c7.1.length:Int))) bk))] _ _ hk
 rcases cZ hm with⟨bZ,hm⟩|⟨bZ,hm⟩
 ·refine cM bZ<|bn [] [(2,.bool false)] [] ?_
  cases hm;exact A.ret cC
 refine cL bZ<|A.skip<|br [] [44] [(8,.cV)]<|A.seq<|br [(1,aZ (ew hI c7.1))] [] [(45,bm hI c7.1),(46,ag (c7.1.length:Int)),(47,ag 0)]<|A.block<|A.jx 5 rfl λfZ=>?_
 obtain⟨hA,hB,hE,hq,hm⟩:=iF hm;refine A.iS (l:=c7.1) (hn:=0) (B:=hA) (K:=hB) hm (λbp=>λwh=>[(4,.ptr 6004 0),(5,bm hI c7.1),(6,bm gD fl.1),(8,.own 600006008),(45,bm hI c7.1),(46,ag (c7.1.length:Int)),(47,ag (bp:Int))]) (λbp=>λwh=>[(500001300,.slice 62 5 (aD eW bt.1.Links) (aD eW bt.1.Links).length true),(6004,.cells 28 [bm fK bt.1.dU,.own 500001300]),(600006008,.slice 3 1 (aD bq wh) 0 false)]) ?_ ?_ ?_
 ·exact b8.go [.ad 8 600006008 3 1] [] (by kernel_rfl)
 ·rintro bp aA dh wh hF cI hm;rw[hE]at hm;refine br [] [] [(48,.bool (decide ((bp:Int)<(c7.1.length:Int))))]<|A.seq<|cM (ih cI)<|A.skip<|A.seq<|A.block<|eV [(0,eg (ix hI (hN cI))),(2,.al 6010)] [48] [(10,.ptr 6010 0)] [] [(6010,.cells 52 (qd aA))] ?_
  obtain⟨eU,bc,hm⟩:=bI hm;exact lg [(4,qP 6555 (ap bq (bytes:=8) (by decide) bc))] [8,10] [(8,.own 6555)] [600006008,6010] [(6555,.slice 3 1 (aD bq eU) 0 false)]<|fq [(0,aZ (hV cI fZ))] [47] [(47,ag ((bp+1:Nat):Int))]<|Exists.intro eU (And.intro hm (b8.go [.kV 6555 600006008] [] (by kernel_rfl)))
 rintro bp wh hF gO hm;rw[hq]at hm;refine br [] [] [(48,.bool (decide ((bp:Int)<(c7.1.length:Int))))]<|A.seq<|cL (h8 gO)<|A.exit ?_
 obtain⟨fE,bX,hm⟩:=bI hm;refine A.eB cm [.cU [600006008]] [(2,cE (akT bX) afh)] [(4,.ptr 6004 0),(5,bm hI c7.1),(6,bm gD fl.1),(11,bm gx fE.1),(12,ag fE.2)] [(500001300,.slice 62 5 (aD eW bt.1.Links) (aD eW bt.1.Links).length true),(6004,.cells 28 [bm fK bt.1.dU,.own 500001300])] (by kernel_rfl) ?_;obtain⟨et,dV,hm⟩:=bI hm;refine bn [(3,cE (S8 dV) Ry)] [(4,.ptr 6004 0),(11,bm gx fE.1),(12,ag fE.2),(13,bm gx et.1),(14,ag et.2)] [(500001300,.slice 62 5 (aD eW bt.1.Links) (aD eW bt.1.Links).length true),(6004,.cells 28 [bm fK bt.1.dU,.own 500001300])]<|A.seq<|A.mid [(4,.ptr 6004 0),(11,bm gx fE.1),(13,bm gx et.1),(84,.bool ((!decide (fE.2=0))||((!decide (et.2=0))||(!decide ((et.1.length:Int)=bK ((2:Int)*(bt.1.Links.length:Int)))))))] [(500001300,.slice 62 5 (aD eW bt.1.Links) (aD eW bt.1.Links).length true),(6004,.cells 28 [bm fK bt.1.dU,.own 500001300])] (λhk=>?_) ?_
 ·rcases mx (!decide (fE.2=0))with c1|c1
  ·exact bn [(2,aZ (c9 c1)),(14,aZ (uG (q:=((!decide (et.2=0))||(!decide ((et.1.length:Int)=bK ((2:Int)*(bt.1.Links.length:Int)))))) c1))] _ _ hk
  rcases mx (!decide (et.2=0))with fu|fu
  ·exact bn [(2,aZ (c9 c1)),(6,aZ (c9 fu)),(14,aZ ((uG (q:=!decide ((et.1.length:Int)=bK ((2:Int)*(bt.1.Links.length:Int)))) fu).trans (sx (q:=((!decide (et.2=0))||(!decide ((et.1.length:Int)=bK ((2:Int)*(bt.1.Links.length:Int)))))) c1)))] _ _ hk
  exact bn [(2,aZ (c9 c1)),(6,aZ (c9 fu)),(8,aZ (ew gx et.1)),(11,aZ (ew eW bt.1.Links)),(14,aZ ((sx (q:=!decide ((et.1.length:Int)=bK ((2:Int)*(bt.1.Links.length:Int)))) fu).trans (sx (q:=((!decide (et.2=0))||(!decide ((et.1.length:Int)=bK ((2:Int)*(bt.1.Links.length:Int)))))) c1)))] _ _ hk
 rcases cZ hm with⟨gl,hm⟩|⟨gl,hm⟩
 ·refine cM gl<|bn [] [(2,.bool false)] [] ?_
  cases hm;exact A.ret cC
 refine cL gl<|A.skip<|A.seq<|br [(1,aZ (ew gx et.1))] [13,84] [(85,bm gx et.1),(86,ag (et.1.length:Int)),(87,ag 0)]<|A.block<|A.jx 85 rfl λfG=>?_
 obtain⟨ni,jS,nx,nz,hm⟩:=iF hm;refine A.iS (l:=et.1) (hn:=0) (B:=ni) (K:=jS) hm (λdd=>λav=>match av with|()=>[(4,.ptr 6004 0),(11,bm gx fE.1),(85,bm gx et.1),(86,ag (et.1.length:Int)),(87,ag (dd:Int))]) (λdd=>λav=>match av with|()=>[(500001300,.slice 62 5 (aD eW bt.1.Links) (aD eW bt.1.Links).length true),(6004,.cells 28 [bm fK bt.1.dU,.own 500001300])]) ?_ ?_ ?_
 ·exact hK
 ·rintro dd e2 jM ⟨⟩ jo gb hm;rw[nx]at hm;refine br [] [] [(88,.bool (decide ((dd:Int)<(et.1.length:Int))))]<|A.seq<|cM (ih gb)<|A.skip<|A.seq<|A.block<|eV [(0,eg (ix gx (hN gb))),(2,.al 6016)] [88] [(16,.ptr 6016 0)] [] [(6016,.cells 60 (oJ e2))]<|br [] [] [(17,ag 0),(18,ag (-1))]<|A.seq<|br [(1,aZ (ew gx fE.1))] [] [(91,bm gx fE.1),(92,ag (fE.1.length:Int)),(93,ag 0)]<|A.block<|A.jx 11 rfl λvB=>?_
  obtain⟨tT,tV,uf,ug,hm⟩:=iF hm;refine A.iS (l:=fE.1) (hn:=0) (B:=tT) (K:=tV) hm (λgJ=>λoG=>[(4,.ptr 6004 0),(11,bm gx fE.1),(16,.ptr 6016 0),(17,ag oG),(18,ag (-1)),(85,bm gx et.1),(86,ag (et.1.length:Int)),(87,ag (dd:Int)),(91,bm gx fE.1),(92,ag (fE.1.length:Int)),(93,ag (gJ:Int))]) (λgJ=>λoG=>[(500001300,.slice 62 5 (aD eW bt.1.Links) (aD eW bt.1.Links).length true),(6004,.cells 28 [bm fK bt.1.dU,.own 500001300]),(6016,.cells 60 (oJ e2))]) ?_ ?_ ?_
  ·exact hK
  ·rintro gJ b6 o0 oG qQ lF hm;rw[uf]at hm;refine br [] [] [(94,.bool (decide ((gJ:Int)<(fE.1.length:Int))))]<|A.seq<|cM (ih lF)<|A.skip ?_
   obtain⟨fD,kr,hm⟩:=lu hm;refine A.J (J:=fD) (r:=r) (λAd=>[(4,.ptr 6004 0),(11,bm gx fE.1),(16,.ptr 6016 0),(17,ag Ad),(18,ag (-1)),(85,bm gx et.1),(86,ag (et.1.length:Int)),(87,ag (dd:Int)),(91,bm gx fE.1),(92,ag (fE.1.length:Int)),(93,ag (gJ:Int))]) (λAd=>[(500001300,.slice 62 5 (aD eW bt.1.Links) (aD eW bt.1.Links).length true),(6004,.cells 28 [bm fK bt.1.dU,.own 500001300]),(6016,.cells 60 (oJ e2))]) ?_ ?_
   ·refine A.block<|eV [(0,eg (ix gx (hN lF))),(2,.al 6020)] [94] [(20,.ptr 6020 0)] [] [(6020,.cells 60 (oJ b6))] ?_
    refine A.mid [(4,.ptr 6004 0),(11,bm gx fE.1),(16,.ptr 6016 0),(17,ag oG),(18,ag (-1)),(85,bm gx et.1),(86,ag (et.1.length:Int)),(87,ag (dd:Int)),(91,bm gx fE.1),(92,ag (fE.1.length:Int)),(93,ag (gJ:Int)),(20,.ptr 6020 0),(108,.bool ((decide (b6.bg=e2.bg))&&(decide (b6.aQ=e2.aQ))))] [(500001300,.slice 62 5 (aD eW bt.1.Links) (aD eW bt.1.Links).length true),(6004,.cells 28 [bm fK bt.1.dU,.own 500001300]),(6016,.cells 60 (oJ e2)),(6020,.cells 60 (oJ b6))] (λhk=>?_) ?_
    ·rcases mx (decide (b6.bg=e2.bg))with it|it
     ·exact bn [(5,aZ (c9 it)),(11,aZ (wU (q:=decide (b6.aQ=e2.aQ)) it))] _ _ hk
     exact bn [(5,aZ (c9 it)),(11,aZ (wV (q:=decide (b6.aQ=e2.aQ)) it))] _ _ hk
    rcases cZ hm with⟨ov,hm⟩|⟨ov,hm⟩
    ·exact cM ov<|lg [] [17,20,108] [(17,ag b6.Count)] [6020] []<|ek b6.Count hm
    exact cL ov<|A.skip<|ek oG hm
   rintro Ad hm;rw[kr]at hm;exact fq [(0,aZ (hV lF vB))] [93] [(93,ag ((gJ+1:Nat):Int))]<|ek Ad hm
  rintro gJ oG qQ n1 hm;rw[ug]at hm;refine br [] [] [(94,.bool (decide ((gJ:Int)<(fE.1.length:Int))))]<|A.seq<|cL (h8 n1)<|A.exit<|A.seq<|br [(2,aZ (ew eW bt.1.Links))] [91,92,93,94] [(113,.own 500001300),(114,ag (bt.1.Links.length:Int)),(115,ag 0)]<|A.block<|A.Jd 113 rfl rfl λJK=>?_
  obtain⟨Hu,Hv,JC,JF,hm⟩:=iF hm;refine A.iS (l:=bt.1.Links) (hn:=0) (B:=Hu) (K:=Hv) hm (λmH=>λrq=>[(4,.ptr 6004 0),(11,bm gx fE.1),(16,.ptr 6016 0),(17,ag oG),(18,ag rq),(85,bm gx et.1),(86,ag (et.1.length:Int)),(87,ag (dd:Int)),(113,.own 500001300),(114,ag (bt.1.Links.length:Int)),(115,ag (mH:Int))]) (λmH=>λrq=>[(500001300,.slice 62 5 (aD eW bt.1.Links) (aD eW bt.1.Links).length true),(6004,.cells 28 [bm fK bt.1.dU,.own 500001300]),(6016,.cells 60 (oJ e2))]) ?_ ?_ ?_
  ·exact hK
  ·rintro mH cQ vi rq JT pg hm;rw[JC]at hm;refine br [] [] [(116,.bool (decide ((mH:Int)<(bt.1.Links.length:Int))))]<|A.seq<|cM (ih pg)<|A.skip ?_
   obtain⟨jB,rY,hm⟩:=lu hm;refine A.J (J:=jB) (r:=r) (λAv=>[(4,.ptr 6004 0),(11,bm gx fE.1),(16,.ptr 6016 0),(17,ag oG),(18,ag Av),(85,bm gx et.1),(86,ag (et.1.length:Int)),(87,ag (dd:Int)),(113,.own 500001300),(114,ag (bt.1.Links.length:Int)),(115,ag (mH:Int))]) (λAv=>[(500001300,.slice 62 5 (aD eW bt.1.Links) (aD eW bt.1.Links).length true),(6004,.cells 28 [bm fK bt.1.dU,.own 500001300]),(6016,.cells 60 (oJ e2))]) ?_ ?_
   ·refine A.block<|eV [(0,eg (ix eW (hN pg))),(1,kz 500001300 0 (ix eW (hN pg))),(2,.al 6022)] [116] [(22,.ptr 6022 0)] [] [(6022,.cells 62 (gK cQ))] ?_
    refine A.mid [(4,.ptr 6004 0),(11,bm gx fE.1),(16,.ptr 6016 0),(17,ag oG),(18,ag rq),(85,bm gx et.1),(86,ag (et.1.length:Int)),(87,ag (dd:Int)),(113,.own 500001300),(114,ag (bt.1.Links.length:Int)),(115,ag (mH:Int)),(22,.ptr 6022 0),(144,.bool (bif decide (cQ.A=e2.bg)then((decide (cQ.B=e2.aQ))||((decide (cQ.B=e2.bg))&&(decide (cQ.A=e2.aQ))))else((decide (cQ.B=e2.bg))&&(decide (cQ.A=e2.aQ)))))] [(500001300,.slice 62 5 (aD eW bt.1.Links) (aD eW bt.1.Links).length true),(6004,.cells 28 [bm fK bt.1.dU,.own 500001300]),(6016,.cells 60 (oJ e2)),(6022,.cells 62 (gK cQ))] (λhk=>?_) ?_
    ·rcases mx (decide (cQ.A=e2.bg))with ow|ow
     ·rcases mx (decide (cQ.B=e2.aQ))with rN|rN
      ·exact bn [(5,aZ (c9 ow)),(12,aZ (c9 rN)),(25,aZ ((uG (q:=((decide (cQ.B=e2.bg))&&(decide (cQ.A=e2.aQ)))) rN).trans (Kk (x:=((decide (cQ.B=e2.aQ))||((decide (cQ.B=e2.bg))&&(decide (cQ.A=e2.aQ))))) (y:=((decide (cQ.B=e2.bg))&&(decide (cQ.A=e2.aQ)))) ow)))] _ _ hk
      rcases mx (decide (cQ.B=e2.bg))with tY|tY
      ·exact bn [(5,aZ (c9 ow)),(12,aZ (c9 rN)),(18,aZ (c9 tY)),(25,aZ (((wU (q:=decide (cQ.A=e2.aQ)) tY).trans (sx (q:=((decide (cQ.B=e2.bg))&&(decide (cQ.A=e2.aQ)))) rN)).trans (Kk (x:=((decide (cQ.B=e2.aQ))||((decide (cQ.B=e2.bg))&&(decide (cQ.A=e2.aQ))))) (y:=((decide (cQ.B=e2.bg))&&(decide (cQ.A=e2.aQ)))) ow)))] _ _ hk
      exact bn [(5,aZ (c9 ow)),(12,aZ (c9 rN)),(18,aZ (c9 tY)),(25,aZ (((wV (q:=decide (cQ.A=e2.aQ)) tY).trans (sx (q:=((decide (cQ.B=e2.bg))&&(decide (cQ.A=e2.aQ)))) rN)).trans (Kk (x:=((decide (cQ.B=e2.aQ))||((decide (cQ.B=e2.bg))&&(decide (cQ.A=e2.aQ))))) (y:=((decide (cQ.B=e2.bg))&&(decide (cQ.A=e2.aQ)))) ow)))] _ _ hk
     rcases mx (decide (cQ.B=e2.bg))with By|By
     ·exact bn [(5,aZ (c9 ow)),(18,aZ (c9 By)),(25,aZ ((wU (q:=decide (cQ.A=e2.aQ)) By).trans (SK (x:=((decide (cQ.B=e2.aQ))||((decide (cQ.B=e2.bg))&&(decide (cQ.A=e2.aQ))))) (y:=((decide (cQ.B=e2.bg))&&(decide (cQ.A=e2.aQ)))) ow)))] _ _ hk
     exact bn [(5,aZ (c9 ow)),(18,aZ (c9 By)),(25,aZ ((wV (q:=decide (cQ.A=e2.aQ)) By).trans (SK (x:=((decide (cQ.B=e2.aQ))||((decide (cQ.B=e2.bg))&&(decide (cQ.A=e2.aQ))))) (y:=((decide (cQ.B=e2.bg))&&(decide (cQ.A=e2.aQ)))) ow)))] _ _ hk
    rcases cZ hm with⟨Jf,hm⟩|⟨Jf,hm⟩
    ·exact cM Jf<|lg [] [18,22,144] [(18,ag cQ.kY)] [6022] []<|ek cQ.kY hm
    exact cL Jf<|A.skip<|ek rq hm
   rintro Av hm;rw[rY]at hm;exact fq [(0,aZ (hV pg JK))] [115] [(115,ag ((mH+1:Nat):Int))]<|ek Av hm
  rintro mH rq JT ER hm;rw[JF]at hm;refine br [] [] [(116,.bool (decide ((mH:Int)<(bt.1.Links.length:Int))))]<|A.seq<|cL (h8 ER)<|A.exit<|A.mid [(4,.ptr 6004 0),(11,bm gx fE.1),(85,bm gx et.1),(86,ag (et.1.length:Int)),(87,ag (dd:Int)),(158,.bool ((!decide (bK (oG+e2.Count)=rq))||(decide (e2.Count<0))))] [(500001300,.slice 62 5 (aD eW bt.1.Links) (aD eW bt.1.Links).length true),(6004,.cells 28 [bm fK bt.1.dU,.own 500001300])] (λhk=>?_) ?_
  ·rcases mx (!decide (bK (oG+e2.Count)=rq))with Bz|Bz
   ·exact bn [(6,aZ (c9 Bz)),(10,aZ (uG (q:=decide (e2.Count<0)) Bz))] _ _ hk
   exact bn [(6,aZ (c9 Bz)),(10,aZ (sx (q:=decide (e2.Count<0)) Bz))] _ _ hk
  rcases cZ hm with⟨Jg,hm⟩|⟨Jg,hm⟩
  ·refine cM Jg<|bn [] [(2,.bool false)] [] ?_
   cases hm;exact A.ret cC
  exact cL Jg<|A.skip<|fq [(0,aZ (hV gb fG))] [87,158] [(87,ag ((dd+1:Nat):Int))]<|ek () hm
 rintro dd ⟨⟩ jo kg hm;rw[nz]at hm;refine br [] [] [(88,.bool (decide ((dd:Int)<(et.1.length:Int))))]<|A.seq<|cL (h8 kg)<|A.exit ?_
 obtain⟨gW,fF,hm⟩:=bI hm;refine bn [(0,cE (ald fF) afg)] [(2,.bool gW)] [] ?_;cases hm;exact A.ret cC
end Go.Proofs.YtmnbolcmepihlaaGreat
