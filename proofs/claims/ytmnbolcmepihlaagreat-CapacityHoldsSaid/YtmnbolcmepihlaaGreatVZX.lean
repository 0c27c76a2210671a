/- Several texts in one. No condition but those that stand in each. -/
import Derived.Test.YtmnbolcmepihlaaGreatVZ
import Derived.Test.YtmnbolcmepihlaaGreatWX
namespace Go.Proofs.YtmnbolcmepihlaaGreat
open Go Go.Proofs.Tryz
set_option maxRecDepth 100000
set_option linter.all false
theorem S4{β:Type}{t:b0}{gh:List dQ}{e4:((List c0)×Int)→Option β}{r:β}(hm:ze t gh e4=some r):gi prog 23 [] [.agg (dN t),bm hI gh] (λa az=>az=[]∧∃jv,e4 jv=some r∧a=.cD [bm gD jv.1,ag jv.2]):=by
 refine eu func23 rfl rfl ?_;unfold ze at hm;refine bn [(0,.al 23002)] [(1,bm hI gh),(2,.ptr 23002 0)] [(23002,.cells 28 (dN t))]<|A.seq ?_
 obtain⟨a8,h1,hm⟩:=bI hm;refine br [(2,cE (Kx h1) IU)] [] [(6,ag a8)]<|br [] [] [(18,.bool (!decide (a8=0)))] ?_
 rcases cZ hm with⟨bk,hm⟩|⟨bk,hm⟩
 ·refine cM bk<|bn [] [(4,.cV),(5,ag a8)] []<|A.ret<|ri.mono (A.fin cm [] (R:=.cD [bm gD [],ag a8]) (σ2:=[]) rfl (by kernel_rfl)) ?_
  rintro _ _ ⟨rfl,rfl⟩;exact⟨rfl,_,hm,rfl⟩
 refine cL bk<|A.skip ?_
 obtain⟨bt,D,hm⟩:=bI hm;refine eV [(1,gN [500008400] (S2 D) QT)] [6,18] [(7,.dm 500008400)] [] [(500008400,.map 84 3 (dz (ei b1) (c5 .i64) bt))] ?_;obtain⟨ak,hm⟩:=pT hm;refine eV [(1,aZ (ew hI gh)),(2,ahq 23024 (c0.mk (0:Int) []) gD.enc (gh.length:Int) Pm Pn (λI=>⟨_,_,rfl,(by simp[aO]),⟨_,_,rfl,alv b1 I,rfl⟩⟩) rfl (by decide) (by decide) ak (by decide))] [] [(8,.own 23024)] [] [(23024,.slice 36 2 (aD gD (List.replicate ((gh.length:Int)).toNat (c0.mk (0:Int) []))) 0 false)]<|A.seq<|br [(1,aZ (ew hI gh))] [1] [(25,bm hI gh),(26,ag (gh.length:Int)),(27,ag 0)]<|A.block<|A.jx 25 rfl λfZ=>?_
 obtain⟨hA,hB,hE,hq,hm⟩:=iF hm;refine A.iS (l:=gh) (hn:=0) (B:=hA) (K:=hB) hm (λbp=>λav=>match av with|(fI,cc)=>[(2,.ptr 23002 0),(7,.dm 500008400),(8,.own 600023008),(25,bm hI gh),(26,ag (gh.length:Int)),(27,ag (bp:Int))]) (λbp=>λav=>match av with|(fI,cc)=>[(23002,.cells 28 (dN t)),(500008400,.map 84 3 (dz (ei b1) (c5 .i64) cc)),(600023008,.slice 36 2 (aD gD fI) 0 false)]) ?_ ?_ ?_
 ·exact b8.go [.kV 23024 600023008] [] (by kernel_rfl)
 ·rintro bp aA dh ⟨fI,cc⟩ hF cI hm;rw[hE]at hm;refine br [] [] [(28,.bool (decide ((bp:Int)<(gh.length:Int))))]<|A.seq<|cM (ih cI)<|A.skip ?_
  obtain⟨fD,kr,hm⟩:=lu hm;refine A.J (J:=fD) (r:=r) (λav=>match av with|(mc,dZ)=>[(2,.ptr 23002 0),(7,.dm 500008400),(8,.own 600023008),(25,bm hI gh),(26,ag (gh.length:Int)),(27,ag (bp:Int))]) (λav=>match av with|(mc,dZ)=>[(23002,.cells 28 (dN t)),(500008400,.map 84 3 (dz (ei b1) (c5 .i64) dZ)),(600023008,.slice 36 2 (aD gD mc) 0 false)]) ?_ ?_
  ·refine A.block<|eV [(1,eg (ix hI (hN cI))),(3,.al 23010)] [28] [(10,.ptr 23010 0),(9,ag (bp:Int))] [] [(23010,.cells 52 (qd aA))] ?_
   obtain⟨c7,bc,hm⟩:=bI hm;refine A.Vj cm [4,9,14,15,16] [0,1,2,3,5,6,7,8,4] 9 [10,11,12,13,14,15,16] [] [(4,ahk [500008400] [510023001] (bm eo c7) (sQ.at [(500008500,510023001)] (SR bc)) QU ⟨Y0 eo (λ_=>rfl) _,trivial⟩)] (ajy hm) afm (by kernel_rfl) (by kernel_rfl) (by kernel_rfl) (by rintro _ _ ⟨rfl,_,_,rfl⟩;exact⟨rfl,rfl⟩) ?_;rintro _ _ ⟨rfl,fl,hm,rfl⟩
   try dsimp only at hm
   refine⟨[],[(2,.ptr 23002 0),(7,.dm 500008400),(8,.own 600023008),(25,bm hI gh),(26,ag (gh.length:Int)),(27,ag (bp:Int)),(10,.ptr 23010 0),(9,ag (bp:Int)),(11,bm b1 fl.1),(13,.bool fl.2.2)],[(23002,.cells 28 (dN t)),(500008400,.map 84 3 (dz (ei b1) (c5 .i64) cc)),(600023008,.slice 36 2 (aD gD fI) 0 false),(23010,.cells 52 (qd aA))],by kernel_rfl,?_⟩;refine bn [] [(2,.ptr 23002 0),(7,.dm 500008400),(8,.own 600023008),(25,bm hI gh),(26,ag (gh.length:Int)),(27,ag (bp:Int)),(10,.ptr 23010 0),(9,ag (bp:Int)),(11,bm b1 fl.1),(46,.bool fl.2.2)] [(23002,.cells 28 (dN t)),(500008400,.map 84 3 (dz (ei b1) (c5 .i64) cc)),(600023008,.slice 36 2 (aD gD fI) 0 false),(23010,.cells 52 (qd aA))] ?_;rcases cZ hm with⟨bZ,hm⟩|⟨bZ,hm⟩
   ·refine cM bZ ?_;obtain⟨ej,bX,hm⟩:=bI hm;obtain⟨eU,dV,hm⟩:=bI hm;refine eV [(6,eg (ix gD bX)),(7,zB 600023008 (eY gD (off:=0) (ca:=[ag aA.er,bm b1 fl.1]) bX dV rfl) (Gs bX).1.1)] [11,46] [] [600023008] [(600023008,.slice 36 2 (aD gD eU) 0 false)] ?_;obtain⟨hS,fF,hm⟩:=bI hm;obtain⟨fE,jm,hm⟩:=bI hm;exact lg [(3,eg (ix gD fF)),(4,kz 600023008 0 (ix gD fF)),(7,gN [] (sQ.at [(540000860,500008400)] (Kj jm)) IV)] [10,9] [] [500008400,23010] [(500008400,.map 84 3 (dz (ei b1) (c5 .i64) fE.2))]<|ek (eU,fE.2) hm
   exact cL bZ<|A.skip<|ek (fI,cc) hm
  rintro⟨mc,dZ⟩ hm;rw[kr]at hm;exact fq [(0,aZ (hV cI fZ))] [27] [(27,ag ((bp+1:Nat):Int))]<|ek (mc,dZ) hm
 rintro bp ⟨fI,cc⟩ hF gO hm;rw[hq]at hm;refine br [] [] [(28,.bool (decide ((bp:Int)<(gh.length:Int))))]<|A.seq<|cL (h8 gO)<|A.exit<|eV [] [2,7,8,25,26,27,28] [(4,.own 600023008),(5,ag 0)] [23002,500008400] []<|A.ret<|ri.mono (A.fin cm [.cU [600023008]] (R:=.cD [bm gD fI,ag 0]) (σ2:=[]) rfl (by kernel_rfl)) ?_
 rintro _ _ ⟨rfl,rfl⟩;exact⟨rfl,_,hm,rfl⟩
end Go.Proofs.YtmnbolcmepihlaaGreat
