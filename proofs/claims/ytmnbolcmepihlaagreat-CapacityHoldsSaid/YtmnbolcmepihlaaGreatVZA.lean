/- gw iD of h7 of aR program. bM bN cu cg bz cv in ck. -/
import Derived.Test.YtmnbolcmepihlaaGreatVZ
import Derived.Test.YtmnbolcmepihlaaGreatWG
import Derived.Test.YtmnbolcmepihlaaGreatWK
namespace Go.Proofs.YtmnbolcmepihlaaGreat
open Go Go.Proofs.Tryz
set_option maxRecDepth 100000
set_option linter.all false
theorem akS{aL:List bL}{root:Int}{r:(List Int)}(hm:CB aL root=some r):ef prog 156 [] [bm eo aL,ag root] (bm bq r):=by
 refine eu func156 rfl rfl ?_;unfold CB at hm;refine bn [] [(0,bm eo aL),(1,ag root)] []<|eV [(0,.al 156010),(2,vL (sr (k:=.i64) (enc:=ir) [] root true rfl))] [] [(5,.dm 156010)] [] [(156010,.map 3 4 (dy .i64 ir (c6 [] root true)))]<|eV [(1,.al 156014)] [1] [(6,.own 156014)] [] [(156014,.slice 3 1 (aD bq ([root]:List Int)) 0 false)]<|A.seq<|br [] [] [(7,ag 0)]<|A.block ?_
 obtain⟨lJ,hG,lU,hm⟩:=qY hm;refine A.q7 (F:=lJ) hm (λav=>match av with|(fI,cr,cc)=>[(0,bm eo aL),(5,.dm 156010),(6,.own 600156006),(7,ag cr)]) (λav=>match av with|(fI,cr,cc)=>[(156010,.map 3 4 (dy .i64 ir cc)),(600156006,.slice 3 1 (aD bq fI) 0 false)]) ?_ ?_
 ·exact b8.go [.kV 156014 600156006] [] (by kernel_rfl)
 rintro dh ⟨fI,cr,cc⟩ hm;rw[lU]at hm;refine A.seq<|br [(2,aZ (ew bq fI))] [] [(18,.bool (decide (cr<(fI.length:Int))))] ?_
 rcases cZ hm with⟨bk,hm⟩|⟨bk,hm⟩
 ·refine cM bk<|A.skip<|A.seq<|A.block<|br [(1,aZ (ew eo aL))] [18] [(21,bm eo aL),(22,ag (aL.length:Int)),(23,ag 0)]<|A.block<|A.jx 0 rfl λfG=>?_
  obtain⟨ni,jS,nx,nz,hm⟩:=iF hm;refine A.iS (l:=aL) (hn:=0) (B:=ni) (K:=jS) hm (λdd=>λav=>match av with|(mc,dZ)=>[(0,bm eo aL),(5,.dm 156010),(6,.own 600156006),(7,ag cr),(21,bm eo aL),(22,ag (aL.length:Int)),(23,ag (dd:Int))]) (λdd=>λav=>match av with|(mc,dZ)=>[(156010,.map 3 4 (dy .i64 ir dZ)),(600156006,.slice 3 1 (aD bq mc) 0 false)]) ?_ ?_ ?_
  ·exact hK
  ·rintro dd e2 jM ⟨mc,dZ⟩ jo gb hm;rw[nx]at hm;refine br [] [] [(24,.bool (decide ((dd:Int)<(aL.length:Int))))]<|A.seq<|cM (ih gb)<|A.skip ?_
   obtain⟨fD,kr,hm⟩:=lu hm;refine A.J (J:=fD) (r:=r) (λav=>match av with|(AF,g3)=>[(0,bm eo aL),(5,.dm 156010),(6,.own 600156006),(7,ag cr),(21,bm eo aL),(22,ag (aL.length:Int)),(23,ag (dd:Int))]) (λav=>match av with|(AF,g3)=>[(156010,.map 3 4 (dy .i64 ir g3)),(600156006,.slice 3 1 (aD bq AF) 0 false)]) ?_ ?_
   ·refine A.block<|eV [(0,eg (ix eo (hN gb))),(2,.al 156009)] [24] [(9,.ptr 156009 0)] [] [(156009,.cells 175 (pn e2))] ?_
    obtain⟨jB,rY,hm⟩:=lu hm;refine A.J (J:=jB) (r:=r) (λjL=>[(0,bm eo aL),(5,.dm 156010),(6,.own 600156006),(7,ag cr),(9,.ptr 156009 0),(21,bm eo aL),(22,ag (aL.length:Int)),(23,ag (dd:Int)),(42,.bool jL)]) (λjL=>[(156010,.map 3 4 (dy .i64 ir dZ)),(600156006,.slice 3 1 (aD bq mc) 0 false),(156009,.cells 175 (pn e2))]) ?_ ?_
    ·obtain⟨ej,h1,hm⟩:=bI hm;rcases cZ hm with⟨bZ,hm⟩|⟨bZ,hm⟩
     ·exact fq [(5,eg (ix bq h1)),(6,kz 600156006 0 (ix bq h1)),(8,aZ (c9 bZ)),(13,vH (lk (E:=4) (k:=.i64) (enc:=ir) dZ e2.Hop.aQ false (λw=>⟨_,zeroValue4 w,λI=>by simp[aO,c5,ir]⟩)))] [] [(42,.bool (!((bT dZ e2.Hop.aQ).getD false)))]<|ek (!((bT dZ e2.Hop.aQ).getD false)) hm
     exact fq [(5,eg (ix bq h1)),(6,kz 600156006 0 (ix bq h1)),(8,aZ (c9 bZ))] [] [(42,.bool false)]<|ek false hm
    rintro jL hm;rw[rY]at hm;rcases cZ hm with⟨c1,hm⟩|⟨c1,hm⟩
    ·refine cM c1<|eV [(4,vL (sr (k:=.i64) (enc:=ir) dZ e2.Hop.aQ true rfl))] [42] [] [156010] [(156010,.map 3 4 (dy .i64 ir (c6 dZ e2.Hop.aQ true)))] ?_
     obtain⟨eU,D,hm⟩:=bI hm;exact lg [(5,qP 156552 (ap bq (bytes:=8) (by decide) D))] [6,9] [(6,.own 156552)] [600156006,156009] [(156552,.slice 3 1 (aD bq eU) 0 false)]<|Exists.intro (eU,c6 dZ e2.Hop.aQ true) (And.intro hm (b8.go [.kV 156552 600156006] [] (by kernel_rfl)))
    exact cL c1<|A.skip<|ek (mc,dZ) hm
   rintro⟨AF,g3⟩ hm;rw[kr]at hm;exact fq [(0,aZ (hV gb fG))] [23] [(23,ag ((dd+1:Nat):Int))]<|ek (AF,g3) hm
  rintro dd ⟨mc,dZ⟩ jo kg hm;rw[nz]at hm;exact br [] [] [(24,.bool (decide ((dd:Int)<(aL.length:Int))))]<|A.seq<|cL (h8 kg)<|A.exit<|fq [] [7,21,22,23,24] [(7,ag (bK (cr+1)))]<|ek (mc,bK (cr+1),dZ) hm
 refine cL bk<|A.exit ?_
 obtain⟨ak,hm⟩:=pT hm;refine bn [(1,gN [] (Np (d:=600156006) (T:=3) fI (of_decide_eq_true ak)) PX)] [(6,.own 600156006)] [(600156006,.slice 3 1 (aD bq (kZ fI)) 0 false)]<|br [] [6] [(4,.own 600156006)]<|A.ret ?_
 obtain rfl:=nP hm;exact A.fin cm [.cU [600156006]] rfl (by kernel_rfl)
variable {d:dQ}{t:b0}
theorem akV{De:List (bh×Int)}{r:(List Int)×Bool}(hm:Cp t De d=some r):ef prog 89 [] [.agg (dN t),.de (dz (ei b1) (c5 .i64) De),.agg (qd d)] (.cD [bm bq r.1,.bool r.2]):=by
 refine eu func89 rfl rfl ?_;unfold Cp at hm;refine bn [(0,.al 89003),(1,.al 89005)] [(1,.de (dz (ei b1) (c5 .i64) De)),(3,.ptr 89003 0),(5,.ptr 89005 0)] [(89003,.cells 28 (dN t)),(89005,.cells 52 (qd d))] ?_;obtain⟨a8,h1,hm⟩:=bI hm;obtain⟨bt,D,hm⟩:=bI hm;refine eV [(4,cE (sQ.Hl (r':=bm eo a8) (σ3:=[]) [500008500] (SR h1) (by kernel_rfl) (by kernel_rfl)) QU),(7,cE (akS D) aeF)] [1,3] [(8,bm bq bt)] [89003] []<|A.seq<|eV [(2,aZ (ew bq d.ia))] [5] [(22,bm bq d.ia),(23,ag (d.ia.length:Int)),(24,ag 0)] [89005] []<|A.block<|A.jx 22 rfl λfZ=>?_
 obtain⟨hA,hB,hE,hq,hm⟩:=iF hm;refine A.iS (l:=d.ia) (hn:=0) (B:=hA) (K:=hB) hm (λbp=>λav=>match av with|()=>[(8,bm bq bt),(22,bm bq d.ia),(23,ag (d.ia.length:Int)),(24,ag (bp:Int))]) (λbp=>λav=>match av with|()=>[]) ?_ ?_ ?_
 ·exact hK
 ·rintro bp aA dh ⟨⟩ hF cI hm;rw[hE]at hm;refine br [] [] [(25,.bool (decide ((bp:Int)<(d.ia.length:Int))))]<|A.seq<|cM (ih cI)<|A.skip<|A.seq<|A.block<|br [(0,eg (ix bq (hN cI)))] [25] [(10,ag aA)] ?_
  obtain⟨c7,ak,hm⟩:=bI hm;refine br [(2,cE (aii ak) aeG)] [10] [(12,.bool c7.2)]<|br [] [12] [(35,.bool (!c7.2))] ?_
  rcases cZ hm with⟨bk,hm⟩|⟨bk,hm⟩
  ·refine cM bk<|bn [] [(6,bm bq bt),(7,.bool false)] [] ?_
   cases hm;exact A.ret cC
  exact cL bk<|A.skip<|fq [(0,aZ (hV cI fZ))] [24,35] [(24,ag ((bp+1:Nat):Int))]<|ek () hm
 rintro bp ⟨⟩ hF gO hm;rw[hq]at hm;refine br [] [] [(25,.bool (decide ((bp:Int)<(d.ia.length:Int))))]<|A.seq<|cL (h8 gO)<|A.exit<|bn [] [(6,bm bq bt),(7,.bool true)] [] ?_
 cases hm;exact A.ret cC
theorem ai6{hy:List ep}{r:(List Int)×Int}(hm:y8 t hy d=some r):ef prog 25 [] [.agg (dN t),bm gx hy,.agg (qd d)] (.cD [bm bq r.1,ag r.2]):=by
 refine eu func25 rfl rfl ?_;unfold y8 at hm;refine bn [(0,.al 25003),(1,.al 25005)] [(1,bm gx hy),(3,.ptr 25003 0),(5,.ptr 25005 0)] [(25003,.cells 28 (dN t)),(25005,.cells 52 (qd d))]<|A.seq ?_
 obtain⟨a8,h1,hm⟩:=bI hm;refine br [(3,cE (Kx h1) IU)] [] [(8,ag a8)]<|br [] [] [(16,.bool (!decide (a8=0)))] ?_
 rcases cZ hm with⟨bk,hm⟩|⟨bk,hm⟩
 ·refine cM bk<|bn [] [(6,.cV),(7,ag a8)] [] ?_
  cases hm;exact A.ret cC
 refine cL bk<|A.skip ?_
 obtain⟨bt,D,hm⟩:=bI hm;obtain⟨c7,ak,hm⟩:=bI hm;refine bn [(2,cE (akU D) aft),(4,cE (akV ak) afs)] [(9,bm bq c7.1),(10,.bool c7.2)] []<|A.seq<|br [] [10] [(26,.bool c7.2)] ?_
 rcases cZ hm with⟨bZ,hm⟩|⟨bZ,hm⟩
 ·refine cM bZ<|bn [] [(6,.cV),(7,ag 9)] [] ?_
  cases hm;exact A.ret cC
 refine cL bZ<|A.skip<|bn [] [(6,bm bq c7.1),(7,ag 0)] [] ?_
 cases hm;exact A.ret cC
theorem Ls:kR prog 125 84 3 (ei b1) c2:=⟨underlying125,λ_=>rfl,λ_=>rfl,⟨_,underlying84,λ_ _=>rfl⟩,λa b w=>BI (by kernel_rfl) (by kernel_rfl) (DG a.bg b.bg a.aQ b.aQ w),λe a w=>by kernel_rfl,λa b h=>by cases a;cases b;simpa [c2]using h,λa=>by simp[ei,b1,valOf,uy,Instr.sameBits]⟩
variable {l:List c0}{r:(List ep)×Int}
theorem akT{j5:List Int}(hm:CC l j5=some r):ef prog 32 [] [bm gD l,bm bq j5] (.cD [bm gx r.1,ag r.2]):=by
 refine eu func32 rfl rfl ?_;unfold CC at hm;refine bn [] [(0,bm gD l),(1,bm bq j5)] []<|A.seq<|br [(1,aZ (ew gD l)),(3,aZ (ew bq j5))] [] [(18,.bool (!decide ((l.length:Int)=(j5.length:Int))))] ?_
 rcases cZ hm with⟨bk,hm⟩|⟨bk,hm⟩
 ·refine cM bk<|bn [] [(4,.cV),(5,ag 8)] [] ?_
  cases hm;exact A.ret cC
 refine cL bk<|A.skip<|A.seq<|br [(1,aZ (ew bq j5))] [18] [(19,bm bq j5),(20,ag (j5.length:Int)),(21,ag 0)]<|A.block<|A.jx 1 rfl λfZ=>?_
 obtain⟨hA,hB,hE,hq,hm⟩:=iF hm;refine A.iS (l:=j5) (hn:=0) (B:=hA) (K:=hB) hm (λbp=>λav=>match av with|()=>[(0,bm gD l),(1,bm bq j5),(19,bm bq j5),(20,ag (j5.length:Int)),(21,ag (bp:Int))]) (λbp=>λav=>match av with|()=>[]) ?_ ?_ ?_
 ·exact hK
 ·rintro bp aA dh ⟨⟩ hF cI hm;rw[hE]at hm;refine br [] [] [(22,.bool (decide ((bp:Int)<(j5.length:Int))))]<|A.seq<|cM (ih cI)<|A.skip<|A.seq<|A.block<|br [(0,eg (ix bq (hN cI)))] [22] [(7,ag aA)]<|A.mid [(0,bm gD l),(1,bm bq j5),(19,bm bq j5),(20,ag (j5.length:Int)),(21,ag (bp:Int)),(30,.bool ((decide (aA<0))||(decide (1000<aA))))] [] (λhk=>?_) ?_
  ·rcases mx (decide (aA<0))with bZ|bZ
   ·exact bn [(2,aZ (c9 bZ)),(5,aZ (uG (q:=decide (1000<aA)) bZ))] _ _ hk
   exact bn [(2,aZ (c9 bZ)),(5,aZ (sx (q:=decide (1000<aA)) bZ))] _ _ hk
  rcases cZ hm with⟨c1,hm⟩|⟨c1,hm⟩
  ·refine cM c1<|bn [] [(4,.cV),(5,ag 2)] [] ?_
   cases hm;exact A.ret cC
  exact cL c1<|A.skip<|fq [(0,aZ (hV cI fZ))] [21,30] [(21,ag ((bp+1:Nat):Int))]<|ek () hm
 rintro bp ⟨⟩ hF gO hm;rw[hq]at hm;refine br [] [] [(22,.bool (decide ((bp:Int)<(j5.length:Int))))]<|A.seq<|cL (h8 gO)<|A.exit<|A.seq<|br [(1,aZ (ew gD l))] [19,20,21,22] [(34,.bool (decide (12<(l.length:Int))))] ?_
 rcases cZ hm with⟨fu,hm⟩|⟨fu,hm⟩
 ·refine cM fu<|bn [] [(4,.cV),(5,ag 3)] [] ?_
  cases hm;exact A.ret cC
 refine cL fu<|A.skip<|eV [(0,J1 32035 84 3)] [34] [(8,.dm 32035)] [] [(32035,.map 84 3 (dz (ei b1) (c5 .i64) []))]<|A.seq<|br [(1,aZ (ew gD l))] [0] [(36,bm gD l),(37,ag (l.length:Int)),(38,ag 0)]<|A.block<|A.jx 36 rfl λfG=>?_
 obtain⟨ni,jS,nx,nz,hm⟩:=iF hm;refine A.iS (l:=l) (hn:=0) (B:=ni) (K:=jS) hm (λdd=>λcc=>[(1,bm bq j5),(8,.dm 32035),(36,bm gD l),(37,ag (l.length:Int)),(38,ag (dd:Int))]) (λdd=>λcc=>[(32035,.map 84 3 (dz (ei b1) (c5 .i64) cc))]) ?_ ?_ ?_
 ·exact hK
 ·rintro dd e2 jM cc jo gb hm;rw[nx]at hm;refine br [] [] [(39,.bool (decide ((dd:Int)<(l.length:Int))))]<|A.seq<|cM (ih gb)<|A.skip ?_
  obtain⟨fD,kr,hm⟩:=lu hm;refine A.J (J:=fD) (r:=r) (λdZ=>[(1,bm bq j5),(8,.dm 32035),(36,bm gD l),(37,ag (l.length:Int)),(38,ag (dd:Int))]) (λdZ=>[(32035,.map 84 3 (dz (ei b1) (c5 .i64) dZ))]) ?_ ?_
  ·refine A.block<|eV [(1,eg (ix gD (hN gb))),(3,.al 32010)] [39] [(10,.ptr 32010 0),(9,ag (dd:Int))] [] [(32010,.cells 36 (kj e2))] ?_
   refine A.seq ?_;obtain⟨a8,h1,hm⟩:=bI hm;refine br [(1,cE (Fi h1) D7)] [] [(44,.bool a8)] ?_;rcases cZ hm with⟨gl,hm⟩|⟨gl,hm⟩
   ·exact cM gl<|A.exit<|ek cc hm
   refine cL gl<|A.skip<|A.seq ?_
   obtain⟨bt,D,hm⟩:=bI hm;refine br [(1,cE (Ki D) IT)] [44] [(11,ag bt)]<|br [] [] [(48,.bool (!decide (bt=0)))] ?_
   rcases cZ hm with⟨it,hm⟩|⟨it,hm⟩
   ·refine cM it<|bn [] [(4,.cV),(5,ag bt)] [] ?_
    cases hm;exact A.ret cC
   refine cL it<|A.skip<|eV [(2,aZ (ew b1 e2.Links))] [10,11,48] [(51,bm b1 e2.Links),(52,ag (e2.Links.length:Int)),(53,ag 0)] [32010] []<|A.block<|A.jx 51 rfl λvB=>?_
   obtain⟨tT,tV,uf,ug,hm⟩:=iF hm;refine A.iS (l:=e2.Links) (hn:=0) (B:=tT) (K:=tV) hm (λgJ=>λg3=>[(1,bm bq j5),(8,.dm 32035),(9,ag (dd:Int)),(36,bm gD l),(37,ag (l.length:Int)),(38,ag (dd:Int)),(51,bm b1 e2.Links),(52,ag (e2.Links.length:Int)),(53,ag (gJ:Int))]) (λgJ=>λg3=>[(32035,.map 84 3 (dz (ei b1) (c5 .i64) g3))]) ?_ ?_ ?_
   ·exact hK
   ·rintro gJ b6 o0 g3 qQ lF hm;rw[uf]at hm;refine br [] [] [(54,.bool (decide ((gJ:Int)<(e2.Links.length:Int))))]<|A.seq<|cM (ih lF)<|A.skip<|A.seq<|A.block<|eV [(0,eg (ix b1 (hN lF))),(2,.al 32013)] [54] [(13,.ptr 32013 0)] [] [(32013,.cells 84 (k8 b6))]<|A.DZ (d:=32035) rfl λy4 Jj=>?_
    obtain⟨ej,ak,hm⟩:=bI hm;by_cases bc:(c3 c2 g3 b6).isSome=true
    ·exact Gd [(2,IN g3 b6 (c5 .i64) (0:Int) Ls (Hg (k:=.i64) zeroValue3)),(5,eg (ix bq ak)),(8,QL g3 b6 (c5 .i64) ((c3 c2 g3 b6).getD (0:Int)) Ls (Ol bc)),(10,QM y4 Jj g3 b6 (c5 .i64) (bK (((c3 c2 g3 b6).getD (0:Int))+ej)) Ls rfl bc)] [(1,bm bq j5),(8,.dm 32035),(9,ag (dd:Int)),(36,bm gD l),(37,ag (l.length:Int)),(38,ag (dd:Int)),(51,bm b1 e2.Links),(52,ag (e2.Links.length:Int)),(53,ag (gJ:Int))] [(32035,.map 84 3 (dz (ei b1) (c5 .i64) (ga c2 g3 b6 (bK (((c3 c2 g3 b6).getD (0:Int))+ej)))))]<|fq [(0,aZ (hV lF vB))] [53] [(53,ag ((gJ+1:Nat):Int))]<|ek (ga c2 g3 b6 (bK (((c3 c2 g3 b6).getD (0:Int))+ej))) hm
    ·exact A.weak (b8.aeb (d:=32035) rfl)<|A.Wf 32035 32013 (m:=g3) (h:=b6) cm.mix (by decide) rfl rfl rfl rfl rfl rfl ak (by simpa using bc) rfl ⟨rfl,rfl,rfl⟩ rfl ⟨rfl,rfl,rfl⟩ rfl ⟨rfl,rfl,rfl⟩ rfl ⟨rfl,rfl,rfl⟩ rfl ⟨rfl,rfl,rfl⟩ rfl ⟨rfl,rfl,rfl⟩ rfl ⟨rfl,rfl,rfl⟩ rfl ⟨rfl,rfl,rfl⟩ rfl ⟨rfl,rfl,rfl⟩ rfl ⟨rfl,rfl,rfl⟩ rfl ⟨rfl,rfl,rfl⟩ rfl (by kernel_rfl) (by kernel_rfl) (by kernel_rfl) (by kernel_rfl) (by kernel_rfl) (by kernel_rfl)<|Gd [(0,aZ (hV lF vB))] [(1,bm bq j5),(8,.dm 32035),(9,ag (dd:Int)),(36,bm gD l),(37,ag (l.length:Int)),(38,ag (dd:Int)),(51,bm b1 e2.Links),(52,ag (e2.Links.length:Int)),(53,ag ((gJ+1:Nat):Int))] [(32035,.map 84 3 (dz (ei b1) (c5 .i64) (ga c2 g3 b6 (bK (((c3 c2 g3 b6).getD (0:Int))+ej)))))]<|ek (ga c2 g3 b6 (bK (((c3 c2 g3 b6).getD (0:Int))+ej))) hm
   rintro gJ g3 qQ n1 hm;rw[ug]at hm;exact br [] [] [(54,.bool (decide ((gJ:Int)<(e2.Links.length:Int))))]<|A.seq<|cL (h8 n1)<|A.exit<|ek g3 hm
  rintro dZ hm;rw[kr]at hm;exact fq [(0,aZ (hV gb fG))] [38] [(38,ag ((dd+1:Nat):Int))]<|ek dZ hm
 rintro dd cc jo kg hm;rw[nz]at hm;refine br [] [] [(39,.bool (decide ((dd:Int)<(l.length:Int))))]<|A.seq<|cL (h8 kg)<|A.exit ?_
 obtain⟨c7,bX,hm⟩:=bI hm;refine A.eB cm [.cU [32035]] [(1,Sv [32035] (S3 bX) QV)] [(4,bm gx c7),(5,ag 0)] [] (by kernel_rfl) ?_;cases hm;exact A.ret cC
theorem S8{gh:List dQ}(hm:vp t gh l=some r):ef prog 24 [] [.agg (dN t),bm hI gh,bm gD l] (.cD [bm gx r.1,ag r.2]):=by
 refine eu func24 rfl rfl ?_;unfold vp at hm;refine bn [(0,.al 24003)] [(1,bm hI gh),(2,bm gD l),(3,.ptr 24003 0)] [(24003,.cells 28 (dN t))]<|A.seq ?_
 obtain⟨a8,h1,hm⟩:=bI hm;refine br [(2,cE (Kx h1) IU)] [] [(8,ag a8)]<|br [] [] [(16,.bool (!decide (a8=0)))] ?_
 rcases cZ hm with⟨bk,hm⟩|⟨bk,hm⟩
 ·refine cM bk<|bn [] [(6,.cV),(7,ag a8)] [] ?_
  cases hm;exact A.ret cC
 refine cL bk<|A.skip<|A.seq<|br [(1,aZ (ew gD l)),(3,aZ (ew hI gh))] [8,16] [(22,.bool (decide ((gh.length:Int)<(l.length:Int))))] ?_
 rcases cZ hm with⟨bZ,hm⟩|⟨bZ,hm⟩
 ·refine cM bZ<|bn [] [(6,.cV),(7,ag 8)] [] ?_
  cases hm;exact A.ret cC
 refine cL bZ<|A.skip ?_
 obtain⟨bt,D,hm⟩:=bI hm;refine eV [(1,gN [500008400] (S2 D) QT)] [22] [(9,.dm 500008400)] [] [(500008400,.map 84 3 (dz (ei b1) (c5 .i64) bt))]<|A.seq<|br [(1,aZ (ew gD l))] [2] [(25,bm gD l),(26,ag (l.length:Int)),(27,ag 0)]<|A.block<|A.jx 25 rfl λfZ=>?_
 obtain⟨hA,hB,hE,hq,hm⟩:=iF hm;refine A.iS (l:=l) (hn:=0) (B:=hA) (K:=hB) hm (λbp=>λcc=>[(1,bm hI gh),(3,.ptr 24003 0),(9,.dm 500008400),(25,bm gD l),(26,ag (l.length:Int)),(27,ag (bp:Int))]) (λbp=>λcc=>[(24003,.cells 28 (dN t)),(500008400,.map 84 3 (dz (ei b1) (c5 .i64) cc))]) ?_ ?_ ?_
 ·exact hK
 ·rintro bp aA dh cc hF cI hm;rw[hE]at hm;refine br [] [] [(28,.bool (decide ((bp:Int)<(l.length:Int))))]<|A.seq<|cM (ih cI)<|A.skip<|A.seq<|A.block<|eV [(1,eg (ix gD (hN cI))),(3,.al 24011)] [28] [(11,.ptr 24011 0),(10,ag (bp:Int))] [] [(24011,.cells 36 (kj aA))] ?_
  obtain⟨fD,kr,hm⟩:=lu hm;refine A.J (J:=fD) (r:=r) (λav=>match av with|(jL,dZ)=>[(1,bm hI gh),(3,.ptr 24003 0),(9,.dm 500008400),(25,bm gD l),(26,ag (l.length:Int)),(27,ag (bp:Int)),(51,.bool jL)]) (λav=>match av with|(jL,dZ)=>[(24003,.cells 28 (dN t)),(500008400,.map 84 3 (dz (ei b1) (c5 .i64) dZ))]) ?_ ?_
  ·obtain⟨c7,ak,hm⟩:=bI hm;rcases cZ hm with⟨c1,hm⟩|⟨c1,hm⟩
   ·obtain⟨fl,bc,hm⟩:=bI hm;rcases cZ hm with⟨fu,hm⟩|⟨fu,hm⟩
    ·exact lg [(1,cE (Fi ak) D7),(3,aZ (c9 c1)),(6,cE (SQ bc) Rw),(9,aZ (c9 fu))] [11,10] [(51,.bool true)] [24011] []<|ek (true,cc) hm
    obtain⟨ej,bX,hm⟩:=bI hm;obtain⟨fE,dV,hm⟩:=bI hm;exact lg [(1,cE (Fi ak) D7),(3,aZ (c9 c1)),(6,cE (SQ bc) Rw),(9,aZ (c9 fu)),(14,eg (ix hI bX)),(17,gN [] (sQ.at [(540000860,500008400)] (Kj dV)) IV)] [11,10] [(51,.bool (!fE.1))] [500008400,24011] [(500008400,.map 84 3 (dz (ei b1) (c5 .i64) fE.2))]<|ek (!fE.1,fE.2) hm
   obtain⟨hS,fF,hm⟩:=bI hm;obtain⟨et,jm,hm⟩:=bI hm;exact lg [(1,cE (Fi ak) D7),(3,aZ (c9 c1)),(14,eg (ix hI fF)),(17,gN [] (sQ.at [(540000860,500008400)] (Kj jm)) IV)] [11,10] [(51,.bool (!et.1))] [500008400,24011] [(500008400,.map 84 3 (dz (ei b1) (c5 .i64) et.2))]<|ek (!et.1,et.2) hm
  rintro⟨jL,dZ⟩ hm;rw[kr]at hm;rcases cZ hm with⟨gl,hm⟩|⟨gl,hm⟩
  ·refine cM gl<|bn [] [(6,.cV),(7,ag 1)] [] ?_
   cases hm;exact A.ret cC
  exact cL gl<|A.skip<|fq [(0,aZ (hV cI fZ))] [27,51] [(27,ag ((bp+1:Nat):Int))]<|ek dZ hm
 rintro bp cc hF gO hm;rw[hq]at hm;refine br [] [] [(28,.bool (decide ((bp:Int)<(l.length:Int))))]<|A.seq<|cL (h8 gO)<|A.exit ?_
 obtain⟨gW,hY,hm⟩:=bI hm;refine A.eB cm [.cU [500008400]] [(1,Sv [500008400] (S3 hY) QV)] [(6,bm gx gW),(7,ag 0)] [] (by kernel_rfl) ?_;cases hm;exact A.ret cC
end Go.Proofs.YtmnbolcmepihlaaGreat
