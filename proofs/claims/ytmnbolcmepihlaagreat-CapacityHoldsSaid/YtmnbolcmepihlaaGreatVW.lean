/- gw iD of h7 of aR program. bM bN cu cg bz cv in ck. -/
import Derived.Test.YtmnbolcmepihlaaGreatDA
namespace Go.Proofs.YtmnbolcmepihlaaGreat
open Go Go.Proofs.Tryz
set_option maxRecDepth 100000
set_option linter.all false
theorem ajH{t:List Int}{r:dX}(hm:Ct t=some r):gi prog 12 [] [bm bq t] (λa az=>a=.ptr 900000103 0∧az=[(900000103,.cells 103 (hw r))]):=by
 refine eu func12 rfl rfl ?_;unfold Ct at hm;refine bn [] [(0,bm bq t)] [] ?_;obtain⟨eU,h1,hm⟩:=bI hm;refine bn [(2,aZ (ew bq t)),(4,hT (sl bq h1)),(6,.al 12009)] [(2,.ptr 12009 0)] [(12009,.cells 103 [bm bq eU,ag 0])]<|A.ret ?_
 obtain rfl:=nP hm;exact A.fin cm [.kV 12009 900000103] rfl (by kernel_rfl)
variable {r:Int×dX}{t:dX}
theorem aiL(hm:BK t=some r):gi prog 61 [(900000103,.cells 103 (hw t))] [.ptr 900000103 0] (λa az=>a=ag r.1∧az=[(900000103,.cells 103 (hw r.2))]):=by
 refine eu func61 rfl rfl ?_;unfold BK at hm;refine bn [] [(0,.ptr 900000103 0)] [(900000103,.cells 103 (hw t))]<|A.seq<|br [(8,aZ (ew bq t.L))] [] [(12,.bool (decide ((t.L.length:Int)≤t.At)))] ?_
 rcases cZ hm with⟨bk,hm⟩|⟨bk,hm⟩
 ·refine cM bk<|br [] [0,12] [(2,ag 0)] ?_
  cases hm;exact A.ret cC
 refine cL bk<|A.skip<|eV [] [12] [] [900000103] [(900000103,.cells 103 [bm bq t.L,ag (bK (t.At+1))])] ?_
 obtain⟨ej,h1,hm⟩:=bI hm;refine br [(9,eg (ix bq h1))] [0] [(2,ag ej)] ?_;cases hm;exact A.ret cC
theorem akm{cN:Int}{n:Int}{r:Int}(hm:Cu cN n=some r):ef prog 60 [] [ag cN,ag n] (ag r):=by
 refine eu func60 rfl rfl ?_;unfold Cu at hm;refine bn [] [(0,ag cN),(1,ag n)] []<|A.seq<|br [] [] [(6,.bool (decide (n<1)))] ?_
 rcases cZ hm with⟨bk,hm⟩|⟨bk,hm⟩
 ·refine cM bk<|bn [] [(4,ag 0)] [] ?_
  cases hm;exact A.ret cC
 refine cL bk<|A.skip ?_
 obtain⟨h1,hm⟩:=pT hm;refine br [(2,.qr n (of_decide_eq_true h1))] [0,6] [(0,ag (Int.tmod cN n))] ?_;obtain⟨fD,kr,hm⟩:=lu hm;refine A.J (J:=fD) (r:=r) (λa8=>[(0,ag a8)]) (λa8=>[]) ?_ ?_
 ·refine br [] [] [(11,.bool (decide (Int.tmod cN n<0)))] ?_;rcases cZ hm with⟨bZ,hm⟩|⟨bZ,hm⟩
  ·exact cM bZ<|Gd [] [(0,ag (bK ((Int.tmod cN n)+n)))] []<|ek (bK ((Int.tmod cN n)+n)) hm
  exact cL bZ<|A.skip<|ek (Int.tmod cN n) hm
 rintro a8 hm;rw[kr]at hm;refine bn [] [(4,ag a8)] [] ?_;cases hm;exact A.ret cC
theorem qK{n:Int}(hm:np t n=some r):gi prog 14 [(900000103,.cells 103 (hw t))] [.ptr 900000103 0,ag n] (λa az=>a=ag r.1∧az=[(900000103,.cells 103 (hw r.2))]):=by
 refine eu func14 rfl rfl ?_;unfold np at hm;refine bn [] [(0,.ptr 900000103 0),(1,ag n)] [(900000103,.cells 103 (hw t))] ?_;obtain⟨a8,h1,hm⟩:=bI hm;obtain⟨bt,D,hm⟩:=bI hm;refine bn [(1,gN [] (aiL h1) afl),(3,cE (akm D) afk)] [(4,ag bt)] [(900000103,.cells 103 (hw a8.2))] ?_;cases hm;exact A.ret cC
theorem Jw{lo:Int}{hi:Int}(hm:xx t lo hi=some r):gi prog 28 [(900000103,.cells 103 (hw t))] [.ptr 900000103 0,ag lo,ag hi] (λa az=>a=ag r.1∧az=[(900000103,.cells 103 (hw r.2))]):=by
 refine eu func28 rfl rfl ?_;unfold xx at hm;refine bn [] [(0,.ptr 900000103 0),(1,ag lo),(2,ag hi)] [(900000103,.cells 103 (hw t))] ?_;obtain⟨a8,h1,hm⟩:=bI hm;refine bn [(6,gN [] (qK h1) rD)] [(6,ag (bK (lo+a8.1)))] [(900000103,.cells 103 (hw a8.2))] ?_;cases hm;exact A.ret cC
variable {l:List Int}
theorem BG(hm:ua t l=some r):gi prog 59 [(900000103,.cells 103 (hw t))] [.ptr 900000103 0,bm bq l] (λa az=>a=ag r.1∧az=[(900000103,.cells 103 (hw r.2))]):=by
 refine eu func59 rfl rfl ?_;unfold ua at hm;refine bn [] [(0,.ptr 900000103 0),(1,bm bq l)] [(900000103,.cells 103 (hw t))] ?_;obtain⟨a8,h1,hm⟩:=bI hm;obtain⟨ej,D,hm⟩:=bI hm;refine bn [(3,aZ (ew bq l)),(4,gN [] (qK h1) rD),(5,eg (ix bq D))] [(4,ag ej)] [(900000103,.cells 103 (hw a8.2))] ?_;cases hm;exact A.ret cC
theorem akn{hc:Int}{r:(List Int)}(hm:Cv l hc=some r):ef prog 46 [] [bm bq l,ag hc] (bm bq r):=by
 refine eu func46 rfl rfl ?_;unfold Cv at hm;refine bn [] [(0,bm bq l),(1,ag hc)] []<|br [] [] [(5,ag 0)]<|A.seq<|A.block ?_
 obtain⟨lJ,hG,lU,hm⟩:=qY hm;refine A.q7 (F:=lJ) hm (λoK=>[(0,bm bq l),(1,ag hc),(5,ag oK)]) (λoK=>[]) ?_ ?_
 ·exact hK
 rintro dh oK hm;rw[lU]at hm;refine A.seq ?_;obtain⟨fD,kr,hm⟩:=lu hm;refine A.J (J:=fD) (r:=r) (λjL=>[(0,bm bq l),(1,ag hc),(5,ag oK),(18,.bool jL)]) (λjL=>[]) ?_ ?_
 ·rcases cZ hm with⟨bk,hm⟩|⟨bk,hm⟩
  ·obtain⟨ej,h1,hm⟩:=bI hm;exact fq [(2,aZ (ew bq l)),(4,aZ (c9 bk)),(7,eg (ix bq h1))] [] [(18,.bool (decide (ej<hc)))]<|ek (decide (ej<hc)) hm
  exact fq [(2,aZ (ew bq l)),(4,aZ (c9 bk))] [] [(18,.bool false)]<|ek false hm
 rintro jL hm;rw[kr]at hm;rcases cZ hm with⟨bZ,hm⟩|⟨bZ,hm⟩
 ·exact cM bZ<|A.skip<|A.block<|fq [] [5,18] [(5,ag (bK (oK+1)))]<|ek (bK (oK+1)) hm
 refine cL bZ<|A.exit<|A.seq ?_
 obtain⟨jB,rY,hm⟩:=lu hm;refine A.J (J:=jB) (r:=r) (λsK=>[(0,bm bq l),(1,ag hc),(5,ag oK),(32,.bool sK)]) (λsK=>[]) ?_ ?_
 ·rcases cZ hm with⟨c1,hm⟩|⟨c1,hm⟩
  ·obtain⟨hS,D,hm⟩:=bI hm;exact fq [(2,aZ (ew bq l)),(4,aZ (c9 c1)),(7,eg (ix bq D))] [18] [(32,.bool (decide (hS=hc)))]<|ek (decide (hS=hc)) hm
  exact fq [(2,aZ (ew bq l)),(4,aZ (c9 c1))] [18] [(32,.bool false)]<|ek false hm
 rintro sK hm;rw[rY]at hm;rcases cZ hm with⟨fu,hm⟩|⟨fu,hm⟩
 ·refine cM fu<|bn [] [(4,bm bq l)] [] ?_
  cases hm;exact A.ret cC
 refine cL fu<|A.skip ?_
 obtain⟨eU,ak,hm⟩:=bI hm;obtain⟨nJ,bc,hm⟩:=bI hm;refine eV [(1,.al 46035),(4,hT (ajq bq ak)),(5,qP 46539 (ap bq (bytes:=8) (by decide) bc))] [1,32] [(6,.own 46539)] [] [(46539,.slice 3 1 (aD bq nJ) 0 false)] ?_;obtain⟨vX,bX,hm⟩:=bI hm;obtain⟨vY,dV,hm⟩:=bI hm;refine A.eB cm [.cU [46539]] [(3,qU (sl bq bX)),(5,ago 46545 Pl (ap bq (bytes:=8) (by decide) dV) (aew bq bc (Nat.succ_pos _)))] [(4,.own 46545)] [(46545,.slice 3 1 (aD bq vY) 0 false)] (by kernel_rfl)<|A.ret ?_
 obtain rfl:=nP hm;exact A.fin cm [.cU [46545]] rfl (by kernel_rfl)
theorem ai3{a:List Int}{b:List Int}{r:Bool}(hm:BM a b=some r):ef prog 45 [] [bm bq a,bm bq b] (.bool r):=by
 refine eu func45 rfl rfl ?_;unfold BM at hm;refine bn [] [(0,bm bq a),(1,bm bq b)] []<|A.seq<|br [(1,aZ (ew bq a)),(3,aZ (ew bq b))] [] [(10,.bool (!decide ((a.length:Int)=(b.length:Int))))] ?_
 rcases cZ hm with⟨bk,hm⟩|⟨bk,hm⟩
 ·refine cM bk<|bn [] [(4,.bool false)] [] ?_
  cases hm;exact A.ret cC
 refine cL bk<|A.skip<|A.seq<|br [] [10] [(5,ag 0)]<|A.block<|A.jx 0 rfl λfZ=>?_
 obtain⟨hA,hB,hE,hq,hm⟩:=iF hm;refine A.iS (l:=a) (hn:=0) (B:=hA) (K:=hB) hm (λbp=>λav=>match av with|()=>[(0,bm bq a),(1,bm bq b),(5,ag (bp:Int))]) (λbp=>λav=>match av with|()=>[]) ?_ ?_ ?_
 ·exact hK
 ·rintro bp aA dh ⟨⟩ hF cI hm;rw[hE]at hm;refine A.seq<|br [(2,aZ (ew bq a))] [] [(14,.bool (decide ((bp:Int)<(a.length:Int))))] ?_
  refine cM (ih cI)<|A.skip<|A.seq<|A.block ?_
  obtain⟨ej,h1,hm⟩:=bI hm;refine br [(2,eg (ix bq (hN cI))),(6,eg (ix bq h1))] [14] [(25,.bool (!decide (aA=ej)))] ?_;rcases cZ hm with⟨bZ,hm⟩|⟨bZ,hm⟩
  ·refine cM bZ<|bn [] [(4,.bool false)] [] ?_
   cases hm;exact A.ret cC
  exact cL bZ<|A.skip<|fq [(1,aZ (hV cI fZ))] [5,25] [(5,ag ((bp+1:Nat):Int))]<|ek () hm
 rintro bp ⟨⟩ hF gO hm;rw[hq]at hm;refine A.seq<|br [(2,aZ (ew bq a))] [] [(14,.bool (decide ((bp:Int)<(a.length:Int))))] ?_
 refine cL (h8 gO)<|A.exit<|bn [] [(4,.bool true)] [] ?_
 cases hm;exact A.ret cC
end Go.Proofs.YtmnbolcmepihlaaGreat
