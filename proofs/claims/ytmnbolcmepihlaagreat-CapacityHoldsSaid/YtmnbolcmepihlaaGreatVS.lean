/- gw iD of h7 of aR program. bM bN cu cg bz cv in ck. -/
import Derived.Test.YtmnbolcmepihlaaGreatDA
namespace Go.Proofs.YtmnbolcmepihlaaGreat
open Go Go.Proofs.Tryz
set_option maxRecDepth 100000
set_option linter.all false
variable {cN:Int}
theorem ajF{r:Int}(hm:KA cN=some r):ef prog 207 [] [.int .u64 cN] (ag r):=by
 refine eu func207 rfl rfl ?_;unfold KA at hm;refine bn [] [(0,.int .u64 cN),(2,ag 0)] [] ?_;obtain⟨fD,kr,hm⟩:=lu hm;refine A.J (J:=fD) (r:=r) (λav=>match av with|(a8,uz)=>[(0,.int .u64 a8),(2,ag uz)]) (λav=>match av with|(a8,uz)=>[]) ?_ ?_
 ·refine br [] [] [(4,.bool (decide (4294967296≤cN)))] ?_;rcases cZ hm with⟨bk,hm⟩|⟨bk,hm⟩
  ·exact cM bk<|bn [(1,.sh (32:Int) (by decide))] [(0,.int .u64 (Int.fdiv cN (2 ^ min (32:Int).toNat 64)))] []<|fq [] [] [(2,ag 32)]<|ek (Int.fdiv cN (2 ^ min (32:Int).toNat 64),(32:Int)) hm
  exact cL bk<|A.skip<|ek (cN,(0:Int)) hm
 rintro⟨a8,uz⟩ hm;rw[kr]at hm;obtain⟨jB,rY,hm⟩:=lu hm;refine A.J (J:=jB) (r:=r) (λav=>match av with|(bt,uA)=>[(0,.int .u64 bt),(2,ag uA)]) (λav=>match av with|(bt,uA)=>[]) ?_ ?_
 ·refine br [] [] [(8,.bool (decide (65536≤a8)))] ?_;rcases cZ hm with⟨bZ,hm⟩|⟨bZ,hm⟩
  ·exact cM bZ<|br [(1,.sh (16:Int) (by decide))] [0,8] [(0,.int .u64 (Int.fdiv a8 (2 ^ min (16:Int).toNat 64)))]<|fq [] [2] [(2,ag (bK (uz+16)))]<|ek (Int.fdiv a8 (2 ^ min (16:Int).toNat 64),bK (uz+16)) hm
  exact cL bZ<|A.skip<|ek (a8,uz) hm
 rintro⟨bt,uA⟩ hm;rw[rY]at hm;obtain⟨sO,vw,hm⟩:=lu hm;refine A.J (J:=sO) (r:=r) (λav=>match av with|(c7,zW)=>[(0,.int .u64 c7),(2,ag zW)]) (λav=>match av with|(c7,zW)=>[]) ?_ ?_
 ·refine br [] [] [(14,.bool (decide (256≤bt)))] ?_;rcases cZ hm with⟨c1,hm⟩|⟨c1,hm⟩
  ·exact cM c1<|br [(1,.sh (8:Int) (by decide))] [0,14] [(0,.int .u64 (Int.fdiv bt (2 ^ min (8:Int).toNat 64)))]<|fq [] [2] [(2,ag (bK (uA+8)))]<|ek (Int.fdiv bt (2 ^ min (8:Int).toNat 64),bK (uA+8)) hm
  exact cL c1<|A.skip<|ek (bt,uA) hm
 rintro⟨c7,zW⟩ hm;rw[vw]at hm;obtain⟨Eo,h1,hm⟩:=bI hm;refine bn [(3,.is (⟨#[0,1,2,2,3,3,3,3,4,4,4,4,4,4,4,4,5,5,5,5,5,5,5,5,5,5,5,5,5,5,5,5,6,6,6,6,6,6,6,6,6,6,6,6,6,6,6,6,6,6,6,6,6,6,6,6,6,6,6,6,6,6,6,6,7,7,7,7,7,7,7,7,7,7,7,7,7,7,7,7,7,7,7,7,7,7,7,7,7,7,7,7,7,7,7,7,7,7,7,7,7,7,7,7,7,7,7,7,7,7,7,7,7,7,7,7,7,7,7,7,7,7,7,7,7,7,7,7,8,8,8,8,8,8,8,8,8,8,8,8,8,8,8,8,8,8,8,8,8,8,8,8,8,8,8,8,8,8,8,8,8,8,8,8,8,8,8,8,8,8,8,8,8,8,8,8,8,8,8,8,8,8,8,8,8,8,8,8,8,8,8,8,8,8,8,8,8,8,8,8,8,8,8,8,8,8,8,8,8,8,8,8,8,8,8,8,8,8,8,8,8,8,8,8,8,8,8,8,8,8,8,8,8,8,8,8,8,8,8,8,8,8,8,8,8,8,8,8,8,8,8,8,8,8,8,8]⟩:ByteArray) (IntKind.wrap .u8 c7) Eo (Xs h1))] [(2,ag (bK (zW+(bK (Eo.toNat:Int)))))] [] ?_;cases hm;exact A.ret cC
theorem akR{r:Int}(hm:KN cN=some r):ef prog 178 [] [.int .u64 cN] (ag r):=by
 refine eu func178 rfl rfl ?_;unfold KN at hm;refine bn [] [(0,.int .u64 cN)] []<|A.seq<|A.jV rfl rfl<|A.skip ?_
 obtain⟨a8,h1,hm⟩:=bI hm;refine bn [(1,cE (ajF h1) aeO)] [(2,ag a8)] [] ?_;cases hm;exact A.ret cC
variable {r:Unit}
theorem aid(hm:Jt=some r):ef prog 216 [] [.cV,ag 0,ag 0] (.cD []):=by
 refine eu func216 rfl rfl ?_;unfold Jt at hm;refine bn [] [(0,.cV),(1,ag 0),(2,ag 0),(6,ag 1)] []<|A.block ?_
 obtain⟨lJ,hG,lU,hm⟩:=qY hm;refine A.q7 (F:=lJ) hm (λav=>match av with|()=>[(0,.cV),(1,ag 0),(2,ag 0),(6,ag 1)]) (λav=>match av with|()=>[]) ?_ ?_
 ·exact hK
 rintro dh ⟨⟩ hm;rw[lU]at hm;refine A.seq<|br [] [] [(12,.bool false)] ?_
 refine A.jV rfl rfl<|A.exit ?_
 obtain rfl:=nP hm;exact A.fin cm [] rfl (by kernel_rfl)
theorem aij{CL:Int}(hm:Jx CL=some r):ef prog 182 [] [.cV,ag 0,ag 0,ag CL] (.cD []):=by
 refine eu func182 rfl rfl ?_;unfold Jx at hm;refine bn [] [(0,.cV),(1,ag 0),(2,ag 0),(3,ag CL),(8,.bool true)] []<|br [] [] [(9,.bool true)]<|A.block ?_
 obtain⟨lJ,hG,lU,hm⟩:=qY hm;refine A.q7 (F:=lJ) hm (λav=>match av with|()=>[(0,.cV),(1,ag 0),(2,ag 0),(3,ag CL),(8,.bool true),(9,.bool true)]) (λav=>match av with|()=>[]) ?_ ?_
 ·exact hK
 rintro dh ⟨⟩ hm;rw[lU]at hm;refine A.block<|br [] [] [(10,ag 0)] ?_
 refine A.seq<|br [] [] [(23,.bool true)] ?_
 refine A.kX rfl rfl ?_;obtain⟨a8,h1,hm⟩:=bI hm;refine bn [(3,Qn 1 (aid h1) aeP)] [] [] ?_;cases hm;exact A.ret cC
theorem aiA(hm:SO=some r):ef prog 145 [] [.cV] (.cD []):=by
 refine eu func145 rfl rfl ?_;unfold SO at hm;refine bn [] [(0,.cV),(2,ag 0)] [] ?_;obtain⟨a8,h1,hm⟩:=bI hm;obtain⟨bt,D,hm⟩:=bI hm;refine Gd [(4,cE (akR h1) aeH),(5,Qn 1 (aij D) aeK)] [] [] ?_;obtain rfl:=nP hm;exact A.fin cm [] rfl (by kernel_rfl)
end Go.Proofs.YtmnbolcmepihlaaGreat
