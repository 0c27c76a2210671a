/- The walks of cz of the program. No condition but aX aL stand in each. -/
import Derived.Test.YtmnbolcmepihlaaGreatDA
namespace Go.Proofs.YtmnbolcmepihlaaGreat
open Go Go.Proofs.Tryz
set_option maxRecDepth 100000
set_option linter.all false
variable {xa0:Int}
theorem u9{r:Int}(hm:nO xa0=some r):RO prog 207 [] [.int .u64 xa0] (i6 r):=by
 refine aY func207 rfl rfl ?_;unfold nO at hm;refine qS [] [(0,.int .u64 xa0),(2,i6 0)] [] ?_;obtain⟨J1,hJ1,hm⟩:=dF hm;refine A.J (J:=J1) (r:=r) (λ(az,n_1)=>[(0,.int .u64 az),(2,i6 n_1)]) (λ(az,n_1)=>[]) ?_ ?_
 ·refine qDs [] [] [(4,.bool (decide (4294967296≤xa0)))] ?_;rcases aB hm with⟨c1,hm⟩|⟨c1,hm⟩
  ·exact qT c1<|qS [(1,.sh (32:Int) (by decide))] [(0,.int .u64 (Int.fdiv xa0 (2 ^ min (32:Int).toNat 64)))] []<|qGs [] [] [(2,i6 32)]<|qX (Int.fdiv xa0 (2 ^ min (32:Int).toNat 64),(32:Int)) hm
  exact qF c1<|A.skip<|qX (xa0,(0:Int)) hm
 rintro⟨az,n_1⟩ hm;rw[hJ1]at hm;obtain⟨J2,hJ2,hm⟩:=dF hm;refine A.J (J:=J2) (r:=r) (λ(aH,n_2)=>[(0,.int .u64 aH),(2,i6 n_2)]) (λ(aH,n_2)=>[]) ?_ ?_
 ·refine qDs [] [] [(8,.bool (decide (65536≤az)))] ?_;rcases aB hm with⟨c2,hm⟩|⟨c2,hm⟩
  ·exact qT c2<|qDs [(1,.sh (16:Int) (by decide))] [0,8] [(0,.int .u64 (Int.fdiv az (2 ^ min (16:Int).toNat 64)))]<|qGs [] [2] [(2,i6 (w64 (n_1+16)))]<|qX (Int.fdiv az (2 ^ min (16:Int).toNat 64),w64 (n_1+16)) hm
  exact qF c2<|A.skip<|qX (az,n_1) hm
 rintro⟨aH,n_2⟩ hm;rw[hJ2]at hm;obtain⟨J3,hJ3,hm⟩:=dF hm;refine A.J (J:=J3) (r:=r) (λ(bA,n_3)=>[(0,.int .u64 bA),(2,i6 n_3)]) (λ(bA,n_3)=>[]) ?_ ?_
 ·refine qDs [] [] [(14,.bool (decide (256≤aH)))] ?_;rcases aB hm with⟨c3,hm⟩|⟨c3,hm⟩
  ·exact qT c3<|qDs [(1,.sh (8:Int) (by decide))] [0,14] [(0,.int .u64 (Int.fdiv aH (2 ^ min (8:Int).toNat 64)))]<|qGs [] [2] [(2,i6 (w64 (n_2+8)))]<|qX (Int.fdiv aH (2 ^ min (8:Int).toNat 64),w64 (n_2+8)) hm
  exact qF c3<|A.skip<|qX (aH,n_2) hm
 rintro⟨bA,n_3⟩ hm;rw[hJ3]at hm;obtain⟨b_1,h1,hm⟩:=aa hm;refine qS [(3,.is (⟨#[0,1,2,2,3,3,3,3,4,4,4,4,4,4,4,4,5,5,5,5,5,5,5,5,5,5,5,5,5,5,5,5,6,6,6,6,6,6,6,6,6,6,6,6,6,6,6,6,6,6,6,6,6,6,6,6,6,6,6,6,6,6,6,6,7,7,7,7,7,7,7,7,7,7,7,7,7,7,7,7,7,7,7,7,7,7,7,7,7,7,7,7,7,7,7,7,7,7,7,7,7,7,7,7,7,7,7,7,7,7,7,7,7,7,7,7,7,7,7,7,7,7,7,7,7,7,7,7,8,8,8,8,8,8,8,8,8,8,8,8,8,8,8,8,8,8,8,8,8,8,8,8,8,8,8,8,8,8,8,8,8,8,8,8,8,8,8,8,8,8,8,8,8,8,8,8,8,8,8,8,8,8,8,8,8,8,8,8,8,8,8,8,8,8,8,8,8,8,8,8,8,8,8,8,8,8,8,8,8,8,8,8,8,8,8,8,8,8,8,8,8,8,8,8,8,8,8,8,8,8,8,8,8,8,8,8,8,8,8,8,8,8,8,8,8,8,8,8,8,8,8,8,8,8,8,8]⟩:ByteArray) (IntKind.wrap .u8 bA) b_1 (ahu h1))] [(2,i6 (w64 (n_3+(w64 (b_1.toNat:Int)))))] [] ?_;cases hm;exact A.ret qE
theorem wU{r:Int}(hm:pE xa0=some r):RO prog 178 [] [.int .u64 xa0] (i6 r):=by
 refine aY func178 rfl rfl ?_;unfold pE at hm;refine qS [] [(0,.int .u64 xa0)] []<|A.seq<|A.cF rfl rfl<|A.skip ?_
 obtain⟨az,h1,hm⟩:=aa hm;refine qS [(1,hro (u9 h1) asy)] [(2,i6 az)] [] ?_;cases hm;exact A.ret qE
variable {r:Unit}
theorem me(hm:fG=some r):RO prog 216 [] [.bF,i6 0,i6 0] (.tup []):=by
 refine aY func216 rfl rfl ?_;unfold fG at hm;refine qS [] [(0,.bF),(1,i6 0),(2,i6 0),(6,i6 1)] []<|A.block ?_
 obtain⟨F1,n1,hF1,hm⟩:=fP hm;refine A.lpW (F:=F1) hm (λ()=>[(0,.bF),(1,i6 0),(2,i6 0),(6,i6 1)]) (λ()=>[]) ?_ ?_
 ·exact qW
 rintro Z1 ⟨⟩ hm;rw[hF1]at hm;refine A.seq<|qDs [] [] [(12,.bool false)] ?_
 refine A.cF rfl rfl<|A.exit ?_
 obtain rfl:=some_inj hm;exact A.fin W0 [] rfl (by kernel_rfl)
theorem nP{limit:Int}(hm:gH limit=some r):RO prog 182 [] [.bF,i6 0,i6 0,i6 limit] (.tup []):=by
 refine aY func182 rfl rfl ?_;unfold gH at hm;refine qS [] [(0,.bF),(1,i6 0),(2,i6 0),(3,i6 limit),(8,.bool true)] []<|qDs [] [] [(9,.bool true)]<|A.block ?_
 obtain⟨F1,n1,hF1,hm⟩:=fP hm;refine A.lpW (F:=F1) hm (λ()=>[(0,.bF),(1,i6 0),(2,i6 0),(3,i6 limit),(8,.bool true),(9,.bool true)]) (λ()=>[]) ?_ ?_
 ·exact qW
 rintro Z1 ⟨⟩ hm;rw[hF1]at hm;refine A.block<|qDs [] [] [(10,i6 0)] ?_
 refine A.seq<|qDs [] [] [(23,.bool true)] ?_
 refine A.cT rfl rfl ?_;obtain⟨az,h1,hm⟩:=aa hm;refine qS [(3,ant 1 (me h1) asz)] [] [] ?_;cases hm;exact A.ret qE
theorem pV(hm:mB=some r):RO prog 145 [] [.bF] (.tup []):=by
 refine aY func145 rfl rfl ?_;unfold mB at hm;refine qS [] [(0,.bF),(2,i6 0)] [] ?_;obtain⟨az,h1,hm⟩:=aa hm;obtain⟨aH,h2,hm⟩:=aa hm;refine qR [(4,hro (wU h1) ass),(5,ant 1 (nP h2) asv)] [] [] ?_;obtain rfl:=some_inj hm;exact A.fin W0 [] rfl (by kernel_rfl)
end Go.Proofs.YtmnbolcmepihlaaGreat
