/- The walks of cv of the program. No condition but aT aH stand in each. -/
import Derived.Test.YtmnbolcmepihlaaGreatDA
namespace Go.Proofs.YtmnbolcmepihlaaGreat
open Go Go.Proofs.Tryz
set_option maxRecDepth 100000
set_option linter.all false
variable {xa0:Int}
theorem sE{r:Int}(hm:lJ xa0=some r):RO prog 207 [] [.int .u64 xa0] (i6 r):=by
 refine bg func207 rfl rfl ?_
 unfold lJ at hm
 refine qS [] [(0,.int .u64 xa0),(2,i6 0)] [] ?_
 obtain⟨J1,hJ1,hm⟩:=eC hm
 refine A.J (J:=J1) (r:=r) (λ(ay,n_1)=>[(0,.int .u64 ay),(2,i6 n_1)]) (λ(ay,n_1)=>[]) ?_ ?_
 ·refine qDs [] [] [(4,.bool (decide (4294967296≤xa0)))] ?_
  rcases aG hm with⟨c1,hm⟩|⟨c1,hm⟩
  ·exact qT c1<|qS [(1,.sh (32:Int) (by decide))] [(0,.int .u64 (Int.fdiv xa0 (2 ^ min (32:Int).toNat 64)))] []<|qGs [] [] [(2,i6 32)]<|qX (Int.fdiv xa0 (2 ^ min (32:Int).toNat 64),(32:Int)) hm
  exact qF c1<|A.skip<|qX (xa0,(0:Int)) hm
 rintro⟨ay,n_1⟩ hm
 rw[hJ1]at hm
 obtain⟨J2,hJ2,hm⟩:=eC hm
 refine A.J (J:=J2) (r:=r) (λ(aI,n_2)=>[(0,.int .u64 aI),(2,i6 n_2)]) (λ(aI,n_2)=>[]) ?_ ?_
 ·refine qDs [] [] [(8,.bool (decide (65536≤ay)))] ?_
  rcases aG hm with⟨c2,hm⟩|⟨c2,hm⟩
  ·exact qT c2<|qDs [(1,.sh (16:Int) (by decide))] [0,8] [(0,.int .u64 (Int.fdiv ay (2 ^ min (16:Int).toNat 64)))]<|qGs [] [2] [(2,i6 (w64 (n_1+16)))]<|qX (Int.fdiv ay (2 ^ min (16:Int).toNat 64),w64 (n_1+16)) hm
  exact qF c2<|A.skip<|qX (ay,n_1) hm
 rintro⟨aI,n_2⟩ hm
 rw[hJ2]at hm
 obtain⟨J3,hJ3,hm⟩:=eC hm
 refine A.J (J:=J3) (r:=r) (λ(bk,n_3)=>[(0,.int .u64 bk),(2,i6 n_3)]) (λ(bk,n_3)=>[]) ?_ ?_
 ·refine qDs [] [] [(14,.bool (decide (256≤aI)))] ?_
  rcases aG hm with⟨c3,hm⟩|⟨c3,hm⟩
  ·exact qT c3<|qDs [(1,.sh (8:Int) (by decide))] [0,14] [(0,.int .u64 (Int.fdiv aI (2 ^ min (8:Int).toNat 64)))]<|qGs [] [2] [(2,i6 (w64 (n_2+8)))]<|qX (Int.fdiv aI (2 ^ min (8:Int).toNat 64),w64 (n_2+8)) hm
  exact qF c3<|A.skip<|qX (aI,n_2) hm
 rintro⟨bk,n_3⟩ hm
 rw[hJ3]at hm
 obtain⟨b_1,h1,hm⟩:=ah hm
 refine qS [(3,.is (⟨#[0,1,2,2,3,3,3,3,4,4,4,4,4,4,4,4,5,5,5,5,5,5,5,5,5,5,5,5,5,5,5,5,6,6,6,6,6,6,6,6,6,6,6,6,6,6,6,6,6,6,6,6,6,6,6,6,6,6,6,6,6,6,6,6,7,7,7,7,7,7,7,7,7,7,7,7,7,7,7,7,7,7,7,7,7,7,7,7,7,7,7,7,7,7,7,7,7,7,7,7,7,7,7,7,7,7,7,7,7,7,7,7,7,7,7,7,7,7,7,7,7,7,7,7,7,7,7,7,8,8,8,8,8,8,8,8,8,8,8,8,8,8,8,8,8,8,8,8,8,8,8,8,8,8,8,8,8,8,8,8,8,8,8,8,8,8,8,8,8,8,8,8,8,8,8,8,8,8,8,8,8,8,8,8,8,8,8,8,8,8,8,8,8,8,8,8,8,8,8,8,8,8,8,8,8,8,8,8,8,8,8,8,8,8,8,8,8,8,8,8,8,8,8,8,8,8,8,8,8,8,8,8,8,8,8,8,8,8,8,8,8,8,8,8,8,8,8,8,8,8,8,8,8,8,8,8]⟩:ByteArray) (IntKind.wrap .u8 bk) b_1 (aes h1))] [(2,i6 (w64 (n_3+(w64 (b_1.toNat:Int)))))] [] ?_
 cases hm
 exact A.ret qE
theorem ua{r:Int}(hm:mY xa0=some r):RO prog 178 [] [.int .u64 xa0] (i6 r):=by
 refine bg func178 rfl rfl ?_
 unfold mY at hm
 refine qS [] [(0,.int .u64 xa0)] []<|A.seq<|A.cF rfl rfl<|A.skip ?_
 obtain⟨ay,h1,hm⟩:=ah hm
 refine qS [(1,hro (sE h1) aov)] [(2,i6 ay)] [] ?_
 cases hm
 exact A.ret qE
variable {r:Unit}
theorem jY(hm:eW=some r):RO prog 216 [] [.bw,i6 0,i6 0] (.tup []):=by
 refine bg func216 rfl rfl ?_
 unfold eW at hm
 refine qS [] [(0,.bw),(1,i6 0),(2,i6 0),(6,i6 1)] []<|A.block ?_
 obtain⟨F1,n1,hF1,hm⟩:=gW hm
 refine A.lpW (F:=F1) hm (λ()=>[(0,.bw),(1,i6 0),(2,i6 0),(6,i6 1)]) (λ()=>[]) ?_ ?_
 ·exact qW
 rintro Z1 ⟨⟩ hm
 rw[hF1]at hm
 refine A.seq<|qDs [] [] [(12,.bool false)] ?_
 refine A.cF rfl rfl<|A.exit ?_
 obtain rfl:=some_inj hm
 exact A.fin W0 [] rfl (by kernel_rfl)
theorem lK{limit:Int}(hm:fS limit=some r):RO prog 182 [] [.bw,i6 0,i6 0,i6 limit] (.tup []):=by
 refine bg func182 rfl rfl ?_
 unfold fS at hm
 refine qS [] [(0,.bw),(1,i6 0),(2,i6 0),(3,i6 limit),(8,.bool true)] []<|qDs [] [] [(9,.bool true)]<|A.block ?_
 obtain⟨F1,n1,hF1,hm⟩:=gW hm
 refine A.lpW (F:=F1) hm (λ()=>[(0,.bw),(1,i6 0),(2,i6 0),(3,i6 limit),(8,.bool true),(9,.bool true)]) (λ()=>[]) ?_ ?_
 ·exact qW
 rintro Z1 ⟨⟩ hm
 rw[hF1]at hm
 refine A.block<|qDs [] [] [(10,i6 0)] ?_
 refine A.seq<|qDs [] [] [(23,.bool true)] ?_
 refine A.cT rfl rfl ?_
 obtain⟨ay,h1,hm⟩:=ah hm
 refine qS [(3,ajY 1 (jY h1) aow)] [] [] ?_
 cases hm
 exact A.ret qE
theorem nu(hm:ko=some r):RO prog 145 [] [.bw] (.tup []):=by
 refine bg func145 rfl rfl ?_
 unfold ko at hm
 refine qS [] [(0,.bw),(2,i6 0)] [] ?_
 obtain⟨ay,h1,hm⟩:=ah hm
 obtain⟨aI,h2,hm⟩:=ah hm
 refine qR [(4,hro (ua h1) aop),(5,ajY 1 (lK h2) aos)] [] [] ?_
 obtain rfl:=some_inj hm
 exact A.fin W0 [] rfl (by kernel_rfl)
end Go.Proofs.YtmnbolcmepihlaaGreat
