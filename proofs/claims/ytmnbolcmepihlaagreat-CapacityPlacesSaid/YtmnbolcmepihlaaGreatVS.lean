/- The walks of cE of the program. No condition but bf aM stand in each. -/
import Derived.Test.YtmnbolcmepihlaaGreatDA
namespace Go.Proofs.YtmnbolcmepihlaaGreat
open Go Go.Proofs.Tryz
set_option maxRecDepth 100000
set_option linter.all false
variable {xa0:Int}
theorem vr{r:Int}(hm:nV xa0=some r):RO prog 207 [] [.int .u64 xa0] (i6 r):=by
 refine aZ func207 rfl rfl ?_;unfold nV at hm;refine qS [] [(0,.int .u64 xa0),(2,i6 0)] [] ?_;obtain⟨J1,hJ1,hm⟩:=cO hm;refine A.J (J:=J1) (r:=r) (λ(aq,n_1)=>[(0,.int .u64 aq),(2,i6 n_1)]) (λ(aq,n_1)=>[]) ?_ ?_
 ·refine qDs [] [] [(4,.bool (decide (4294967296≤xa0)))] ?_;rcases aA hm with⟨c1,hm⟩|⟨c1,hm⟩
  ·exact qT c1<|qS [(1,.sh (32:Int) (by decide))] [(0,.int .u64 (Int.fdiv xa0 (2 ^ min (32:Int).toNat 64)))] []<|qGs [] [] [(2,i6 32)]<|qX (Int.fdiv xa0 (2 ^ min (32:Int).toNat 64),(32:Int)) hm
  exact qF c1<|A.skip<|qX (xa0,(0:Int)) hm
 rintro⟨aq,n_1⟩ hm;rw[hJ1]at hm;obtain⟨J2,hJ2,hm⟩:=cO hm;refine A.J (J:=J2) (r:=r) (λ(aF,n_2)=>[(0,.int .u64 aF),(2,i6 n_2)]) (λ(aF,n_2)=>[]) ?_ ?_
 ·refine qDs [] [] [(8,.bool (decide (65536≤aq)))] ?_;rcases aA hm with⟨c2,hm⟩|⟨c2,hm⟩
  ·exact qT c2<|qDs [(1,.sh (16:Int) (by decide))] [0,8] [(0,.int .u64 (Int.fdiv aq (2 ^ min (16:Int).toNat 64)))]<|qGs [] [2] [(2,i6 (w64 (n_1+16)))]<|qX (Int.fdiv aq (2 ^ min (16:Int).toNat 64),w64 (n_1+16)) hm
  exact qF c2<|A.skip<|qX (aq,n_1) hm
 rintro⟨aF,n_2⟩ hm;rw[hJ2]at hm;obtain⟨J3,hJ3,hm⟩:=cO hm;refine A.J (J:=J3) (r:=r) (λ(bx,n_3)=>[(0,.int .u64 bx),(2,i6 n_3)]) (λ(bx,n_3)=>[]) ?_ ?_
 ·refine qDs [] [] [(14,.bool (decide (256≤aF)))] ?_;rcases aA hm with⟨c3,hm⟩|⟨c3,hm⟩
  ·exact qT c3<|qDs [(1,.sh (8:Int) (by decide))] [0,14] [(0,.int .u64 (Int.fdiv aF (2 ^ min (8:Int).toNat 64)))]<|qGs [] [2] [(2,i6 (w64 (n_2+8)))]<|qX (Int.fdiv aF (2 ^ min (8:Int).toNat 64),w64 (n_2+8)) hm
  exact qF c3<|A.skip<|qX (aF,n_2) hm
 rintro⟨bx,n_3⟩ hm;rw[hJ3]at hm;obtain⟨b_1,h1,hm⟩:=aa hm;refine qS [(3,.is (⟨#[0,1,2,2,3,3,3,3,4,4,4,4,4,4,4,4,5,5,5,5,5,5,5,5,5,5,5,5,5,5,5,5,6,6,6,6,6,6,6,6,6,6,6,6,6,6,6,6,6,6,6,6,6,6,6,6,6,6,6,6,6,6,6,6,7,7,7,7,7,7,7,7,7,7,7,7,7,7,7,7,7,7,7,7,7,7,7,7,7,7,7,7,7,7,7,7,7,7,7,7,7,7,7,7,7,7,7,7,7,7,7,7,7,7,7,7,7,7,7,7,7,7,7,7,7,7,7,7,8,8,8,8,8,8,8,8,8,8,8,8,8,8,8,8,8,8,8,8,8,8,8,8,8,8,8,8,8,8,8,8,8,8,8,8,8,8,8,8,8,8,8,8,8,8,8,8,8,8,8,8,8,8,8,8,8,8,8,8,8,8,8,8,8,8,8,8,8,8,8,8,8,8,8,8,8,8,8,8,8,8,8,8,8,8,8,8,8,8,8,8,8,8,8,8,8,8,8,8,8,8,8,8,8,8,8,8,8,8,8,8,8,8,8,8,8,8,8,8,8,8,8,8,8,8,8,8]⟩:ByteArray) (IntKind.wrap .u8 bx) b_1 (ahF h1))] [(2,i6 (w64 (n_3+(w64 (b_1.toNat:Int)))))] [] ?_;cases hm;exact A.ret qE
theorem wZ{r:Int}(hm:pP xa0=some r):RO prog 178 [] [.int .u64 xa0] (i6 r):=by
 refine aZ func178 rfl rfl ?_;unfold pP at hm;refine qS [] [(0,.int .u64 xa0)] []<|A.seq<|A.cF rfl rfl<|A.skip ?_
 obtain⟨aq,h1,hm⟩:=aa hm;refine qS [(1,hro (vr h1) asw)] [(2,i6 aq)] [] ?_;cases hm;exact A.ret qE
variable {r:Unit}
theorem mm(hm:fR=some r):RO prog 216 [] [.bI,i6 0,i6 0] (.tup []):=by
 refine aZ func216 rfl rfl ?_;unfold fR at hm;refine qS [] [(0,.bI),(1,i6 0),(2,i6 0),(6,i6 1)] []<|A.block ?_
 obtain⟨F1,n1,hF1,hm⟩:=fW hm;refine A.lpW (F:=F1) hm (λ()=>[(0,.bI),(1,i6 0),(2,i6 0),(6,i6 1)]) (λ()=>[]) ?_ ?_
 ·exact qW
 rintro Z1 ⟨⟩ hm;rw[hF1]at hm;refine A.seq<|qDs [] [] [(12,.bool false)] ?_
 refine A.cF rfl rfl<|A.exit ?_
 obtain rfl:=some_inj hm;exact A.fin W0 [] rfl (by kernel_rfl)
theorem nW{limit:Int}(hm:gM limit=some r):RO prog 182 [] [.bI,i6 0,i6 0,i6 limit] (.tup []):=by
 refine aZ func182 rfl rfl ?_;unfold gM at hm;refine qS [] [(0,.bI),(1,i6 0),(2,i6 0),(3,i6 limit),(8,.bool true)] []<|qDs [] [] [(9,.bool true)]<|A.block ?_
 obtain⟨F1,n1,hF1,hm⟩:=fW hm;refine A.lpW (F:=F1) hm (λ()=>[(0,.bI),(1,i6 0),(2,i6 0),(3,i6 limit),(8,.bool true),(9,.bool true)]) (λ()=>[]) ?_ ?_
 ·exact qW
 rintro Z1 ⟨⟩ hm;rw[hF1]at hm;refine A.block<|qDs [] [] [(10,i6 0)] ?_
 refine A.seq<|qDs [] [] [(23,.bool true)] ?_
 refine A.cT rfl rfl ?_;obtain⟨aq,h1,hm⟩:=aa hm;refine qS [(3,anx 1 (mm h1) asx)] [] [] ?_;cases hm;exact A.ret qE
theorem qb(hm:mH=some r):RO prog 145 [] [.bI] (.tup []):=by
 refine aZ func145 rfl rfl ?_;unfold mH at hm;refine qS [] [(0,.bI),(2,i6 0)] [] ?_;obtain⟨aq,h1,hm⟩:=aa hm;obtain⟨aF,h2,hm⟩:=aa hm;refine qR [(4,hro (wZ h1) asq),(5,anx 1 (nW h2) ast)] [] [] ?_;obtain rfl:=some_inj hm;exact A.fin W0 [] rfl (by kernel_rfl)
end Go.Proofs.YtmnbolcmepihlaaGreat
