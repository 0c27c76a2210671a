/- The iJ of ee of the program. No condition but bJ aY stand in each. -/
import Derived.Test.YtdjeacigeegklaaGreatDA
namespace Go.Proofs.YtdjeacigeegklaaGreat
open Go Go.Proofs.Tryz
set_option maxRecDepth 100000
set_option linter.all false
variable {xa0:Int}
theorem yM{r:Int}(hm:qB xa0=some r):RO prog 177 [] [.int .u64 xa0] (i6 r):=by
 refine bh func177 rfl rfl ?_
 unfold qB at hm
 refine qS [] [(0,.int .u64 xa0),(2,i6 0)] [] ?_
 obtain⟨J1,hJ1,hm⟩:=cw hm
 refine A.J (J:=J1) (r:=r) (λ(ai,n_1)=>[(0,.int .u64 ai),(2,i6 n_1)]) (λ(ai,n_1)=>[]) ?_ ?_
 ·refine qDs [] [] [(4,.bool (decide (4294967296≤xa0)))] ?_
  rcases ak hm with⟨c1,hm⟩|⟨c1,hm⟩
  ·exact qT c1<|qS [(1,.sh (32:Int) (by decide))] [(0,.int .u64 (Int.fdiv xa0 (2 ^ min (32:Int).toNat 64)))] []<|qGs [] [] [(2,i6 32)]<|qX (Int.fdiv xa0 (2 ^ min (32:Int).toNat 64),(32:Int)) hm
  exact qF c1<|A.skip<|qX (xa0,(0:Int)) hm
 rintro⟨ai,n_1⟩ hm
 rw[hJ1]at hm
 obtain⟨J2,hJ2,hm⟩:=cw hm
 refine A.J (J:=J2) (r:=r) (λ(aI,n_2)=>[(0,.int .u64 aI),(2,i6 n_2)]) (λ(aI,n_2)=>[]) ?_ ?_
 ·refine qDs [] [] [(8,.bool (decide (65536≤ai)))] ?_
  rcases ak hm with⟨c2,hm⟩|⟨c2,hm⟩
  ·exact qT c2<|qDs [(1,.sh (16:Int) (by decide))] [0,8] [(0,.int .u64 (Int.fdiv ai (2 ^ min (16:Int).toNat 64)))]<|qGs [] [2] [(2,i6 (w64 (n_1+16)))]<|qX (Int.fdiv ai (2 ^ min (16:Int).toNat 64),w64 (n_1+16)) hm
  exact qF c2<|A.skip<|qX (ai,n_1) hm
 rintro⟨aI,n_2⟩ hm
 rw[hJ2]at hm
 obtain⟨J3,hJ3,hm⟩:=cw hm
 refine A.J (J:=J3) (r:=r) (λ(bf,n_3)=>[(0,.int .u64 bf),(2,i6 n_3)]) (λ(bf,n_3)=>[]) ?_ ?_
 ·refine qDs [] [] [(14,.bool (decide (256≤aI)))] ?_
  rcases ak hm with⟨c3,hm⟩|⟨c3,hm⟩
  ·exact qT c3<|qDs [(1,.sh (8:Int) (by decide))] [0,14] [(0,.int .u64 (Int.fdiv aI (2 ^ min (8:Int).toNat 64)))]<|qGs [] [2] [(2,i6 (w64 (n_2+8)))]<|qX (Int.fdiv aI (2 ^ min (8:Int).toNat 64),w64 (n_2+8)) hm
  exact qF c3<|A.skip<|qX (aI,n_2) hm
 rintro⟨bf,n_3⟩ hm
 rw[hJ3]at hm
 obtain⟨b_1,h1,hm⟩:=af hm
 refine qS [(3,.is (⟨#[0,1,2,2,3,3,3,3,4,4,4,4,4,4,4,4,5,5,5,5,5,5,5,5,5,5,5,5,5,5,5,5,6,6,6,6,6,6,6,6,6,6,6,6,6,6,6,6,6,6,6,6,6,6,6,6,6,6,6,6,6,6,6,6,7,7,7,7,7,7,7,7,7,7,7,7,7,7,7,7,7,7,7,7,7,7,7,7,7,7,7,7,7,7,7,7,7,7,7,7,7,7,7,7,7,7,7,7,7,7,7,7,7,7,7,7,7,7,7,7,7,7,7,7,7,7,7,7,8,8,8,8,8,8,8,8,8,8,8,8,8,8,8,8,8,8,8,8,8,8,8,8,8,8,8,8,8,8,8,8,8,8,8,8,8,8,8,8,8,8,8,8,8,8,8,8,8,8,8,8,8,8,8,8,8,8,8,8,8,8,8,8,8,8,8,8,8,8,8,8,8,8,8,8,8,8,8,8,8,8,8,8,8,8,8,8,8,8,8,8,8,8,8,8,8,8,8,8,8,8,8,8,8,8,8,8,8,8,8,8,8,8,8,8,8,8,8,8,8,8,8,8,8,8,8,8]⟩:ByteArray) (IntKind.wrap .u8 bf) b_1 (alm h1))] [(2,i6 (w64 (n_3+(w64 (b_1.toNat:Int)))))] [] ?_
 cases hm
 exact A.ret qE
theorem aai{r:Int}(hm:sV xa0=some r):RO prog 164 [] [.int .u64 xa0] (i6 r):=by
 refine bh func164 rfl rfl ?_
 unfold sV at hm
 refine qS [] [(0,.int .u64 xa0)] []<|A.seq<|A.cF rfl rfl<|A.skip ?_
 obtain⟨ai,h1,hm⟩:=af hm
 refine qS [(1,hro (yM h1) axT)] [(2,i6 ai)] [] ?_
 cases hm
 exact A.ret qE
variable {r:Unit}
theorem oN(hm:gT=some r):RO prog 168 [] [.aQ,i6 0,i6 0] (.tup []):=by
 refine bh func168 rfl rfl ?_
 unfold gT at hm
 refine qS [] [(0,.aQ),(1,i6 0),(2,i6 0),(6,i6 1)] []<|A.block ?_
 obtain⟨F1,n1,hF1,hm⟩:=jA hm
 refine A.lpW (F:=F1) hm (λ()=>[(0,.aQ),(1,i6 0),(2,i6 0),(6,i6 1)]) (λ()=>[]) ?_ ?_
 ·exact qW
 rintro Z1 ⟨⟩ hm
 rw[hF1]at hm
 refine A.seq<|qDs [] [] [(12,.bool false)] ?_
 refine A.cF rfl rfl<|A.exit ?_
 obtain rfl:=some_inj hm
 exact A.fin W0 [] rfl (by kernel_rfl)
theorem qC{limit:Int}(hm:jj limit=some r):RO prog 163 [] [.aQ,i6 0,i6 0,i6 limit] (.tup []):=by
 refine bh func163 rfl rfl ?_
 unfold jj at hm
 refine qS [] [(0,.aQ),(1,i6 0),(2,i6 0),(3,i6 limit),(8,.bool true)] []<|qDs [] [] [(9,.bool true)]<|A.block ?_
 obtain⟨F1,n1,hF1,hm⟩:=jA hm
 refine A.lpW (F:=F1) hm (λ()=>[(0,.aQ),(1,i6 0),(2,i6 0),(3,i6 limit),(8,.bool true),(9,.bool true)]) (λ()=>[]) ?_ ?_
 ·exact qW
 rintro Z1 ⟨⟩ hm
 rw[hF1]at hm
 refine A.block<|qDs [] [] [(10,i6 0)] ?_
 refine A.seq<|qDs [] [] [(23,.bool true)] ?_
 refine A.cT rfl rfl ?_
 obtain⟨ai,h1,hm⟩:=af hm
 refine qS [(3,asL 1 (oN h1) axS)] [] [] ?_
 cases hm
 exact A.ret qE
theorem tq(hm:o3=some r):RO prog 146 [] [.aQ] (.tup []):=by
 refine bh func146 rfl rfl ?_
 unfold o3 at hm
 refine qS [] [(0,.aQ),(2,i6 0)] [] ?_
 obtain⟨ai,h1,hm⟩:=af hm
 obtain⟨aI,h2,hm⟩:=af hm
 refine qR [(4,hro (aai h1) axR),(5,asL 1 (qC h2) axQ)] [] [] ?_
 obtain rfl:=some_inj hm
 exact A.fin W0 [] rfl (by kernel_rfl)
end Go.Proofs.YtdjeacigeegklaaGreat
