/- The eN of cu of the program. No condition but bH bq stand in each. -/
import Derived.Test.YtjdopimopgpagaaGreatDA
namespace Go.Proofs.YtjdopimopgpagaaGreat
open Go Go.Proofs.Tryz
set_option maxRecDepth 100000
set_option linter.all false
variable {xa0:Int}
theorem yd{r:Int}(hm:qL xa0=some r):RO prog 189 [] [.int .u64 xa0] (i6 r):=by
 refine aZ func189 rfl rfl ?_
 unfold qL at hm
 refine qS [] [(0,.int .u64 xa0),(2,i6 0)] [] ?_
 obtain⟨J1,hJ1,hm⟩:=bQ hm
 refine A.J (J:=J1) (r:=r) (λ(ah,n_1)=>[(0,.int .u64 ah),(2,i6 n_1)]) (λ(ah,n_1)=>[]) ?_ ?_
 ·refine qDs [] [] [(4,.bool (decide (4294967296≤xa0)))] ?_
  rcases az hm with⟨c1,hm⟩|⟨c1,hm⟩
  ·exact qT c1<|qS [(1,.sh (32:Int) (by decide))] [(0,.int .u64 (Int.fdiv xa0 (2 ^ min (32:Int).toNat 64)))] []<|qGs [] [] [(2,i6 32)]<|qX (Int.fdiv xa0 (2 ^ min (32:Int).toNat 64),(32:Int)) hm
  exact qF c1<|A.skip<|qX (xa0,(0:Int)) hm
 rintro⟨ah,n_1⟩ hm
 rw[hJ1]at hm
 obtain⟨J2,hJ2,hm⟩:=bQ hm
 refine A.J (J:=J2) (r:=r) (λ(aD,n_2)=>[(0,.int .u64 aD),(2,i6 n_2)]) (λ(aD,n_2)=>[]) ?_ ?_
 ·refine qDs [] [] [(8,.bool (decide (65536≤ah)))] ?_
  rcases az hm with⟨c2,hm⟩|⟨c2,hm⟩
  ·exact qT c2<|qDs [(1,.sh (16:Int) (by decide))] [0,8] [(0,.int .u64 (Int.fdiv ah (2 ^ min (16:Int).toNat 64)))]<|qGs [] [2] [(2,i6 (w64 (n_1+16)))]<|qX (Int.fdiv ah (2 ^ min (16:Int).toNat 64),w64 (n_1+16)) hm
  exact qF c2<|A.skip<|qX (ah,n_1) hm
 rintro⟨aD,n_2⟩ hm
 rw[hJ2]at hm
 obtain⟨J3,hJ3,hm⟩:=bQ hm
 refine A.J (J:=J3) (r:=r) (λ(aP,n_3)=>[(0,.int .u64 aP),(2,i6 n_3)]) (λ(aP,n_3)=>[]) ?_ ?_
 ·refine qDs [] [] [(14,.bool (decide (256≤aD)))] ?_
  rcases az hm with⟨c3,hm⟩|⟨c3,hm⟩
  ·exact qT c3<|qDs [(1,.sh (8:Int) (by decide))] [0,14] [(0,.int .u64 (Int.fdiv aD (2 ^ min (8:Int).toNat 64)))]<|qGs [] [2] [(2,i6 (w64 (n_2+8)))]<|qX (Int.fdiv aD (2 ^ min (8:Int).toNat 64),w64 (n_2+8)) hm
  exact qF c3<|A.skip<|qX (aD,n_2) hm
 rintro⟨aP,n_3⟩ hm
 rw[hJ3]at hm
 obtain⟨b_1,h1,hm⟩:=aa hm
 refine qS [(3,.is (⟨#[0,1,2,2,3,3,3,3,4,4,4,4,4,4,4,4,5,5,5,5,5,5,5,5,5,5,5,5,5,5,5,5,6,6,6,6,6,6,6,6,6,6,6,6,6,6,6,6,6,6,6,6,6,6,6,6,6,6,6,6,6,6,6,6,7,7,7,7,7,7,7,7,7,7,7,7,7,7,7,7,7,7,7,7,7,7,7,7,7,7,7,7,7,7,7,7,7,7,7,7,7,7,7,7,7,7,7,7,7,7,7,7,7,7,7,7,7,7,7,7,7,7,7,7,7,7,7,7,8,8,8,8,8,8,8,8,8,8,8,8,8,8,8,8,8,8,8,8,8,8,8,8,8,8,8,8,8,8,8,8,8,8,8,8,8,8,8,8,8,8,8,8,8,8,8,8,8,8,8,8,8,8,8,8,8,8,8,8,8,8,8,8,8,8,8,8,8,8,8,8,8,8,8,8,8,8,8,8,8,8,8,8,8,8,8,8,8,8,8,8,8,8,8,8,8,8,8,8,8,8,8,8,8,8,8,8,8,8,8,8,8,8,8,8,8,8,8,8,8,8,8,8,8,8,8,8]⟩:ByteArray) (IntKind.wrap .u8 aP) b_1 (aiU h1))] [(2,i6 (w64 (n_3+(w64 (b_1.toNat:Int)))))] [] ?_
 cases hm
 exact A.ret qE
theorem zk{r:Int}(hm:sQ xa0=some r):RO prog 173 [] [.int .u64 xa0] (i6 r):=by
 refine aZ func173 rfl rfl ?_
 unfold sQ at hm
 refine qS [] [(0,.int .u64 xa0)] []<|A.seq<|A.cF rfl rfl<|A.skip ?_
 obtain⟨ah,h1,hm⟩:=aa hm
 refine qS [(1,hro (yd h1) atk)] [(2,i6 ah)] [] ?_
 cases hm
 exact A.ret qE
variable {r:Unit}
theorem oF(hm:gG=some r):RO prog 179 [] [.aH,i6 0,i6 0] (.tup []):=by
 refine aZ func179 rfl rfl ?_
 unfold gG at hm
 refine qS [] [(0,.aH),(1,i6 0),(2,i6 0),(6,i6 1)] []<|A.block ?_
 obtain⟨F1,n1,hF1,hm⟩:=ji hm
 refine A.lpW (F:=F1) hm (λ()=>[(0,.aH),(1,i6 0),(2,i6 0),(6,i6 1)]) (λ()=>[]) ?_ ?_
 ·exact qW
 rintro Z1 ⟨⟩ hm
 rw[hF1]at hm
 refine A.seq<|qDs [] [] [(12,.bool false)] ?_
 refine A.cF rfl rfl<|A.exit ?_
 obtain rfl:=some_inj hm
 exact A.fin W0 [] rfl (by kernel_rfl)
theorem qM{limit:Int}(hm:jc limit=some r):RO prog 172 [] [.aH,i6 0,i6 0,i6 limit] (.tup []):=by
 refine aZ func172 rfl rfl ?_
 unfold jc at hm
 refine qS [] [(0,.aH),(1,i6 0),(2,i6 0),(3,i6 limit),(8,.bool true)] []<|qDs [] [] [(9,.bool true)]<|A.block ?_
 obtain⟨F1,n1,hF1,hm⟩:=ji hm
 refine A.lpW (F:=F1) hm (λ()=>[(0,.aH),(1,i6 0),(2,i6 0),(3,i6 limit),(8,.bool true),(9,.bool true)]) (λ()=>[]) ?_ ?_
 ·exact qW
 rintro Z1 ⟨⟩ hm
 rw[hF1]at hm
 refine A.block<|qDs [] [] [(10,i6 0)] ?_
 refine A.seq<|qDs [] [] [(23,.bool true)] ?_
 refine A.cT rfl rfl ?_
 obtain⟨ah,h1,hm⟩:=aa hm
 refine qS [(3,aej 1 (oF h1) atj)] [] [] ?_
 cases hm
 exact A.ret qE
theorem tg(hm:oU=some r):RO prog 162 [] [.aH] (.tup []):=by
 refine aZ func162 rfl rfl ?_
 unfold oU at hm
 refine qS [] [(0,.aH),(2,i6 0)] [] ?_
 obtain⟨ah,h1,hm⟩:=aa hm
 obtain⟨aD,h2,hm⟩:=aa hm
 refine qR [(4,hro (zk h1) ate),(5,aej 1 (qM h2) atd)] [] [] ?_
 obtain rfl:=some_inj hm
 exact A.fin W0 [] rfl (by kernel_rfl)
end Go.Proofs.YtjdopimopgpagaaGreat
