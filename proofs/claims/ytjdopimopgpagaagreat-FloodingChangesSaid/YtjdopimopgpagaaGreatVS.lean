/- The ew of cA of the program. No condition but bM bw stand in each. -/
import Derived.Test.YtjdopimopgpagaaGreatDA
namespace Go.Proofs.YtjdopimopgpagaaGreat
open Go Go.Proofs.Tryz
set_option maxRecDepth 100000
set_option linter.all false
variable {xa0:Int}
theorem xN{r:Int}(hm:qo xa0=some r):RO prog 189 [] [.int .u64 xa0] (i6 r):=by
 refine aZ func189 rfl rfl ?_
 unfold qo at hm
 refine qS [] [(0,.int .u64 xa0),(2,i6 0)] [] ?_
 obtain⟨J1,hJ1,hm⟩:=bI hm
 refine A.J (J:=J1) (r:=r) (λ(af,n_1)=>[(0,.int .u64 af),(2,i6 n_1)]) (λ(af,n_1)=>[]) ?_ ?_
 ·refine qDs [] [] [(4,.bool (decide (4294967296≤xa0)))] ?_
  rcases aq hm with⟨c1,hm⟩|⟨c1,hm⟩
  ·exact qT c1<|qS [(1,.sh (32:Int) (by decide))] [(0,.int .u64 (Int.fdiv xa0 (2 ^ min (32:Int).toNat 64)))] []<|qGs [] [] [(2,i6 32)]<|qX (Int.fdiv xa0 (2 ^ min (32:Int).toNat 64),(32:Int)) hm
  exact qF c1<|A.skip<|qX (xa0,(0:Int)) hm
 rintro⟨af,n_1⟩ hm
 rw[hJ1]at hm
 obtain⟨J2,hJ2,hm⟩:=bI hm
 refine A.J (J:=J2) (r:=r) (λ(aD,n_2)=>[(0,.int .u64 aD),(2,i6 n_2)]) (λ(aD,n_2)=>[]) ?_ ?_
 ·refine qDs [] [] [(8,.bool (decide (65536≤af)))] ?_
  rcases aq hm with⟨c2,hm⟩|⟨c2,hm⟩
  ·exact qT c2<|qDs [(1,.sh (16:Int) (by decide))] [0,8] [(0,.int .u64 (Int.fdiv af (2 ^ min (16:Int).toNat 64)))]<|qGs [] [2] [(2,i6 (w64 (n_1+16)))]<|qX (Int.fdiv af (2 ^ min (16:Int).toNat 64),w64 (n_1+16)) hm
  exact qF c2<|A.skip<|qX (af,n_1) hm
 rintro⟨aD,n_2⟩ hm
 rw[hJ2]at hm
 obtain⟨J3,hJ3,hm⟩:=bI hm
 refine A.J (J:=J3) (r:=r) (λ(aP,n_3)=>[(0,.int .u64 aP),(2,i6 n_3)]) (λ(aP,n_3)=>[]) ?_ ?_
 ·refine qDs [] [] [(14,.bool (decide (256≤aD)))] ?_
  rcases aq hm with⟨c3,hm⟩|⟨c3,hm⟩
  ·exact qT c3<|qDs [(1,.sh (8:Int) (by decide))] [0,14] [(0,.int .u64 (Int.fdiv aD (2 ^ min (8:Int).toNat 64)))]<|qGs [] [2] [(2,i6 (w64 (n_2+8)))]<|qX (Int.fdiv aD (2 ^ min (8:Int).toNat 64),w64 (n_2+8)) hm
  exact qF c3<|A.skip<|qX (aD,n_2) hm
 rintro⟨aP,n_3⟩ hm
 rw[hJ3]at hm
 obtain⟨b_1,h1,hm⟩:=aa hm
 refine qS [(3,.is (⟨#[0,1,2,2,3,3,3,3,4,4,4,4,4,4,4,4,5,5,5,5,5,5,5,5,5,5,5,5,5,5,5,5,6,6,6,6,6,6,6,6,6,6,6,6,6,6,6,6,6,6,6,6,6,6,6,6,6,6,6,6,6,6,6,6,7,7,7,7,7,7,7,7,7,7,7,7,7,7,7,7,7,7,7,7,7,7,7,7,7,7,7,7,7,7,7,7,7,7,7,7,7,7,7,7,7,7,7,7,7,7,7,7,7,7,7,7,7,7,7,7,7,7,7,7,7,7,7,7,8,8,8,8,8,8,8,8,8,8,8,8,8,8,8,8,8,8,8,8,8,8,8,8,8,8,8,8,8,8,8,8,8,8,8,8,8,8,8,8,8,8,8,8,8,8,8,8,8,8,8,8,8,8,8,8,8,8,8,8,8,8,8,8,8,8,8,8,8,8,8,8,8,8,8,8,8,8,8,8,8,8,8,8,8,8,8,8,8,8,8,8,8,8,8,8,8,8,8,8,8,8,8,8,8,8,8,8,8,8,8,8,8,8,8,8,8,8,8,8,8,8,8,8,8,8,8,8]⟩:ByteArray) (IntKind.wrap .u8 aP) b_1 (ain h1))] [(2,i6 (w64 (n_3+(w64 (b_1.toNat:Int)))))] [] ?_
 cases hm
 exact A.ret qE
theorem yZ{r:Int}(hm:sy xa0=some r):RO prog 173 [] [.int .u64 xa0] (i6 r):=by
 refine aZ func173 rfl rfl ?_
 unfold sy at hm
 refine qS [] [(0,.int .u64 xa0)] []<|A.seq<|A.cF rfl rfl<|A.skip ?_
 obtain⟨af,h1,hm⟩:=aa hm
 refine qS [(1,hro (xN h1) as2)] [(2,i6 af)] [] ?_
 cases hm
 exact A.ret qE
variable {r:Unit}
theorem oc(hm:gn=some r):RO prog 179 [] [.aI,i6 0,i6 0] (.tup []):=by
 refine aZ func179 rfl rfl ?_
 unfold gn at hm
 refine qS [] [(0,.aI),(1,i6 0),(2,i6 0),(6,i6 1)] []<|A.block ?_
 obtain⟨F1,n1,hF1,hm⟩:=gw hm
 refine A.lpW (F:=F1) hm (λ()=>[(0,.aI),(1,i6 0),(2,i6 0),(6,i6 1)]) (λ()=>[]) ?_ ?_
 ·exact qW
 rintro Z1 ⟨⟩ hm
 rw[hF1]at hm
 refine A.seq<|qDs [] [] [(12,.bool false)] ?_
 refine A.cF rfl rfl<|A.exit ?_
 obtain rfl:=some_inj hm
 exact A.fin W0 [] rfl (by kernel_rfl)
theorem qp{limit:Int}(hm:iQ limit=some r):RO prog 172 [] [.aI,i6 0,i6 0,i6 limit] (.tup []):=by
 refine aZ func172 rfl rfl ?_
 unfold iQ at hm
 refine qS [] [(0,.aI),(1,i6 0),(2,i6 0),(3,i6 limit),(8,.bool true)] []<|qDs [] [] [(9,.bool true)]<|A.block ?_
 obtain⟨F1,n1,hF1,hm⟩:=gw hm
 refine A.lpW (F:=F1) hm (λ()=>[(0,.aI),(1,i6 0),(2,i6 0),(3,i6 limit),(8,.bool true),(9,.bool true)]) (λ()=>[]) ?_ ?_
 ·exact qW
 rintro Z1 ⟨⟩ hm
 rw[hF1]at hm
 refine A.block<|qDs [] [] [(10,i6 0)] ?_
 refine A.seq<|qDs [] [] [(23,.bool true)] ?_
 refine A.cT rfl rfl ?_
 obtain⟨af,h1,hm⟩:=aa hm
 refine qS [(3,aiv 1 (oc h1) as1)] [] [] ?_
 cases hm
 exact A.ret qE
theorem sP(hm:oE=some r):RO prog 162 [] [.aI] (.tup []):=by
 refine aZ func162 rfl rfl ?_
 unfold oE at hm
 refine qS [] [(0,.aI),(2,i6 0)] [] ?_
 obtain⟨af,h1,hm⟩:=aa hm
 obtain⟨aD,h2,hm⟩:=aa hm
 refine qR [(4,hro (yZ h1) asW),(5,aiv 1 (qp h2) asV)] [] [] ?_
 obtain rfl:=some_inj hm
 exact A.fin W0 [] rfl (by kernel_rfl)
end Go.Proofs.YtjdopimopgpagaaGreat
