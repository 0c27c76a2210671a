/- The gq of dx of the program. No condition but br aM stand in each. -/
import Derived.Test.YtdjeacigeegklaaGreatV4
import Derived.Test.YtdjeacigeegklaaGreatSO
namespace Go.Proofs.YtdjeacigeegklaaGreat
open Go Go.Proofs.Tryz
set_option maxRecDepth 100000
set_option linter.all false
variable {r:Bool}{xa0:Int}
theorem lT(hm:jb xa0=some r):RO prog 148 [] [i6 xa0] (.bool r):=by
 refine bu func148 rfl rfl ?_
 unfold jb at hm
 refine qS [] [(0,i6 xa0)] []<|qS [] [(2,.bool (!decide (xa0=xa0)))] [] ?_
 cases hm
 exact A.ret qE
theorem xh{y:Int}(hm:lQ xa0 y=some r):RO prog 147 [] [i6 xa0,i6 y] (.bool r):=by
 refine bu func147 rfl rfl ?_
 unfold lQ at hm
 refine qS [] [(0,i6 xa0),(1,i6 y)] [] ?_
 obtain⟨ak,h1,hm⟩:=aa hm
 rcases aq hm with⟨c1,hm⟩|⟨c1,hm⟩
 ·obtain⟨aO,h2,hm⟩:=aa hm
  rcases aq hm with⟨c2,hm⟩|⟨c2,hm⟩
  ·refine qS [(1,hro (fZ h1) uD),(2,hto (bE c1)),(4,hro (fZ h2) uD),(7,hto (bE c2))] [(4,.bool true)] [] ?_
   cases hm
   exact A.ret qE
  refine qS [(1,hro (fZ h1) uD),(2,hto (bE c1)),(4,hro (fZ h2) uD),(7,hto (bE c2))] [(4,.bool (decide (xa0<y)))] [] ?_
  cases hm
  exact A.ret qE
 refine qS [(1,hro (fZ h1) uD),(2,hto (bE c1))] [(4,.bool (decide (xa0<y)))] [] ?_
 cases hm
 exact A.ret qE
theorem tX{vals:List Int}{r:Int}(hm:jc vals=some r):RO prog 113 [] [lf aG vals] (i6 r):=by
 refine bu func113 rfl rfl ?_
 unfold jc at hm
 refine qS [] [(0,lf aG vals)] []<|qDs [] [] [(3,i6 0)]<|A.seq<|qDs [(1,hto (lnE aG vals))] [0] [(6,lf aG vals),(7,i6 (vals.length:Int)),(8,i6 0)]<|A.block<|A.bS 6 rfl λhb1=>?_
 obtain⟨B1,K1,hB1,hK1,hm⟩:=bA hm
 refine A.lpI (l:=vals) (j0:=0) (B:=B1) (K:=K1) hm (λj1=>λ()=>[(3,i6 0),(6,lf aG vals),(7,i6 (vals.length:Int)),(8,i6 (j1:Int))]) (λj1=>λ()=>[]) ?_ ?_ ?_
 ·exact qW
 ·rintro j1 e1 Z1 ⟨⟩ hj1 hx1 hm
  rw[hB1]at hm
  refine qDs [] [] [(9,.bool (decide ((j1:Int)<(vals.length:Int))))]<|A.seq<|qT (ltT hx1)<|A.skip<|A.seq<|A.block<|qDs [(0,hix (ix aG (bK hx1)))] [9] [(5,i6 e1)]<|qDs [] [] [(14,.bool (!decide (e1=0)))] ?_
  rcases aq hm with⟨c1,hm⟩|⟨c1,hm⟩
  ·refine qT c1<|qS [] [(2,i6 e1)] [] ?_
   cases hm
   exact A.ret qE
  exact qF c1<|A.skip<|qGs [(0,hto (inc hx1 hb1))] [8,5,14] [(8,i6 ((j1+1:Nat):Int))]<|qX () hm
 rintro j1 ⟨⟩ hj1 hl1 hm
 rw[hK1]at hm
 refine qDs [] [] [(9,.bool (decide ((j1:Int)<(vals.length:Int))))]<|A.seq<|qF (ltF hl1)<|A.exit<|qS [] [(2,i6 0)] [] ?_
 cases hm
 exact A.ret qE
theorem nT{xa0:List Int}{target:Int}{r:Int×Bool}(hm:eG xa0 target=some r):RO prog 116 [] [lf aG xa0,i6 target] (.tup [i6 r.1,.bool r.2]):=by
 refine bu func116 rfl rfl ?_
 unfold eG at hm
 refine qS [] [(0,lf aG xa0),(1,i6 target)] []<|qDs [(1,hto (lnE aG xa0))] [] [(6,i6 (xa0.length:Int))]<|qDs [] [] [(7,i6 0),(8,i6 (xa0.length:Int))]<|A.seq<|A.block ?_
 obtain⟨F1,n1,hF1,hm⟩:=gU hm
 refine A.lpW (F:=F1) hm (λ(i_1,j_1)=>[(0,lf aG xa0),(1,i6 target),(6,i6 (xa0.length:Int)),(7,i6 i_1),(8,i6 j_1)]) (λ(i_1,j_1)=>[]) ?_ ?_
 ·exact qW
 rintro Z1 ⟨i_1,j_1⟩ hm
 rw[hF1]at hm
 refine A.seq<|qDs [] [] [(15,.bool (decide (i_1<j_1)))] ?_
 rcases aq hm with⟨c1,hm⟩|⟨c1,hm⟩
 ·refine qT c1<|A.skip<|A.block<|qDs [(4,.sh (1:Int) (by decide))] [15] [(9,i6 (w64 (Int.fdiv (IntKind.wrap .u64 (w64 (i_1+j_1))) (2 ^ min (1:Int).toNat 64))))] ?_
  obtain⟨e_1,h1,hm⟩:=aa hm
  obtain⟨ak,h2,hm⟩:=aa hm
  refine qDs [(2,hix (ix aG h1)),(5,hro (xh h2) arC)] [] [(27,.bool ak)] ?_
  rcases aq hm with⟨c2,hm⟩|⟨c2,hm⟩
  ·exact qT c2<|qGs [] [7,9,27] [(7,i6 (w64 ((w64 (Int.fdiv (IntKind.wrap .u64 (w64 (i_1+j_1))) (2 ^ min (1:Int).toNat 64)))+(1:Int))))]<|qX (w64 ((w64 (Int.fdiv (IntKind.wrap .u64 (w64 (i_1+j_1))) (2 ^ min (1:Int).toNat 64)))+(1:Int)),j_1) hm
  exact qF c2<|qGs [] [8,9,27] [(8,i6 (w64 (Int.fdiv (IntKind.wrap .u64 (w64 (i_1+j_1))) (2 ^ min (1:Int).toNat 64))))]<|qX (i_1,w64 (Int.fdiv (IntKind.wrap .u64 (w64 (i_1+j_1))) (2 ^ min (1:Int).toNat 64))) hm
 refine qF c1<|A.exit ?_
 rcases aq hm with⟨c3,hm⟩|⟨c3,hm⟩
 ·obtain⟨e_2,h3,hm⟩:=aa hm
  rcases aq hm with⟨c4,hm⟩|⟨c4,hm⟩
  ·refine qS [(4,hto (bE c3)),(7,hix (ix aG h3)),(11,hto (bE c4))] [(4,i6 i_1),(5,.bool true)] [] ?_
   cases hm
   exact A.ret qE
  obtain⟨aO,h4,hm⟩:=aa hm
  rcases aq hm with⟨c5,hm⟩|⟨c5,hm⟩
  ·obtain⟨bT,h5,hm⟩:=aa hm
   refine qS [(4,hto (bE c3)),(7,hix (ix aG h3)),(11,hto (bE c4)),(14,hix (ix aG h3)),(16,hro (lT h4) adL),(17,hto (bE c5)),(19,hro (lT h5) adL)] [(4,i6 i_1),(5,.bool bT)] [] ?_
   cases hm
   exact A.ret qE
  refine qS [(4,hto (bE c3)),(7,hix (ix aG h3)),(11,hto (bE c4)),(14,hix (ix aG h3)),(16,hro (lT h4) adL),(17,hto (bE c5))] [(4,i6 i_1),(5,.bool false)] [] ?_
  cases hm
  exact A.ret qE
 refine qS [(4,hto (bE c3))] [(4,i6 i_1),(5,.bool false)] [] ?_
 cases hm
 exact A.ret qE
theorem iu{n:Int}(hm:gd n=some r):RO prog 120 [] [i6 n] (.bool r):=by
 refine bu func120 rfl rfl ?_
 unfold gd at hm
 refine qS [] [(0,i6 n)] []<|A.mid [(2,.bool ((decide (n=8))||((decide (n=16))||((decide (n=32))||(decide (n=64))))))] [] (λhk=>?_) ?_
 ·rcases tf (decide (n=8))with c1|c1
  ·exact qS [(2,hto (bE c1)),(14,hto (orT (q:=((decide (n=16))||((decide (n=32))||(decide (n=64))))) c1))] _ _ hk
  rcases tf (decide (n=16))with c2|c2
  ·exact qS [(2,hto (bE c1)),(6,hto (bE c2)),(14,hto ((orT (q:=((decide (n=32))||(decide (n=64)))) c2).trans (orF (q:=((decide (n=16))||((decide (n=32))||(decide (n=64))))) c1)))] _ _ hk
  rcases tf (decide (n=32))with c3|c3
  ·exact qS [(2,hto (bE c1)),(6,hto (bE c2)),(10,hto (bE c3)),(14,hto (((orT (q:=decide (n=64)) c3).trans (orF (q:=((decide (n=32))||(decide (n=64)))) c2)).trans (orF (q:=((decide (n=16))||((decide (n=32))||(decide (n=64))))) c1)))] _ _ hk
  exact qS [(2,hto (bE c1)),(6,hto (bE c2)),(10,hto (bE c3)),(14,hto (((orF (q:=decide (n=64)) c3).trans (orF (q:=((decide (n=32))||(decide (n=64)))) c2)).trans (orF (q:=((decide (n=16))||((decide (n=32))||(decide (n=64))))) c1)))] _ _ hk
 cases hm
 exact A.ret qE
theorem x8{length:Int}{r:Int}(hm:n9 length=some r):RO prog 150 [] [i6 length] (.int .u64 r):=by
 refine bu func150 rfl rfl ?_
 unfold n9 at hm
 refine qS [] [(0,i6 length)] []<|A.seq ?_
 obtain⟨ak,h1,hm⟩:=aa hm
 refine qDs [(1,hro (iu h1) aa0)] [] [(5,.bool (!ak))] ?_
 rcases aq hm with⟨c1,hm⟩|⟨c1,hm⟩
 ·refine qT c1<|qS [] [(2,.int .u64 (0:Int))] [] ?_
  cases hm
  exact A.ret qE
 refine qF c1<|A.skip ?_
 obtain⟨h2,hm⟩:=fF hm
 refine qS [(2,.sh (w64 ((64:Int)-length)) (of_decide_eq_true h2))] [(2,.int .u64 (Int.fdiv (18446744073709551615:Int) (2 ^ min (w64 ((64:Int)-length)).toNat 64)))] [] ?_
 cases hm
 exact A.ret qE
theorem gZ{b:Int}{length:Int}(hm:lR b length=some r):RO prog 119 [] [.int .u64 b,i6 length] (.bool r):=by
 refine bu func119 rfl rfl ?_
 unfold lR at hm
 refine qS [] [(0,.int .u64 b),(1,i6 length)] [] ?_
 obtain⟨ak,h1,hm⟩:=aa hm
 rcases aq hm with⟨c1,hm⟩|⟨c1,hm⟩
 ·obtain⟨aO,h2,hm⟩:=aa hm
  refine qS [(1,hro (iu h1) aa0),(2,hto (bE c1)),(5,hro (x8 h2) arE)] [(4,.bool (decide (bX .andNot .u64 b aO=0)))] [] ?_
  cases hm
  exact A.ret qE
 refine qS [(1,hro (iu h1) aa0),(2,hto (bE c1))] [(4,.bool false)] [] ?_
 cases hm
 exact A.ret qE
theorem ff{n:Int}(hm:eM n=some r):RO prog 121 [] [i6 n] (.bool r):=by
 refine bu func121 rfl rfl ?_
 unfold eM at hm
 refine qS [] [(0,i6 n)] []<|A.mid [(2,.bool ((decide (1≤n))&&(decide (n≤99))))] [] (λhk=>?_) ?_
 ·rcases tf (decide (1≤n))with c1|c1
  ·exact qS [(2,hto (bE c1)),(6,hto (qz (q:=decide (n≤99)) c1))] _ _ hk
  exact qS [(2,hto (bE c1)),(6,hto (qA (q:=decide (n≤99)) c1))] _ _ hk
 cases hm
 exact A.ret qE
variable {a:az}
theorem nJ{r:aD}(hm:iF a=some r):RO prog 122 [] [.agg (k4 a)] (.agg (k8 r)):=by
 refine bu func122 rfl rfl ?_
 unfold iF at hm
 refine qS [(0,.al 122001),(1,.al 122002)] [(1,.ptr 122001 0),(2,.ptr 122002 0)] [(122001,.cells 38 (k4 a)),(122002,.cells 184 [i6 0,i6 0,i6 0])]<|qS [] [(2,.ptr 122002 0)] [(122002,.cells 184 [i6 a.aR,i6 a.Kind,i6 a.To])] ?_
 cases hm
 exact A.ret qE
theorem yW:vS prog 186 184 4 (kv cO) cn:=⟨underlying186,λ_=>rfl,λ_=>rfl,⟨_,underlying184,λ_ _=>rfl⟩,λa b w=>eqK (by kernel_rfl) (by kernel_rfl) (aep a.aT b.aT a.l8 b.l8 a.to_ b.to_ w),λe a w=>by kernel_rfl,λa b h=>by cases a;cases b;simpa [cn]using h,λa=>by simp[kv,cO,valOf,vw,Instr.sameBits]⟩
theorem gi{e:aI}{r:Int}(hm:fL e=some r):RO prog 69 [] [.agg (k6 e)] (i6 r):=by
 refine bu func69 rfl rfl ?_
 unfold fL at hm
 refine qS [(0,.al 69001)] [(1,.ptr 69001 0)] [(69001,.cells 32 (k6 e))]<|A.seq ?_
 obtain⟨ak,h1,hm⟩:=aa hm
 refine qDs [(2,hro (iu h1) aa0)] [] [(16,.bool (!ak))] ?_
 rcases aq hm with⟨c1,hm⟩|⟨c1,hm⟩
 ·refine qT c1<|qS [] [(2,i6 2)] [] ?_
  cases hm
  exact A.ret qE
 refine qF c1<|A.skip<|A.seq<|qDs [(2,hto (lnE aQ e.List))] [16] [(18,lf aQ e.List),(19,i6 (e.List.length:Int)),(20,i6 0)]<|A.block<|A.bS 18 rfl λhb1=>?_
 obtain⟨B1,K1,hB1,hK1,hm⟩:=bA hm
 refine A.lpI (l:=e.List) (j0:=0) (B:=B1) (K:=K1) hm (λj1=>λ()=>[(1,.ptr 69001 0),(18,lf aQ e.List),(19,i6 (e.List.length:Int)),(20,i6 (j1:Int))]) (λj1=>λ()=>[(69001,.cells 32 (k6 e))]) ?_ ?_ ?_
 ·exact qW
 ·rintro j1 e1 Z1 ⟨⟩ hj1 hx1 hm
  rw[hB1]at hm
  refine qDs [] [] [(21,.bool (decide ((j1:Int)<(e.List.length:Int))))]<|A.seq<|qT (ltT hx1)<|A.skip<|A.seq<|A.block<|qD [(0,hix (ix aQ (bK hx1))),(2,.al 69004)] [21] [(4,.ptr 69004 0)] [] [(69004,.cells 38 (k4 e1))] ?_
  obtain⟨J1,hJ1,hm⟩:=cR hm
  refine A.J (J:=J1) (r:=r) (λv_1=>[(1,.ptr 69001 0),(18,lf aQ e.List),(19,i6 (e.List.length:Int)),(20,i6 (j1:Int)),(45,.bool v_1)]) (λv_1=>[(69001,.cells 32 (k6 e))]) ?_ ?_
  ·rcases aq hm with⟨c2,hm⟩|⟨c2,hm⟩
   ·exact qG [(3,hto (bE c2))] [4] [(45,.bool true)] [69004] []<|qX true hm
   rcases aq hm with⟨c3,hm⟩|⟨c3,hm⟩
   ·exact qG [(3,hto (bE c2)),(10,hto (bE c3))] [4] [(45,.bool true)] [69004] []<|qX true hm
   obtain⟨aO,h2,hm⟩:=aa hm
   rcases aq hm with⟨c4,hm⟩|⟨c4,hm⟩
   ·exact qG [(3,hto (bE c2)),(10,hto (bE c3)),(13,hro (ff h2) uC),(16,hto (bE c4))] [4] [(45,.bool true)] [69004] []<|qX true hm
   obtain⟨bT,h3,hm⟩:=aa hm
   exact qG [(3,hto (bE c2)),(10,hto (bE c3)),(13,hro (ff h2) uC),(16,hto (bE c4)),(19,hro (ff h3) uC)] [4] [(45,.bool (!bT))] [69004] []<|qX (!bT) hm
  rintro v_1 hm
  rw[hJ1]at hm
  rcases aq hm with⟨c5,hm⟩|⟨c5,hm⟩
  ·refine qT c5<|qS [] [(2,i6 2)] [] ?_
   cases hm
   exact A.ret qE
  exact qF c5<|A.skip<|qGs [(0,hto (inc hx1 hb1))] [20,45] [(20,i6 ((j1+1:Nat):Int))]<|qX () hm
 rintro j1 ⟨⟩ hj1 hl1 hm
 rw[hK1]at hm
 refine qDs [] [] [(21,.bool (decide ((j1:Int)<(e.List.length:Int))))]<|A.seq<|qF (ltF hl1)<|A.exit<|A.seq<|qDs [(2,hto (lnE aQ e.List))] [18,19,20,21] [(48,lf aQ e.List),(49,i6 (e.List.length:Int)),(50,i6 0)]<|A.block<|A.bS 48 rfl λhb2=>?_
 obtain⟨B2,K2,hB2,hK2,hm⟩:=bA hm
 refine A.lpI (l:=e.List) (j0:=0) (B:=B2) (K:=K2) hm (λj2=>λ()=>[(1,.ptr 69001 0),(48,lf aQ e.List),(49,i6 (e.List.length:Int)),(50,i6 (j2:Int))]) (λj2=>λ()=>[(69001,.cells 32 (k6 e))]) ?_ ?_ ?_
 ·exact qW
 ·rintro j2 e2 Z2 ⟨⟩ hj2 hx2 hm
  rw[hB2]at hm
  refine qDs [] [] [(51,.bool (decide ((j2:Int)<(e.List.length:Int))))]<|A.seq<|qT (ltT hx2)<|A.skip<|A.seq<|A.block<|qD [(0,hix (ix aQ (bK hx2))),(2,.al 69006)] [51] [(6,.ptr 69006 0)] [] [(69006,.cells 38 (k4 e2))]<|A.mid [(1,.ptr 69001 0),(48,lf aQ e.List),(49,i6 (e.List.length:Int)),(50,i6 (j2:Int)),(61,.bool ((decide (e2.Kind<1))||(decide (3<e2.Kind))))] [(69001,.cells 32 (k6 e))] (λhk=>?_) ?_
  ·rcases tf (decide (e2.Kind<1))with c6|c6
   ·exact qS [(3,hto (bE c6)),(7,hto (orT (q:=decide (3<e2.Kind)) c6))] _ _ hk
   exact qS [(3,hto (bE c6)),(7,hto (orF (q:=decide (3<e2.Kind)) c6))] _ _ hk
  rcases aq hm with⟨c7,hm⟩|⟨c7,hm⟩
  ·refine qT c7<|qS [] [(2,i6 1)] [] ?_
   cases hm
   exact A.ret qE
  exact qF c7<|A.skip<|qGs [(0,hto (inc hx2 hb2))] [50,61] [(50,i6 ((j2+1:Nat):Int))]<|qX () hm
 rintro j2 ⟨⟩ hj2 hl2 hm
 rw[hK2]at hm
 refine qDs [] [] [(51,.bool (decide ((j2:Int)<(e.List.length:Int))))]<|A.seq<|qF (ltF hl2)<|A.exit<|A.seq<|qDs [(2,hto (lnE aQ e.List))] [48,49,50,51] [(64,lf aQ e.List),(65,i6 (e.List.length:Int)),(66,i6 0)]<|A.block<|A.bS 64 rfl λhb3=>?_
 obtain⟨B3,K3,hB3,hK3,hm⟩:=bA hm
 refine A.lpI (l:=e.List) (j0:=0) (B:=B3) (K:=K3) hm (λj3=>λ()=>[(1,.ptr 69001 0),(64,lf aQ e.List),(65,i6 (e.List.length:Int)),(66,i6 (j3:Int))]) (λj3=>λ()=>[(69001,.cells 32 (k6 e))]) ?_ ?_ ?_
 ·exact qW
 ·rintro j3 e3 Z3 ⟨⟩ hj3 hx3 hm
  rw[hB3]at hm
  refine qDs [] [] [(67,.bool (decide ((j3:Int)<(e.List.length:Int))))]<|A.seq<|qT (ltT hx3)<|A.skip<|A.seq<|A.block<|qD [(0,hix (ix aQ (bK hx3))),(2,.al 69008)] [67] [(8,.ptr 69008 0)] [] [(69008,.cells 38 (k4 e3))]<|qD [] [8] [(78,.bool (!((decide (e3.To=e3.aR))==(decide (e3.Kind=3)))))] [69008] [] ?_
  rcases aq hm with⟨c8,hm⟩|⟨c8,hm⟩
  ·refine qT c8<|qS [] [(2,i6 8)] [] ?_
   cases hm
   exact A.ret qE
  exact qF c8<|A.skip<|qGs [(0,hto (inc hx3 hb3))] [66,78] [(66,i6 ((j3+1:Nat):Int))]<|qX () hm
 rintro j3 ⟨⟩ hj3 hl3 hm
 rw[hK3]at hm
 refine qDs [] [] [(67,.bool (decide ((j3:Int)<(e.List.length:Int))))]<|A.seq<|qF (ltF hl3)<|A.exit<|A.seq<|qDs [] [64,65,66,67] [(9,i6 1)]<|A.block<|A.bC 1 1 rfl rfl rfl λhb4=>?_
 obtain⟨B4,K4,hB4,hK4,hm⟩:=bA hm
 refine A.lpI (l:=e.List) (j0:=1) (B:=B4) (K:=K4) hm (λj4=>λ()=>[(1,.ptr 69001 0),(9,i6 (j4:Int))]) (λj4=>λ()=>[(69001,.cells 32 (k6 e))]) ?_ ?_ ?_
 ·exact qW
 ·rintro j4 e4 Z4 ⟨⟩ hj4 hx4 hm
  rw[hB4]at hm
  refine A.seq<|qDs [(3,hto (lnE aQ e.List))] [] [(84,.bool (decide ((j4:Int)<(e.List.length:Int))))] ?_
  refine qT (ltT hx4)<|A.skip<|A.seq<|A.block ?_
  obtain⟨e_1,h4,hm⟩:=aa hm
  refine qDs [(4,hix (ix aQ h4)),(10,hix (ix aQ (bK hx4)))] [84] [(100,.bool (decide (e4.Bit≤e_1.Bit)))] ?_
  rcases aq hm with⟨c9,hm⟩|⟨c9,hm⟩
  ·refine qT c9<|qS [] [(2,i6 25)] [] ?_
   cases hm
   exact A.ret qE
  exact qF c9<|A.skip<|qGs [(1,hto (inc hx4 hb4))] [9,100] [(9,i6 ((j4+1:Nat):Int))]<|qX () hm
 rintro j4 ⟨⟩ hj4 hl4 hm
 rw[hK4]at hm
 refine A.seq<|qDs [(3,hto (lnE aQ e.List))] [] [(84,.bool (decide ((j4:Int)<(e.List.length:Int))))] ?_
 refine qF (ltF hl4)<|A.exit<|qD [(0,hmm 69101 184 4)] [9,84] [(10,.bN 69101)] [] [(69101,.map 184 4 (gK (kv cO) vB []))]<|A.seq<|qD [(2,hto (lnE aQ e.List))] [1] [(103,lf aQ e.List),(104,i6 (e.List.length:Int)),(105,i6 0)] [69001] []<|A.block<|A.bS 103 rfl λhb5=>?_
 obtain⟨B5,K5,hB5,hK5,hm⟩:=bA hm
 refine A.lpI (l:=e.List) (j0:=0) (B:=B5) (K:=K5) hm (λj5=>λm_1=>[(10,.bN 69101),(103,lf aQ e.List),(104,i6 (e.List.length:Int)),(105,i6 (j5:Int))]) (λj5=>λm_1=>[(69101,.map 184 4 (gK (kv cO) vB m_1))]) ?_ ?_ ?_
 ·exact qW
 ·rintro j5 e5 Z5 m_1 hj5 hx5 hm
  rw[hB5]at hm
  refine qDs [] [] [(106,.bool (decide ((j5:Int)<(e.List.length:Int))))]<|A.seq<|qT (ltT hx5)<|A.skip<|A.seq<|A.block<|qD [(0,hix (ix aQ (bK hx5))),(2,.al 69012)] [106] [(12,.ptr 69012 0)] [] [(69012,.cells 38 (k4 e5))]<|A.seq ?_
  obtain⟨cI,h5,hm⟩:=aa hm
  refine qDs [(2,hro (nJ h5) adJ),(3,hlK m_1 cI vB false yW (zB zeroValue4))] [] [(112,.bool ((iC cn m_1 cI).getD false))] ?_
  rcases aq hm with⟨c10,hm⟩|⟨c10,hm⟩
  ·refine qT c10<|qS [] [(2,i6 5)] [] ?_
   cases hm
   exact A.ret qE
  refine qF c10<|A.skip ?_
  obtain⟨dY,h6,hm⟩:=aa hm
  exact qG [(2,hro (nJ h6) adJ),(3,hmK m_1 dY vB true yW rfl)] [12,112] [] [69101,69012] [(69101,.map 184 4 (gK (kv cO) vB (nG cn m_1 dY true)))]<|qGs [(0,hto (inc hx5 hb5))] [105] [(105,i6 ((j5+1:Nat):Int))]<|qX (nG cn m_1 dY true) hm
 rintro j5 m_1 hj5 hl5 hm
 rw[hK5]at hm
 refine qDs [] [] [(106,.bool (decide ((j5:Int)<(e.List.length:Int))))]<|A.seq<|qF (ltF hl5)<|A.exit<|qS [] [(2,i6 0)] [] ?_
 cases hm
 exact A.ret qE
theorem wj{e:aI}{cg:Int}{r:Int}(hm:kR e cg=some r):RO prog 105 [] [.agg (k6 e),i6 cg] (.int .u64 r):=by
 refine bu func105 rfl rfl ?_
 unfold kR at hm
 refine qS [(0,.al 105002)] [(1,i6 cg),(2,.ptr 105002 0)] [(105002,.cells 32 (k6 e))]<|qDs [] [] [(5,.int .u64 (0:Int))] ?_
 obtain⟨J1,hJ1,hm⟩:=cR hm
 refine A.J (J:=J1) (r:=r) (λb_1=>[(5,.int .u64 b_1)]) (λb_1=>[]) ?_ ?_
 ·obtain⟨ak,h1,hm⟩:=aa hm
  refine qDs [(1,hro (gi h1) abC)] [] [(10,.bool (decide (ak=0)))] ?_
  rcases aq hm with⟨c1,hm⟩|⟨c1,hm⟩
  ·refine qT c1<|qD [(2,hto (lnE aQ e.List))] [2,10] [(12,lf aQ e.List),(13,i6 (e.List.length:Int)),(14,i6 0)] [105002] []<|A.block<|A.bS 12 rfl λhb1=>?_
   obtain⟨B1,K1,hB1,hK1,hm⟩:=bA hm
   refine A.lpI (l:=e.List) (j0:=0) (B:=B1) (K:=K1) hm (λj1=>λb_2=>[(1,i6 cg),(5,.int .u64 b_2),(12,lf aQ e.List),(13,i6 (e.List.length:Int)),(14,i6 (j1:Int))]) (λj1=>λb_2=>[]) ?_ ?_ ?_
   ·exact qW
   ·rintro j1 e1 Z1 b_2 hj1 hx1 hm
    rw[hB1]at hm
    refine qDs [] [] [(15,.bool (decide ((j1:Int)<(e.List.length:Int))))]<|A.seq<|qT (ltT hx1)<|A.skip ?_
    obtain⟨J2,hJ2,hm⟩:=cR hm
    refine A.J (J:=J2) (r:=r) (λb_3=>[(1,i6 cg),(5,.int .u64 b_3),(12,lf aQ e.List),(13,i6 (e.List.length:Int)),(14,i6 (j1:Int))]) (λb_3=>[]) ?_ ?_
    ·refine A.block<|qD [(0,hix (ix aQ (bK hx1))),(2,.al 105007)] [15] [(7,.ptr 105007 0)] [] [(105007,.cells 38 (k4 e1))] ?_
     refine qDs [] [] [(21,.bool (decide (e1.aR=cg)))] ?_
     rcases aq hm with⟨c2,hm⟩|⟨c2,hm⟩
     ·refine qT c2 ?_
      obtain⟨h2,hm⟩:=fF hm
      exact qG [(3,.sh e1.Bit (of_decide_eq_true h2))] [5,7,21] [(5,.int .u64 (bX .or .u64 b_2 (IntKind.wrap .u64 ((1:Int)*2 ^ min e1.Bit.toNat 64))))] [105007] []<|qX (bX .or .u64 b_2 (IntKind.wrap .u64 ((1:Int)*2 ^ min e1.Bit.toNat 64))) hm
     exact qF c2<|A.skip<|qX b_2 hm
    rintro b_3 hm
    rw[hJ2]at hm
    exact qGs [(0,hto (inc hx1 hb1))] [14] [(14,i6 ((j1+1:Nat):Int))]<|qX b_3 hm
   rintro j1 b_2 hj1 hl1 hm
   rw[hK1]at hm
   exact qDs [] [] [(15,.bool (decide ((j1:Int)<(e.List.length:Int))))]<|A.seq<|qF (ltF hl1)<|A.exit<|qX b_2 hm
  exact qF c1<|A.skip<|qX (0:Int) hm
 rintro b_1 hm
 rw[hJ1]at hm
 refine qS [] [(4,.int .u64 b_1)] [] ?_
 cases hm
 exact A.ret qE
theorem tY{c_0:aD}(hm:kS a c_0=some r):RO prog 149 [] [.agg (k4 a),.eB (k8 c_0)] (.bool r):=by
 refine bu func149 rfl rfl ?_
 unfold kS at hm
 refine qS [(0,.al 149002)] [(1,.eB (k8 c_0)),(2,.ptr 149002 0)] [(149002,.cells 38 (k4 a))] ?_
 obtain⟨ak,h1,hm⟩:=aa hm
 refine qS [(1,hro (nJ h1) adJ),(3,.sq false 184 (.agg (k8 ak)) (.agg (k8 c_0)) (cn ak c_0) (λx y w=>aeq x y _ _ _ _ _ _ w))] [(3,.bool (cn ak c_0))] [] ?_
 cases hm
 exact A.ret qE
theorem vg{e:aI}{xa1:aD}{r:Int×Bool}(hm:jQ e xa1=some r):RO prog 117 [] [.agg (k6 e),.agg (k8 xa1)] (.tup [i6 r.1,.bool r.2]):=by
 refine bu func117 rfl rfl ?_
 unfold jQ at hm
 refine qS [(0,.al 117002),(1,.al 117003)] [(2,.ptr 117002 0),(3,.ptr 117003 0)] [(117002,.cells 32 (k6 e)),(117003,.cells 184 (k8 xa1))] ?_
 obtain⟨ak,h1,hm⟩:=aa hm
 refine qD [(3,hle [117003] (jB (f_g:=149) (f_c:=[.eB (k8 xa1)]) (f_k:=arD) (f_f:=λ_ _ h=>tY h) h1) aru)] [3] [(6,i6 ak)] [117003] []<|A.seq<|qDs [] [] [(12,.bool (decide (ak<0)))] ?_
 rcases aq hm with⟨c1,hm⟩|⟨c1,hm⟩
 ·refine qT c1<|qS [] [(4,i6 0),(5,.bool false)] [] ?_
  cases hm
  exact A.ret qE
 refine qF c1<|A.skip ?_
 obtain⟨e_1,h2,hm⟩:=aa hm
 refine qS [(3,hix (ix aQ h2))] [(4,i6 e_1.Bit),(5,.bool true)] [] ?_
 cases hm
 exact A.ret qE
variable {t:cE}
theorem tu{r:(List (Int×Bool))}(hm:iy t=some r):RO prog 145 [] [.agg (k7 t)] (.mpf (bx .i64 vB r)):=by
 refine bu func145 rfl rfl ?_
 unfold iy at hm
 refine qS [(0,.al 145001)] [(1,.ptr 145001 0)] [(145001,.cells 63 (k7 t))]<|qD [(0,.al 145007),(3,hmu (mu (k:=.i64) (enc:=vB) [] t.b9 true rfl))] [] [(3,.bN 145007)] [] [(145007,.map 3 4 (bx .i64 vB (bq [] t.b9 true)))]<|A.seq<|qDs [] [] [(4,.bool true)]<|A.block ?_
 obtain⟨F1,n1,hF1,hm⟩:=gU hm
 refine A.lpW (F:=F1) hm (λ(ry,m_1)=>[(1,.ptr 145001 0),(3,.bN 145007),(4,.bool ry)]) (λ(ry,m_1)=>[(145001,.cells 63 (k7 t)),(145007,.map 3 4 (bx .i64 vB m_1))]) ?_ ?_
 ·exact qW
 rintro Z1 ⟨ry,m_1⟩ hm
 rw[hF1]at hm
 refine A.seq<|qDs [] [] [(11,.bool ry)] ?_
 rcases aq hm with⟨c1,hm⟩|⟨c1,hm⟩
 ·refine qT c1<|A.skip<|A.block<|qDs [] [4,11] [(4,.bool false)]<|qDs [(2,hto (lnE bt t.Links))] [] [(13,lf bt t.Links),(14,i6 (t.Links.length:Int)),(15,i6 0)]<|A.block<|A.bS 13 rfl λhb2=>?_
  obtain⟨B2,K2,hB2,hK2,hm⟩:=bA hm
  refine A.lpI (l:=t.Links) (j0:=0) (B:=B2) (K:=K2) hm (λj2=>λ(lS,m_2)=>[(1,.ptr 145001 0),(3,.bN 145007),(4,.bool lS),(13,lf bt t.Links),(14,i6 (t.Links.length:Int)),(15,i6 (j2:Int))]) (λj2=>λ(lS,m_2)=>[(145001,.cells 63 (k7 t)),(145007,.map 3 4 (bx .i64 vB m_2))]) ?_ ?_ ?_
  ·exact qW
  ·rintro j2 e2 Z2 ⟨lS,m_2⟩ hj2 hx2 hm
   rw[hB2]at hm
   refine qDs [] [] [(16,.bool (decide ((j2:Int)<(t.Links.length:Int))))]<|A.seq<|qT (ltT hx2)<|A.skip ?_
   obtain⟨J1,hJ1,hm⟩:=cR hm
   refine A.J (J:=J1) (r:=r) (λ(rz,m_3)=>[(1,.ptr 145001 0),(3,.bN 145007),(4,.bool rz),(13,lf bt t.Links),(14,i6 (t.Links.length:Int)),(15,i6 (j2:Int))]) (λ(rz,m_3)=>[(145001,.cells 63 (k7 t)),(145007,.map 3 4 (bx .i64 vB m_3))]) ?_ ?_
   ·refine A.block<|qD [(0,hix (ix bt (bK hx2))),(2,.al 145006)] [16] [(6,.ptr 145006 0)] [] [(145006,.cells 67 (k3 e2))] ?_
    refine A.mid [(1,.ptr 145001 0),(3,.bN 145007),(4,.bool lS),(13,lf bt t.Links),(14,i6 (t.Links.length:Int)),(15,i6 (j2:Int)),(6,.ptr 145006 0),(29,.bool (((aA m_2 e2.bh).getD false)&&(!((aA m_2 e2.To).getD false))))] [(145001,.cells 63 (k7 t)),(145007,.map 3 4 (bx .i64 vB m_2)),(145006,.cells 67 (k3 e2))] (λhk=>?_) ?_
    ·rcases tf ((aA m_2 e2.bh).getD false)with c2|c2
     ·exact qS [(3,hlk (lk (E:=4) (k:=.i64) (enc:=vB) m_2 e2.bh false (λw=>⟨_,zeroValue4 w,λI=>by simp[aB,vI,vB]⟩))),(4,hto (bE c2)),(8,hlk (lk (E:=4) (k:=.i64) (enc:=vB) m_2 e2.To false (λw=>⟨_,zeroValue4 w,λI=>by simp[aB,vI,vB]⟩))),(10,hto (qz (q:=!((aA m_2 e2.To).getD false)) c2))] _ _ hk
     exact qS [(3,hlk (lk (E:=4) (k:=.i64) (enc:=vB) m_2 e2.bh false (λw=>⟨_,zeroValue4 w,λI=>by simp[aB,vI,vB]⟩))),(4,hto (bE c2)),(10,hto (qA (q:=!((aA m_2 e2.To).getD false)) c2))] _ _ hk
    rcases aq hm with⟨c3,hm⟩|⟨c3,hm⟩
    ·exact qT c3<|qG [(3,hmu (mu (k:=.i64) (enc:=vB) m_2 e2.To true rfl))] [4,6,29] [(4,.bool true)] [145007,145006] [(145007,.map 3 4 (bx .i64 vB (bq m_2 e2.To true)))]<|qX (true,bq m_2 e2.To true) hm
    exact qF c3<|A.skip<|qX (lS,m_2) hm
   rintro⟨rz,m_3⟩ hm
   rw[hJ1]at hm
   exact qGs [(0,hto (inc hx2 hb2))] [15] [(15,i6 ((j2+1:Nat):Int))]<|qX (rz,m_3) hm
  rintro j2 ⟨lS,m_2⟩ hj2 hl2 hm
  rw[hK2]at hm
  exact qDs [] [] [(16,.bool (decide ((j2:Int)<(t.Links.length:Int))))]<|A.seq<|qF (ltF hl2)<|A.exit<|qX (lS,m_2) hm
 refine qF c1<|A.exit<|qD [] [1,3,4,11] [(2,.bN 145007)] [145001] []<|A.ret ?_
 obtain rfl:=some_inj hm
 exact A.fin W0 [.fz [145007]] rfl (by kernel_rfl)
theorem ng{r:Int}(hm:fV t=some r):RO prog 114 [] [.agg (k7 t)] (i6 r):=by
 refine bu func114 rfl rfl ?_
 unfold fV at hm
 refine qS [(0,.al 114001)] [(1,.ptr 114001 0)] [(114001,.cells 63 (k7 t))]<|A.seq ?_
 obtain⟨ak,h1,hm⟩:=aa hm
 refine qDs [(2,hro (ff h1) uC)] [] [(17,.bool (!ak))] ?_
 rcases aq hm with⟨c1,hm⟩|⟨c1,hm⟩
 ·refine qT c1<|qS [] [(2,i6 2)] [] ?_
  cases hm
  exact A.ret qE
 refine qF c1<|A.skip<|A.seq<|qDs [(2,hto (lnE bt t.Links))] [17] [(19,lf bt t.Links),(20,i6 (t.Links.length:Int)),(21,i6 0)]<|A.block<|A.bS 19 rfl λhb1=>?_
 obtain⟨B1,K1,hB1,hK1,hm⟩:=bA hm
 refine A.lpI (l:=t.Links) (j0:=0) (B:=B1) (K:=K1) hm (λj1=>λ()=>[(1,.ptr 114001 0),(19,lf bt t.Links),(20,i6 (t.Links.length:Int)),(21,i6 (j1:Int))]) (λj1=>λ()=>[(114001,.cells 63 (k7 t))]) ?_ ?_ ?_
 ·exact qW
 ·rintro j1 e1 Z1 ⟨⟩ hj1 hx1 hm
  rw[hB1]at hm
  refine qDs [] [] [(22,.bool (decide ((j1:Int)<(t.Links.length:Int))))]<|A.seq<|qT (ltT hx1)<|A.skip<|A.seq<|A.block<|qD [(0,hix (ix bt (bK hx1))),(2,.al 114004)] [22] [(4,.ptr 114004 0)] [] [(114004,.cells 67 (k3 e1))] ?_
  obtain⟨J1,hJ1,hm⟩:=cR hm
  refine A.J (J:=J1) (r:=r) (λv_1=>[(1,.ptr 114001 0),(19,lf bt t.Links),(20,i6 (t.Links.length:Int)),(21,i6 (j1:Int)),(34,.bool v_1)]) (λv_1=>[(114001,.cells 63 (k7 t))]) ?_ ?_
  ·obtain⟨aO,h2,hm⟩:=aa hm
   rcases aq hm with⟨c2,hm⟩|⟨c2,hm⟩
   ·exact qG [(2,hro (ff h2) uC),(4,hto (bE c2))] [4] [(34,.bool true)] [114004] []<|qX true hm
   obtain⟨bT,h3,hm⟩:=aa hm
   exact qG [(2,hro (ff h2) uC),(4,hto (bE c2)),(7,hro (ff h3) uC)] [4] [(34,.bool (!bT))] [114004] []<|qX (!bT) hm
  rintro v_1 hm
  rw[hJ1]at hm
  rcases aq hm with⟨c3,hm⟩|⟨c3,hm⟩
  ·refine qT c3<|qS [] [(2,i6 2)] [] ?_
   cases hm
   exact A.ret qE
  exact qF c3<|A.skip<|qGs [(0,hto (inc hx1 hb1))] [21,34] [(21,i6 ((j1+1:Nat):Int))]<|qX () hm
 rintro j1 ⟨⟩ hj1 hl1 hm
 rw[hK1]at hm
 refine qDs [] [] [(22,.bool (decide ((j1:Int)<(t.Links.length:Int))))]<|A.seq<|qF (ltF hl1)<|A.exit<|A.seq<|qDs [] [19,20,21,22] [(5,i6 1)]<|A.block<|A.bC 1 1 rfl rfl rfl λhb2=>?_
 obtain⟨B2,K2,hB2,hK2,hm⟩:=bA hm
 refine A.lpI (l:=t.Links) (j0:=1) (B:=B2) (K:=K2) hm (λj2=>λ()=>[(1,.ptr 114001 0),(5,i6 (j2:Int))]) (λj2=>λ()=>[(114001,.cells 63 (k7 t))]) ?_ ?_ ?_
 ·exact qW
 ·rintro j2 e2 Z2 ⟨⟩ hj2 hx2 hm
  rw[hB2]at hm
  refine A.seq<|qDs [(3,hto (lnE bt t.Links))] [] [(40,.bool (decide ((j2:Int)<(t.Links.length:Int))))] ?_
  refine qT (ltT hx2)<|A.skip<|A.seq<|A.block ?_
  obtain⟨e_1,h4,hm⟩:=aa hm
  refine qD [(4,hix (ix bt h4)),(9,hix (ix bt (bK hx2))),(11,.al 114006),(12,.al 114007)] [40] [(6,.ptr 114006 0),(7,.ptr 114007 0)] [] [(114006,.cells 67 (k3 e_1)),(114007,.cells 67 (k3 e2))] ?_
  obtain⟨cI,h5,hm⟩:=aa hm
  obtain⟨dY,h6,hm⟩:=aa hm
  obtain⟨bD,h7,hm⟩:=aa hm
  refine qD [(4,hro (gb h5) wW),(9,hro (gb h6) wW),(11,hro (sP h7) ahS)] [6,7] [(66,.bool (decide (0≤bD)))] [114006,114007] [] ?_
  rcases aq hm with⟨c4,hm⟩|⟨c4,hm⟩
  ·refine qT c4<|qS [] [(2,i6 25)] [] ?_
   cases hm
   exact A.ret qE
  exact qF c4<|A.skip<|qGs [(1,hto (inc hx2 hb2))] [5,66] [(5,i6 ((j2+1:Nat):Int))]<|qX () hm
 rintro j2 ⟨⟩ hj2 hl2 hm
 rw[hK2]at hm
 refine A.seq<|qDs [(3,hto (lnE bt t.Links))] [] [(40,.bool (decide ((j2:Int)<(t.Links.length:Int))))] ?_
 refine qF (ltF hl2)<|A.exit<|qD [(0,.al 114067),(3,hmu (mu (k:=.i64) (enc:=vB) [] t.b9 true rfl))] [5,40] [(8,.bN 114067)] [] [(114067,.map 3 4 (bx .i64 vB (bq [] t.b9 true)))]<|A.seq<|qDs [(2,hto (lnE bt t.Links))] [] [(72,lf bt t.Links),(73,i6 (t.Links.length:Int)),(74,i6 0)]<|A.block<|A.bS 72 rfl λhb3=>?_
 obtain⟨B3,K3,hB3,hK3,hm⟩:=bA hm
 refine A.lpI (l:=t.Links) (j0:=0) (B:=B3) (K:=K3) hm (λj3=>λm_1=>[(1,.ptr 114001 0),(8,.bN 114067),(72,lf bt t.Links),(73,i6 (t.Links.length:Int)),(74,i6 (j3:Int))]) (λj3=>λm_1=>[(114001,.cells 63 (k7 t)),(114067,.map 3 4 (bx .i64 vB m_1))]) ?_ ?_ ?_
 ·exact qW
 ·rintro j3 e3 Z3 m_1 hj3 hx3 hm
  rw[hB3]at hm
  refine qDs [] [] [(75,.bool (decide ((j3:Int)<(t.Links.length:Int))))]<|A.seq<|qT (ltT hx3)<|A.skip<|A.seq<|A.block<|qD [(0,hix (ix bt (bK hx3))),(2,.al 114010)] [75] [(10,.ptr 114010 0)] [] [(114010,.cells 67 (k3 e3))]<|A.seq<|qDs [(3,hlk (lk (E:=4) (k:=.i64) (enc:=vB) m_1 e3.To false (λw=>⟨_,zeroValue4 w,λI=>by simp[aB,vI,vB]⟩)))] [] [(81,.bool ((aA m_1 e3.To).getD false))] ?_
  rcases aq hm with⟨c5,hm⟩|⟨c5,hm⟩
  ·refine qT c5<|qS [] [(2,i6 8)] [] ?_
   cases hm
   exact A.ret qE
  exact qF c5<|A.skip<|qG [(3,hmu (mu (k:=.i64) (enc:=vB) m_1 e3.To true rfl))] [10,81] [] [114067,114010] [(114067,.map 3 4 (bx .i64 vB (bq m_1 e3.To true)))]<|qGs [(0,hto (inc hx3 hb3))] [74] [(74,i6 ((j3+1:Nat):Int))]<|qX (bq m_1 e3.To true) hm
 rintro j3 m_1 hj3 hl3 hm
 rw[hK3]at hm
 refine qDs [] [] [(75,.bool (decide ((j3:Int)<(t.Links.length:Int))))]<|A.seq<|qF (ltF hl3)<|A.exit ?_
 obtain⟨dA,h8,hm⟩:=aa hm
 refine qD [(1,hro (tu h8) arA)] [8,72,73,74,75] [(11,.mpf (bx .i64 vB dA))] [114067] []<|A.seq<|qD [(2,hto (lnE bt t.Links))] [1] [(89,lf bt t.Links),(90,i6 (t.Links.length:Int)),(91,i6 0)] [114001] []<|A.block<|A.bS 89 rfl λhb4=>?_
 obtain⟨B4,K4,hB4,hK4,hm⟩:=bA hm
 refine A.lpI (l:=t.Links) (j0:=0) (B:=B4) (K:=K4) hm (λj4=>λ()=>[(11,.mpf (bx .i64 vB dA)),(89,lf bt t.Links),(90,i6 (t.Links.length:Int)),(91,i6 (j4:Int))]) (λj4=>λ()=>[]) ?_ ?_ ?_
 ·exact qW
 ·rintro j4 e4 Z4 ⟨⟩ hj4 hx4 hm
  rw[hB4]at hm
  refine qDs [] [] [(92,.bool (decide ((j4:Int)<(t.Links.length:Int))))]<|A.seq<|qT (ltT hx4)<|A.skip<|A.seq<|A.block<|qD [(0,hix (ix bt (bK hx4))),(2,.al 114013)] [92] [(13,.ptr 114013 0)] [] [(114013,.cells 67 (k3 e4))]<|qD [(3,hlf dA e4.bh vB false aer (zB zeroValue4))] [13] [(99,.bool (!((aA dA e4.bh).getD false)))] [114013] [] ?_
  rcases aq hm with⟨c6,hm⟩|⟨c6,hm⟩
  ·refine qT c6<|qS [] [(2,i6 10)] [] ?_
   cases hm
   exact A.ret qE
  exact qF c6<|A.skip<|qGs [(0,hto (inc hx4 hb4))] [91,99] [(91,i6 ((j4+1:Nat):Int))]<|qX () hm
 rintro j4 ⟨⟩ hj4 hl4 hm
 rw[hK4]at hm
 refine qDs [] [] [(92,.bool (decide ((j4:Int)<(t.Links.length:Int))))]<|A.seq<|qF (ltF hl4)<|A.exit<|qS [] [(2,i6 0)] [] ?_
 cases hm
 exact A.ret qE
theorem tv{r:(List Int)}(hm:iz t=some r):RO prog 115 [] [.agg (k7 t)] (lf aG r):=by
 refine bu func115 rfl rfl ?_
 unfold iz at hm
 refine qS [(0,.al 115001)] [(1,.ptr 115001 0)] [(115001,.cells 63 (k7 t))]<|A.seq ?_
 obtain⟨ak,h1,hm⟩:=aa hm
 refine qDs [(1,hro (ng h1) ahR)] [] [(8,.bool (!decide (ak=0)))] ?_
 rcases aq hm with⟨c1,hm⟩|⟨c1,hm⟩
 ·refine qT c1<|qS [] [(2,.aS)] [] ?_
  cases hm
  exact A.ret qE
 refine qF c1<|A.skip<|qD [(2,.al 115011)] [8] [(3,.own 115011)] [] [(115011,.slice 3 1 (ml aG ([t.b9]:List Int)) 0 false)]<|A.seq<|qD [(2,hto (lnE bt t.Links))] [1] [(13,lf bt t.Links),(14,i6 (t.Links.length:Int)),(15,i6 0)] [115001] []<|A.block<|A.bS 13 rfl λhb1=>?_
 obtain⟨B1,K1,hB1,hK1,hm⟩:=bA hm
 refine A.lpI (l:=t.Links) (j0:=0) (B:=B1) (K:=K1) hm (λj1=>λdw=>[(3,.own 600115003),(13,lf bt t.Links),(14,i6 (t.Links.length:Int)),(15,i6 (j1:Int))]) (λj1=>λdw=>[(600115003,.slice 3 1 (ml aG dw) 0 false)]) ?_ ?_ ?_
 ·exact bp.go [.sw 115011 600115003] [] (by kernel_rfl)
 ·rintro j1 e1 Z1 dw hj1 hx1 hm
  rw[hB1]at hm
  refine qDs [] [] [(16,.bool (decide ((j1:Int)<(t.Links.length:Int))))]<|A.seq<|qT (ltT hx1)<|A.skip<|A.seq<|A.block<|qD [(0,hix (ix bt (bK hx1))),(2,.al 115005)] [16] [(5,.ptr 115005 0)] [] [(115005,.cells 67 (k3 e1))] ?_
  obtain⟨l_1,h2,hm⟩:=aa hm
  exact qG [(4,hap 115523 (ap aG (bytes:=8) (by decide) h2))] [3,5] [(3,.own 115523)] [600115003,115005] [(115523,.slice 3 1 (ml aG l_1) 0 false)]<|qGs [(0,hto (inc hx1 hb1))] [15] [(15,i6 ((j1+1:Nat):Int))]<|Exists.intro l_1 (And.intro hm (bp.go [.sw 115523 600115003] [] (by kernel_rfl)))
 rintro j1 dw hj1 hl1 hm
 rw[hK1]at hm
 refine qDs [] [] [(16,.bool (decide ((j1:Int)<(t.Links.length:Int))))]<|A.seq<|qF (ltF hl1)<|A.exit ?_
 obtain⟨h3,hm⟩:=fF hm
 refine qS [(1,hdc [] (agt (d:=600115003) (T:=3) dw (of_decide_eq_true h3)) arB)] [(3,.own 600115003)] [(600115003,.slice 3 1 (ml aG (iL dw)) 0 false)]<|qDs [] [3] [(2,.own 600115003)]<|A.ret ?_
 obtain rfl:=some_inj hm
 exact A.fin W0 [.fz [600115003]] rfl (by kernel_rfl)
theorem vh{e:aI}{receivers:List Int}{r:Int×Int}(hm:jR e t receivers=some r):RO prog 67 [] [.agg (k6 e),.agg (k7 t),lf aG receivers] (.tup [.int .u64 r.1,i6 r.2]):=by
 refine bu func67 rfl rfl ?_
 unfold jR at hm
 refine qS [(0,.al 67003),(1,.al 67004)] [(2,lf aG receivers),(3,.ptr 67003 0),(4,.ptr 67004 0)] [(67003,.cells 32 (k6 e)),(67004,.cells 63 (k7 t))]<|A.seq ?_
 obtain⟨ak,h1,hm⟩:=aa hm
 obtain⟨aO,h2,hm⟩:=aa hm
 obtain⟨bT,h3,hm⟩:=aa hm
 refine qDs [(1,hro (gi h1) abC),(3,hro (ng h2) ahR),(5,hro (tX h3) arn)] [] [(8,i6 bT)]<|qDs [] [] [(30,.bool (!decide (bT=0)))] ?_
 rcases aq hm with⟨c1,hm⟩|⟨c1,hm⟩
 ·refine qT c1<|qS [] [(6,.int .u64 (0:Int)),(7,i6 bT)] [] ?_
  cases hm
  exact A.ret qE
 refine qF c1<|A.skip<|A.seq<|qDs [] [8,30] [(9,i6 1)]<|A.block<|A.bS 2 rfl λhb1=>?_
 obtain⟨B1,K1,hB1,hK1,hm⟩:=bA hm
 refine A.lpI (l:=receivers) (j0:=1) (B:=B1) (K:=K1) hm (λj1=>λ()=>[(2,lf aG receivers),(3,.ptr 67003 0),(4,.ptr 67004 0),(9,i6 (j1:Int))]) (λj1=>λ()=>[(67003,.cells 32 (k6 e)),(67004,.cells 63 (k7 t))]) ?_ ?_ ?_
 ·exact qW
 ·rintro j1 e1 Z1 ⟨⟩ hj1 hx1 hm
  rw[hB1]at hm
  refine A.seq<|qDs [(2,hto (lnE aG receivers))] [] [(35,.bool (decide ((j1:Int)<(receivers.length:Int))))] ?_
  refine qT (ltT hx1)<|A.skip<|A.seq<|A.block ?_
  obtain⟨e_1,h4,hm⟩:=aa hm
  refine qDs [(3,hix (ix aG h4)),(7,hix (ix aG (bK hx1)))] [35] [(47,.bool (decide (e1≤e_1)))] ?_
  rcases aq hm with⟨c2,hm⟩|⟨c2,hm⟩
  ·refine qT c2<|qS [] [(6,.int .u64 (0:Int)),(7,i6 25)] [] ?_
   cases hm
   exact A.ret qE
  exact qF c2<|A.skip<|qGs [(1,hto (inc hx1 hb1))] [9,47] [(9,i6 ((j1+1:Nat):Int))]<|qX () hm
 rintro j1 ⟨⟩ hj1 hl1 hm
 rw[hK1]at hm
 refine A.seq<|qDs [(2,hto (lnE aG receivers))] [] [(35,.bool (decide ((j1:Int)<(receivers.length:Int))))] ?_
 refine qF (ltF hl1)<|A.exit ?_
 obtain⟨cI,h5,hm⟩:=aa hm
 refine qDs [(1,hro (tv h5) aro)] [9,35] [(10,lf aG cI)]<|qDs [] [] [(11,.aS)]<|A.seq<|qDs [(1,hto (lnE aG receivers))] [2] [(50,lf aG receivers),(51,i6 (receivers.length:Int)),(52,i6 0)]<|A.block<|A.bS 50 rfl λhb2=>?_
 obtain⟨B2,K2,hB2,hK2,hm⟩:=bA hm
 refine A.lpI (l:=receivers) (j0:=0) (B:=B2) (K:=K2) hm (λj2=>λnc=>[(3,.ptr 67003 0),(4,.ptr 67004 0),(10,lf aG cI),(11,.own 600067011),(50,lf aG receivers),(51,i6 (receivers.length:Int)),(52,i6 (j2:Int))]) (λj2=>λnc=>[(67003,.cells 32 (k6 e)),(67004,.cells 63 (k7 t)),(600067011,.slice 184 3 (ml cO nc) 0 false)]) ?_ ?_ ?_
 ·exact bp.go [.ad 11 600067011 184 3] [] (by kernel_rfl)
 ·rintro j2 e2 Z2 nc hj2 hx2 hm
  rw[hB2]at hm
  refine qDs [] [] [(53,.bool (decide ((j2:Int)<(receivers.length:Int))))]<|A.seq<|qT (ltT hx2)<|A.skip<|A.seq<|A.block<|qDs [(0,hix (ix aG (bK hx2)))] [53] [(13,i6 e2)]<|A.seq ?_
  obtain⟨dY,h6,hm⟩:=aa hm
  refine qDs [(2,hro (nT h6) arp)] [] [(15,.bool dY.2)]<|qDs [] [15] [(63,.bool (!dY.2))] ?_
  rcases aq hm with⟨c3,hm⟩|⟨c3,hm⟩
  ·refine qT c3<|qS [] [(6,.int .u64 (0:Int)),(7,i6 8)] [] ?_
   cases hm
   exact A.ret qE
  refine qF c3<|A.skip ?_
  obtain⟨l_1,h7,hm⟩:=aa hm
  exact qG [(5,hap 67569 (ap cO (bytes:=24) (by decide) h7))] [11,13,63] [(11,.own 67569)] [600067011] [(67569,.slice 184 3 (ml cO l_1) 0 false)]<|qGs [(0,hto (inc hx2 hb2))] [52] [(52,i6 ((j2+1:Nat):Int))]<|Exists.intro l_1 (And.intro hm (bp.go [.sw 67569 600067011] [] (by kernel_rfl)))
 rintro j2 nc hj2 hl2 hm
 rw[hK2]at hm
 refine qDs [] [] [(53,.bool (decide ((j2:Int)<(receivers.length:Int))))]<|A.seq<|qF (ltF hl2)<|A.exit<|A.seq<|qD [(2,hto (lnE bt t.Links))] [4,10,50,51,52,53] [(72,lf bt t.Links),(73,i6 (t.Links.length:Int)),(74,i6 0)] [67004] []<|A.block<|A.bS 72 rfl λhb3=>?_
 obtain⟨B3,K3,hB3,hK3,hm⟩:=bA hm
 refine A.lpI (l:=t.Links) (j0:=0) (B:=B3) (K:=K3) hm (λj3=>λgF=>[(3,.ptr 67003 0),(11,.own 600067011),(72,lf bt t.Links),(73,i6 (t.Links.length:Int)),(74,i6 (j3:Int))]) (λj3=>λgF=>[(67003,.cells 32 (k6 e)),(600067011,.slice 184 3 (ml cO gF) 0 false)]) ?_ ?_ ?_
 ·exact qW
 ·rintro j3 e3 Z3 gF hj3 hx3 hm
  rw[hB3]at hm
  refine qDs [] [] [(75,.bool (decide ((j3:Int)<(t.Links.length:Int))))]<|A.seq<|qT (ltT hx3)<|A.skip<|A.seq<|A.block<|qD [(0,hix (ix bt (bK hx3))),(2,.al 67017)] [75] [(17,.ptr 67017 0)] [] [(67017,.cells 67 (k3 e3))] ?_
  obtain⟨l_2,h8,hm⟩:=aa hm
  exact qG [(7,hap 67585 (ap cO (bytes:=24) (by decide) h8))] [11,17] [(11,.own 67585)] [600067011,67017] [(67585,.slice 184 3 (ml cO l_2) 0 false)]<|qGs [(0,hto (inc hx3 hb3))] [74] [(74,i6 ((j3+1:Nat):Int))]<|Exists.intro l_2 (And.intro hm (bp.go [.sw 67585 600067011] [] (by kernel_rfl)))
 rintro j3 gF hj3 hl3 hm
 rw[hK3]at hm
 refine qDs [] [] [(75,.bool (decide ((j3:Int)<(t.Links.length:Int))))]<|A.seq<|qF (ltF hl3)<|A.exit<|qDs [] [72,73,74,75] [(18,.int .u64 (0:Int))]<|A.seq<|qDs [(1,hto (lnE cO gF))] [11] [(87,.own 600067011),(88,i6 (gF.length:Int)),(89,i6 0)]<|A.block<|A.bW 87 rfl rfl λhb4=>?_
 obtain⟨B4,K4,hB4,hK4,hm⟩:=bA hm
 refine A.lpI (l:=gF) (j0:=0) (B:=B4) (K:=K4) hm (λj4=>λb_1=>[(3,.ptr 67003 0),(18,.int .u64 b_1),(87,.own 600067011),(88,i6 (gF.length:Int)),(89,i6 (j4:Int))]) (λj4=>λb_1=>[(67003,.cells 32 (k6 e)),(600067011,.slice 184 3 (ml cO gF) 0 false)]) ?_ ?_ ?_
 ·exact qW
 ·rintro j4 e4 Z4 b_1 hj4 hx4 hm
  rw[hB4]at hm
  refine qDs [] [] [(90,.bool (decide ((j4:Int)<(gF.length:Int))))]<|A.seq<|qT (ltT hx4)<|A.skip<|A.seq<|A.block<|qD [(0,hix (ix cO (bK hx4))),(1,hlo 600067011 0 (ix cO (bK hx4))),(2,.al 67020)] [90] [(20,.ptr 67020 0)] [] [(67020,.cells 184 (k8 e4))] ?_
  obtain⟨bD,h9,hm⟩:=aa hm
  refine qD [(2,hro (vg h9) arq)] [20] [(21,i6 bD.1),(22,.bool bD.2)] [67020] []<|A.seq<|qDs [] [22] [(100,.bool (!bD.2))] ?_
  rcases aq hm with⟨c4,hm⟩|⟨c4,hm⟩
  ·refine qT c4<|qS [] [(6,.int .u64 (0:Int)),(7,i6 4)] [] ?_
   cases hm
   exact A.ret qE
  refine qF c4<|A.skip ?_
  obtain⟨h10,hm⟩:=fF hm
  exact qGs [(2,.sh bD.1 (of_decide_eq_true h10))] [18,21,100] [(18,.int .u64 (bX .or .u64 b_1 (IntKind.wrap .u64 ((1:Int)*2 ^ min bD.1.toNat 64))))]<|qGs [(0,hto (inc hx4 hb4))] [89] [(89,i6 ((j4+1:Nat):Int))]<|qX (bX .or .u64 b_1 (IntKind.wrap .u64 ((1:Int)*2 ^ min bD.1.toNat 64))) hm
 rintro j4 b_1 hj4 hl4 hm
 rw[hK4]at hm
 refine qDs [] [] [(90,.bool (decide ((j4:Int)<(gF.length:Int))))]<|A.seq<|qF (ltF hl4)<|A.exit<|qS [] [(6,.int .u64 b_1),(7,i6 0)] [] ?_
 cases hm
 exact A.ret qE
end Go.Proofs.YtdjeacigeegklaaGreat
