/- The iJ of ee of the program. No condition but bJ aY stand in each. -/
import Derived.Test.YtdjeacigeegklaaGreatV5
namespace Go.Proofs.YtdjeacigeegklaaGreat
open Go Go.Proofs.Tryz
set_option maxRecDepth 100000
set_option linter.all false
variable {r:Bool}
theorem kg{n:Int}(hm:iu n=some r):RO prog 120 [] [i6 n] (.bool r):=by
 refine bh func120 rfl rfl ?_
 unfold iu at hm
 refine qS [] [(0,i6 n)] []<|A.mid [(2,.bool ((decide (n=8))||((decide (n=16))||((decide (n=32))||(decide (n=64))))))] [] (λhk=>?_) ?_
 ·rcases tf (decide (n=8))with c1|c1
  ·exact qS [(2,hto (bE c1)),(14,hto (orT (q:=((decide (n=16))||((decide (n=32))||(decide (n=64))))) c1))] _ _ hk
  rcases tf (decide (n=16))with c2|c2
  ·exact qS [(2,hto (bE c1)),(6,hto (bE c2)),(14,hto ((orT (q:=((decide (n=32))||(decide (n=64)))) c2).trans (orF (q:=((decide (n=16))||((decide (n=32))||(decide (n=64))))) c1)))] _ _ hk
  rcases tf (decide (n=32))with c3|c3
  ·exact qS [(2,hto (bE c1)),(6,hto (bE c2)),(10,hto (bE c3)),(14,hto (((orT (q:=decide (n=64)) c3).trans (orF (q:=((decide (n=32))||(decide (n=64)))) c2)).trans (orF (q:=((decide (n=16))||((decide (n=32))||(decide (n=64))))) c1)))] _ _ hk
  exact qS [(2,hto (bE c1)),(6,hto (bE c2)),(10,hto (bE c3)),(14,hto (((orF (q:=decide (n=64)) c3).trans (orF (q:=((decide (n=32))||(decide (n=64)))) c2)).trans (orF (q:=((decide (n=16))||((decide (n=32))||(decide (n=64))))) c1)))] _ _ hk
 cases hm
 exact A.ret qE
theorem acg{length:Int}{r:Int}(hm:rz length=some r):RO prog 150 [] [i6 length] (.int .u64 r):=by
 refine bh func150 rfl rfl ?_
 unfold rz at hm
 refine qS [] [(0,i6 length)] []<|A.seq ?_
 obtain⟨ai,h1,hm⟩:=af hm
 refine qDs [(1,hro (kg h1) afs)] [] [(5,.bool (!ai))] ?_
 rcases ak hm with⟨c1,hm⟩|⟨c1,hm⟩
 ·refine qT c1<|qS [] [(2,.int .u64 (0:Int))] [] ?_
  cases hm
  exact A.ret qE
 refine qF c1<|A.skip ?_
 obtain⟨h2,hm⟩:=fI hm
 refine qS [(2,.sh (w64 ((64:Int)-length)) (of_decide_eq_true h2))] [(2,.int .u64 (Int.fdiv (18446744073709551615:Int) (2 ^ min (w64 ((64:Int)-length)).toNat 64)))] [] ?_
 cases hm
 exact A.ret qE
theorem jP{b:Int}{length:Int}(hm:oy b length=some r):RO prog 119 [] [.int .u64 b,i6 length] (.bool r):=by
 refine bh func119 rfl rfl ?_
 unfold oy at hm
 refine qS [] [(0,.int .u64 b),(1,i6 length)] [] ?_
 obtain⟨ai,h1,hm⟩:=af hm
 rcases ak hm with⟨c1,hm⟩|⟨c1,hm⟩
 ·obtain⟨aI,h2,hm⟩:=af hm
  refine qS [(1,hro (kg h1) afs),(2,hto (bE c1)),(5,hro (acg h2) axJ)] [(4,.bool (decide (br .andNot .u64 b aI=0)))] [] ?_
  cases hm
  exact A.ret qE
 refine qS [(1,hro (kg h1) afs),(2,hto (bE c1))] [(4,.bool false)] [] ?_
 cases hm
 exact A.ret qE
theorem oA{n:Int}(hm:lG n=some r):RO prog 121 [] [i6 n] (.bool r):=by
 refine bh func121 rfl rfl ?_
 unfold lG at hm
 refine qS [] [(0,i6 n)] []<|A.mid [(2,.bool ((decide (1≤n))&&(decide (n≤99))))] [] (λhk=>?_) ?_
 ·rcases tf (decide (1≤n))with c1|c1
  ·exact qS [(2,hto (bE c1)),(6,hto (nO (q:=decide (n≤99)) c1))] _ _ hk
  exact qS [(2,hto (bE c1)),(6,hto (oK (q:=decide (n≤99)) c1))] _ _ hk
 cases hm
 exact A.ret qE
theorem uO{a:aq}{r:bN}(hm:oz a=some r):RO prog 122 [] [.agg (k5 a)] (.agg [i6 r.cc,i6 r.sU,i6 r.to_]):=by
 refine bh func122 rfl rfl ?_
 unfold oz at hm
 refine qS [(0,.al 122001),(1,.al 122002)] [(1,.ptr 122001 0),(2,.ptr 122002 0)] [(122001,.cells 38 (k5 a)),(122002,.cells 184 [i6 0,i6 0,i6 0])]<|qS [] [(2,.ptr 122002 0)] [(122002,.cells 184 [i6 a.aO,i6 a.Kind,i6 a.To])] ?_
 cases hm
 exact A.ret qE
theorem ac6:z8 prog 186 184 4 (kv lu) eo:=⟨underlying186,λ_=>rfl,λ_=>rfl,⟨_,underlying184,λ_ _=>rfl⟩,λa b w=>eqK (by kernel_rfl) (by kernel_rfl) (asb a.cc b.cc a.sU b.sU a.to_ b.to_ w),λe a w=>by kernel_rfl,λa b h=>by cases a;cases b;simpa [eo]using h,λa=>by simp[kv,lu,valOf,zN,Instr.sameBits]⟩
theorem iB{e:aC}{r:Int}(hm:gE e=some r):RO prog 69 [] [.agg (k7 e)] (i6 r):=by
 refine bh func69 rfl rfl ?_
 unfold gE at hm
 refine qS [(0,.al 69001)] [(1,.ptr 69001 0)] [(69001,.cells 32 (k7 e))]<|A.seq ?_
 obtain⟨ai,h1,hm⟩:=af hm
 refine qDs [(2,hro (kg h1) afs)] [] [(16,.bool (!ai))] ?_
 rcases ak hm with⟨c1,hm⟩|⟨c1,hm⟩
 ·refine qT c1<|qS [] [(2,i6 2)] [] ?_
  cases hm
  exact A.ret qE
 refine qF c1<|A.skip<|A.seq<|qDs [(2,hto (lnE aF e.List))] [16] [(18,lf aF e.List),(19,i6 (e.List.length:Int)),(20,i6 0)]<|A.block<|A.bS 18 rfl λhb1=>?_
 obtain⟨B1,K1,hB1,hK1,hm⟩:=bu hm
 refine A.lpI (l:=e.List) (j0:=0) (B:=B1) (K:=K1) hm (λj1=>λ()=>[(1,.ptr 69001 0),(18,lf aF e.List),(19,i6 (e.List.length:Int)),(20,i6 (j1:Int))]) (λj1=>λ()=>[(69001,.cells 32 (k7 e))]) ?_ ?_ ?_
 ·exact qW
 ·rintro j1 e1 Z1 ⟨⟩ hj1 hx1 hm
  rw[hB1]at hm
  refine qDs [] [] [(21,.bool (decide ((j1:Int)<(e.List.length:Int))))]<|A.seq<|qT (ltT hx1)<|A.skip<|A.seq<|A.block<|qD [(0,hix (ix aF (bt hx1))),(2,.al 69004)] [21] [(4,.ptr 69004 0)] [] [(69004,.cells 38 (k5 e1))] ?_
  obtain⟨J1,hJ1,hm⟩:=cw hm
  refine A.J (J:=J1) (r:=r) (λv_1=>[(1,.ptr 69001 0),(18,lf aF e.List),(19,i6 (e.List.length:Int)),(20,i6 (j1:Int)),(45,.bool v_1)]) (λv_1=>[(69001,.cells 32 (k7 e))]) ?_ ?_
  ·rcases ak hm with⟨c2,hm⟩|⟨c2,hm⟩
   ·exact qG [(3,hto (bE c2))] [4] [(45,.bool true)] [69004] []<|qX true hm
   rcases ak hm with⟨c3,hm⟩|⟨c3,hm⟩
   ·exact qG [(3,hto (bE c2)),(10,hto (bE c3))] [4] [(45,.bool true)] [69004] []<|qX true hm
   obtain⟨aI,h2,hm⟩:=af hm
   rcases ak hm with⟨c4,hm⟩|⟨c4,hm⟩
   ·exact qG [(3,hto (bE c2)),(10,hto (bE c3)),(13,hro (oA h2) aiD),(16,hto (bE c4))] [4] [(45,.bool true)] [69004] []<|qX true hm
   obtain⟨bf,h3,hm⟩:=af hm
   exact qG [(3,hto (bE c2)),(10,hto (bE c3)),(13,hro (oA h2) aiD),(16,hto (bE c4)),(19,hro (oA h3) aiD)] [4] [(45,.bool (!bf))] [69004] []<|qX (!bf) hm
  rintro v_1 hm
  rw[hJ1]at hm
  rcases ak hm with⟨c5,hm⟩|⟨c5,hm⟩
  ·refine qT c5<|qS [] [(2,i6 2)] [] ?_
   cases hm
   exact A.ret qE
  exact qF c5<|A.skip<|qGs [(0,hto (inc hx1 hb1))] [20,45] [(20,i6 ((j1+1:Nat):Int))]<|qX () hm
 rintro j1 ⟨⟩ hj1 hl1 hm
 rw[hK1]at hm
 refine qDs [] [] [(21,.bool (decide ((j1:Int)<(e.List.length:Int))))]<|A.seq<|qF (ltF hl1)<|A.exit<|A.seq<|qDs [(2,hto (lnE aF e.List))] [18,19,20,21] [(48,lf aF e.List),(49,i6 (e.List.length:Int)),(50,i6 0)]<|A.block<|A.bS 48 rfl λhb2=>?_
 obtain⟨B2,K2,hB2,hK2,hm⟩:=bu hm
 refine A.lpI (l:=e.List) (j0:=0) (B:=B2) (K:=K2) hm (λj2=>λ()=>[(1,.ptr 69001 0),(48,lf aF e.List),(49,i6 (e.List.length:Int)),(50,i6 (j2:Int))]) (λj2=>λ()=>[(69001,.cells 32 (k7 e))]) ?_ ?_ ?_
 ·exact qW
 ·rintro j2 e2 Z2 ⟨⟩ hj2 hx2 hm
  rw[hB2]at hm
  refine qDs [] [] [(51,.bool (decide ((j2:Int)<(e.List.length:Int))))]<|A.seq<|qT (ltT hx2)<|A.skip<|A.seq<|A.block<|qD [(0,hix (ix aF (bt hx2))),(2,.al 69006)] [51] [(6,.ptr 69006 0)] [] [(69006,.cells 38 (k5 e2))]<|A.mid [(1,.ptr 69001 0),(48,lf aF e.List),(49,i6 (e.List.length:Int)),(50,i6 (j2:Int)),(61,.bool ((decide (e2.Kind<1))||(decide (3<e2.Kind))))] [(69001,.cells 32 (k7 e))] (λhk=>?_) ?_
  ·rcases tf (decide (e2.Kind<1))with c6|c6
   ·exact qS [(3,hto (bE c6)),(7,hto (orT (q:=decide (3<e2.Kind)) c6))] _ _ hk
   exact qS [(3,hto (bE c6)),(7,hto (orF (q:=decide (3<e2.Kind)) c6))] _ _ hk
  rcases ak hm with⟨c7,hm⟩|⟨c7,hm⟩
  ·refine qT c7<|qS [] [(2,i6 1)] [] ?_
   cases hm
   exact A.ret qE
  exact qF c7<|A.skip<|qGs [(0,hto (inc hx2 hb2))] [50,61] [(50,i6 ((j2+1:Nat):Int))]<|qX () hm
 rintro j2 ⟨⟩ hj2 hl2 hm
 rw[hK2]at hm
 refine qDs [] [] [(51,.bool (decide ((j2:Int)<(e.List.length:Int))))]<|A.seq<|qF (ltF hl2)<|A.exit<|A.seq<|qDs [(2,hto (lnE aF e.List))] [48,49,50,51] [(64,lf aF e.List),(65,i6 (e.List.length:Int)),(66,i6 0)]<|A.block<|A.bS 64 rfl λhb3=>?_
 obtain⟨B3,K3,hB3,hK3,hm⟩:=bu hm
 refine A.lpI (l:=e.List) (j0:=0) (B:=B3) (K:=K3) hm (λj3=>λ()=>[(1,.ptr 69001 0),(64,lf aF e.List),(65,i6 (e.List.length:Int)),(66,i6 (j3:Int))]) (λj3=>λ()=>[(69001,.cells 32 (k7 e))]) ?_ ?_ ?_
 ·exact qW
 ·rintro j3 e3 Z3 ⟨⟩ hj3 hx3 hm
  rw[hB3]at hm
  refine qDs [] [] [(67,.bool (decide ((j3:Int)<(e.List.length:Int))))]<|A.seq<|qT (ltT hx3)<|A.skip<|A.seq<|A.block<|qD [(0,hix (ix aF (bt hx3))),(2,.al 69008)] [67] [(8,.ptr 69008 0)] [] [(69008,.cells 38 (k5 e3))]<|qD [] [8] [(78,.bool (!((decide (e3.To=e3.aO))==(decide (e3.Kind=3)))))] [69008] [] ?_
  rcases ak hm with⟨c8,hm⟩|⟨c8,hm⟩
  ·refine qT c8<|qS [] [(2,i6 8)] [] ?_
   cases hm
   exact A.ret qE
  exact qF c8<|A.skip<|qGs [(0,hto (inc hx3 hb3))] [66,78] [(66,i6 ((j3+1:Nat):Int))]<|qX () hm
 rintro j3 ⟨⟩ hj3 hl3 hm
 rw[hK3]at hm
 refine qDs [] [] [(67,.bool (decide ((j3:Int)<(e.List.length:Int))))]<|A.seq<|qF (ltF hl3)<|A.exit<|A.seq<|qDs [] [64,65,66,67] [(9,i6 1)]<|A.block<|A.bC 1 1 rfl rfl rfl λhb4=>?_
 obtain⟨B4,K4,hB4,hK4,hm⟩:=bu hm
 refine A.lpI (l:=e.List) (j0:=1) (B:=B4) (K:=K4) hm (λj4=>λ()=>[(1,.ptr 69001 0),(9,i6 (j4:Int))]) (λj4=>λ()=>[(69001,.cells 32 (k7 e))]) ?_ ?_ ?_
 ·exact qW
 ·rintro j4 e4 Z4 ⟨⟩ hj4 hx4 hm
  rw[hB4]at hm
  refine A.seq<|qDs [(3,hto (lnE aF e.List))] [] [(84,.bool (decide ((j4:Int)<(e.List.length:Int))))] ?_
  refine qT (ltT hx4)<|A.skip<|A.seq<|A.block ?_
  obtain⟨e_1,h4,hm⟩:=af hm
  refine qDs [(4,hix (ix aF h4)),(10,hix (ix aF (bt hx4)))] [84] [(100,.bool (decide (e4.Bit≤e_1.Bit)))] ?_
  rcases ak hm with⟨c9,hm⟩|⟨c9,hm⟩
  ·refine qT c9<|qS [] [(2,i6 25)] [] ?_
   cases hm
   exact A.ret qE
  exact qF c9<|A.skip<|qGs [(1,hto (inc hx4 hb4))] [9,100] [(9,i6 ((j4+1:Nat):Int))]<|qX () hm
 rintro j4 ⟨⟩ hj4 hl4 hm
 rw[hK4]at hm
 refine A.seq<|qDs [(3,hto (lnE aF e.List))] [] [(84,.bool (decide ((j4:Int)<(e.List.length:Int))))] ?_
 refine qF (ltF hl4)<|A.exit<|qD [(0,hmm 69101 184 4)] [9,84] [(10,.cD 69101)] [] [(69101,.map 184 4 (jg (kv lu) vB []))]<|A.seq<|qD [(2,hto (lnE aF e.List))] [1] [(103,lf aF e.List),(104,i6 (e.List.length:Int)),(105,i6 0)] [69001] []<|A.block<|A.bS 103 rfl λhb5=>?_
 obtain⟨B5,K5,hB5,hK5,hm⟩:=bu hm
 refine A.lpI (l:=e.List) (j0:=0) (B:=B5) (K:=K5) hm (λj5=>λm_1=>[(10,.cD 69101),(103,lf aF e.List),(104,i6 (e.List.length:Int)),(105,i6 (j5:Int))]) (λj5=>λm_1=>[(69101,.map 184 4 (jg (kv lu) vB m_1))]) ?_ ?_ ?_
 ·exact qW
 ·rintro j5 e5 Z5 m_1 hj5 hx5 hm
  rw[hB5]at hm
  refine qDs [] [] [(106,.bool (decide ((j5:Int)<(e.List.length:Int))))]<|A.seq<|qT (ltT hx5)<|A.skip<|A.seq<|A.block<|qD [(0,hix (ix aF (bt hx5))),(2,.al 69012)] [106] [(12,.ptr 69012 0)] [] [(69012,.cells 38 (k5 e5))]<|A.seq ?_
  obtain⟨bB,h5,hm⟩:=af hm
  refine qDs [(2,hro (uO h5) anv),(3,hlK m_1 bB vB false ac6 (zB zeroValue4))] [] [(112,.bool ((kJ eo m_1 bB).getD false))] ?_
  rcases ak hm with⟨c10,hm⟩|⟨c10,hm⟩
  ·refine qT c10<|qS [] [(2,i6 5)] [] ?_
   cases hm
   exact A.ret qE
  refine qF c10<|A.skip ?_
  obtain⟨bD,h6,hm⟩:=af hm
  exact qG [(2,hro (uO h6) anv),(3,hmK m_1 bD vB true ac6 rfl)] [12,112] [] [69101,69012] [(69101,.map 184 4 (jg (kv lu) vB (qx eo m_1 bD true)))]<|qGs [(0,hto (inc hx5 hb5))] [105] [(105,i6 ((j5+1:Nat):Int))]<|qX (qx eo m_1 bD true) hm
 rintro j5 m_1 hj5 hl5 hm
 rw[hK5]at hm
 refine qDs [] [] [(106,.bool (decide ((j5:Int)<(e.List.length:Int))))]<|A.seq<|qF (ltF hl5)<|A.exit<|qS [] [(2,i6 0)] [] ?_
 cases hm
 exact A.ret qE
theorem uv{e:aC}{aS:Int}{r:Int}(hm:lP e aS=some r):RO prog 105 [] [.agg (k7 e),i6 aS] (.int .u64 r):=by
 refine bh func105 rfl rfl ?_
 unfold lP at hm
 refine qS [(0,.al 105002)] [(1,i6 aS),(2,.ptr 105002 0)] [(105002,.cells 32 (k7 e))]<|qDs [] [] [(5,.int .u64 (0:Int))] ?_
 obtain⟨J1,hJ1,hm⟩:=cw hm
 refine A.J (J:=J1) (r:=r) (λb_1=>[(5,.int .u64 b_1)]) (λb_1=>[]) ?_ ?_
 ·obtain⟨ai,h1,hm⟩:=af hm
  refine qDs [(1,hro (iB h1) af8)] [] [(10,.bool (decide (ai=0)))] ?_
  rcases ak hm with⟨c1,hm⟩|⟨c1,hm⟩
  ·refine qT c1<|qD [(2,hto (lnE aF e.List))] [2,10] [(12,lf aF e.List),(13,i6 (e.List.length:Int)),(14,i6 0)] [105002] []<|A.block<|A.bS 12 rfl λhb1=>?_
   obtain⟨B1,K1,hB1,hK1,hm⟩:=bu hm
   refine A.lpI (l:=e.List) (j0:=0) (B:=B1) (K:=K1) hm (λj1=>λb_2=>[(1,i6 aS),(5,.int .u64 b_2),(12,lf aF e.List),(13,i6 (e.List.length:Int)),(14,i6 (j1:Int))]) (λj1=>λb_2=>[]) ?_ ?_ ?_
   ·exact qW
   ·rintro j1 e1 Z1 b_2 hj1 hx1 hm
    rw[hB1]at hm
    refine qDs [] [] [(15,.bool (decide ((j1:Int)<(e.List.length:Int))))]<|A.seq<|qT (ltT hx1)<|A.skip ?_
    obtain⟨J2,hJ2,hm⟩:=cw hm
    refine A.J (J:=J2) (r:=r) (λb_3=>[(1,i6 aS),(5,.int .u64 b_3),(12,lf aF e.List),(13,i6 (e.List.length:Int)),(14,i6 (j1:Int))]) (λb_3=>[]) ?_ ?_
    ·refine A.block<|qD [(0,hix (ix aF (bt hx1))),(2,.al 105007)] [15] [(7,.ptr 105007 0)] [] [(105007,.cells 38 (k5 e1))] ?_
     refine qDs [] [] [(21,.bool (decide (e1.aO=aS)))] ?_
     rcases ak hm with⟨c2,hm⟩|⟨c2,hm⟩
     ·refine qT c2 ?_
      obtain⟨h2,hm⟩:=fI hm
      exact qG [(3,.sh e1.Bit (of_decide_eq_true h2))] [5,7,21] [(5,.int .u64 (br .or .u64 b_2 (IntKind.wrap .u64 ((1:Int)*2 ^ min e1.Bit.toNat 64))))] [105007] []<|qX (br .or .u64 b_2 (IntKind.wrap .u64 ((1:Int)*2 ^ min e1.Bit.toNat 64))) hm
     exact qF c2<|A.skip<|qX b_2 hm
    rintro b_3 hm
    rw[hJ2]at hm
    exact qGs [(0,hto (inc hx1 hb1))] [14] [(14,i6 ((j1+1:Nat):Int))]<|qX b_3 hm
   rintro j1 b_2 hj1 hl1 hm
   rw[hK1]at hm
   exact qDs [] [] [(15,.bool (decide ((j1:Int)<(e.List.length:Int))))]<|A.seq<|qF (ltF hl1)<|A.exit<|qX b_2 hm
  exact qF c1<|A.skip<|qX (0:Int) hm
 rintro b_1 hm
 rw[hJ1]at hm
 refine qS [] [(4,.int .u64 b_1)] [] ?_
 cases hm
 exact A.ret qE
end Go.Proofs.YtdjeacigeegklaaGreat
