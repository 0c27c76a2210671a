/- The ew of cA of the program. No condition but bM bw stand in each. -/
import Derived.Test.YtjdopimopgpagaaGreatDA
namespace Go.Proofs.YtjdopimopgpagaaGreat
open Go Go.Proofs.Tryz
set_option maxRecDepth 100000
set_option linter.all false
theorem wW{l:List Int}{i:Int}{r:Int}(hm:lD l i=some r):RO prog 209 [] [lf (eK .u8) l,i6 i] (.int .u64 r):=by
 refine aZ func209 rfl rfl ?_
 unfold lD at hm
 refine qS [] [(0,lf (eK .u8) l),(1,i6 i)] [] ?_
 obtain⟨e_1,h1,hm⟩:=aa hm
 obtain⟨h2,hm⟩:=fA hm
 refine qS [(2,.qr (8:Int) (by decide)),(3,hix (ix (eK .u8) h1)),(6,.qr (8:Int) (by decide)),(9,.sh (IntKind.wrap .u64 (w64 ((7:Int)-(Int.tmod i (8:Int))))) (of_decide_eq_true h2))] [(4,.int .u64 (dx .and .u64 (IntKind.wrap .u64 (Int.fdiv e_1 (2 ^ min (IntKind.wrap .u64 (w64 ((7:Int)-(Int.tmod i (8:Int))))).toNat 8))) (1:Int)))] [] ?_
 cases hm
 exact A.ret qE
variable {sa0:bp}
theorem rz{r:Bool}(hm:kO sa0=some r):RO prog 208 [] [.agg [lf (eK .u8) sa0.Data,i6 sa0.Bits]] (.bool r):=by
 refine aZ func208 rfl rfl ?_
 unfold kO at hm
 refine qS [(0,.al 208001)] [(1,.ptr 208001 0)] [(208001,.cells 208 [lf (eK .u8) sa0.Data,i6 sa0.Bits])]<|A.seq<|A.mid [(1,.ptr 208001 0),(21,.bool ((decide (sa0.Bits<0))||((decide (8192<sa0.Bits))||(!decide ((sa0.Data.length:Int)=w64 (Int.tdiv (w64 (sa0.Bits+7)) (8:Int)))))))] [(208001,.cells 208 [lf (eK .u8) sa0.Data,i6 sa0.Bits])] (λhk=>?_) ?_
 ·rcases tf (decide (sa0.Bits<0))with c1|c1
  ·exact qS [(3,hto (bE c1)),(17,hto (orT (q:=((decide (8192<sa0.Bits))||(!decide ((sa0.Data.length:Int)=w64 (Int.tdiv (w64 (sa0.Bits+7)) (8:Int)))))) c1))] _ _ hk
  rcases tf (decide (8192<sa0.Bits))with c2|c2
  ·exact qS [(3,hto (bE c1)),(8,hto (bE c2)),(17,hto ((orT (q:=!decide ((sa0.Data.length:Int)=w64 (Int.tdiv (w64 (sa0.Bits+7)) (8:Int)))) c2).trans (orF (q:=((decide (8192<sa0.Bits))||(!decide ((sa0.Data.length:Int)=w64 (Int.tdiv (w64 (sa0.Bits+7)) (8:Int)))))) c1)))] _ _ hk
  exact qS [(3,hto (bE c1)),(8,hto (bE c2)),(11,hto (lnE (eK .u8) sa0.Data)),(15,.qr (8:Int) (by decide)),(17,hto ((orF (q:=!decide ((sa0.Data.length:Int)=w64 (Int.tdiv (w64 (sa0.Bits+7)) (8:Int)))) c2).trans (orF (q:=((decide (8192<sa0.Bits))||(!decide ((sa0.Data.length:Int)=w64 (Int.tdiv (w64 (sa0.Bits+7)) (8:Int)))))) c1)))] _ _ hk
 rcases aq hm with⟨c3,hm⟩|⟨c3,hm⟩
 ·refine qT c3<|qS [] [(2,.bool false)] [] ?_
  cases hm
  exact A.ret qE
 refine qF c3<|A.skip<|A.seq<|qDs [] [21] [(3,i6 sa0.Bits)]<|A.block ?_
 obtain⟨F1,n1,hF1,hm⟩:=gw hm
 refine A.lpW (F:=F1) hm (λi_1=>[(1,.ptr 208001 0),(3,i6 i_1)]) (λi_1=>[(208001,.cells 208 [lf (eK .u8) sa0.Data,i6 sa0.Bits])]) ?_ ?_
 ·exact qW
 rintro Z1 i_1 hm
 rw[hF1]at hm
 refine A.seq<|qDs [(3,hto (lnE (eK .u8) sa0.Data))] [] [(29,.bool (decide (i_1<w64 ((8:Int)*(sa0.Data.length:Int)))))] ?_
 rcases aq hm with⟨c4,hm⟩|⟨c4,hm⟩
 ·refine qT c4<|A.skip<|A.seq<|A.block ?_
  obtain⟨af,h1,hm⟩:=aa hm
  refine qDs [(3,hro (wW h1) akd)] [29] [(36,.bool (!decide (af=0)))] ?_
  rcases aq hm with⟨c5,hm⟩|⟨c5,hm⟩
  ·refine qT c5<|qS [] [(2,.bool false)] [] ?_
   cases hm
   exact A.ret qE
  exact qF c5<|A.skip<|qGs [] [3,36] [(3,i6 (w64 (i_1+1)))]<|qX (w64 (i_1+1)) hm
 refine qF c4<|A.exit<|qS [] [(2,.bool true)] [] ?_
 cases hm
 exact A.ret qE
theorem wX{b:Int}{r:bp}(hm:oN sa0 b=some r):RO prog 210 [] [.agg [lf (eK .u8) sa0.Data,i6 sa0.Bits],.int .u64 b] (.agg [lf (eK .u8) r.Data,i6 r.Bits]):=by
 refine aZ func210 rfl rfl ?_
 unfold oN at hm
 refine qS [(0,.al 210002),(1,.al 210004)] [(1,.int .u64 b),(2,.ptr 210002 0),(4,.ptr 210004 0)] [(210002,.cells 208 [lf (eK .u8) sa0.Data,i6 sa0.Bits]),(210004,.cells 208 [.aI,i6 0])]<|qDs [] [] [(5,.aI)] ?_
 obtain⟨l_1,h1,hm⟩:=aa hm
 refine qD [(3,hap 210509 (ap (eK .u8) (bytes:=1) (by decide) h1))] [5] [(5,.own 210509)] [] [(210509,.slice 5 1 (ml (eK .u8) l_1) 0 false)] ?_
 obtain⟨J1,hJ1,hm⟩:=bI hm
 refine A.J (J:=J1) (r:=r) (λl_2=>[(1,.int .u64 b),(2,.ptr 210002 0),(4,.ptr 210004 0),(5,.own 600210005)]) (λl_2=>[(210002,.cells 208 [lf (eK .u8) sa0.Data,i6 sa0.Bits]),(210004,.cells 208 [.aI,i6 0]),(600210005,.slice 5 1 (ml (eK .u8) l_2) 0 false)]) ?_ ?_
 ·refine qDs [(2,.qr (8:Int) (by decide))] [] [(13,.bool (decide (Int.tmod sa0.Bits (8:Int)=(0:Int))))] ?_
  rcases aq hm with⟨c1,hm⟩|⟨c1,hm⟩
  ·refine qT c1 ?_
   obtain⟨l_3,h2,hm⟩:=aa hm
   exact qG [(2,hap 210516 (ap (eK .u8) (bytes:=1) (by decide) h2))] [5,13] [(5,.own 210516)] [210509] [(210516,.slice 5 1 (ml (eK .u8) l_3) 0 false)]<|Exists.intro l_3 (And.intro hm (bz.go [.sw 210516 600210005] [] (by kernel_rfl)))
  exact qF c1<|A.skip<|Exists.intro l_1 (And.intro hm (bz.go [.sw 210509 600210005] [] (by kernel_rfl)))
 rintro l_2 hm
 rw[hJ1]at hm
 obtain⟨J2,hJ2,hm⟩:=bI hm
 refine A.J (J:=J2) (r:=r) (λl_4=>[(2,.ptr 210002 0),(4,.ptr 210004 0),(5,.own 600210005)]) (λl_4=>[(210002,.cells 208 [lf (eK .u8) sa0.Data,i6 sa0.Bits]),(210004,.cells 208 [.aI,i6 0]),(600210005,.slice 5 1 (ml (eK .u8) l_4) 0 false)]) ?_ ?_
 ·refine qDs [] [1] [(18,.bool (decide (b=1)))] ?_
  rcases aq hm with⟨c2,hm⟩|⟨c2,hm⟩
  ·refine qT c2 ?_
   obtain⟨e_1,h3,hm⟩:=aa hm
   obtain⟨h4,hm⟩:=fA hm
   obtain⟨l_5,h5,hm⟩:=aa hm
   exact qG [(3,.qr (8:Int) (by decide)),(4,hix (ix (eK .u8) h3)),(5,hlo 600210005 0 (ix (eK .u8) h3)),(8,.qr (8:Int) (by decide)),(11,.sh (IntKind.wrap .u64 (w64 ((7:Int)-(Int.tmod sa0.Bits (8:Int))))) (of_decide_eq_true h4)),(13,hix (ix (eK .u8) h3)),(14,hso 600210005 (st (eK .u8) (off:=0) (ca:=[.int .u8 (dx .or .u8 e_1 (IntKind.wrap .u8 ((1:Int)*2 ^ min (IntKind.wrap .u64 (w64 ((7:Int)-(Int.tmod sa0.Bits (8:Int))))).toNat 8)))]) h3 h5 rfl) (iu h3).1.1)] [18] [] [600210005] [(600210005,.slice 5 1 (ml (eK .u8) l_5) 0 false)]<|qX l_5 hm
  exact qF c2<|A.skip<|qX l_2 hm
 rintro l_4 hm
 rw[hJ2]at hm
 refine qD [] [2,5] [] [210002,210004] [(210004,.cells 208 [.own 600210005,i6 (w64 (sa0.Bits+1))])]<|A.ret ?_
 obtain rfl:=some_inj hm
 exact A.fin W0 [.fz [600210005]] rfl (by kernel_rfl)
variable {r:bp×Int}
theorem zZ{value:Int}{n:Int}(hm:nI sa0 value n=some r):RO prog 207 [] [.agg [lf (eK .u8) sa0.Data,i6 sa0.Bits],.int .u64 value,i6 n] (.tup [.agg [lf (eK .u8) r.1.Data,i6 r.1.Bits],i6 r.2]):=by
 refine aZ func207 rfl rfl ?_
 unfold nI at hm
 refine qS [(0,.al 207003),(1,.al 207006)] [(1,.int .u64 value),(2,i6 n),(3,.ptr 207003 0),(6,.ptr 207006 0)] [(207003,.cells 208 [lf (eK .u8) sa0.Data,i6 sa0.Bits]),(207006,.cells 208 [.aI,i6 0])]<|A.seq ?_
 obtain⟨af,h1,hm⟩:=aa hm
 refine qDs [(1,hro (rz h1) agj)] [] [(11,.bool (!af))] ?_
 rcases aq hm with⟨c1,hm⟩|⟨c1,hm⟩
 ·refine qT c1<|qD [] [1,2,3,11] [(7,i6 1)] [207003] [] ?_
  cases hm
  exact A.ret qE
 refine qF c1<|A.skip<|A.seq ?_
 obtain⟨J1,hJ1,hm⟩:=bI hm
 refine A.J (J:=J1) (r:=r) (λv_1=>[(1,.int .u64 value),(2,i6 n),(3,.ptr 207003 0),(6,.ptr 207006 0),(29,.bool v_1)]) (λv_1=>[(207003,.cells 208 [lf (eK .u8) sa0.Data,i6 sa0.Bits]),(207006,.cells 208 [.aI,i6 0])]) ?_ ?_
 ·rcases aq hm with⟨c2,hm⟩|⟨c2,hm⟩
  ·exact qGs [(2,hto (bE c2))] [11] [(29,.bool true)]<|qX true hm
  rcases aq hm with⟨c3,hm⟩|⟨c3,hm⟩
  ·exact qGs [(2,hto (bE c2)),(6,hto (bE c3))] [11] [(29,.bool true)]<|qX true hm
  rcases aq hm with⟨c4,hm⟩|⟨c4,hm⟩
  ·obtain⟨h2,hm⟩:=fA hm
   exact qGs [(2,hto (bE c2)),(6,hto (bE c3)),(9,hto (bE c4)),(13,.sh (IntKind.wrap .u64 n) (of_decide_eq_true h2))] [11] [(29,.bool (!decide (Int.fdiv value (2 ^ min (IntKind.wrap .u64 n).toNat 64)=(0:Int))))]<|qX (!decide (Int.fdiv value (2 ^ min (IntKind.wrap .u64 n).toNat 64)=(0:Int))) hm
  exact qGs [(2,hto (bE c2)),(6,hto (bE c3)),(9,hto (bE c4))] [11] [(29,.bool false)]<|qX false hm
 rintro v_1 hm
 rw[hJ1]at hm
 rcases aq hm with⟨c5,hm⟩|⟨c5,hm⟩
 ·refine qT c5<|qD [] [1,2,3,29] [(7,i6 2)] [207003] [] ?_
  cases hm
  exact A.ret qE
 refine qF c5<|A.skip<|A.seq<|qDs [] [29] [(35,.bool (decide (8192<w64 (sa0.Bits+n))))] ?_
 rcases aq hm with⟨c6,hm⟩|⟨c6,hm⟩
 ·refine qT c6<|qD [] [1,2,3,35] [(7,i6 3)] [207003] [] ?_
  cases hm
  exact A.ret qE
 refine qF c6<|A.skip<|A.seq<|qDs [] [2,35] [(8,i6 (w64 (n-1)))]<|A.block ?_
 obtain⟨F1,n1,hF1,hm⟩:=gw hm
 refine A.lpW (F:=F1) hm (λ(i_1,m_1,m_2)=>[(1,.int .u64 value),(3,.ptr 207003 0),(6,.ptr 207006 0),(8,i6 i_1)]) (λ(i_1,m_1,m_2)=>[(207003,.cells 208 [lf (eK .u8) m_1,i6 m_2]),(207006,.cells 208 [.aI,i6 0])]) ?_ ?_
 ·exact qW
 rintro Z1 ⟨i_1,m_1,m_2⟩ hm
 rw[hF1]at hm
 refine A.seq<|qDs [] [] [(40,.bool (decide (0≤i_1)))] ?_
 rcases aq hm with⟨c7,hm⟩|⟨c7,hm⟩
 ·refine qT c7<|A.skip<|A.seq<|A.block ?_
  obtain⟨h3,hm⟩:=fA hm
  obtain⟨aD,h4,hm⟩:=aa hm
  exact qG [(4,.sh (IntKind.wrap .u64 i_1) (of_decide_eq_true h3)),(6,hro (wX h4) ake)] [40] [] [207003] [(207003,.cells 208 [lf (eK .u8) aD.Data,i6 aD.Bits])]<|qGs [] [8] [(8,i6 (w64 (i_1-1)))]<|qX (w64 (i_1-1),aD.Data,aD.Bits) hm
 refine qF c7<|A.exit<|qS [] [(6,.ptr 207006 0),(7,i6 0)] [(207006,.cells 208 [lf (eK .u8) m_1,i6 m_2])] ?_
 cases hm
 exact A.ret qE
theorem aa1(hm:oH sa0=some r):RO prog 197 [] [.agg [lf (eK .u8) sa0.Data,i6 sa0.Bits]] (.tup [.agg [lf (eK .u8) r.1.Data,i6 r.1.Bits],i6 r.2]):=by
 refine aZ func197 rfl rfl ?_
 unfold oH at hm
 refine qS [(0,.al 197001),(1,.al 197002)] [(1,.ptr 197001 0),(2,.ptr 197002 0)] [(197001,.cells 208 [lf (eK .u8) sa0.Data,i6 sa0.Bits]),(197002,.cells 208 [.aI,i6 0])]<|A.seq ?_
 obtain⟨af,h1,hm⟩:=aa hm
 refine qDs [(1,hro (rz h1) agj)] [] [(6,.bool (!af))] ?_
 rcases aq hm with⟨c1,hm⟩|⟨c1,hm⟩
 ·refine qT c1<|qD [] [1,6] [(3,i6 1)] [197001] [] ?_
  cases hm
  exact A.ret qE
 refine qF c1<|A.skip<|A.seq<|A.block ?_
 obtain⟨F1,n1,hF1,hm⟩:=gw hm
 refine A.lpW (F:=F1) hm (λ(m_1,m_2)=>[(1,.ptr 197001 0),(2,.ptr 197002 0)]) (λ(m_1,m_2)=>[(197001,.cells 208 [lf (eK .u8) m_1,i6 m_2]),(197002,.cells 208 [.aI,i6 0])]) ?_ ?_
 ·exact qW
 rintro Z1 ⟨m_1,m_2⟩ hm
 rw[hF1]at hm
 refine A.seq<|qDs [(2,.qr (8:Int) (by decide))] [] [(11,.bool (!decide (Int.tmod m_2 (8:Int)=(0:Int))))] ?_
 rcases aq hm with⟨c2,hm⟩|⟨c2,hm⟩
 ·refine qT c2<|A.skip<|A.block ?_
  obtain⟨aD,h2,hm⟩:=aa hm
  exact qG [(1,hro (wX h2) ake)] [11] [] [197001] [(197001,.cells 208 [lf (eK .u8) aD.Data,i6 aD.Bits])]<|qX (aD.Data,aD.Bits) hm
 refine qF c2<|A.exit<|qS [] [(2,.ptr 197002 0),(3,i6 0)] [(197002,.cells 208 [lf (eK .u8) m_1,i6 m_2])] ?_
 cases hm
 exact A.ret qE
theorem aa2{r:Int×Int}(hm:jl sa0=some r):RO prog 196 [] [.agg [lf (eK .u8) sa0.Data,i6 sa0.Bits]] (.tup [.int .u64 r.1,i6 r.2]):=by
 refine aZ func196 rfl rfl ?_
 unfold jl at hm
 refine qS [(0,.al 196001)] [(1,.ptr 196001 0)] [(196001,.cells 208 [lf (eK .u8) sa0.Data,i6 sa0.Bits])]<|A.seq ?_
 obtain⟨af,h1,hm⟩:=aa hm
 refine qDs [(1,hro (rz h1) agj)] [] [(9,.bool (!af))] ?_
 rcases aq hm with⟨c1,hm⟩|⟨c1,hm⟩
 ·refine qT c1<|qS [] [(2,.int .u64 (0:Int)),(3,i6 1)] [] ?_
  cases hm
  exact A.ret qE
 refine qF c1<|A.skip<|qDs [] [9] [(4,.int .u64 (65535:Int))]<|A.seq<|qDs [] [] [(5,i6 0)]<|A.block ?_
 obtain⟨hh1,hm⟩:=fA hm
 obtain⟨B1,K1,hB1,hK1,hm⟩:=jW hm
 refine A.lpN (hi:=sa0.Bits) (B:=B1) (K:=K1) hm rfl (λj1=>λpL=>[(1,.ptr 196001 0),(4,.int .u64 pL),(5,i6 (j1:Int))]) (λj1=>λpL=>[(196001,.cells 208 [lf (eK .u8) sa0.Data,i6 sa0.Bits])]) ?_ ?_ ?_
 ·exact qW
 ·rintro j1 Z1 pL hj1 hx1 hm
  rw[hB1]at hm
  refine A.seq<|qDs [] [] [(13,.bool (decide ((j1:Int)<sa0.Bits)))] ?_
  refine A.cT rfl (decide_eq_true hx1)<|A.skip ?_
  obtain⟨J1,hJ1,hm⟩:=bI hm
  refine A.J (J:=J1) (r:=r) (λacj=>[(1,.ptr 196001 0),(4,.int .u64 acj),(5,i6 (j1:Int))]) (λacj=>[(196001,.cells 208 [lf (eK .u8) sa0.Data,i6 sa0.Bits])]) ?_ ?_
  ·refine A.block<|qDs [(1,.sh (15:Int) (by decide))] [13] [(6,.int .u64 (Int.fdiv pL (2 ^ min (15:Int).toNat 64)))] ?_
   refine qDs [(1,.sh (1:Int) (by decide))] [4] [(4,.int .u64 (dx .and .u64 (IntKind.wrap .u64 (pL*2 ^ min (1:Int).toNat 64)) (65535:Int)))] ?_
   obtain⟨aD,h2,hm⟩:=aa hm
   refine qDs [(4,hro (wW h2) akd)] [6] [(26,.bool (!decide (Int.fdiv pL (2 ^ min (15:Int).toNat 64)=aD)))] ?_
   rcases aq hm with⟨c2,hm⟩|⟨c2,hm⟩
   ·exact qT c2<|qGs [] [4,26] [(4,.int .u64 (dx .xor .u64 (dx .and .u64 (IntKind.wrap .u64 (pL*2 ^ min (1:Int).toNat 64)) (65535:Int)) (4129:Int)))]<|qX (dx .xor .u64 (dx .and .u64 (IntKind.wrap .u64 (pL*2 ^ min (1:Int).toNat 64)) (65535:Int)) (4129:Int)) hm
   exact qF c2<|A.skip<|qX (dx .and .u64 (IntKind.wrap .u64 (pL*2 ^ min (1:Int).toNat 64)) (65535:Int)) hm
  rintro acj hm
  rw[hJ1]at hm
  exact qGs [(1,hto (vl (by omega) hx1 (of_decide_eq_true hh1)))] [5] [(5,i6 (j1+1:Int))]<|qX acj hm
 rintro j1 pL hj1 hl1 hm
 rw[hK1]at hm
 refine A.seq<|qDs [] [] [(13,.bool (decide ((j1:Int)<sa0.Bits)))] ?_
 refine A.cF rfl (geF hl1)<|A.exit<|qS [] [(2,.int .u64 pL),(3,i6 0)] [] ?_
 cases hm
 exact A.ret qE
theorem abC{length:Int}{r:Int}(hm:pM length=some r):RO prog 195 [] [i6 length] (i6 r):=by
 refine aZ func195 rfl rfl ?_
 unfold pM at hm
 refine qS [] [(0,i6 length)] []<|qDs [] [] [(3,i6 0)]<|A.seq<|A.block ?_
 obtain⟨F1,n1,hF1,hm⟩:=gw hm
 refine A.lpW (F:=F1) hm (λ(ou,n_1)=>[(0,i6 ou),(3,i6 n_1)]) (λ(ou,n_1)=>[]) ?_ ?_
 ·exact qW
 rintro Z1 ⟨ou,n_1⟩ hm
 rw[hF1]at hm
 refine A.seq<|qDs [] [] [(5,.bool (decide (8<ou)))] ?_
 rcases aq hm with⟨c1,hm⟩|⟨c1,hm⟩
 ·exact qT c1<|A.skip<|A.block<|qDs [(1,.qr (2:Int) (by decide))] [0,5] [(0,i6 (w64 (Int.tdiv ou (2:Int))))]<|qGs [] [3] [(3,i6 (w64 (n_1+1)))]<|qX (w64 (Int.tdiv ou (2:Int)),w64 (n_1+1)) hm
 refine qF c1<|A.exit<|qS [] [(2,i6 n_1)] [] ?_
 cases hm
 exact A.ret qE
end Go.Proofs.YtjdopimopgpagaaGreat
