/- The eN of cu of the program. No condition but bH bq stand in each. -/
import Derived.Test.YtjdopimopgpagaaGreatDA
namespace Go.Proofs.YtjdopimopgpagaaGreat
open Go Go.Proofs.Tryz
set_option maxRecDepth 100000
set_option linter.all false
variable {r:Int}
theorem aba{n:Int}(hm:oV n=some r):RO prog 218 [] [i6 n] (i6 r):=by
 refine aZ func218 rfl rfl ?_
 unfold oV at hm
 refine qS [] [(0,i6 n)] []<|qS [(2,.qr (8:Int) (by decide))] [(2,i6 (w64 (Int.tdiv (w64 (n+7)) (8:Int))))] [] ?_
 cases hm
 exact A.ret qE
variable {sa0:bp}
theorem vM{r:Bool}(hm:mF sa0=some r):RO prog 214 [] [.agg [lf (eK .u8) sa0.Data,i6 sa0.Bits]] (.bool r):=by
 refine aZ func214 rfl rfl ?_
 unfold mF at hm
 refine qS [(0,.al 214001)] [(1,.ptr 214001 0)] [(214001,.cells 208 [lf (eK .u8) sa0.Data,i6 sa0.Bits])]<|A.seq ?_
 obtain⟨J1,hJ1,hm⟩:=bQ hm
 refine A.J (J:=J1) (r:=r) (λv_1=>[(1,.ptr 214001 0),(20,.bool v_1)]) (λv_1=>[(214001,.cells 208 [lf (eK .u8) sa0.Data,i6 sa0.Bits])]) ?_ ?_
 ·rcases az hm with⟨c1,hm⟩|⟨c1,hm⟩
  ·exact qGs [(3,hto (bE c1))] [] [(20,.bool true)]<|qX true hm
  rcases az hm with⟨c2,hm⟩|⟨c2,hm⟩
  ·exact qGs [(3,hto (bE c1)),(8,hto (bE c2))] [] [(20,.bool true)]<|qX true hm
  obtain⟨ah,h1,hm⟩:=aa hm
  exact qGs [(3,hto (bE c1)),(8,hto (bE c2)),(11,hto (lnE (eK .u8) sa0.Data)),(14,hro (aba h1) atr)] [] [(20,.bool (!decide ((sa0.Data.length:Int)=ah)))]<|qX (!decide ((sa0.Data.length:Int)=ah)) hm
 rintro v_1 hm
 rw[hJ1]at hm
 rcases az hm with⟨c3,hm⟩|⟨c3,hm⟩
 ·refine qT c3<|qS [] [(2,.bool false)] [] ?_
  cases hm
  exact A.ret qE
 refine qF c3<|A.skip<|qDs [(2,hto (lnE (eK .u8) sa0.Data))] [20] [(3,i6 (w64 ((w64 ((8:Int)*(sa0.Data.length:Int)))-sa0.Bits)))] ?_
 rcases az hm with⟨c4,hm⟩|⟨c4,hm⟩
 ·refine qS [(2,hto (bE c4))] [(2,.bool true)] [] ?_
  cases hm
  exact A.ret qE
 obtain⟨e_1,h2,hm⟩:=aa hm
 obtain⟨h3,hm⟩:=iB hm
 refine qS [(2,hto (bE c4)),(7,hto (lnE (eK .u8) sa0.Data)),(9,hix (ix (eK .u8) h2)),(13,.sh (w64 ((8:Int)-(w64 ((w64 ((8:Int)*(sa0.Data.length:Int)))-sa0.Bits)))) (of_decide_eq_true h3))] [(2,.bool (decide (IntKind.wrap .u8 (e_1*2 ^ min (w64 ((8:Int)-(w64 ((w64 ((8:Int)*(sa0.Data.length:Int)))-sa0.Bits)))).toNat 8)=(0:Int))))] [] ?_
 cases hm
 exact A.ret qE
theorem acw{i:Int}(hm:qZ sa0 i=some r):RO prog 215 [] [.agg [lf (eK .u8) sa0.Data,i6 sa0.Bits],i6 i] (.int .u64 r):=by
 refine aZ func215 rfl rfl ?_
 unfold qZ at hm
 refine qS [(0,.al 215002)] [(1,i6 i),(2,.ptr 215002 0)] [(215002,.cells 208 [lf (eK .u8) sa0.Data,i6 sa0.Bits])] ?_
 obtain⟨e_1,h1,hm⟩:=aa hm
 obtain⟨h2,hm⟩:=iB hm
 refine qS [(3,.qr (8:Int) (by decide)),(4,hix (ix (eK .u8) h1)),(7,.qr (8:Int) (by decide)),(9,.sh (w64 ((7:Int)-(Int.tmod i (8:Int)))) (of_decide_eq_true h2))] [(4,.int .u64 (IntKind.wrap .u64 (dR .and .u8 (Int.fdiv e_1 (2 ^ min (w64 ((7:Int)-(Int.tmod i (8:Int)))).toNat 8)) (1:Int))))] [] ?_
 cases hm
 exact A.ret qE
variable {value:Int}
theorem abb{n:Int}{r:bp}(hm:oW sa0 value n=some r):bM prog 217 [(505021700,.slice 5 1 (ml (eK .u8) sa0.Data) 0 false),(900000208,.cells 208 [.own 505021700,i6 sa0.Bits])] [.ptr 900000208 0,.int .u64 value,i6 n] (λa σ'=>a=.tup []∧σ'=[(900000208,.cells 208 [.own 505021701,i6 r.Bits]),(505021701,.slice 5 1 (ml (eK .u8) r.Data) 0 false)]):=by
 refine aZ func217 rfl rfl ?_
 unfold oW at hm
 refine A.block ?_
 obtain⟨F1,n1,hF1,hm⟩:=ji hm
 refine A.lpW (F:=F1) hm (λ(n_1,m_1,m_2)=>[(0,.ptr 900000208 0),(1,.int .u64 value),(2,i6 n_1)]) (λ(n_1,m_1,m_2)=>[(900000208,.cells 208 [.own 700020800,i6 m_2]),(700020800,.slice 5 1 (ml (eK .u8) m_1) 0 false)]) ?_ ?_
 ·exact bA.go [.rn 505021700 700020800] [] (by kernel_rfl)
 rintro Z1 ⟨n_1,m_1,m_2⟩ hm
 rw[hF1]at hm
 refine A.seq<|qDs [] [] [(10,.bool (decide (0<n_1)))] ?_
 rcases az hm with⟨c1,hm⟩|⟨c1,hm⟩
 ·refine qT c1<|A.skip<|A.block<|qDs [(4,hto (lnE (eK .u8) m_1))] [10] [(6,i6 (w64 ((w64 ((8:Int)*(m_1.length:Int)))-m_2)))] ?_
  obtain⟨J1,hJ1,hm⟩:=bQ hm
  refine A.J (J:=J1) (r:=r) (λ(cR,m_3)=>[(0,.ptr 900000208 0),(1,.int .u64 value),(2,i6 n_1),(6,i6 cR)]) (λ(cR,m_3)=>[(900000208,.cells 208 [.own 700020800,i6 m_2]),(700020800,.slice 5 1 (ml (eK .u8) m_3) 0 false)]) ?_ ?_
  ·refine qDs [] [] [(23,.bool (decide (w64 ((w64 ((8:Int)*(m_1.length:Int)))-m_2)=(0:Int))))] ?_
   rcases az hm with⟨c2,hm⟩|⟨c2,hm⟩
   ·refine qT c2 ?_
    obtain⟨l_1,h1,hm⟩:=aa hm
    exact qG [(6,hap 217530 (ap (eK .u8) (bytes:=1) (by decide) h1))] [6,23] [(6,i6 8)] [900000208,700020800] [(900000208,.cells 208 [.own 217530,i6 m_2]),(217530,.slice 5 1 (ml (eK .u8) l_1) 0 false)]<|Exists.intro ((8:Int),l_1) (And.intro hm (bA.go [.sw 217530 700020800] [] (by kernel_rfl)))
   exact qF c2<|A.skip<|qX (w64 ((w64 ((8:Int)*(m_1.length:Int)))-m_2),m_1) hm
  rintro⟨cR,m_3⟩ hm
  rw[hJ1]at hm
  refine qDs [] [] [(7,i6 (if cR<n_1 then cR else n_1))] ?_
  obtain⟨h2,hm⟩:=iB hm
  obtain⟨h3,hm⟩:=iB hm
  refine qDs [(4,.sh (w64 (n_1-(if cR<n_1 then cR else n_1))) (of_decide_eq_true h2)),(6,.sh (if cR<n_1 then cR else n_1) (of_decide_eq_true h3))] [] [(8,.int .u64 (dR .and .u64 (Int.fdiv value (2 ^ min (w64 (n_1-(if cR<n_1 then cR else n_1))).toNat 64)) (IntKind.wrap .u64 ((IntKind.wrap .u64 ((1:Int)*2 ^ min (if cR<n_1 then cR else n_1).toNat 64))-(1:Int)))))] ?_
  obtain⟨e_1,h4,hm⟩:=aa hm
  obtain⟨h5,hm⟩:=iB hm
  obtain⟨l_2,h6,hm⟩:=aa hm
  exact qD [(8,hto (lnE (eK .u8) m_3)),(10,hix (ix (eK .u8) h4)),(11,hlo 700020800 0 (ix (eK .u8) h4)),(16,.sh (w64 (cR-(if cR<n_1 then cR else n_1))) (of_decide_eq_true h5)),(19,hix (ix (eK .u8) h4)),(20,hso 700020800 (st (eK .u8) (off:=0) (ca:=[.int .u8 (dR .or .u8 e_1 (IntKind.wrap .u8 (IntKind.wrap .u64 ((dR .and .u64 (Int.fdiv value (2 ^ min (w64 (n_1-(if cR<n_1 then cR else n_1))).toNat 64)) (IntKind.wrap .u64 ((IntKind.wrap .u64 ((1:Int)*2 ^ min (if cR<n_1 then cR else n_1).toNat 64))-(1:Int))))*2 ^ min (w64 (cR-(if cR<n_1 then cR else n_1))).toNat 64))))]) h4 h6 rfl) (gP h4).1.1)] [6,8] [] [700020800] [(700020800,.slice 5 1 (ml (eK .u8) l_2) 0 false)]<|qD [] [] [] [900000208] [(900000208,.cells 208 [.own 700020800,i6 (w64 (m_2+(if cR<n_1 then cR else n_1)))])]<|qGs [] [2,7] [(2,i6 (w64 (n_1-(if cR<n_1 then cR else n_1))))]<|qX (w64 (n_1-(if cR<n_1 then cR else n_1)),l_2,w64 (m_2+(if cR<n_1 then cR else n_1))) hm
 refine qF c1<|A.exit ?_
 obtain rfl:=some_inj hm
 exact A.fin W0 [.sw 700020800 505021701] rfl (by kernel_rfl)
theorem abc{r:bp}(hm:rI sa0=some r):bM prog 216 [] [.agg [lf (eK .u8) sa0.Data,i6 sa0.Bits]] (λa σ'=>a=.agg [.own 500021600,i6 r.Bits]∧σ'=[(500021600,.slice 5 1 (ml (eK .u8) r.Data) 0 false)]):=by
 refine aZ func216 rfl rfl ?_
 unfold rI at hm
 refine qS [(0,.al 216001),(1,.al 216002)] [(1,.ptr 216001 0),(2,.ptr 216002 0)] [(216001,.cells 208 [lf (eK .u8) sa0.Data,i6 sa0.Bits]),(216002,.cells 208 [.aH,i6 0])] ?_
 obtain⟨l_1,h1,hm⟩:=aa hm
 refine qS [(2,hap 216505 (ap (eK .u8) (bytes:=1) (by decide) h1))] [(2,.ptr 216002 0)] [(216002,.cells 208 [.own 216505,i6 sa0.Bits]),(216505,.slice 5 1 (ml (eK .u8) l_1) 0 false)]<|A.ret ?_
 obtain rfl:=some_inj hm
 exact A.fin W0 [.sw 216505 500021600] rfl (by kernel_rfl)
theorem aao{n:Int}{r:bp×Int}(hm:n4 sa0 value n=some r):RO prog 213 [] [.agg [lf (eK .u8) sa0.Data,i6 sa0.Bits],.int .u64 value,i6 n] (.tup [.agg [lf (eK .u8) r.1.Data,i6 r.1.Bits],i6 r.2]):=by
 refine aZ func213 rfl rfl ?_
 unfold n4 at hm
 refine qS [(0,.al 213003),(1,.al 213006)] [(1,.int .u64 value),(2,i6 n),(3,.ptr 213003 0),(6,.ptr 213006 0)] [(213003,.cells 208 [lf (eK .u8) sa0.Data,i6 sa0.Bits]),(213006,.cells 208 [.aH,i6 0])]<|A.seq<|A.block ?_
 obtain⟨ah,h1,hm⟩:=aa hm
 refine qDs [(1,hro (vM h1) akL)] [] [(9,.bool (!ah))] ?_
 rcases az hm with⟨c1,hm⟩|⟨c1,hm⟩
 ·refine qT c1<|qD [] [1,2,3,9] [(7,i6 1)] [213003] [] ?_
  cases hm
  exact A.ret qE
 refine qF c1 ?_
 obtain⟨J1,hJ1,hm⟩:=bQ hm
 refine A.J (J:=J1) (r:=r) (λv_1=>[(1,.int .u64 value),(2,i6 n),(3,.ptr 213003 0),(6,.ptr 213006 0),(14,.bool v_1)]) (λv_1=>[(213003,.cells 208 [lf (eK .u8) sa0.Data,i6 sa0.Bits]),(213006,.cells 208 [.aH,i6 0])]) ?_ ?_
 ·rcases az hm with⟨c2,hm⟩|⟨c2,hm⟩
  ·exact qGs [(2,hto (bE c2))] [9] [(14,.bool true)]<|qX true hm
  rcases az hm with⟨c3,hm⟩|⟨c3,hm⟩
  ·exact qGs [(2,hto (bE c2)),(6,hto (bE c3))] [9] [(14,.bool true)]<|qX true hm
  rcases az hm with⟨c4,hm⟩|⟨c4,hm⟩
  ·obtain⟨h2,hm⟩:=iB hm
   exact qGs [(2,hto (bE c2)),(6,hto (bE c3)),(9,hto (bE c4)),(12,.sh n (of_decide_eq_true h2))] [9] [(14,.bool (!decide (Int.fdiv value (2 ^ min n.toNat 64)=(0:Int))))]<|qX (!decide (Int.fdiv value (2 ^ min n.toNat 64)=(0:Int))) hm
  exact qGs [(2,hto (bE c2)),(6,hto (bE c3)),(9,hto (bE c4))] [9] [(14,.bool false)]<|qX false hm
 rintro v_1 hm
 rw[hJ1]at hm
 rcases az hm with⟨c5,hm⟩|⟨c5,hm⟩
 ·refine qT c5<|qD [] [1,2,3,14] [(7,i6 2)] [213003] [] ?_
  cases hm
  exact A.ret qE
 refine qF c5<|qDs [] [14] [(32,.bool (decide (8192<w64 (sa0.Bits+n))))] ?_
 rcases az hm with⟨c6,hm⟩|⟨c6,hm⟩
 ·refine qT c6<|qD [] [1,2,3,32] [(7,i6 3)] [213003] [] ?_
  cases hm
  exact A.ret qE
 refine qF c6<|A.skip ?_
 obtain⟨aD,h3,hm⟩:=aa hm
 refine qD [(1,hdc [500021600] (abc h3) atp),(2,.al 213008)] [3,32] [(8,.ptr 213008 0)] [213003] [(500021600,.slice 5 1 (ml (eK .u8) aD.Data) 0 false),(213008,.cells 208 [.own 500021600,i6 aD.Bits])] ?_
 obtain⟨aP,h4,hm⟩:=aa hm
 refine qD [(2,hdc [520213001] (SC.at [(505021700,500021600),(900000208,213008),(505021701,520213001)] (abb h4)) atq)] [1,2] [] [500021600,213008] [(213008,.cells 208 [.own 520213001,i6 aP.Bits]),(520213001,.slice 5 1 (ml (eK .u8) aP.Data) 0 false)]<|qD [] [8] [(7,i6 0)] [213006,213008] [(213006,.cells 208 [.own 520213001,i6 aP.Bits])]<|A.ret ?_
 obtain rfl:=some_inj hm
 exact A.fin W0 [.fz [520213001]] rfl (by kernel_rfl)
theorem abd{r:Int×Int}(hm:mG sa0=some r):RO prog 205 [] [.agg [lf (eK .u8) sa0.Data,i6 sa0.Bits]] (.tup [.int .u64 r.1,i6 r.2]):=by
 refine aZ func205 rfl rfl ?_
 unfold mG at hm
 refine qS [(0,.al 205001)] [(1,.ptr 205001 0)] [(205001,.cells 208 [lf (eK .u8) sa0.Data,i6 sa0.Bits])]<|A.scope<|A.seq ?_
 obtain⟨ah,h1,hm⟩:=aa hm
 refine qS [(1,hro (vM h1) akL)] [(1,.ptr 205001 0),(9,.bool (!ah))] [(205001,.cells 208 [lf (eK .u8) sa0.Data,i6 sa0.Bits])] ?_
 rcases az hm with⟨c1,hm⟩|⟨c1,hm⟩
 ·refine qT c1<|qS [] [(2,.int .u64 (0:Int)),(3,i6 1)] [] ?_
  cases hm
  exact A.ret qE
 refine qF c1<|A.skip<|qDs [] [9] [(4,.int .u64 (65535:Int))]<|A.seq<|A.label<|A.seq<|qS [] [(1,.ptr 205001 0),(4,.int .u64 (65535:Int)),(11,i6 sa0.Bits),(12,i6 0)] [(205001,.cells 208 [lf (eK .u8) sa0.Data,i6 sa0.Bits])]<|A.block ?_
 obtain⟨hh1,hm⟩:=iB hm
 obtain⟨B1,K1,hB1,hK1,hm⟩:=kf hm
 refine A.lpN (hi:=sa0.Bits) (B:=B1) (K:=K1) hm rfl (λj1=>λfc=>[(1,.ptr 205001 0),(4,.int .u64 fc),(11,i6 sa0.Bits),(12,i6 (j1:Int))]) (λj1=>λfc=>[(205001,.cells 208 [lf (eK .u8) sa0.Data,i6 sa0.Bits])]) ?_ ?_ ?_
 ·exact qW
 ·rintro j1 Z1 fc hj1 hx1 hm
  rw[hB1]at hm
  refine qDs [] [] [(13,.bool (decide ((j1:Int)<sa0.Bits)))]<|A.seq<|A.cT rfl (decide_eq_true hx1)<|A.skip ?_
  obtain⟨J1,hJ1,hm⟩:=bQ hm
  refine A.J (J:=J1) (r:=r) (λqw=>[(1,.ptr 205001 0),(4,.int .u64 qw),(11,i6 sa0.Bits),(12,i6 (j1:Int))]) (λqw=>[(205001,.cells 208 [lf (eK .u8) sa0.Data,i6 sa0.Bits])]) ?_ ?_
  ·refine A.block<|qDs [] [13] [(5,i6 (j1:Int))] ?_
   refine qDs [(1,.sh (15:Int) (by decide))] [] [(6,.int .u64 (Int.fdiv fc (2 ^ min (15:Int).toNat 64)))]<|qDs [(1,.sh (1:Int) (by decide))] [4] [(4,.int .u64 (dR .and .u64 (IntKind.wrap .u64 (fc*2 ^ min (1:Int).toNat 64)) (65535:Int)))]<|A.seq ?_
   obtain⟨aD,h2,hm⟩:=aa hm
   refine qDs [(3,hro (acw h2) ato)] [5,6] [(24,.bool (decide (Int.fdiv fc (2 ^ min (15:Int).toNat 64)=aD)))] ?_
   rcases az hm with⟨c2,hm⟩|⟨c2,hm⟩
   ·exact qT c2<|A.exit<|qX (dR .and .u64 (IntKind.wrap .u64 (fc*2 ^ min (1:Int).toNat 64)) (65535:Int)) hm
   exact qF c2<|A.skip<|qGs [] [4,24] [(4,.int .u64 (dR .xor .u64 (dR .and .u64 (IntKind.wrap .u64 (fc*2 ^ min (1:Int).toNat 64)) (65535:Int)) (4129:Int)))]<|qX (dR .xor .u64 (dR .and .u64 (IntKind.wrap .u64 (fc*2 ^ min (1:Int).toNat 64)) (65535:Int)) (4129:Int)) hm
  rintro qw hm
  rw[hJ1]at hm
  exact qGs [(0,hto (vz (by omega) hx1 (of_decide_eq_true hh1)))] [12] [(12,i6 (j1+1:Int))]<|qX qw hm
 rintro j1 fc hj1 hl1 hm
 rw[hK1]at hm
 refine qDs [] [] [(13,.bool (decide ((j1:Int)<sa0.Bits)))]<|A.seq<|A.cF rfl (geF hl1)<|A.exit<|qS [] [(2,.int .u64 fc),(3,i6 0)] [] ?_
 cases hm
 exact A.ret qE
end Go.Proofs.YtjdopimopgpagaaGreat
