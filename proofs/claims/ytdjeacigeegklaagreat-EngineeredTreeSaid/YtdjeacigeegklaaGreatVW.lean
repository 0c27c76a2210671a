/- The gq of dx of the program. No condition but br aM stand in each. -/
import Derived.Test.YtdjeacigeegklaaGreatDA
namespace Go.Proofs.YtdjeacigeegklaaGreat
open Go Go.Proofs.Tryz
set_option maxRecDepth 100000
set_option linter.all false
theorem uF{t:List Int}{r:bJ}(hm:jq t=some r):dJ prog 9 [] [lf aG t] (λa σ'=>a=.ptr 900000115 0∧σ'=[(900000115,.cells 115 (k5 r))]):=by
 refine bu func9 rfl rfl ?_
 unfold jq at hm
 refine qS [] [(0,lf aG t)] [] ?_
 obtain⟨l_1,h1,hm⟩:=aa hm
 refine qS [(2,hto (lnE aG t)),(4,hsl (sl aG h1)),(6,.al 9009)] [(2,.ptr 9009 0)] [(9009,.cells 115 [lf aG l_1,i6 0])]<|A.ret ?_
 obtain rfl:=some_inj hm
 exact A.fin W0 [.sw 9009 900000115] rfl (by kernel_rfl)
variable {r:Int×bJ}{t:bJ}
theorem qV(hm:gz t=some r):dJ prog 53 [(900000115,.cells 115 (k5 t))] [.ptr 900000115 0] (λa σ'=>a=i6 r.1∧σ'=[(900000115,.cells 115 (k5 r.2))]):=by
 refine bu func53 rfl rfl ?_
 unfold gz at hm
 refine qS [] [(0,.ptr 900000115 0)] [(900000115,.cells 115 (k5 t))]<|A.seq<|qDs [(8,hto (lnE aG t.L))] [] [(12,.bool (decide ((t.L.length:Int)≤t.At)))] ?_
 rcases aq hm with⟨c1,hm⟩|⟨c1,hm⟩
 ·refine qT c1<|qDs [] [0,12] [(2,i6 0)] ?_
  cases hm
  exact A.ret qE
 refine qF c1<|A.skip<|qD [] [12] [] [900000115] [(900000115,.cells 115 [lf aG t.L,i6 (w64 (t.At+1))])] ?_
 obtain⟨e_1,h1,hm⟩:=aa hm
 refine qDs [(9,hix (ix aG h1))] [0] [(2,i6 e_1)] ?_
 cases hm
 exact A.ret qE
theorem uG{xa0:Int}{n:Int}{r:Int}(hm:jr xa0 n=some r):RO prog 52 [] [i6 xa0,i6 n] (i6 r):=by
 refine bu func52 rfl rfl ?_
 unfold jr at hm
 refine qS [] [(0,i6 xa0),(1,i6 n)] []<|A.seq<|qDs [] [] [(6,.bool (decide (n<1)))] ?_
 rcases aq hm with⟨c1,hm⟩|⟨c1,hm⟩
 ·refine qT c1<|qS [] [(4,i6 0)] [] ?_
  cases hm
  exact A.ret qE
 refine qF c1<|A.skip ?_
 obtain⟨h1,hm⟩:=fF hm
 refine qDs [(2,.qr n (of_decide_eq_true h1))] [0,6] [(0,i6 (Int.tmod xa0 n))] ?_
 obtain⟨J1,hJ1,hm⟩:=cR hm
 refine A.J (J:=J1) (r:=r) (λak=>[(0,i6 ak)]) (λak=>[]) ?_ ?_
 ·refine qDs [] [] [(11,.bool (decide (Int.tmod xa0 n<0)))] ?_
  rcases aq hm with⟨c2,hm⟩|⟨c2,hm⟩
  ·exact qT c2<|qR [] [(0,i6 (w64 ((Int.tmod xa0 n)+n)))] []<|qX (w64 ((Int.tmod xa0 n)+n)) hm
  exact qF c2<|A.skip<|qX (Int.tmod xa0 n) hm
 rintro ak hm
 rw[hJ1]at hm
 refine qS [] [(4,i6 ak)] [] ?_
 cases hm
 exact A.ret qE
theorem cK{n:Int}(hm:cc t n=some r):dJ prog 12 [(900000115,.cells 115 (k5 t))] [.ptr 900000115 0,i6 n] (λa σ'=>a=i6 r.1∧σ'=[(900000115,.cells 115 (k5 r.2))]):=by
 refine bu func12 rfl rfl ?_
 unfold cc at hm
 refine qS [] [(0,.ptr 900000115 0),(1,i6 n)] [(900000115,.cells 115 (k5 t))] ?_
 obtain⟨ak,h1,hm⟩:=aa hm
 obtain⟨aO,h2,hm⟩:=aa hm
 refine qS [(1,hdc [] (qV h1) ck53),(3,hro (uG h2) ck52)] [(4,i6 aO)] [(900000115,.cells 115 (k5 ak.2))] ?_
 cases hm
 exact A.ret qE
theorem iZ{lo:Int}{hi:Int}(hm:eo t lo hi=some r):dJ prog 51 [(900000115,.cells 115 (k5 t))] [.ptr 900000115 0,i6 lo,i6 hi] (λa σ'=>a=i6 r.1∧σ'=[(900000115,.cells 115 (k5 r.2))]):=by
 refine bu func51 rfl rfl ?_
 unfold eo at hm
 refine qS [] [(0,.ptr 900000115 0),(1,i6 lo),(2,i6 hi)] [(900000115,.cells 115 (k5 t))] ?_
 obtain⟨ak,h1,hm⟩:=aa hm
 refine qS [(6,hdc [] (cK h1) qC)] [(6,i6 (w64 (lo+ak.1)))] [(900000115,.cells 115 (k5 ak.2))] ?_
 cases hm
 exact A.ret qE
variable {l:List Int}
theorem gA(hm:dS t l=some r):dJ prog 39 [(900000115,.cells 115 (k5 t))] [.ptr 900000115 0,lf aG l] (λa σ'=>a=i6 r.1∧σ'=[(900000115,.cells 115 (k5 r.2))]):=by
 refine bu func39 rfl rfl ?_
 unfold dS at hm
 refine qS [] [(0,.ptr 900000115 0),(1,lf aG l)] [(900000115,.cells 115 (k5 t))] ?_
 obtain⟨ak,h1,hm⟩:=aa hm
 obtain⟨e_1,h2,hm⟩:=aa hm
 refine qS [(3,hto (lnE aG l)),(4,hdc [] (cK h1) qC),(5,hix (ix aG h2))] [(4,i6 e_1)] [(900000115,.cells 115 (k5 ak.2))] ?_
 cases hm
 exact A.ret qE
variable {xa1:Int}
theorem eW{r:Bool}(hm:eR l xa1=some r):RO prog 16 [] [lf aG l,i6 xa1] (.bool r):=by
 refine bu func16 rfl rfl ?_
 unfold eR at hm
 refine qS [] [(0,lf aG l),(1,i6 xa1)] []<|A.seq<|qDs [] [] [(5,i6 0)]<|A.block<|A.bS 0 rfl λhb1=>?_
 obtain⟨B1,K1,hB1,hK1,hm⟩:=bA hm
 refine A.lpI (l:=l) (j0:=0) (B:=B1) (K:=K1) hm (λj1=>λ()=>[(0,lf aG l),(1,i6 xa1),(5,i6 (j1:Int))]) (λj1=>λ()=>[]) ?_ ?_ ?_
 ·exact qW
 ·rintro j1 e1 Z1 ⟨⟩ hj1 hx1 hm
  rw[hB1]at hm
  refine A.seq<|qDs [(2,hto (lnE aG l))] [] [(9,.bool (decide ((j1:Int)<(l.length:Int))))] ?_
  refine qT (ltT hx1)<|A.skip<|A.seq<|A.block<|qDs [(2,hix (ix aG (bK hx1)))] [9] [(17,.bool (decide (e1=xa1)))] ?_
  rcases aq hm with⟨c1,hm⟩|⟨c1,hm⟩
  ·refine qT c1<|qS [] [(4,.bool true)] [] ?_
   cases hm
   exact A.ret qE
  exact qF c1<|A.skip<|qGs [(1,hto (inc hx1 hb1))] [5,17] [(5,i6 ((j1+1:Nat):Int))]<|qX () hm
 rintro j1 ⟨⟩ hj1 hl1 hm
 rw[hK1]at hm
 refine A.seq<|qDs [(2,hto (lnE aG l))] [] [(9,.bool (decide ((j1:Int)<(l.length:Int))))] ?_
 refine qF (ltF hl1)<|A.exit<|qS [] [(4,.bool false)] [] ?_
 cases hm
 exact A.ret qE
theorem pG{r:(List Int)}(hm:gn l xa1=some r):RO prog 25 [] [lf aG l,i6 xa1] (lf aG r):=by
 refine bu func25 rfl rfl ?_
 unfold gn at hm
 refine qS [] [(0,lf aG l),(1,i6 xa1)] []<|qDs [] [] [(5,i6 0)]<|A.seq<|A.block ?_
 obtain⟨F1,n1,hF1,hm⟩:=gU hm
 refine A.lpW (F:=F1) hm (λk_1=>[(0,lf aG l),(1,i6 xa1),(5,i6 k_1)]) (λk_1=>[]) ?_ ?_
 ·exact qW
 rintro Z1 k_1 hm
 rw[hF1]at hm
 refine A.seq ?_
 obtain⟨J1,hJ1,hm⟩:=cR hm
 refine A.J (J:=J1) (r:=r) (λv_1=>[(0,lf aG l),(1,i6 xa1),(5,i6 k_1),(18,.bool v_1)]) (λv_1=>[]) ?_ ?_
 ·rcases aq hm with⟨c1,hm⟩|⟨c1,hm⟩
  ·obtain⟨e_1,h1,hm⟩:=aa hm
   exact qGs [(2,hto (lnE aG l)),(4,hto (bE c1)),(7,hix (ix aG h1))] [] [(18,.bool (decide (e_1<xa1)))]<|qX (decide (e_1<xa1)) hm
  exact qGs [(2,hto (lnE aG l)),(4,hto (bE c1))] [] [(18,.bool false)]<|qX false hm
 rintro v_1 hm
 rw[hJ1]at hm
 rcases aq hm with⟨c2,hm⟩|⟨c2,hm⟩
 ·exact qT c2<|A.skip<|A.block<|qGs [] [5,18] [(5,i6 (w64 (k_1+1)))]<|qX (w64 (k_1+1)) hm
 refine qF c2<|A.exit<|A.seq ?_
 obtain⟨J2,hJ2,hm⟩:=cR hm
 refine A.J (J:=J2) (r:=r) (λv_2=>[(0,lf aG l),(1,i6 xa1),(5,i6 k_1),(32,.bool v_2)]) (λv_2=>[]) ?_ ?_
 ·rcases aq hm with⟨c3,hm⟩|⟨c3,hm⟩
  ·obtain⟨e_2,h2,hm⟩:=aa hm
   exact qGs [(2,hto (lnE aG l)),(4,hto (bE c3)),(7,hix (ix aG h2))] [18] [(32,.bool (decide (e_2=xa1)))]<|qX (decide (e_2=xa1)) hm
  exact qGs [(2,hto (lnE aG l)),(4,hto (bE c3))] [18] [(32,.bool false)]<|qX false hm
 rintro v_2 hm
 rw[hJ2]at hm
 rcases aq hm with⟨c4,hm⟩|⟨c4,hm⟩
 ·refine qT c4<|qS [] [(4,lf aG l)] [] ?_
  cases hm
  exact A.ret qE
 refine qF c4<|A.skip ?_
 obtain⟨l_1,h3,hm⟩:=aa hm
 obtain⟨l_2,h4,hm⟩:=aa hm
 refine qD [(1,.al 25035),(4,hsl (aga aG h3)),(5,hap 25539 (ap aG (bytes:=8) (by decide) h4))] [1,32] [(6,.own 25539)] [] [(25539,.slice 3 1 (ml aG l_2) 0 false)] ?_
 obtain⟨l_3,h5,hm⟩:=aa hm
 obtain⟨l_4,h6,hm⟩:=aa hm
 refine A.RS W0 [.fz [25539]] [(3,hs3 (sl aG h5)),(5,anD 25545 ahl (ap aG (bytes:=8) (by decide) h6) (anB aG h4 (Nat.succ_pos _)))] [(4,.own 25545)] [(25545,.slice 3 1 (ml aG l_4) 0 false)] (by kernel_rfl)<|A.ret ?_
 obtain rfl:=some_inj hm
 exact A.fin W0 [.fz [25545]] rfl (by kernel_rfl)
theorem lK{a:List Int}{b:List Int}{r:Bool}(hm:iY a b=some r):RO prog 27 [] [lf aG a,lf aG b] (.bool r):=by
 refine bu func27 rfl rfl ?_
 unfold iY at hm
 refine qS [] [(0,lf aG a),(1,lf aG b)] []<|A.seq<|qDs [(1,hto (lnE aG a)),(3,hto (lnE aG b))] [] [(10,.bool (!decide ((a.length:Int)=(b.length:Int))))] ?_
 rcases aq hm with⟨c1,hm⟩|⟨c1,hm⟩
 ·refine qT c1<|qS [] [(4,.bool false)] [] ?_
  cases hm
  exact A.ret qE
 refine qF c1<|A.skip<|A.seq<|qDs [] [10] [(5,i6 0)]<|A.block<|A.bS 0 rfl λhb1=>?_
 obtain⟨B1,K1,hB1,hK1,hm⟩:=bA hm
 refine A.lpI (l:=a) (j0:=0) (B:=B1) (K:=K1) hm (λj1=>λ()=>[(0,lf aG a),(1,lf aG b),(5,i6 (j1:Int))]) (λj1=>λ()=>[]) ?_ ?_ ?_
 ·exact qW
 ·rintro j1 e1 Z1 ⟨⟩ hj1 hx1 hm
  rw[hB1]at hm
  refine A.seq<|qDs [(2,hto (lnE aG a))] [] [(14,.bool (decide ((j1:Int)<(a.length:Int))))] ?_
  refine qT (ltT hx1)<|A.skip<|A.seq<|A.block ?_
  obtain⟨e_1,h1,hm⟩:=aa hm
  refine qDs [(2,hix (ix aG (bK hx1))),(6,hix (ix aG h1))] [14] [(25,.bool (!decide (e1=e_1)))] ?_
  rcases aq hm with⟨c2,hm⟩|⟨c2,hm⟩
  ·refine qT c2<|qS [] [(4,.bool false)] [] ?_
   cases hm
   exact A.ret qE
  exact qF c2<|A.skip<|qGs [(1,hto (inc hx1 hb1))] [5,25] [(5,i6 ((j1+1:Nat):Int))]<|qX () hm
 rintro j1 ⟨⟩ hj1 hl1 hm
 rw[hK1]at hm
 refine A.seq<|qDs [(2,hto (lnE aG a))] [] [(14,.bool (decide ((j1:Int)<(a.length:Int))))] ?_
 refine qF (ltF hl1)<|A.exit<|qS [] [(4,.bool true)] [] ?_
 cases hm
 exact A.ret qE
end Go.Proofs.YtdjeacigeegklaaGreat
