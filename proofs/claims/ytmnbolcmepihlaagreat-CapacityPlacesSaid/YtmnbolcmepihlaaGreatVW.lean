/- The walks of cE of the program. No condition but bf aM stand in each. -/
import Derived.Test.YtmnbolcmepihlaaGreatDA
namespace Go.Proofs.YtmnbolcmepihlaaGreat
open Go Go.Proofs.Tryz
set_option maxRecDepth 100000
set_option linter.all false
theorem vt{t:List Int}{r:bL}(hm:jf t=some r):b9 prog 12 [] [lf ak t] (λa σ'=>a=.ptr 900000103 0∧σ'=[(900000103,.cells 103 (k5 r))]):=by
 refine aZ func12 rfl rfl ?_;unfold jf at hm;refine qS [] [(0,lf ak t)] [] ?_;obtain⟨l_1,h1,hm⟩:=aa hm;refine qS [(2,hto (lnE ak t)),(4,hsl (sl ak h1)),(6,.al 12009)] [(2,.ptr 12009 0)] [(12009,.cells 103 [lf ak l_1,i6 0])]<|A.ret ?_
 obtain rfl:=some_inj hm;exact A.fin W0 [.sw 12009 900000103] rfl (by kernel_rfl)
variable {r:Int×bL}{t:bL}
theorem rR(hm:gw t=some r):b9 prog 61 [(900000103,.cells 103 (k5 t))] [.ptr 900000103 0] (λa σ'=>a=i6 r.1∧σ'=[(900000103,.cells 103 (k5 r.2))]):=by
 refine aZ func61 rfl rfl ?_;unfold gw at hm;refine qS [] [(0,.ptr 900000103 0)] [(900000103,.cells 103 (k5 t))]<|A.seq<|qDs [(8,hto (lnE ak t.L))] [] [(12,.bool (decide ((t.L.length:Int)≤t.At)))] ?_
 rcases aA hm with⟨c1,hm⟩|⟨c1,hm⟩
 ·refine qT c1<|qDs [] [0,12] [(2,i6 0)] ?_
  cases hm;exact A.ret qE
 refine qF c1<|A.skip<|qD [] [12] [] [900000103] [(900000103,.cells 103 [lf ak t.L,i6 (w64 (t.At+1))])] ?_
 obtain⟨e_1,h1,hm⟩:=aa hm;refine qDs [(9,hix (ix ak h1))] [0] [(2,i6 e_1)] ?_;cases hm;exact A.ret qE
theorem vu{xa0:Int}{n:Int}{r:Int}(hm:jg xa0 n=some r):RO prog 60 [] [i6 xa0,i6 n] (i6 r):=by
 refine aZ func60 rfl rfl ?_;unfold jg at hm;refine qS [] [(0,i6 xa0),(1,i6 n)] []<|A.seq<|qDs [] [] [(6,.bool (decide (n<1)))] ?_
 rcases aA hm with⟨c1,hm⟩|⟨c1,hm⟩
 ·refine qT c1<|qS [] [(4,i6 0)] [] ?_
  cases hm;exact A.ret qE
 refine qF c1<|A.skip ?_
 obtain⟨h1,hm⟩:=eE hm;refine qDs [(2,.qr n (of_decide_eq_true h1))] [0,6] [(0,i6 (Int.tmod xa0 n))] ?_;obtain⟨J1,hJ1,hm⟩:=cO hm;refine A.J (J:=J1) (r:=r) (λaq=>[(0,i6 aq)]) (λaq=>[]) ?_ ?_
 ·refine qDs [] [] [(11,.bool (decide (Int.tmod xa0 n<0)))] ?_;rcases aA hm with⟨c2,hm⟩|⟨c2,hm⟩
  ·exact qT c2<|qR [] [(0,i6 (w64 ((Int.tmod xa0 n)+n)))] []<|qX (w64 ((Int.tmod xa0 n)+n)) hm
  exact qF c2<|A.skip<|qX (Int.tmod xa0 n) hm
 rintro aq hm;rw[hJ1]at hm;refine qS [] [(4,i6 aq)] [] ?_;cases hm;exact A.ret qE
theorem cD{n:Int}(hm:ck t n=some r):b9 prog 14 [(900000103,.cells 103 (k5 t))] [.ptr 900000103 0,i6 n] (λa σ'=>a=i6 r.1∧σ'=[(900000103,.cells 103 (k5 r.2))]):=by
 refine aZ func14 rfl rfl ?_;unfold ck at hm;refine qS [] [(0,.ptr 900000103 0),(1,i6 n)] [(900000103,.cells 103 (k5 t))] ?_;obtain⟨aq,h1,hm⟩:=aa hm;obtain⟨aF,h2,hm⟩:=aa hm;refine qS [(1,hdc [] (rR h1) ck61),(3,hro (vu h2) ck60)] [(4,i6 aF)] [(900000103,.cells 103 (k5 aq.2))] ?_;cases hm;exact A.ret qE
theorem iU{lo:Int}{hi:Int}(hm:eA t lo hi=some r):b9 prog 28 [(900000103,.cells 103 (k5 t))] [.ptr 900000103 0,i6 lo,i6 hi] (λa σ'=>a=i6 r.1∧σ'=[(900000103,.cells 103 (k5 r.2))]):=by
 refine aZ func28 rfl rfl ?_;unfold eA at hm;refine qS [] [(0,.ptr 900000103 0),(1,i6 lo),(2,i6 hi)] [(900000103,.cells 103 (k5 t))] ?_;obtain⟨aq,h1,hm⟩:=aa hm;refine qS [(6,hdc [] (cD h1) rA)] [(6,i6 (w64 (lo+aq.1)))] [(900000103,.cells 103 (k5 aq.2))] ?_;cases hm;exact A.ret qE
variable {l:List Int}
theorem fG(hm:dL t l=some r):b9 prog 59 [(900000103,.cells 103 (k5 t))] [.ptr 900000103 0,lf ak l] (λa σ'=>a=i6 r.1∧σ'=[(900000103,.cells 103 (k5 r.2))]):=by
 refine aZ func59 rfl rfl ?_;unfold dL at hm;refine qS [] [(0,.ptr 900000103 0),(1,lf ak l)] [(900000103,.cells 103 (k5 t))] ?_;obtain⟨aq,h1,hm⟩:=aa hm;obtain⟨e_1,h2,hm⟩:=aa hm;refine qS [(3,hto (lnE ak l)),(4,hdc [] (cD h1) rA),(5,hix (ix ak h2))] [(4,i6 e_1)] [(900000103,.cells 103 (k5 aq.2))] ?_;cases hm;exact A.ret qE
variable {xa1:Int}
theorem dX{r:Bool}(hm:dF l xa1=some r):RO prog 26 [] [lf ak l,i6 xa1] (.bool r):=by
 refine aZ func26 rfl rfl ?_;unfold dF at hm;refine qS [] [(0,lf ak l),(1,i6 xa1)] []<|A.seq<|qDs [] [] [(5,i6 0)]<|A.block<|A.bS 0 rfl λhb1=>?_
 obtain⟨B1,K1,hB1,hK1,hm⟩:=bh hm;refine A.lpI (l:=l) (j0:=0) (B:=B1) (K:=K1) hm (λj1=>λ()=>[(0,lf ak l),(1,i6 xa1),(5,i6 (j1:Int))]) (λj1=>λ()=>[]) ?_ ?_ ?_
 ·exact qW
 ·rintro j1 e1 Z1 ⟨⟩ hj1 hx1 hm;rw[hB1]at hm;refine A.seq<|qDs [(2,hto (lnE ak l))] [] [(9,.bool (decide ((j1:Int)<(l.length:Int))))] ?_
  refine qT (ltT hx1)<|A.skip<|A.seq<|A.block<|qDs [(2,hix (ix ak (bu hx1)))] [9] [(17,.bool (decide (e1=xa1)))] ?_
  rcases aA hm with⟨c1,hm⟩|⟨c1,hm⟩
  ·refine qT c1<|qS [] [(4,.bool true)] [] ?_
   cases hm;exact A.ret qE
  exact qF c1<|A.skip<|qGs [(1,hto (inc hx1 hb1))] [5,17] [(5,i6 ((j1+1:Nat):Int))]<|qX () hm
 rintro j1 ⟨⟩ hj1 hl1 hm;rw[hK1]at hm;refine A.seq<|qDs [(2,hto (lnE ak l))] [] [(9,.bool (decide ((j1:Int)<(l.length:Int))))] ?_
 refine qF (ltF hl1)<|A.exit<|qS [] [(4,.bool false)] [] ?_
 cases hm;exact A.ret qE
theorem jj{r:(List Int)}(hm:ee l xa1=some r):RO prog 46 [] [lf ak l,i6 xa1] (lf ak r):=by
 refine aZ func46 rfl rfl ?_;unfold ee at hm;refine qS [] [(0,lf ak l),(1,i6 xa1)] []<|qDs [] [] [(5,i6 0)]<|A.seq<|A.block ?_
 obtain⟨F1,n1,hF1,hm⟩:=fW hm;refine A.lpW (F:=F1) hm (λk_1=>[(0,lf ak l),(1,i6 xa1),(5,i6 k_1)]) (λk_1=>[]) ?_ ?_
 ·exact qW
 rintro Z1 k_1 hm;rw[hF1]at hm;refine A.seq ?_;obtain⟨J1,hJ1,hm⟩:=cO hm;refine A.J (J:=J1) (r:=r) (λv_1=>[(0,lf ak l),(1,i6 xa1),(5,i6 k_1),(18,.bool v_1)]) (λv_1=>[]) ?_ ?_
 ·rcases aA hm with⟨c1,hm⟩|⟨c1,hm⟩
  ·obtain⟨e_1,h1,hm⟩:=aa hm;exact qGs [(2,hto (lnE ak l)),(4,hto (bE c1)),(7,hix (ix ak h1))] [] [(18,.bool (decide (e_1<xa1)))]<|qX (decide (e_1<xa1)) hm
  exact qGs [(2,hto (lnE ak l)),(4,hto (bE c1))] [] [(18,.bool false)]<|qX false hm
 rintro v_1 hm;rw[hJ1]at hm;rcases aA hm with⟨c2,hm⟩|⟨c2,hm⟩
 ·exact qT c2<|A.skip<|A.block<|qGs [] [5,18] [(5,i6 (w64 (k_1+1)))]<|qX (w64 (k_1+1)) hm
 refine qF c2<|A.exit<|A.seq ?_
 obtain⟨J2,hJ2,hm⟩:=cO hm;refine A.J (J:=J2) (r:=r) (λv_2=>[(0,lf ak l),(1,i6 xa1),(5,i6 k_1),(32,.bool v_2)]) (λv_2=>[]) ?_ ?_
 ·rcases aA hm with⟨c3,hm⟩|⟨c3,hm⟩
  ·obtain⟨e_2,h2,hm⟩:=aa hm;exact qGs [(2,hto (lnE ak l)),(4,hto (bE c3)),(7,hix (ix ak h2))] [18] [(32,.bool (decide (e_2=xa1)))]<|qX (decide (e_2=xa1)) hm
  exact qGs [(2,hto (lnE ak l)),(4,hto (bE c3))] [18] [(32,.bool false)]<|qX false hm
 rintro v_2 hm;rw[hJ2]at hm;rcases aA hm with⟨c4,hm⟩|⟨c4,hm⟩
 ·refine qT c4<|qS [] [(4,lf ak l)] [] ?_
  cases hm;exact A.ret qE
 refine qF c4<|A.skip ?_
 obtain⟨l_1,h3,hm⟩:=aa hm;obtain⟨l_2,h4,hm⟩:=aa hm;refine qD [(1,.al 46035),(4,hsl (anz ak h3)),(5,hap 46539 (ap ak (bytes:=8) (by decide) h4))] [1,32] [(6,.own 46539)] [] [(46539,.slice 3 1 (ml ak l_2) 0 false)] ?_;obtain⟨l_3,h5,hm⟩:=aa hm;obtain⟨l_4,h6,hm⟩:=aa hm;refine A.RS W0 [.fz [46539]] [(3,hs3 (sl ak h5)),(5,hapN 46545 ab0 (ap ak (bytes:=8) (by decide) h6) (apNE ak h4 (Nat.succ_pos _)))] [(4,.own 46545)] [(46545,.slice 3 1 (ml ak l_4) 0 false)] (by kernel_rfl)<|A.ret ?_
 obtain rfl:=some_inj hm;exact A.fin W0 [.fz [46545]] rfl (by kernel_rfl)
theorem uo{a:List Int}{b:List Int}{r:Bool}(hm:iT a b=some r):RO prog 45 [] [lf ak a,lf ak b] (.bool r):=by
 refine aZ func45 rfl rfl ?_;unfold iT at hm;refine qS [] [(0,lf ak a),(1,lf ak b)] []<|A.seq<|qDs [(1,hto (lnE ak a)),(3,hto (lnE ak b))] [] [(10,.bool (!decide ((a.length:Int)=(b.length:Int))))] ?_
 rcases aA hm with⟨c1,hm⟩|⟨c1,hm⟩
 ·refine qT c1<|qS [] [(4,.bool false)] [] ?_
  cases hm;exact A.ret qE
 refine qF c1<|A.skip<|A.seq<|qDs [] [10] [(5,i6 0)]<|A.block<|A.bS 0 rfl λhb1=>?_
 obtain⟨B1,K1,hB1,hK1,hm⟩:=bh hm;refine A.lpI (l:=a) (j0:=0) (B:=B1) (K:=K1) hm (λj1=>λ()=>[(0,lf ak a),(1,lf ak b),(5,i6 (j1:Int))]) (λj1=>λ()=>[]) ?_ ?_ ?_
 ·exact qW
 ·rintro j1 e1 Z1 ⟨⟩ hj1 hx1 hm;rw[hB1]at hm;refine A.seq<|qDs [(2,hto (lnE ak a))] [] [(14,.bool (decide ((j1:Int)<(a.length:Int))))] ?_
  refine qT (ltT hx1)<|A.skip<|A.seq<|A.block ?_
  obtain⟨e_1,h1,hm⟩:=aa hm;refine qDs [(2,hix (ix ak (bu hx1))),(6,hix (ix ak h1))] [14] [(25,.bool (!decide (e1=e_1)))] ?_;rcases aA hm with⟨c2,hm⟩|⟨c2,hm⟩
  ·refine qT c2<|qS [] [(4,.bool false)] [] ?_
   cases hm;exact A.ret qE
  exact qF c2<|A.skip<|qGs [(1,hto (inc hx1 hb1))] [5,25] [(5,i6 ((j1+1:Nat):Int))]<|qX () hm
 rintro j1 ⟨⟩ hj1 hl1 hm;rw[hK1]at hm;refine A.seq<|qDs [(2,hto (lnE ak a))] [] [(14,.bool (decide ((j1:Int)<(a.length:Int))))] ?_
 refine qF (ltF hl1)<|A.exit<|qS [] [(4,.bool true)] [] ?_
 cases hm;exact A.ret qE
end Go.Proofs.YtmnbolcmepihlaaGreat
