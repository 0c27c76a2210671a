/- The gi of cW of the program. No condition but aX aH stand in each. -/
import Derived.Test.YtmnbolcmepihlaaDA
namespace Go.Proofs.Ytmnbolcmepihlaa
open Go Go.Proofs.Try
set_option maxRecDepth 100000
set_option linter.all false
theorem oK{t:List Int}{r:bg}(hm:fP t=some r):bL prog 4 [] [lf aB t] (λa σ'=>a=.ptr 900000048 0∧σ'=[(900000048,.cells 48 (k3 r))]):=by
 refine bw func4 rfl rfl ?_
 unfold fP at hm
 refine qS [] [(0,lf aB t)] [] ?_
 obtain⟨l_1,h1,hm⟩:=ak hm
 refine qS [(2,hto (lnE aB t)),(4,hsl (sl aB h1)),(6,.al 4009)] [(2,.ptr 4009 0)] [(4009,.cells 48 [lf aB l_1,i6 0])]<|A.ret ?_
 obtain rfl:=some_inj hm
 exact A.fin W0 [.sw 4009 900000048] rfl (by kernel_rfl)
variable {r:Int×bg}{t:bg}
theorem lX(hm:eA t=some r):bL prog 15 [(900000048,.cells 48 (k3 t))] [.ptr 900000048 0] (λa σ'=>a=i6 r.1∧σ'=[(900000048,.cells 48 (k3 r.2))]):=by
 refine bw func15 rfl rfl ?_
 unfold eA at hm
 refine qS [] [(0,.ptr 900000048 0)] [(900000048,.cells 48 (k3 t))]<|A.seq<|qDs [(8,hto (lnE aB t.L))] [] [(12,.bool (decide ((t.L.length:Int)≤t.At)))] ?_
 rcases aQ hm with⟨c1,hm⟩|⟨c1,hm⟩
 ·refine qT c1<|qDs [] [0,12] [(2,i6 0)] ?_
  cases hm
  exact A.ret qE
 refine qF c1<|A.skip<|qD [] [12] [] [900000048] [(900000048,.cells 48 [lf aB t.L,i6 (w64 (t.At+1))])] ?_
 obtain⟨e_1,h1,hm⟩:=ak hm
 refine qDs [(9,hix (ix aB h1))] [0] [(2,i6 e_1)] ?_
 cases hm
 exact A.ret qE
theorem oL{xa0:Int}{n:Int}{r:Int}(hm:fQ xa0 n=some r):RO prog 14 [] [i6 xa0,i6 n] (i6 r):=by
 refine bw func14 rfl rfl ?_
 unfold fQ at hm
 refine qS [] [(0,i6 xa0),(1,i6 n)] []<|A.seq<|qDs [] [] [(6,.bool (decide (n<1)))] ?_
 rcases aQ hm with⟨c1,hm⟩|⟨c1,hm⟩
 ·refine qT c1<|qS [] [(4,i6 0)] [] ?_
  cases hm
  exact A.ret qE
 refine qF c1<|A.skip ?_
 obtain⟨h1,hm⟩:=ff hm
 refine qDs [(2,.qr n (of_decide_eq_true h1))] [0,6] [(0,i6 (Int.tmod xa0 n))] ?_
 obtain⟨J1,hJ1,hm⟩:=eF hm
 refine A.J (J:=J1) (r:=r) (λaq=>[(0,i6 aq)]) (λaq=>[]) ?_ ?_
 ·refine qDs [] [] [(11,.bool (decide (Int.tmod xa0 n<0)))] ?_
  rcases aQ hm with⟨c2,hm⟩|⟨c2,hm⟩
  ·exact qT c2<|qR [] [(0,i6 (w64 ((Int.tmod xa0 n)+n)))] []<|qX (w64 ((Int.tmod xa0 n)+n)) hm
  exact qF c2<|A.skip<|qX (Int.tmod xa0 n) hm
 rintro aq hm
 rw[hJ1]at hm
 refine qS [] [(4,i6 aq)] [] ?_
 cases hm
 exact A.ret qE
theorem bK{n:Int}(hm:bx t n=some r):bL prog 6 [(900000048,.cells 48 (k3 t))] [.ptr 900000048 0,i6 n] (λa σ'=>a=i6 r.1∧σ'=[(900000048,.cells 48 (k3 r.2))]):=by
 refine bw func6 rfl rfl ?_
 unfold bx at hm
 refine qS [] [(0,.ptr 900000048 0),(1,i6 n)] [(900000048,.cells 48 (k3 t))] ?_
 obtain⟨aq,h1,hm⟩:=ak hm
 obtain⟨aL,h2,hm⟩:=ak hm
 refine qS [(1,hdc [] (lX h1) ck15),(3,hro (oL h2) ck14)] [(4,i6 aL)] [(900000048,.cells 48 (k3 aq.2))] ?_
 cases hm
 exact A.ret qE
theorem fF{lo:Int}{hi:Int}(hm:cM t lo hi=some r):bL prog 12 [(900000048,.cells 48 (k3 t))] [.ptr 900000048 0,i6 lo,i6 hi] (λa σ'=>a=i6 r.1∧σ'=[(900000048,.cells 48 (k3 r.2))]):=by
 refine bw func12 rfl rfl ?_
 unfold cM at hm
 refine qS [] [(0,.ptr 900000048 0),(1,i6 lo),(2,i6 hi)] [(900000048,.cells 48 (k3 t))] ?_
 obtain⟨aq,h1,hm⟩:=ak hm
 refine qS [(6,hdc [] (bK h1) ck6)] [(6,i6 (w64 (lo+aq.1)))] [(900000048,.cells 48 (k3 aq.2))] ?_
 cases hm
 exact A.ret qE
variable {l:List Int}
theorem eB(hm:cD t l=some r):bL prog 13 [(900000048,.cells 48 (k3 t))] [.ptr 900000048 0,lf aB l] (λa σ'=>a=i6 r.1∧σ'=[(900000048,.cells 48 (k3 r.2))]):=by
 refine bw func13 rfl rfl ?_
 unfold cD at hm
 refine qS [] [(0,.ptr 900000048 0),(1,lf aB l)] [(900000048,.cells 48 (k3 t))] ?_
 obtain⟨aq,h1,hm⟩:=ak hm
 obtain⟨e_1,h2,hm⟩:=ak hm
 refine qS [(3,hto (lnE aB l)),(4,hdc [] (bK h1) ck6),(5,hix (ix aB h2))] [(4,i6 e_1)] [(900000048,.cells 48 (k3 aq.2))] ?_
 cases hm
 exact A.ret qE
variable {xa1:Int}
theorem iM{r:Bool}(hm:ec l xa1=some r):RO prog 9 [] [lf aB l,i6 xa1] (.bool r):=by
 refine bw func9 rfl rfl ?_
 unfold ec at hm
 refine qS [] [(0,lf aB l),(1,i6 xa1)] []<|A.seq<|qDs [] [] [(5,i6 0)]<|A.block<|A.bS 0 rfl λhb1=>?_
 obtain⟨B1,K1,hB1,hK1,hm⟩:=cH hm
 refine A.lpI (l:=l) (j0:=0) (B:=B1) (K:=K1) hm (λj1=>λ()=>[(0,lf aB l),(1,i6 xa1),(5,i6 (j1:Int))]) (λj1=>λ()=>[]) ?_ ?_ ?_
 ·exact qW
 ·rintro j1 e1 Z1 ⟨⟩ hj1 hx1 hm
  rw[hB1]at hm
  refine A.seq<|qDs [(2,hto (lnE aB l))] [] [(9,.bool (decide ((j1:Int)<(l.length:Int))))] ?_
  refine qT (ltT hx1)<|A.skip<|A.seq<|A.block<|qDs [(2,hix (ix aB (dG hx1)))] [9] [(17,.bool (decide (e1=xa1)))] ?_
  rcases aQ hm with⟨c1,hm⟩|⟨c1,hm⟩
  ·refine qT c1<|qS [] [(4,.bool true)] [] ?_
   cases hm
   exact A.ret qE
  exact qF c1<|A.skip<|qGs [(1,hto (inc hx1 hb1))] [5,17] [(5,i6 ((j1+1:Nat):Int))]<|qX () hm
 rintro j1 ⟨⟩ hj1 hl1 hm
 rw[hK1]at hm
 refine A.seq<|qDs [(2,hto (lnE aB l))] [] [(9,.bool (decide ((j1:Int)<(l.length:Int))))] ?_
 refine qF (ltF hl1)<|A.exit<|qS [] [(4,.bool false)] [] ?_
 cases hm
 exact A.ret qE
theorem iA{r:(List Int)}(hm:dD l xa1=some r):RO prog 10 [] [lf aB l,i6 xa1] (lf aB r):=by
 refine bw func10 rfl rfl ?_
 unfold dD at hm
 refine qS [] [(0,lf aB l),(1,i6 xa1)] []<|qDs [] [] [(5,i6 0)]<|A.seq<|A.block ?_
 obtain⟨F1,n1,hF1,hm⟩:=mF hm
 refine A.lpW (F:=F1) hm (λk_1=>[(0,lf aB l),(1,i6 xa1),(5,i6 k_1)]) (λk_1=>[]) ?_ ?_
 ·exact qW
 rintro Z1 k_1 hm
 rw[hF1]at hm
 refine A.seq ?_
 obtain⟨J1,hJ1,hm⟩:=eF hm
 refine A.J (J:=J1) (r:=r) (λv_1=>[(0,lf aB l),(1,i6 xa1),(5,i6 k_1),(18,.bool v_1)]) (λv_1=>[]) ?_ ?_
 ·rcases aQ hm with⟨c1,hm⟩|⟨c1,hm⟩
  ·obtain⟨e_1,h1,hm⟩:=ak hm
   exact qGs [(2,hto (lnE aB l)),(4,hto (bE c1)),(7,hix (ix aB h1))] [] [(18,.bool (decide (e_1<xa1)))]<|qX (decide (e_1<xa1)) hm
  exact qGs [(2,hto (lnE aB l)),(4,hto (bE c1))] [] [(18,.bool false)]<|qX false hm
 rintro v_1 hm
 rw[hJ1]at hm
 rcases aQ hm with⟨c2,hm⟩|⟨c2,hm⟩
 ·exact qT c2<|A.skip<|A.block<|qGs [] [5,18] [(5,i6 (w64 (k_1+1)))]<|qX (w64 (k_1+1)) hm
 refine qF c2<|A.exit<|A.seq ?_
 obtain⟨J2,hJ2,hm⟩:=eF hm
 refine A.J (J:=J2) (r:=r) (λv_2=>[(0,lf aB l),(1,i6 xa1),(5,i6 k_1),(32,.bool v_2)]) (λv_2=>[]) ?_ ?_
 ·rcases aQ hm with⟨c3,hm⟩|⟨c3,hm⟩
  ·obtain⟨e_2,h2,hm⟩:=ak hm
   exact qGs [(2,hto (lnE aB l)),(4,hto (bE c3)),(7,hix (ix aB h2))] [18] [(32,.bool (decide (e_2=xa1)))]<|qX (decide (e_2=xa1)) hm
  exact qGs [(2,hto (lnE aB l)),(4,hto (bE c3))] [18] [(32,.bool false)]<|qX false hm
 rintro v_2 hm
 rw[hJ2]at hm
 rcases aQ hm with⟨c4,hm⟩|⟨c4,hm⟩
 ·refine qT c4<|qS [] [(4,lf aB l)] [] ?_
  cases hm
  exact A.ret qE
 refine qF c4<|A.skip ?_
 obtain⟨l_1,h3,hm⟩:=ak hm
 obtain⟨l_2,h4,hm⟩:=ak hm
 refine qD [(1,.al 10035),(4,hsl (slE2 aB h3)),(5,hap 10539 (ap aB (bytes:=8) (by decide) h4))] [1,32] [(6,.own 10539)] [] [(10539,.slice 3 1 (ml aB l_2) 0 false)] ?_
 obtain⟨l_3,h5,hm⟩:=ak hm
 obtain⟨l_4,h6,hm⟩:=ak hm
 refine A.RS W0 [.fz [10539]] [(3,hs3 (sl aB h5)),(5,hapN 10545 aaD (ap aB (bytes:=8) (by decide) h6) (apNE aB h4 (Nat.succ_pos _)))] [(4,.own 10545)] [(10545,.slice 3 1 (ml aB l_4) 0 false)] (by kernel_rfl)<|A.ret ?_
 obtain rfl:=some_inj hm
 exact A.fin W0 [.fz [10545]] rfl (by kernel_rfl)
end Go.Proofs.Ytmnbolcmepihlaa
