/- The iJ of ee of the program. No condition but bJ aY stand in each. -/
import Derived.Test.YtdjeacigeegklaaGreatDA
namespace Go.Proofs.YtdjeacigeegklaaGreat
open Go Go.Proofs.Tryz
set_option maxRecDepth 100000
set_option linter.all false
theorem yN{t:List Int}{r:bM}(hm:l7 t=some r):dA prog 9 [] [lf aA t] (λa σ'=>a=.ptr 900000115 0∧σ'=[(900000115,.cells 115 (k6 r))]):=by
 refine bh func9 rfl rfl ?_
 unfold l7 at hm
 refine qS [] [(0,lf aA t)] [] ?_
 obtain⟨l_1,h1,hm⟩:=af hm
 refine qS [(2,hto (lnE aA t)),(4,hsl (sl aA h1)),(6,.al 9009)] [(2,.ptr 9009 0)] [(9009,.cells 115 [lf aA l_1,i6 0])]<|A.ret ?_
 obtain rfl:=some_inj hm
 exact A.fin W0 [.sw 9009 900000115] rfl (by kernel_rfl)
variable {r:Int×bM}{t:bM}
theorem uY(hm:iP t=some r):dA prog 53 [(900000115,.cells 115 (k6 t))] [.ptr 900000115 0] (λa σ'=>a=i6 r.1∧σ'=[(900000115,.cells 115 (k6 r.2))]):=by
 refine bh func53 rfl rfl ?_
 unfold iP at hm
 refine qS [] [(0,.ptr 900000115 0)] [(900000115,.cells 115 (k6 t))]<|A.seq<|qDs [(8,hto (lnE aA t.L))] [] [(12,.bool (decide ((t.L.length:Int)≤t.At)))] ?_
 rcases ak hm with⟨c1,hm⟩|⟨c1,hm⟩
 ·refine qT c1<|qDs [] [0,12] [(2,i6 0)] ?_
  cases hm
  exact A.ret qE
 refine qF c1<|A.skip<|qD [] [12] [] [900000115] [(900000115,.cells 115 [lf aA t.L,i6 (w64 (t.At+1))])] ?_
 obtain⟨e_1,h1,hm⟩:=af hm
 refine qDs [(9,hix (ix aA h1))] [0] [(2,i6 e_1)] ?_
 cases hm
 exact A.ret qE
theorem yO{xa0:Int}{n:Int}{r:Int}(hm:l8 xa0 n=some r):RO prog 52 [] [i6 xa0,i6 n] (i6 r):=by
 refine bh func52 rfl rfl ?_
 unfold l8 at hm
 refine qS [] [(0,i6 xa0),(1,i6 n)] []<|A.seq<|qDs [] [] [(6,.bool (decide (n<1)))] ?_
 rcases ak hm with⟨c1,hm⟩|⟨c1,hm⟩
 ·refine qT c1<|qS [] [(4,i6 0)] [] ?_
  cases hm
  exact A.ret qE
 refine qF c1<|A.skip ?_
 obtain⟨h1,hm⟩:=fI hm
 refine qDs [(2,.qr n (of_decide_eq_true h1))] [0,6] [(0,i6 (Int.tmod xa0 n))] ?_
 obtain⟨J1,hJ1,hm⟩:=cw hm
 refine A.J (J:=J1) (r:=r) (λai=>[(0,i6 ai)]) (λai=>[]) ?_ ?_
 ·refine qDs [] [] [(11,.bool (decide (Int.tmod xa0 n<0)))] ?_
  rcases ak hm with⟨c2,hm⟩|⟨c2,hm⟩
  ·exact qT c2<|qR [] [(0,i6 (w64 ((Int.tmod xa0 n)+n)))] []<|qX (w64 ((Int.tmod xa0 n)+n)) hm
  exact qF c2<|A.skip<|qX (Int.tmod xa0 n) hm
 rintro ai hm
 rw[hJ1]at hm
 refine qS [] [(4,i6 ai)] [] ?_
 cases hm
 exact A.ret qE
theorem cG{n:Int}(hm:cn t n=some r):dA prog 12 [(900000115,.cells 115 (k6 t))] [.ptr 900000115 0,i6 n] (λa σ'=>a=i6 r.1∧σ'=[(900000115,.cells 115 (k6 r.2))]):=by
 refine bh func12 rfl rfl ?_
 unfold cn at hm
 refine qS [] [(0,.ptr 900000115 0),(1,i6 n)] [(900000115,.cells 115 (k6 t))] ?_
 obtain⟨ai,h1,hm⟩:=af hm
 obtain⟨aI,h2,hm⟩:=af hm
 refine qS [(1,hdc [] (uY h1) ck53),(3,hro (yO h2) ck52)] [(4,i6 aI)] [(900000115,.cells 115 (k6 ai.2))] ?_
 cases hm
 exact A.ret qE
theorem lD{lo:Int}{hi:Int}(hm:fJ t lo hi=some r):dA prog 51 [(900000115,.cells 115 (k6 t))] [.ptr 900000115 0,i6 lo,i6 hi] (λa σ'=>a=i6 r.1∧σ'=[(900000115,.cells 115 (k6 r.2))]):=by
 refine bh func51 rfl rfl ?_
 unfold fJ at hm
 refine qS [] [(0,.ptr 900000115 0),(1,i6 lo),(2,i6 hi)] [(900000115,.cells 115 (k6 t))] ?_
 obtain⟨ai,h1,hm⟩:=af hm
 refine qS [(6,hdc [] (cG h1) qy)] [(6,i6 (w64 (lo+ai.1)))] [(900000115,.cells 115 (k6 ai.2))] ?_
 cases hm
 exact A.ret qE
variable {l:List Int}
theorem iS(hm:fq t l=some r):dA prog 39 [(900000115,.cells 115 (k6 t))] [.ptr 900000115 0,lf aA l] (λa σ'=>a=i6 r.1∧σ'=[(900000115,.cells 115 (k6 r.2))]):=by
 refine bh func39 rfl rfl ?_
 unfold fq at hm
 refine qS [] [(0,.ptr 900000115 0),(1,lf aA l)] [(900000115,.cells 115 (k6 t))] ?_
 obtain⟨ai,h1,hm⟩:=af hm
 obtain⟨e_1,h2,hm⟩:=af hm
 refine qS [(3,hto (lnE aA l)),(4,hdc [] (cG h1) qy),(5,hix (ix aA h2))] [(4,i6 e_1)] [(900000115,.cells 115 (k6 ai.2))] ?_
 cases hm
 exact A.ret qE
variable {xa1:Int}
theorem eZ{r:Bool}(hm:eG l xa1=some r):RO prog 16 [] [lf aA l,i6 xa1] (.bool r):=by
 refine bh func16 rfl rfl ?_
 unfold eG at hm
 refine qS [] [(0,lf aA l),(1,i6 xa1)] []<|A.seq<|qDs [] [] [(5,i6 0)]<|A.block<|A.bS 0 rfl λhb1=>?_
 obtain⟨B1,K1,hB1,hK1,hm⟩:=bu hm
 refine A.lpI (l:=l) (j0:=0) (B:=B1) (K:=K1) hm (λj1=>λ()=>[(0,lf aA l),(1,i6 xa1),(5,i6 (j1:Int))]) (λj1=>λ()=>[]) ?_ ?_ ?_
 ·exact qW
 ·rintro j1 e1 Z1 ⟨⟩ hj1 hx1 hm
  rw[hB1]at hm
  refine A.seq<|qDs [(2,hto (lnE aA l))] [] [(9,.bool (decide ((j1:Int)<(l.length:Int))))] ?_
  refine qT (ltT hx1)<|A.skip<|A.seq<|A.block<|qDs [(2,hix (ix aA (bt hx1)))] [9] [(17,.bool (decide (e1=xa1)))] ?_
  rcases ak hm with⟨c1,hm⟩|⟨c1,hm⟩
  ·refine qT c1<|qS [] [(4,.bool true)] [] ?_
   cases hm
   exact A.ret qE
  exact qF c1<|A.skip<|qGs [(1,hto (inc hx1 hb1))] [5,17] [(5,i6 ((j1+1:Nat):Int))]<|qX () hm
 rintro j1 ⟨⟩ hj1 hl1 hm
 rw[hK1]at hm
 refine A.seq<|qDs [(2,hto (lnE aA l))] [] [(9,.bool (decide ((j1:Int)<(l.length:Int))))] ?_
 refine qF (ltF hl1)<|A.exit<|qS [] [(4,.bool false)] [] ?_
 cases hm
 exact A.ret qE
theorem sW{r:(List Int)}(hm:iF l xa1=some r):RO prog 25 [] [lf aA l,i6 xa1] (lf aA r):=by
 refine bh func25 rfl rfl ?_
 unfold iF at hm
 refine qS [] [(0,lf aA l),(1,i6 xa1)] []<|qDs [] [] [(5,i6 0)]<|A.seq<|A.block ?_
 obtain⟨F1,n1,hF1,hm⟩:=jA hm
 refine A.lpW (F:=F1) hm (λk_1=>[(0,lf aA l),(1,i6 xa1),(5,i6 k_1)]) (λk_1=>[]) ?_ ?_
 ·exact qW
 rintro Z1 k_1 hm
 rw[hF1]at hm
 refine A.seq ?_
 obtain⟨J1,hJ1,hm⟩:=cw hm
 refine A.J (J:=J1) (r:=r) (λv_1=>[(0,lf aA l),(1,i6 xa1),(5,i6 k_1),(18,.bool v_1)]) (λv_1=>[]) ?_ ?_
 ·rcases ak hm with⟨c1,hm⟩|⟨c1,hm⟩
  ·obtain⟨e_1,h1,hm⟩:=af hm
   exact qGs [(2,hto (lnE aA l)),(4,hto (bE c1)),(7,hix (ix aA h1))] [] [(18,.bool (decide (e_1<xa1)))]<|qX (decide (e_1<xa1)) hm
  exact qGs [(2,hto (lnE aA l)),(4,hto (bE c1))] [] [(18,.bool false)]<|qX false hm
 rintro v_1 hm
 rw[hJ1]at hm
 rcases ak hm with⟨c2,hm⟩|⟨c2,hm⟩
 ·exact qT c2<|A.skip<|A.block<|qGs [] [5,18] [(5,i6 (w64 (k_1+1)))]<|qX (w64 (k_1+1)) hm
 refine qF c2<|A.exit<|A.seq ?_
 obtain⟨J2,hJ2,hm⟩:=cw hm
 refine A.J (J:=J2) (r:=r) (λv_2=>[(0,lf aA l),(1,i6 xa1),(5,i6 k_1),(32,.bool v_2)]) (λv_2=>[]) ?_ ?_
 ·rcases ak hm with⟨c3,hm⟩|⟨c3,hm⟩
  ·obtain⟨e_2,h2,hm⟩:=af hm
   exact qGs [(2,hto (lnE aA l)),(4,hto (bE c3)),(7,hix (ix aA h2))] [18] [(32,.bool (decide (e_2=xa1)))]<|qX (decide (e_2=xa1)) hm
  exact qGs [(2,hto (lnE aA l)),(4,hto (bE c3))] [18] [(32,.bool false)]<|qX false hm
 rintro v_2 hm
 rw[hJ2]at hm
 rcases ak hm with⟨c4,hm⟩|⟨c4,hm⟩
 ·refine qT c4<|qS [] [(4,lf aA l)] [] ?_
  cases hm
  exact A.ret qE
 refine qF c4<|A.skip ?_
 obtain⟨l_1,h3,hm⟩:=af hm
 obtain⟨l_2,h4,hm⟩:=af hm
 refine qD [(1,.al 25035),(4,hsl (adN aA h3)),(5,hap 25539 (ap aA (bytes:=8) (by decide) h4))] [1,32] [(6,.own 25539)] [] [(25539,.slice 3 1 (ml aA l_2) 0 false)] ?_
 obtain⟨l_3,h5,hm⟩:=af hm
 obtain⟨l_4,h6,hm⟩:=af hm
 refine A.RS W0 [.fz [25539]] [(3,hs3 (sl aA h5)),(5,atu 25545 amO (ap aA (bytes:=8) (by decide) h6) (atr aA h4 (Nat.succ_pos _)))] [(4,.own 25545)] [(25545,.slice 3 1 (ml aA l_4) 0 false)] (by kernel_rfl)<|A.ret ?_
 obtain rfl:=some_inj hm
 exact A.fin W0 [.fz [25545]] rfl (by kernel_rfl)
theorem fM{a:List Int}{b:List Int}{r:Bool}(hm:fV a b=some r):RO prog 27 [] [lf aA a,lf aA b] (.bool r):=by
 refine bh func27 rfl rfl ?_
 unfold fV at hm
 refine qS [] [(0,lf aA a),(1,lf aA b)] []<|A.seq<|qDs [(1,hto (lnE aA a)),(3,hto (lnE aA b))] [] [(10,.bool (!decide ((a.length:Int)=(b.length:Int))))] ?_
 rcases ak hm with⟨c1,hm⟩|⟨c1,hm⟩
 ·refine qT c1<|qS [] [(4,.bool false)] [] ?_
  cases hm
  exact A.ret qE
 refine qF c1<|A.skip<|A.seq<|qDs [] [10] [(5,i6 0)]<|A.block<|A.bS 0 rfl λhb1=>?_
 obtain⟨B1,K1,hB1,hK1,hm⟩:=bu hm
 refine A.lpI (l:=a) (j0:=0) (B:=B1) (K:=K1) hm (λj1=>λ()=>[(0,lf aA a),(1,lf aA b),(5,i6 (j1:Int))]) (λj1=>λ()=>[]) ?_ ?_ ?_
 ·exact qW
 ·rintro j1 e1 Z1 ⟨⟩ hj1 hx1 hm
  rw[hB1]at hm
  refine A.seq<|qDs [(2,hto (lnE aA a))] [] [(14,.bool (decide ((j1:Int)<(a.length:Int))))] ?_
  refine qT (ltT hx1)<|A.skip<|A.seq<|A.block ?_
  obtain⟨e_1,h1,hm⟩:=af hm
  refine qDs [(2,hix (ix aA (bt hx1))),(6,hix (ix aA h1))] [14] [(25,.bool (!decide (e1=e_1)))] ?_
  rcases ak hm with⟨c2,hm⟩|⟨c2,hm⟩
  ·refine qT c2<|qS [] [(4,.bool false)] [] ?_
   cases hm
   exact A.ret qE
  exact qF c2<|A.skip<|qGs [(1,hto (inc hx1 hb1))] [5,25] [(5,i6 ((j1+1:Nat):Int))]<|qX () hm
 rintro j1 ⟨⟩ hj1 hl1 hm
 rw[hK1]at hm
 refine A.seq<|qDs [(2,hto (lnE aA a))] [] [(14,.bool (decide ((j1:Int)<(a.length:Int))))] ?_
 refine qF (ltF hl1)<|A.exit<|qS [] [(4,.bool true)] [] ?_
 cases hm
 exact A.ret qE
end Go.Proofs.YtdjeacigeegklaaGreat
