/- The iJ of ez of the program. No condition but bK bn stand in each. -/
import Derived.Test.YtdjeacigeegklaaGreatV1
namespace Go.Proofs.YtdjeacigeegklaaGreat
open Go Go.Proofs.Tryz
set_option maxRecDepth 100000
set_option linter.all false
variable {ra1:Int}{t:aa}
theorem qs{r:Bool}(hm:kV t ra1=some r):RO prog 75 [] [.agg (k2 t),i6 ra1] (.bool r):=by
 refine aY func75 rfl rfl ?_
 unfold kV at hm
 refine qS [(0,.al 75002)] [(1,i6 ra1),(2,.ptr 75002 0)] [(75002,.cells 28 (k2 t))] ?_
 obtain⟨ai,h1,hm⟩:=af hm
 rcases ak hm with⟨c1,hm⟩|⟨c1,hm⟩
 ·obtain⟨aD,h2,hm⟩:=af hm
  refine qS [(1,hro (ja h1) ab5),(3,hto (bE c1)),(6,hro (qq h2) afg)] [(4,.bool aD)] [] ?_
  cases hm
  exact A.ret qE
 refine qS [(1,hro (ja h1) ab5),(3,hto (bE c1))] [(4,.bool false)] [] ?_
 cases hm
 exact A.ret qE
theorem acZ{cE:Int}{eR:Int}{r:Int×Bool}(hm:qc t cE eR=some r):RO prog 50 [] [.agg (k2 t),i6 cE,i6 eR] (.tup [i6 r.1,.bool r.2]):=by
 refine aY func50 rfl rfl ?_
 unfold qc at hm
 refine qS [(0,.al 50003)] [(1,i6 cE),(2,i6 eR),(3,.ptr 50003 0)] [(50003,.cells 28 (k2 t))]<|A.seq ?_
 obtain⟨ai,h1,hm⟩:=af hm
 refine qDs [(1,hro (ja h1) ab5)] [] [(10,.bool (!decide (ai=0)))] ?_
 rcases ak hm with⟨c1,hm⟩|⟨c1,hm⟩
 ·refine qT c1<|qS [] [(6,i6 0),(7,.bool false)] [] ?_
  cases hm
  exact A.ret qE
 refine qF c1<|A.skip ?_
 obtain⟨aD,h2,hm⟩:=af hm
 refine qS [(3,hro (rI h2) alD)] [(6,i6 aD.1),(7,.bool aD.2)] [] ?_
 cases hm
 exact A.ret qE
variable {r:(List Int)}
theorem wX(hm:ot t ra1=some r):RO prog 81 [] [.agg (k2 t),i6 ra1] (lf aA r):=by
 refine aY func81 rfl rfl ?_
 unfold ot at hm
 refine qS [(0,.al 81002)] [(1,i6 ra1),(2,.ptr 81002 0)] [(81002,.cells 28 (k2 t))]<|qDs [] [] [(5,.aO)]<|A.seq<|qDs [] [] [(6,i6 0)]<|A.block<|A.bC 2 0 rfl rfl rfl λhb1=>?_
 obtain⟨B1,K1,hB1,hK1,hm⟩:=bq hm
 refine A.lpI (l:=t.aj) (j0:=0) (B:=B1) (K:=K1) hm (λj1=>λaZ=>[(1,i6 ra1),(2,.ptr 81002 0),(5,.own 600081005),(6,i6 (j1:Int))]) (λj1=>λaZ=>[(81002,.cells 28 (k2 t)),(600081005,.slice 3 1 (ml aA aZ) 0 false)]) ?_ ?_ ?_
 ·exact bt.go [.ad 5 600081005 3 1] [] (by kernel_rfl)
 ·rintro j1 e1 Z1 aZ hj1 hx1 hm
  rw[hB1]at hm
  refine A.seq<|qDs [(3,hto (lnE aI t.aj))] [] [(13,.bool (decide ((j1:Int)<(t.aj.length:Int))))] ?_
  refine qT (ltT hx1)<|A.skip ?_
  obtain⟨J1,hJ1,hm⟩:=bZ hm
  refine A.J (J:=J1) (r:=r) (λcQ=>[(1,i6 ra1),(2,.ptr 81002 0),(5,.own 600081005),(6,i6 (j1:Int))]) (λcQ=>[(81002,.cells 28 (k2 t)),(600081005,.slice 3 1 (ml aA cQ) 0 false)]) ?_ ?_
  ·refine A.block ?_
   obtain⟨ai,h1,hm⟩:=af hm
   refine qDs [(5,hix (ix aI (bA hx1))),(8,hro (rI h1) alD)] [13] [(8,.bool ai.2)]<|qDs [] [8] [(28,.bool ai.2)] ?_
   rcases ak hm with⟨c1,hm⟩|⟨c1,hm⟩
   ·refine qT c1 ?_
    obtain⟨l_1,h2,hm⟩:=af hm
    exact qG [(4,hix (ix aI (bA hx1))),(8,hap 81537 (ap aA (bytes:=8) (by decide) h2))] [5,28] [(5,.own 81537)] [600081005] [(81537,.slice 3 1 (ml aA l_1) 0 false)]<|Exists.intro l_1 (And.intro hm (bt.go [.sw 81537 600081005] [] (by kernel_rfl)))
   exact qF c1<|A.skip<|qX aZ hm
  rintro cQ hm
  rw[hJ1]at hm
  exact qGs [(1,hto (inc hx1 hb1))] [6] [(6,i6 ((j1+1:Nat):Int))]<|qX cQ hm
 rintro j1 aZ hj1 hl1 hm
 rw[hK1]at hm
 refine A.seq<|qDs [(3,hto (lnE aI t.aj))] [] [(13,.bool (decide ((j1:Int)<(t.aj.length:Int))))] ?_
 refine qF (ltF hl1)<|A.exit<|qD [] [1,2,5,6,13] [(4,.own 600081005)] [81002] []<|A.ret ?_
 obtain rfl:=some_inj hm
 exact A.fin W0 [.fz [600081005]] rfl (by kernel_rfl)
theorem x5(hm:lC t ra1=some r):RO prog 43 [] [.agg (k2 t),i6 ra1] (lf aA r):=by
 refine aY func43 rfl rfl ?_
 unfold lC at hm
 refine qS [(0,.al 43002)] [(1,i6 ra1),(2,.ptr 43002 0)] [(43002,.cells 28 (k2 t))]<|A.seq ?_
 obtain⟨ai,h1,hm⟩:=af hm
 refine qDs [(1,hro (ja h1) ab5)] [] [(7,.bool (!decide (ai=0)))] ?_
 rcases ak hm with⟨c1,hm⟩|⟨c1,hm⟩
 ·refine qT c1<|qS [] [(4,.aO)] [] ?_
  cases hm
  exact A.ret qE
 refine qF c1<|A.skip ?_
 obtain⟨aD,h2,hm⟩:=af hm
 refine qS [(2,hro (wX h2) auk)] [(4,lf aA aD)] [] ?_
 cases hm
 exact A.ret qE
end Go.Proofs.YtdjeacigeegklaaGreat
