/- The iy of ec of the program. No condition but bU bx stand in each. -/
import Derived.Test.YtdjeacigeegklaaGreatDA
import Derived.Test.YtdjeacigeegklaaGreatT
import Derived.Test.YtdjeacigeegklaaGreatV1
namespace Go.Proofs.YtdjeacigeegklaaGreat
open Go Go.Proofs.Tryz
set_option maxRecDepth 100000
set_option linter.all false
variable {ra1:Int}{t:af}
theorem pO{r:Bool}(hm:j8 t ra1=some r):RO prog 75 [] [.agg (k2 t),i6 ra1] (.bool r):=by
 refine bh func75 rfl rfl ?_
 unfold j8 at hm
 refine qS [(0,.al 75002)] [(1,i6 ra1),(2,.ptr 75002 0)] [(75002,.cells 28 (k2 t))] ?_
 obtain⟨ai,h1,hm⟩:=aa hm
 rcases aj hm with⟨c1,hm⟩|⟨c1,hm⟩
 ·obtain⟨aI,h2,hm⟩:=aa hm
  refine qS [(1,hro (iM h1) aaV),(3,hto (bE c1)),(6,hro (pN h2) adC)] [(4,.bool aI)] [] ?_
  cases hm
  exact A.ret qE
 refine qS [(1,hro (iM h1) aaV),(3,hto (bE c1))] [(4,.bool false)] [] ?_
 cases hm
 exact A.ret qE
theorem abM{cG:Int}{eA:Int}{r:Int×Bool}(hm:o6 t cG eA=some r):RO prog 50 [] [.agg (k2 t),i6 cG,i6 eA] (.tup [i6 r.1,.bool r.2]):=by
 refine bh func50 rfl rfl ?_
 unfold o6 at hm
 refine qS [(0,.al 50003)] [(1,i6 cG),(2,i6 eA),(3,.ptr 50003 0)] [(50003,.cells 28 (k2 t))]<|A.seq ?_
 obtain⟨ai,h1,hm⟩:=aa hm
 refine qDs [(1,hro (iM h1) aaV)] [] [(10,.bool (!decide (ai=0)))] ?_
 rcases aj hm with⟨c1,hm⟩|⟨c1,hm⟩
 ·refine qT c1<|qS [] [(6,i6 0),(7,.bool false)] [] ?_
  cases hm
  exact A.ret qE
 refine qF c1<|A.skip ?_
 show ah _ _ _ _ _
 obtain⟨aI,h2,hm⟩:=aa hm
 refine qS [(3,hro (qK h2) alF)] [(6,i6 aI.1),(7,.bool aI.2)] [] ?_
 cases hm
 exact A.ret qE
variable {r:(List Int)}
theorem vC(hm:ny t ra1=some r):RO prog 81 [] [.agg (k2 t),i6 ra1] (lf aB r):=by
 refine bh func81 rfl rfl ?_
 unfold ny at hm
 refine qS [(0,.al 81002)] [(1,i6 ra1),(2,.ptr 81002 0)] [(81002,.cells 28 (k2 t))]<|qDs [] [] [(5,.aP)]<|A.seq<|qDs [] [] [(6,i6 0)]<|A.block<|A.bC 2 0 rfl rfl rfl λhb1=>?_
 obtain⟨B1,K1,hB1,hK1,hm⟩:=aX hm
 refine A.lpI (l:=t.aq) (j0:=0) (B:=B1) (K:=K1) hm (λj1=>λbN=>[(1,i6 ra1),(2,.ptr 81002 0),(5,.own 600081005),(6,i6 (j1:Int))]) (λj1=>λbN=>[(81002,.cells 28 (k2 t)),(600081005,.slice 3 1 (ml aB bN) 0 false)]) ?_ ?_ ?_
 ·exact bA.go [.ad 5 600081005 3 1] [] (by kernel_rfl)
 ·rintro j1 e1 Z1 bN hj1 hx1 hm
  rw[hB1]at hm
  refine A.seq<|qDs [(3,hto (lnE aJ t.aq))] [] [(13,.bool (decide ((j1:Int)<(t.aq.length:Int))))] ?_
  refine qT (ltT hx1)<|A.skip ?_
  show ah _ _ _ _ _
  obtain⟨J1,hJ1,hm⟩:=bQ hm
  refine A.J (J:=J1) (r:=r) (λdO=>[(1,i6 ra1),(2,.ptr 81002 0),(5,.own 600081005),(6,i6 (j1:Int))]) (λdO=>[(81002,.cells 28 (k2 t)),(600081005,.slice 3 1 (ml aB dO) 0 false)]) ?_ ?_
  ·refine A.block ?_
   obtain⟨ai,h1,hm⟩:=aa hm
   refine qDs [(5,hix (ix aJ (bq hx1))),(8,hro (qK h1) alF)] [13] [(8,.bool ai.2)]<|qDs [] [8] [(28,.bool ai.2)] ?_
   rcases aj hm with⟨c1,hm⟩|⟨c1,hm⟩
   ·refine qT c1 ?_
    obtain⟨l_1,h2,hm⟩:=aa hm
    exact qG [(4,hix (ix aJ (bq hx1))),(8,hap 81537 (ap aB (bytes:=8) (by decide) h2))] [5,28] [(5,.own 81537)] [600081005] [(81537,.slice 3 1 (ml aB l_1) 0 false)]<|Exists.intro l_1 (And.intro hm (bA.go [.sw 81537 600081005] [] (by kernel_rfl)))
   exact qF c1<|A.skip<|qX bN hm
  rintro dO hm
  rw[hJ1]at hm
  exact qGs [(1,hto (inc hx1 hb1))] [6] [(6,i6 ((j1+1:Nat):Int))]<|qX dO hm
 rintro j1 bN hj1 hl1 hm
 rw[hK1]at hm
 refine A.seq<|qDs [(3,hto (lnE aJ t.aq))] [] [(13,.bool (decide ((j1:Int)<(t.aq.length:Int))))] ?_
 refine qF (ltF hl1)<|A.exit ?_
 show ah _ _ _ _ _
 refine qD [] [1,2,5,6,13] [(4,.own 600081005)] [81002] []<|A.ret ?_
 obtain rfl:=some_inj hm
 exact A.fin W0 [.fz [600081005]] rfl (by kernel_rfl)
theorem wM(hm:kH t ra1=some r):RO prog 43 [] [.agg (k2 t),i6 ra1] (lf aB r):=by
 refine bh func43 rfl rfl ?_
 unfold kH at hm
 refine qS [(0,.al 43002)] [(1,i6 ra1),(2,.ptr 43002 0)] [(43002,.cells 28 (k2 t))]<|A.seq ?_
 obtain⟨ai,h1,hm⟩:=aa hm
 refine qDs [(1,hro (iM h1) aaV)] [] [(7,.bool (!decide (ai=0)))] ?_
 rcases aj hm with⟨c1,hm⟩|⟨c1,hm⟩
 ·refine qT c1<|qS [] [(4,.aP)] [] ?_
  cases hm
  exact A.ret qE
 refine qF c1<|A.skip ?_
 show ah _ _ _ _ _
 obtain⟨aI,h2,hm⟩:=aa hm
 refine qS [(2,hro (vC h2) av4)] [(4,lf aB aI)] [] ?_
 cases hm
 exact A.ret qE
end Go.Proofs.YtdjeacigeegklaaGreat
