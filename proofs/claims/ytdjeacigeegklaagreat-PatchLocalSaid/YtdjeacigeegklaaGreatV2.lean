/- The gn of dg of the program. No condition but bB aX stand in each. -/
import Derived.Test.YtdjeacigeegklaaGreatDA
import Derived.Test.YtdjeacigeegklaaGreatV1
namespace Go.Proofs.YtdjeacigeegklaaGreat
open Go Go.Proofs.Tryz
set_option maxRecDepth 100000
set_option linter.all false
variable {r:(List Int)}{ra1:Int}{t:aa}
theorem zZ(hm:lS t ra1=some r):RO prog 81 [] [.agg (k2 t),i6 ra1] (lf aF r):=by
 refine bf func81 rfl rfl ?_
 unfold lS at hm
 refine qS [(0,.al 81002)] [(1,i6 ra1),(2,.ptr 81002 0)] [(81002,.cells 28 (k2 t))]<|qDs [] [] [(5,.aU)]<|A.seq<|qDs [] [] [(6,i6 0)]<|A.block<|A.bC 2 0 rfl rfl rfl λhb1=>?_
 obtain⟨B1,K1,hB1,hK1,hm⟩:=bn hm
 refine A.lpI (l:=t.aq) (j0:=0) (B:=B1) (K:=K1) hm (λj1=>λbg=>[(1,i6 ra1),(2,.ptr 81002 0),(5,.own 600081005),(6,i6 (j1:Int))]) (λj1=>λbg=>[(81002,.cells 28 (k2 t)),(600081005,.slice 3 1 (ml aF bg) 0 false)]) ?_ ?_ ?_
 ·exact bq.go [.ad 5 600081005 3 1] [] (by kernel_rfl)
 ·rintro j1 e1 Z1 bg hj1 hx1 hm
  rw[hB1]at hm
  refine A.seq<|qDs [(3,hto (lnE aJ t.aq))] [] [(13,.bool (decide ((j1:Int)<(t.aq.length:Int))))] ?_
  refine qT (ltT hx1)<|A.skip ?_
  show ah _ _ _ _ _
  obtain⟨J1,hJ1,hm⟩:=cg hm
  refine A.J (J:=J1) (r:=r) (λcK=>[(1,i6 ra1),(2,.ptr 81002 0),(5,.own 600081005),(6,i6 (j1:Int))]) (λcK=>[(81002,.cells 28 (k2 t)),(600081005,.slice 3 1 (ml aF cK) 0 false)]) ?_ ?_
  ·refine A.block ?_
   obtain⟨ai,h1,hm⟩:=af hm
   refine qDs [(5,hix (ix aJ (bH hx1))),(8,hro (zb h1) ck89)] [13] [(8,.bool ai.2)]<|qDs [] [8] [(28,.bool ai.2)] ?_
   rcases az hm with⟨c1,hm⟩|⟨c1,hm⟩
   ·refine qT c1 ?_
    obtain⟨l_1,h2,hm⟩:=af hm
    exact qG [(4,hix (ix aJ (bH hx1))),(8,hap 81537 (ap aF (bytes:=8) (by decide) h2))] [5,28] [(5,.own 81537)] [600081005] [(81537,.slice 3 1 (ml aF l_1) 0 false)]<|Exists.intro l_1 (And.intro hm (bq.go [.sw 81537 600081005] [] (by kernel_rfl)))
   exact qF c1<|A.skip<|qX bg hm
  rintro cK hm
  rw[hJ1]at hm
  exact qGs [(1,hto (inc hx1 hb1))] [6] [(6,i6 ((j1+1:Nat):Int))]<|qX cK hm
 rintro j1 bg hj1 hl1 hm
 rw[hK1]at hm
 refine A.seq<|qDs [(3,hto (lnE aJ t.aq))] [] [(13,.bool (decide ((j1:Int)<(t.aq.length:Int))))] ?_
 refine qF (ltF hl1)<|A.exit ?_
 show ah _ _ _ _ _
 refine qD [] [1,2,5,6,13] [(4,.own 600081005)] [81002] []<|A.ret ?_
 obtain rfl:=some_inj hm
 exact A.fin W0 [.fz [600081005]] rfl (by kernel_rfl)
theorem uQ(hm:jb t ra1=some r):RO prog 43 [] [.agg (k2 t),i6 ra1] (lf aF r):=by
 refine bf func43 rfl rfl ?_
 unfold jb at hm
 refine qS [(0,.al 43002)] [(1,i6 ra1),(2,.ptr 43002 0)] [(43002,.cells 28 (k2 t))]<|A.seq ?_
 obtain⟨ai,h1,hm⟩:=af hm
 refine qDs [(1,hro (tq h1) atZ)] [] [(7,.bool (!decide (ai=0)))] ?_
 rcases az hm with⟨c1,hm⟩|⟨c1,hm⟩
 ·refine qT c1<|qS [] [(4,.aU)] [] ?_
  cases hm
  exact A.ret qE
 refine qF c1<|A.skip ?_
 show ah _ _ _ _ _
 obtain⟨aL,h2,hm⟩:=af hm
 refine qS [(2,hro (zZ h2) ck81)] [(4,lf aF aL)] [] ?_
 cases hm
 exact A.ret qE
end Go.Proofs.YtdjeacigeegklaaGreat
