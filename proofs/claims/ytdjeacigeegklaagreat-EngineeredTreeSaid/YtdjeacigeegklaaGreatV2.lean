/- The gq of dx of the program. No condition but br aM stand in each. -/
import Derived.Test.YtdjeacigeegklaaGreatV1
namespace Go.Proofs.YtdjeacigeegklaaGreat
open Go Go.Proofs.Tryz
set_option maxRecDepth 100000
set_option linter.all false
variable {r:(List Int)}{ra1:Int}{t:af}
theorem yV(hm:mW t ra1=some r):RO prog 81 [] [.agg (k2 t),i6 ra1] (lf aG r):=by
 refine bu func81 rfl rfl ?_
 unfold mW at hm
 refine qS [(0,.al 81002)] [(1,i6 ra1),(2,.ptr 81002 0)] [(81002,.cells 28 (k2 t))]<|qDs [] [] [(5,.aS)]<|A.seq<|qDs [] [] [(6,i6 0)]<|A.block<|A.bC 2 0 rfl rfl rfl λhb1=>?_
 obtain⟨B1,K1,hB1,hK1,hm⟩:=bA hm
 refine A.lpI (l:=t.aF) (j0:=0) (B:=B1) (K:=K1) hm (λj1=>λdw=>[(1,i6 ra1),(2,.ptr 81002 0),(5,.own 600081005),(6,i6 (j1:Int))]) (λj1=>λdw=>[(81002,.cells 28 (k2 t)),(600081005,.slice 3 1 (ml aG dw) 0 false)]) ?_ ?_ ?_
 ·exact bp.go [.ad 5 600081005 3 1] [] (by kernel_rfl)
 ·rintro j1 e1 Z1 dw hj1 hx1 hm
  rw[hB1]at hm
  refine A.seq<|qDs [(3,hto (lnE bg t.aF))] [] [(13,.bool (decide ((j1:Int)<(t.aF.length:Int))))] ?_
  refine qT (ltT hx1)<|A.skip ?_
  obtain⟨J1,hJ1,hm⟩:=cR hm
  refine A.J (J:=J1) (r:=r) (λny=>[(1,i6 ra1),(2,.ptr 81002 0),(5,.own 600081005),(6,i6 (j1:Int))]) (λny=>[(81002,.cells 28 (k2 t)),(600081005,.slice 3 1 (ml aG ny) 0 false)]) ?_ ?_
  ·refine A.block ?_
   obtain⟨ak,h1,hm⟩:=aa hm
   refine qDs [(5,hix (ix bg (bK hx1))),(8,hro (x7 h1) ck89)] [13] [(8,.bool ak.2)]<|qDs [] [8] [(28,.bool ak.2)] ?_
   rcases aq hm with⟨c1,hm⟩|⟨c1,hm⟩
   ·refine qT c1 ?_
    obtain⟨l_1,h2,hm⟩:=aa hm
    exact qG [(4,hix (ix bg (bK hx1))),(8,hap 81537 (ap aG (bytes:=8) (by decide) h2))] [5,28] [(5,.own 81537)] [600081005] [(81537,.slice 3 1 (ml aG l_1) 0 false)]<|Exists.intro l_1 (And.intro hm (bp.go [.sw 81537 600081005] [] (by kernel_rfl)))
   exact qF c1<|A.skip<|qX dw hm
  rintro ny hm
  rw[hJ1]at hm
  exact qGs [(1,hto (inc hx1 hb1))] [6] [(6,i6 ((j1+1:Nat):Int))]<|qX ny hm
 rintro j1 dw hj1 hl1 hm
 rw[hK1]at hm
 refine A.seq<|qDs [(3,hto (lnE bg t.aF))] [] [(13,.bool (decide ((j1:Int)<(t.aF.length:Int))))] ?_
 refine qF (ltF hl1)<|A.exit<|qD [] [1,2,5,6,13] [(4,.own 600081005)] [81002] []<|A.ret ?_
 obtain rfl:=some_inj hm
 exact A.fin W0 [.fz [600081005]] rfl (by kernel_rfl)
theorem tQ(hm:iW t ra1=some r):RO prog 43 [] [.agg (k2 t),i6 ra1] (lf aG r):=by
 refine bu func43 rfl rfl ?_
 unfold iW at hm
 refine qS [(0,.al 43002)] [(1,i6 ra1),(2,.ptr 43002 0)] [(43002,.cells 28 (k2 t))]<|A.seq ?_
 obtain⟨ak,h1,hm⟩:=aa hm
 refine qDs [(1,hro (sj h1) aov)] [] [(7,.bool (!decide (ak=0)))] ?_
 rcases aq hm with⟨c1,hm⟩|⟨c1,hm⟩
 ·refine qT c1<|qS [] [(4,.aS)] [] ?_
  cases hm
  exact A.ret qE
 refine qF c1<|A.skip ?_
 obtain⟨aO,h2,hm⟩:=aa hm
 refine qS [(2,hro (yV h2) ck81)] [(4,lf aG aO)] [] ?_
 cases hm
 exact A.ret qE
end Go.Proofs.YtdjeacigeegklaaGreat
