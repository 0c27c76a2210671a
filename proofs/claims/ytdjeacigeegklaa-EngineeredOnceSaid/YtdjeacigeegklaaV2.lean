/- The iY of ee of the program. No condition but bL aY stand in each. -/
import Derived.Test.YtdjeacigeegklaaDA
import Derived.Test.YtdjeacigeegklaaV0
import Derived.Test.YtdjeacigeegklaaV1
namespace Go.Proofs.Ytdjeacigeegklaa
open Go
set_option maxRecDepth 100000
set_option linter.all false
theorem xY {t : aa} {ra1 : Int} {r : (List Int)} (hm : mj t ra1 = some r) : RO Try.prog 59 [] [.agg (k2 t), i6 ra1] (lf bx r) := by
 refine bO Try.func59 rfl rfl ?_
 unfold mj at hm
 refine qS [(0, .al 59002)] [(1, i6 ra1), (2, .ptr 59002 0)] [(59002, .cells 28 (k2 t))] ?_
 refine qDs [] [] [(5, .aW)] ?_
 refine A.seq ?_
 refine qDs [] [] [(6, i6 0)] ?_
 refine A.block ?_
 refine A.bC 2 0 rfl rfl rfl fun hb1 => ?_
 obtain ⟨B1, K1, hB1, hK1, hm⟩ := bN hm
 refine A.lpI (l := t.aC) (j0 := 0) (B := B1) (K := K1) hm (fun j1 => fun er => [(1, i6 ra1), (2, .ptr 59002 0), (5, .own 600059005), (6, i6 (j1 : Int))]) (fun j1 => fun er => [(59002, .cells 28 (k2 t)), (600059005, .slice 3 1 (ml bx er) 0 false)]) ?_ ?_ ?_
 ·exact bz.go [.ad 5 600059005 3 1] [] (by kernel_rfl)
 ·rintro j1 e1 Z1 er hj1 hx1 hm
  rw [hB1] at hm
  refine A.seq ?_
  refine qDs [(3, hto (lnE aL t.aC))] [] [(13, .bool (decide ((j1 : Int) < (t.aC.length:Int))))] ?_
  refine qT (ltT hx1) ?_
  refine A.skip ?_
  show aj _ _ _ _ _
  obtain ⟨J1, hJ1, hm⟩ := cD hm
  refine A.J (J := J1) (r := r) (fun fQ => [(1, i6 ra1), (2, .ptr 59002 0), (5, .own 600059005), (6, i6 (j1 : Int))]) (fun fQ => [(59002, .cells 28 (k2 t)), (600059005, .slice 3 1 (ml bx fQ) 0 false)]) ?_ ?_
  ·refine A.block ?_
   obtain ⟨ay, h1, hm⟩ := af hm
   refine qDs [(5, hix (ix aL (b8 hx1))), (8, hro (xd h1) ck70)] [13] [(8, .bool ay.2)] ?_
   refine qDs [] [8] [(28, .bool ay.2)] ?_
   rcases aA hm with ⟨c1,hm⟩|⟨c1,hm⟩
   ·refine qT c1 ?_
    obtain ⟨l_1, h2, hm⟩ := af hm
    refine qG [(4, hix (ix aL (b8 hx1))), (8, hap 59537 (ap bx (bytes := 8) (by decide) h2))] [5, 28] [(5, .own 59537)] [600059005] [(59537, .slice 3 1 (ml bx l_1) 0 false)] ?_
    exact Exists.intro l_1 (And.intro hm (bz.go [.sw 59537 600059005] [] (by kernel_rfl)))
   refine qF c1 ?_
   refine A.skip ?_
   exact qX er hm
  rintro fQ hm
  rw [hJ1] at hm
  refine qGs [(1, hto (inc hx1 hb1))] [6] [(6, i6 ((j1 + 1 : Nat) : Int))] ?_
  exact qX fQ hm
 rintro j1 er hj1 hl1 hm
 rw [hK1] at hm
 refine A.seq ?_
 refine qDs [(3, hto (lnE aL t.aC))] [] [(13, .bool (decide ((j1 : Int) < (t.aC.length:Int))))] ?_
 refine qF (ltF hl1) ?_
 refine A.exit ?_
 show aj _ _ _ _ _
 refine qD [] [1, 2, 5, 6, 13] [(4, .own 600059005)] [59002] [] ?_
 refine A.ret ?_
 obtain rfl := some_inj hm
 exact A.fin W0 [.fz [600059005]] rfl (by kernel_rfl)
theorem sR {t : aa} {ra1 : Int} {r : (List Int)} (hm : iD t ra1 = some r) : RO Try.prog 34 [] [.agg (k2 t), i6 ra1] (lf bx r) := by
 refine bO Try.func34 rfl rfl ?_
 unfold iD at hm
 refine qS [(0, .al 34002)] [(1, i6 ra1), (2, .ptr 34002 0)] [(34002, .cells 28 (k2 t))] ?_
 refine A.seq ?_
 obtain ⟨ay, h1, hm⟩ := af hm
 refine qDs [(1, hro (ru h1) an7)] [] [(7, .bool (!decide (ay = (0:Int))))] ?_
 rcases aA hm with ⟨c1,hm⟩|⟨c1,hm⟩
 ·refine qT c1 ?_
  refine qS [] [(4, .aW)] [] ?_
  cases hm
  exact A.ret qE
 refine qF c1 ?_
 refine A.skip ?_
 show aj _ _ _ _ _
 obtain ⟨aV, h2, hm⟩ := af hm
 refine qS [(2, hro (xY h2) ck59)] [(4, lf bx aV)] [] ?_
 cases hm
 exact A.ret qE
end Go.Proofs.Ytdjeacigeegklaa
