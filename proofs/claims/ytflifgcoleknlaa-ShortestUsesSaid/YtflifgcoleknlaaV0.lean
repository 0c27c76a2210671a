/- The walks of functions of the program. No condition but those that stand in each. -/
import Derived.Test.YtflifgcoleknlaaDA
namespace Go.Proofs.Ytflifgcoleknlaa
open Go
set_option maxRecDepth 100000
set_option linter.all false
theorem m_ref04_Ints_ok {a : List Int} {b : List Int} {r : Bool} (hm : m_ref04_Ints a b = some r) : RO Try.prog 15 [] [lf eInt a, lf eInt b] (.bool r) := by
 refine enterA Try.func15 rfl rfl ?_
 unfold m_ref04_Ints at hm
 refine qS [] [(0, lf eInt a), (1, lf eInt b)] [] ?_
 refine A.seq ?_
 refine qDs [(1, hto (lnE eInt a)), (3, hto (lnE eInt b))] [] [(10, .bool (!decide ((a.length:Int) = (b.length:Int))))] ?_
 rcases cs_some hm with ⟨c1,hm⟩|⟨c1,hm⟩
 ·refine qT c1 ?_
  refine qS [] [(4, .bool false)] [] ?_
  cases hm
  exact A.ret qE
 refine qF c1 ?_
 refine A.skip ?_
 show acode _ _ _ _ _
 refine A.seq ?_
 refine qDs [] [10] [(5, i6 0)] ?_
 refine A.block ?_
 refine A.bS 0 rfl fun hb1 => ?_
 obtain ⟨B1, K1, hB1, hK1, hm⟩ := forI_some hm
 refine A.lpI (l := a) (j0 := 0) (B := B1) (K := K1) hm (fun j1 => fun sg => match sg with | () => [(0, lf eInt a), (1, lf eInt b), (5, i6 (j1 : Int))]) (fun j1 => fun sg => match sg with | () => []) ?_ ?_ ?_
 ·exact qW
 ·rintro j1 e1 Z1 ⟨⟩ hj1 hx1 hm
  rw [hB1] at hm
  refine A.seq ?_
  refine qDs [(2, hto (lnE eInt a))] [] [(14, .bool (decide ((j1 : Int) < (a.length:Int))))] ?_
  refine qT (ltT hx1) ?_
  refine A.skip ?_
  show acode _ _ _ _ _
  refine A.seq ?_
  refine A.block ?_
  obtain ⟨e_1, h1, hm⟩ := bnd_some hm
  refine qDs [(2, hix (ix eInt (elO_nat hx1))), (6, hix (ix eInt h1))] [14] [(25, .bool (!decide (e1 = e_1)))] ?_
  rcases cs_some hm with ⟨c2,hm⟩|⟨c2,hm⟩
  ·refine qT c2 ?_
   refine qS [] [(4, .bool false)] [] ?_
   cases hm
   exact A.ret qE
  refine qF c2 ?_
  refine A.skip ?_
  show acode _ _ _ _ _
  refine qGs [(1, hto (inc hx1 hb1))] [5, 25] [(5, i6 ((j1 + 1 : Nat) : Int))] ?_
  exact qX () hm
 rintro j1 ⟨⟩ hj1 hl1 hm
 rw [hK1] at hm
 refine A.seq ?_
 refine qDs [(2, hto (lnE eInt a))] [] [(14, .bool (decide ((j1 : Int) < (a.length:Int))))] ?_
 refine qF (ltF hl1) ?_
 refine A.exit ?_
 show acode _ _ _ _ _
 refine qS [] [(4, .bool true)] [] ?_
 cases hm
 exact A.ret qE
end Go.Proofs.Ytflifgcoleknlaa
