/- The eR of cw of the program. No condition but bT bF stand in each. -/
import Derived.Test.YtpmifmdidfgpdaaGreatDA
namespace Go.Proofs.YtpmifmdidfgpdaaGreat
open Go
set_option maxRecDepth 100000
set_option linter.all false
theorem vI {l : List Int} {n : Int} {r : Bool} (hm : oh l n = some r) : RO Tryz.prog 84 [] [lf aY l, i6 n] (.bool r) := by
 refine aQ Tryz.func84 rfl rfl ?_
 unfold oh at hm
 refine qS [] [(0, lf aY l), (1, i6 n)] [] ?_
 refine A.seq ?_
 refine qDs [] [] [(5, i6 0)] ?_
 refine A.block ?_
 refine A.bS 0 rfl fun hb1 => ?_
 obtain ⟨B1, K1, hB1, hK1, hm⟩ := bq hm
 refine A.lpI (l := l) (j0 := 0) (B := B1) (K := K1) hm (fun j1 => fun sg => match sg with | () => [(0, lf aY l), (1, i6 n), (5, i6 (j1 : Int))]) (fun j1 => fun sg => match sg with | () => []) ?_ ?_ ?_
 ·exact qW
 ·rintro j1 e1 Z1 ⟨⟩ hj1 hx1 hm
  rw [hB1] at hm
  refine A.seq ?_
  refine qDs [(2, hto (lnE aY l))] [] [(9, .bool (decide ((j1 : Int) < (l.length:Int))))] ?_
  refine qT (ltT hx1) ?_
  refine A.skip ?_
  show ai _ _ _ _ _
  refine A.seq ?_
  refine A.block ?_
  refine qDs [(2, hix (ix aY (aV hx1)))] [9] [(17, .bool (decide (e1 = n)))] ?_
  rcases ah hm with ⟨c1,hm⟩|⟨c1,hm⟩
  ·refine qT c1 ?_
   refine qS [] [(4, .bool true)] [] ?_
   cases hm
   exact A.ret qE
  refine qF c1 ?_
  refine A.skip ?_
  show ai _ _ _ _ _
  refine qGs [(1, hto (inc hx1 hb1))] [5, 17] [(5, i6 ((j1 + 1 : Nat) : Int))] ?_
  exact qX () hm
 rintro j1 ⟨⟩ hj1 hl1 hm
 rw [hK1] at hm
 refine A.seq ?_
 refine qDs [(2, hto (lnE aY l))] [] [(9, .bool (decide ((j1 : Int) < (l.length:Int))))] ?_
 refine qF (ltF hl1) ?_
 refine A.exit ?_
 show ai _ _ _ _ _
 refine qS [] [(4, .bool false)] [] ?_
 cases hm
 exact A.ret qE
theorem y7 {l : List Int} {n : Int} {r : (List Int)} (hm : mR l n = some r) : RO Tryz.prog 155 [] [lf aY l, i6 n] (lf aY r) := by
 refine aQ Tryz.func155 rfl rfl ?_
 unfold mR at hm
 refine qS [] [(0, lf aY l), (1, i6 n)] [] ?_
 refine qDs [] [] [(5, i6 0)] ?_
 refine A.seq ?_
 refine A.block ?_
 obtain ⟨F1, n1, hF1, hm⟩ := fu hm
 refine A.lpW (F := F1) hm (fun fI => [(0, lf aY l), (1, i6 n), (5, i6 fI)]) (fun fI => []) ?_ ?_
 ·exact qW
 rintro Z1 fI hm
 rw [hF1] at hm
 refine A.seq ?_
 obtain ⟨J1, hJ1, hm⟩ := bB hm
 refine A.J (J := J1) (r := r) (fun v_1 => [(0, lf aY l), (1, i6 n), (5, i6 fI), (18, .bool v_1)]) (fun v_1 => []) ?_ ?_
 ·rcases ah hm with ⟨c1,hm⟩|⟨c1,hm⟩
  ·obtain ⟨e_1, h1, hm⟩ := aa hm
   refine qGs [(2, hto (lnE aY l)), (4, hto (bE c1)), (7, hix (ix aY h1))] [] [(18, .bool (decide (e_1 < n)))] ?_
   exact qX (decide (e_1 < n)) hm
  refine qGs [(2, hto (lnE aY l)), (4, hto (bE c1))] [] [(18, .bool false)] ?_
  exact qX false hm
 rintro v_1 hm
 rw [hJ1] at hm
 rcases ah hm with ⟨c2,hm⟩|⟨c2,hm⟩
 ·refine qT c2 ?_
  refine A.skip ?_
  show ai _ _ _ _ _
  refine A.block ?_
  refine qGs [] [5, 18] [(5, i6 (w64 (fI + (1:Int))))] ?_
  exact qX (w64 (fI + (1:Int))) hm
 refine qF c2 ?_
 refine A.exit ?_
 show ai _ _ _ _ _
 refine A.seq ?_
 obtain ⟨J2, hJ2, hm⟩ := bB hm
 refine A.J (J := J2) (r := r) (fun v_2 => [(0, lf aY l), (1, i6 n), (5, i6 fI), (32, .bool v_2)]) (fun v_2 => []) ?_ ?_
 ·rcases ah hm with ⟨c3,hm⟩|⟨c3,hm⟩
  ·obtain ⟨e_2, h2, hm⟩ := aa hm
   refine qGs [(2, hto (lnE aY l)), (4, hto (bE c3)), (7, hix (ix aY h2))] [18] [(32, .bool (decide (e_2 = n)))] ?_
   exact qX (decide (e_2 = n)) hm
  refine qGs [(2, hto (lnE aY l)), (4, hto (bE c3))] [18] [(32, .bool false)] ?_
  exact qX false hm
 rintro v_2 hm
 rw [hJ2] at hm
 rcases ah hm with ⟨c4,hm⟩|⟨c4,hm⟩
 ·refine qT c4 ?_
  refine qS [] [(4, lf aY l)] [] ?_
  cases hm
  exact A.ret qE
 refine qF c4 ?_
 refine A.skip ?_
 show ai _ _ _ _ _
 refine qDs [] [32] [(6, .aD)] ?_
 obtain ⟨l_1, h3, hm⟩ := aa hm
 obtain ⟨l_2, h4, hm⟩ := aa hm
 refine qD [(3, hsl (sl aY h3)), (4, hap 155538 (ap aY (bytes := 8) (by decide) h4))] [6] [(6, .own 155538)] [] [(155538, .slice 3 1 (ml aY l_2) 0 false)] ?_
 obtain ⟨l_3, h5, hm⟩ := aa hm
 refine qD [(3, hap 155542 (ap aY (bytes := 8) (by decide) h5))] [1, 6] [(6, .own 155542)] [155538] [(155542, .slice 3 1 (ml aY l_3) 0 false)] ?_
 obtain ⟨l_4, h6, hm⟩ := aa hm
 obtain ⟨l_5, h7, hm⟩ := aa hm
 refine qS [(3, hsl (ao4 aY h6)), (4, hap 155547 (ap aY (bytes := 8) (by decide) h7))] [(4, .own 155547)] [(155547, .slice 3 1 (ml aY l_5) 0 false)] ?_
 refine A.ret ?_
 obtain rfl := some_inj hm
 exact A.fin W0 [.fz [155547]] rfl (by kernel_rfl)
end Go.Proofs.YtpmifmdidfgpdaaGreat
