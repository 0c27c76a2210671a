/- The walks of functions of the program. No condition but those that stand in each. -/
import Derived.Test.YtflifgcoleknlaaDA
namespace Go.Proofs.Ytflifgcoleknlaa
open Go
set_option maxRecDepth 100000
set_option linter.all false
theorem m_ref04_Has_ok {l : List Int} {n : Int} {r : Bool} (hm : m_ref04_Has l n = some r) : RO Try.prog 34 [] [lf eInt l, i6 n] (.bool r) := by
 refine enterA Try.func34 rfl rfl ?_
 unfold m_ref04_Has at hm
 refine qS [] [(0, lf eInt l), (1, i6 n)] [] ?_
 refine A.seq ?_
 refine qDs [] [] [(5, i6 0)] ?_
 refine A.block ?_
 refine A.bS 0 rfl fun hb1 => ?_
 obtain ⟨B1, K1, hB1, hK1, hm⟩ := forI_some hm
 refine A.lpI (l := l) (j0 := 0) (B := B1) (K := K1) hm (fun j1 => fun sg => match sg with | () => [(0, lf eInt l), (1, i6 n), (5, i6 (j1 : Int))]) (fun j1 => fun sg => match sg with | () => []) ?_ ?_ ?_
 ·exact qW
 ·rintro j1 e1 Z1 ⟨⟩ hj1 hx1 hm
  rw [hB1] at hm
  refine A.seq ?_
  refine qDs [(2, hto (lnE eInt l))] [] [(9, .bool (decide ((j1 : Int) < (l.length:Int))))] ?_
  refine qT (ltT hx1) ?_
  refine A.skip ?_
  show acode _ _ _ _ _
  refine A.seq ?_
  refine A.block ?_
  refine qDs [(2, hix (ix eInt (elO_nat hx1)))] [9] [(17, .bool (decide (e1 = n)))] ?_
  rcases cs_some hm with ⟨c1,hm⟩|⟨c1,hm⟩
  ·refine qT c1 ?_
   refine qS [] [(4, .bool true)] [] ?_
   cases hm
   exact A.ret qE
  refine qF c1 ?_
  refine A.skip ?_
  show acode _ _ _ _ _
  refine qGs [(1, hto (inc hx1 hb1))] [5, 17] [(5, i6 ((j1 + 1 : Nat) : Int))] ?_
  exact qX () hm
 rintro j1 ⟨⟩ hj1 hl1 hm
 rw [hK1] at hm
 refine A.seq ?_
 refine qDs [(2, hto (lnE eInt l))] [] [(9, .bool (decide ((j1 : Int) < (l.length:Int))))] ?_
 refine qF (ltF hl1) ?_
 refine A.exit ?_
 show acode _ _ _ _ _
 refine qS [] [(4, .bool false)] [] ?_
 cases hm
 exact A.ret qE
theorem m_ref04_Insert_ok {l : List Int} {n : Int} {r : (List Int)} (hm : m_ref04_Insert l n = some r) : RO Try.prog 73 [] [lf eInt l, i6 n] (lf eInt r) := by
 refine enterA Try.func73 rfl rfl ?_
 unfold m_ref04_Insert at hm
 refine qS [] [(0, lf eInt l), (1, i6 n)] [] ?_
 refine qDs [] [] [(5, i6 0)] ?_
 refine A.seq ?_
 refine A.block ?_
 obtain ⟨F1, n1, hF1, hm⟩ := whl_some hm
 refine A.lpW (F := F1) hm (fun vat_1 => [(0, lf eInt l), (1, i6 n), (5, i6 vat_1)]) (fun vat_1 => []) ?_ ?_
 ·exact qW
 rintro Z1 vat_1 hm
 rw [hF1] at hm
 refine A.seq ?_
 obtain ⟨J1, hJ1, hm⟩ := jn_some hm
 refine A.J (J := J1) (r := r) (fun v_1 => [(0, lf eInt l), (1, i6 n), (5, i6 vat_1), (18, .bool v_1)]) (fun v_1 => []) ?_ ?_
 ·rcases cs_some hm with ⟨c1,hm⟩|⟨c1,hm⟩
  ·obtain ⟨e_1, h1, hm⟩ := bnd_some hm
   refine qGs [(2, hto (lnE eInt l)), (4, hto (bE c1)), (7, hix (ix eInt h1))] [] [(18, .bool (decide (e_1 < n)))] ?_
   exact qX (decide (e_1 < n)) hm
  refine qGs [(2, hto (lnE eInt l)), (4, hto (bE c1))] [] [(18, .bool false)] ?_
  exact qX false hm
 rintro v_1 hm
 rw [hJ1] at hm
 rcases cs_some hm with ⟨c2,hm⟩|⟨c2,hm⟩
 ·refine qT c2 ?_
  refine A.skip ?_
  show acode _ _ _ _ _
  refine A.block ?_
  refine qGs [] [5, 18] [(5, i6 (w64 (vat_1 + (1:Int))))] ?_
  exact qX (w64 (vat_1 + (1:Int))) hm
 refine qF c2 ?_
 refine A.exit ?_
 show acode _ _ _ _ _
 refine A.seq ?_
 obtain ⟨J2, hJ2, hm⟩ := jn_some hm
 refine A.J (J := J2) (r := r) (fun v_2 => [(0, lf eInt l), (1, i6 n), (5, i6 vat_1), (32, .bool v_2)]) (fun v_2 => []) ?_ ?_
 ·rcases cs_some hm with ⟨c3,hm⟩|⟨c3,hm⟩
  ·obtain ⟨e_2, h2, hm⟩ := bnd_some hm
   refine qGs [(2, hto (lnE eInt l)), (4, hto (bE c3)), (7, hix (ix eInt h2))] [18] [(32, .bool (decide (e_2 = n)))] ?_
   exact qX (decide (e_2 = n)) hm
  refine qGs [(2, hto (lnE eInt l)), (4, hto (bE c3))] [18] [(32, .bool false)] ?_
  exact qX false hm
 rintro v_2 hm
 rw [hJ2] at hm
 rcases cs_some hm with ⟨c4,hm⟩|⟨c4,hm⟩
 ·refine qT c4 ?_
  refine qS [] [(4, lf eInt l)] [] ?_
  cases hm
  exact A.ret qE
 refine qF c4 ?_
 refine A.skip ?_
 show acode _ _ _ _ _
 refine qDs [] [32] [(6, .nils)] ?_
 obtain ⟨l_1, h3, hm⟩ := bnd_some hm
 obtain ⟨l_2, h4, hm⟩ := bnd_some hm
 refine qD [(3, hsl (sl eInt h3)), (4, hap 73538 (ap eInt (bytes := 8) (by decide) h4))] [6] [(6, .own 73538)] [] [(73538, .slice 3 1 (ml eInt l_2) 0 false)] ?_
 obtain ⟨l_3, h5, hm⟩ := bnd_some hm
 refine qD [(3, hap 73542 (ap eInt (bytes := 8) (by decide) h5))] [1, 6] [(6, .own 73542)] [73538] [(73542, .slice 3 1 (ml eInt l_3) 0 false)] ?_
 obtain ⟨l_4, h6, hm⟩ := bnd_some hm
 obtain ⟨l_5, h7, hm⟩ := bnd_some hm
 refine qS [(3, hsl (slE2 eInt h6)), (4, hap 73547 (ap eInt (bytes := 8) (by decide) h7))] [(4, .own 73547)] [(73547, .slice 3 1 (ml eInt l_5) 0 false)] ?_
 refine A.ret ?_
 obtain rfl := some_inj hm
 exact A.fin W0 [.fz [73547]] rfl (by kernel_rfl)
theorem m_ref04_Ints_ok {a : List Int} {b : List Int} {r : Bool} (hm : m_ref04_Ints a b = some r) : RO Try.prog 15 [] [lf eInt a, lf eInt b] (.bool r) := by
 refine enterA Try.func15 rfl rfl ?_
 unfold m_ref04_Ints at hm
 refine qS [] [(0, lf eInt a), (1, lf eInt b)] [] ?_
 refine A.seq ?_
 refine qDs [(1, hto (lnE eInt a)), (3, hto (lnE eInt b))] [] [(10, .bool (!decide ((a.length:Int) = (b.length:Int))))] ?_
 rcases cs_some hm with ⟨c1,hm⟩|⟨c1,hm⟩
 ·refine qT c1 ?_
  refine qS [] [(4, .bool false)] [] ?_
  cases hm
  exact A.ret qE
 refine qF c1 ?_
 refine A.skip ?_
 show acode _ _ _ _ _
 refine A.seq ?_
 refine qDs [] [10] [(5, i6 0)] ?_
 refine A.block ?_
 refine A.bS 0 rfl fun hb1 => ?_
 obtain ⟨B1, K1, hB1, hK1, hm⟩ := forI_some hm
 refine A.lpI (l := a) (j0 := 0) (B := B1) (K := K1) hm (fun j1 => fun sg => match sg with | () => [(0, lf eInt a), (1, lf eInt b), (5, i6 (j1 : Int))]) (fun j1 => fun sg => match sg with | () => []) ?_ ?_ ?_
 ·exact qW
 ·rintro j1 e1 Z1 ⟨⟩ hj1 hx1 hm
  rw [hB1] at hm
  refine A.seq ?_
  refine qDs [(2, hto (lnE eInt a))] [] [(14, .bool (decide ((j1 : Int) < (a.length:Int))))] ?_
  refine qT (ltT hx1) ?_
  refine A.skip ?_
  show acode _ _ _ _ _
  refine A.seq ?_
  refine A.block ?_
  obtain ⟨e_1, h1, hm⟩ := bnd_some hm
  refine qDs [(2, hix (ix eInt (elO_nat hx1))), (6, hix (ix eInt h1))] [14] [(25, .bool (!decide (e1 = e_1)))] ?_
  rcases cs_some hm with ⟨c2,hm⟩|⟨c2,hm⟩
  ·refine qT c2 ?_
   refine qS [] [(4, .bool false)] [] ?_
   cases hm
   exact A.ret qE
  refine qF c2 ?_
  refine A.skip ?_
  show acode _ _ _ _ _
  refine qGs [(1, hto (inc hx1 hb1))] [5, 25] [(5, i6 ((j1 + 1 : Nat) : Int))] ?_
  exact qX () hm
 rintro j1 ⟨⟩ hj1 hl1 hm
 rw [hK1] at hm
 refine A.seq ?_
 refine qDs [(2, hto (lnE eInt a))] [] [(14, .bool (decide ((j1 : Int) < (a.length:Int))))] ?_
 refine qF (ltF hl1) ?_
 refine A.exit ?_
 show acode _ _ _ _ _
 refine qS [] [(4, .bool true)] [] ?_
 cases hm
 exact A.ret qE
end Go.Proofs.Ytflifgcoleknlaa
