/- The walks of functions of the program. No condition but those that stand in each. -/
import Derived.Test.YtmcjffllahcclaaGreatDA
namespace Go.Proofs.YtmcjffllahcclaaGreat
open Go
set_option maxRecDepth 100000
set_option linter.all false
theorem m_ref04_Has_ok {l : List Int} {n : Int} {r : Bool} (hm : m_ref04_Has l n = some r) : RO Tryz.prog 22 [] [.lst false (ml eInt l), .int .i64 n] (.bool r) := by
  refine enterA Tryz.func22 rfl rfl ?_
  unfold m_ref04_Has at hm
  refine A.RS W0 [] [] [(0, .lst false (ml eInt l)), (1, .int .i64 n)] [] (by kernel_rfl) ?_
  refine A.seq ?_
  refine A.RS W0 [] [] [(0, .lst false (ml eInt l)), (1, .int .i64 n), (5, .int .i64 (0:Int))] [] (by kernel_rfl) ?_
  refine A.block ?_
  refine A.bS 0 rfl fun hb1 => ?_
  obtain ⟨B1, K1, hB1, hK1, hm⟩ := forI_some hm
  refine A.lpI (l := l) (j0 := 0) (B := B1) (K := K1) hm (fun j1 => fun sg => match sg with | () => [(0, .lst false (ml eInt l)), (1, .int .i64 n), (5, .int .i64 (j1 : Int))]) (fun j1 => fun sg => match sg with | () => []) ?_ ?_ ?_
  · exact Weak.go [] [] (by kernel_rfl)
  · skip
    rintro j1 e1 Z1 ⟨⟩ hj1 hx1 hm
    rw [hB1] at hm
    refine A.seq ?_
    refine A.RS W0 [] [(2, hto (lnE eInt l))] [(0, .lst false (ml eInt l)), (1, .int .i64 n), (5, .int .i64 (j1 : Int)), (9, .bool (decide ((j1 : Int) < (l.length:Int))))] [] (by kernel_rfl) ?_
    refine A.cT rfl (ltT hx1) ?_
    refine A.skip ?_
    show acode _ _ _ _ _
    refine A.seq ?_
    refine A.block ?_
    refine A.RS W0 [] [(2, hix (ix eInt (elO_nat hx1)))] [(0, .lst false (ml eInt l)), (1, .int .i64 n), (5, .int .i64 (j1 : Int)), (17, .bool (decide (e1 = n)))] [] (by kernel_rfl) ?_
    rcases cs_some hm with ⟨c1, hm⟩ | ⟨c1, hm⟩
    · skip
      refine A.cT rfl c1 ?_
      refine A.RS W0 [] [] [(4, .bool true)] [] (by kernel_rfl) ?_
      refine A.ret ?_
      obtain rfl := some_inj hm
      exact A.fin W0 [] rfl (by kernel_rfl)
    refine A.cF rfl c1 ?_
    refine A.skip ?_
    show acode _ _ _ _ _
    refine A.R W0 [] [(1, hto (inc hx1 hb1))] [(0, .lst false (ml eInt l)), (1, .int .i64 n), (5, .int .i64 ((j1 + 1 : Nat) : Int))] [] (by kernel_rfl) ?_
    exact Exists.intro () (And.intro hm (Weak.go [] [] (by kernel_rfl)))
  rintro j1 ⟨⟩ hj1 hl1 hm
  rw [hK1] at hm
  refine A.seq ?_
  refine A.RS W0 [] [(2, hto (lnE eInt l))] [(0, .lst false (ml eInt l)), (1, .int .i64 n), (5, .int .i64 (j1 : Int)), (9, .bool (decide ((j1 : Int) < (l.length:Int))))] [] (by kernel_rfl) ?_
  refine A.cF rfl (ltF hl1) ?_
  refine A.exit ?_
  show acode _ _ _ _ _
  refine A.RS W0 [] [] [(4, .bool false)] [] (by kernel_rfl) ?_
  refine A.ret ?_
  obtain rfl := some_inj hm
  exact A.fin W0 [] rfl (by kernel_rfl)
theorem m_ref04_Insert_ok {l : List Int} {n : Int} {r : (List Int)} (hm : m_ref04_Insert l n = some r) : RO Tryz.prog 50 [] [.lst false (ml eInt l), .int .i64 n] (.lst false (ml eInt r)) := by
  refine enterA Tryz.func50 rfl rfl ?_
  unfold m_ref04_Insert at hm
  refine A.RS W0 [] [] [(0, .lst false (ml eInt l)), (1, .int .i64 n)] [] (by kernel_rfl) ?_
  refine A.RS W0 [] [] [(0, .lst false (ml eInt l)), (1, .int .i64 n), (5, .int .i64 (0:Int))] [] (by kernel_rfl) ?_
  refine A.seq ?_
  refine A.block ?_
  obtain ⟨F1, n1, hF1, hm⟩ := whl_some hm
  refine A.lpW (F := F1) hm (fun vat_1 => [(0, .lst false (ml eInt l)), (1, .int .i64 n), (5, .int .i64 vat_1)]) (fun vat_1 => []) ?_ ?_
  · exact Weak.go [] [] (by kernel_rfl)
  rintro Z1 vat_1 hm
  rw [hF1] at hm
  refine A.seq ?_
  obtain ⟨J1, hJ1, hm⟩ := jn_some hm
  refine A.J (J := J1) (r := r) (fun v_1 => [(0, .lst false (ml eInt l)), (1, .int .i64 n), (5, .int .i64 vat_1), (18, .bool v_1)]) (fun v_1 => []) ?_ ?_
  · skip
    rcases cs_some hm with ⟨c1, hm⟩ | ⟨c1, hm⟩
    · skip
      obtain ⟨e_1, h1, hm⟩ := bnd_some hm
      refine A.R W0 [] [(2, hto (lnE eInt l)), (4, hto (bE c1)), (7, hix (ix eInt h1))] [(0, .lst false (ml eInt l)), (1, .int .i64 n), (5, .int .i64 vat_1), (18, .bool (decide (e_1 < n)))] [] (by kernel_rfl) ?_
      exact Exists.intro (decide (e_1 < n)) (And.intro hm (Weak.go [] [] (by kernel_rfl)))
    refine A.R W0 [] [(2, hto (lnE eInt l)), (4, hto (bE c1))] [(0, .lst false (ml eInt l)), (1, .int .i64 n), (5, .int .i64 vat_1), (18, .bool false)] [] (by kernel_rfl) ?_
    exact Exists.intro false (And.intro hm (Weak.go [] [] (by kernel_rfl)))
  rintro v_1 hm
  rw [hJ1] at hm
  rcases cs_some hm with ⟨c2, hm⟩ | ⟨c2, hm⟩
  · skip
    refine A.cT rfl c2 ?_
    refine A.skip ?_
    show acode _ _ _ _ _
    refine A.block ?_
    refine A.R W0 [] [] [(0, .lst false (ml eInt l)), (1, .int .i64 n), (5, .int .i64 (w64 (vat_1 + (1:Int))))] [] (by kernel_rfl) ?_
    exact Exists.intro (w64 (vat_1 + (1:Int))) (And.intro hm (Weak.go [] [] (by kernel_rfl)))
  refine A.cF rfl c2 ?_
  refine A.exit ?_
  show acode _ _ _ _ _
  refine A.seq ?_
  obtain ⟨J2, hJ2, hm⟩ := jn_some hm
  refine A.J (J := J2) (r := r) (fun v_2 => [(0, .lst false (ml eInt l)), (1, .int .i64 n), (5, .int .i64 vat_1), (32, .bool v_2)]) (fun v_2 => []) ?_ ?_
  · skip
    rcases cs_some hm with ⟨c3, hm⟩ | ⟨c3, hm⟩
    · skip
      obtain ⟨e_2, h2, hm⟩ := bnd_some hm
      refine A.R W0 [] [(2, hto (lnE eInt l)), (4, hto (bE c3)), (7, hix (ix eInt h2))] [(0, .lst false (ml eInt l)), (1, .int .i64 n), (5, .int .i64 vat_1), (32, .bool (decide (e_2 = n)))] [] (by kernel_rfl) ?_
      exact Exists.intro (decide (e_2 = n)) (And.intro hm (Weak.go [] [] (by kernel_rfl)))
    refine A.R W0 [] [(2, hto (lnE eInt l)), (4, hto (bE c3))] [(0, .lst false (ml eInt l)), (1, .int .i64 n), (5, .int .i64 vat_1), (32, .bool false)] [] (by kernel_rfl) ?_
    exact Exists.intro false (And.intro hm (Weak.go [] [] (by kernel_rfl)))
  rintro v_2 hm
  rw [hJ2] at hm
  rcases cs_some hm with ⟨c4, hm⟩ | ⟨c4, hm⟩
  · skip
    refine A.cT rfl c4 ?_
    refine A.RS W0 [] [] [(4, .lst false (ml eInt l))] [] (by kernel_rfl) ?_
    refine A.ret ?_
    obtain rfl := some_inj hm
    exact A.fin W0 [] rfl (by kernel_rfl)
  refine A.cF rfl c4 ?_
  refine A.skip ?_
  show acode _ _ _ _ _
  refine A.RS W0 [] [] [(0, .lst false (ml eInt l)), (1, .int .i64 n), (5, .int .i64 vat_1), (6, .nils)] [] (by kernel_rfl) ?_
  obtain ⟨l_1, h3, hm⟩ := bnd_some hm
  obtain ⟨l_2, h4, hm⟩ := bnd_some hm
  refine A.RS W0 [] [(3, hsl (sl eInt h3)), (4, hap 50538 (ap eInt (bytes := 8) (by decide) h4))] [(0, .lst false (ml eInt l)), (1, .int .i64 n), (5, .int .i64 vat_1), (6, .own 50538)] [(50538, .slice 3 1 (ml eInt l_2) 0 false)] (by kernel_rfl) ?_
  obtain ⟨l_3, h5, hm⟩ := bnd_some hm
  refine A.RS W0 [] [(3, hap 50542 (ap eInt (bytes := 8) (by decide) h5))] [(0, .lst false (ml eInt l)), (5, .int .i64 vat_1), (6, .own 50542)] [(50542, .slice 3 1 (ml eInt l_3) 0 false)] (by kernel_rfl) ?_
  obtain ⟨l_4, h6, hm⟩ := bnd_some hm
  obtain ⟨l_5, h7, hm⟩ := bnd_some hm
  refine A.RS W0 [] [(3, hsl (slE2 eInt h6)), (4, hap 50547 (ap eInt (bytes := 8) (by decide) h7))] [(4, .own 50547)] [(50547, .slice 3 1 (ml eInt l_5) 0 false)] (by kernel_rfl) ?_
  refine A.ret ?_
  obtain rfl := some_inj hm
  exact A.fin W0 [.fz [50547]] rfl (by kernel_rfl)
end Go.Proofs.YtmcjffllahcclaaGreat
