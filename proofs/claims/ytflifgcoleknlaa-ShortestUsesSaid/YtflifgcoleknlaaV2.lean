/- The walks of functions of the program. No condition but those that stand in each. -/
import Derived.Test.YtflifgcoleknlaaDA
import Derived.Test.YtflifgcoleknlaaV0
import Derived.Test.YtflifgcoleknlaaV1
namespace Go.Proofs.Ytflifgcoleknlaa
open Go
set_option maxRecDepth 100000
set_option linter.all false
theorem m_ref05_Has_ok {t : GTopology} {ra1 : Int} {r : Bool} (hm : m_ref05_Has t ra1 = some r) : RO Try.prog 50 [] [.agg (k2 t), i6 ra1] (.bool r) := by
 refine enterA Try.func50 rfl rfl ?_
 unfold m_ref05_Has at hm
 refine qS [(0, .al 50002)] [(1, i6 ra1), (2, .ptr 50002 0)] [(50002, .cells 28 (k2 t))] ?_
 obtain ⟨vx_1, h1, hm⟩ := bnd_some hm
 rcases cs_some hm with ⟨c1,hm⟩|⟨c1,hm⟩
 ·obtain ⟨vx_2, h2, hm⟩ := bnd_some hm
  refine qS [(1, hro (m_ref05_Check_ok h1) ck61), (3, hto (bE c1)), (6, hro (m_ref05_has_ok h2) ck67)] [(4, .bool vx_2)] [] ?_
  cases hm
  exact A.ret qE
 refine qS [(1, hro (m_ref05_Check_ok h1) ck61), (3, hto (bE c1))] [(4, .bool false)] [] ?_
 cases hm
 exact A.ret qE
theorem m_ref05_Cost_ok {t : GTopology} {froma1 : Int} {toa2 : Int} {r : Int × Bool} (hm : m_ref05_Cost t froma1 toa2 = some r) : RO Try.prog 59 [] [.agg (k2 t), i6 froma1, i6 toa2] (.tup [i6 r.1, .bool r.2]) := by
 refine enterA Try.func59 rfl rfl ?_
 unfold m_ref05_Cost at hm
 refine qS [(0, .al 59003)] [(1, i6 froma1), (2, i6 toa2), (3, .ptr 59003 0)] [(59003, .cells 28 (k2 t))] ?_
 refine A.seq ?_
 obtain ⟨vx_1, h1, hm⟩ := bnd_some hm
 refine qDs [(1, hro (m_ref05_Check_ok h1) ck61)] [] [(10, .bool (!decide (vx_1 = (0:Int))))] ?_
 rcases cs_some hm with ⟨c1,hm⟩|⟨c1,hm⟩
 ·refine qT c1 ?_
  refine qS [] [(6, i6 0), (7, .bool false)] [] ?_
  cases hm
  exact A.ret qE
 refine qF c1 ?_
 refine A.skip ?_
 show acode _ _ _ _ _
 obtain ⟨vx_2, h2, hm⟩ := bnd_some hm
 refine qS [(3, hro (m_ref05_Price_ok h2) ck31)] [(6, i6 vx_2.1), (7, .bool vx_2.2)] [] ?_
 cases hm
 exact A.ret qE
theorem m_ref05_Near_ok {t : GTopology} {ra1 : Int} {r : (List Int)} (hm : m_ref05_Near t ra1 = some r) : RO Try.prog 33 [] [.agg (k2 t), i6 ra1] (lf eInt r) := by
 refine enterA Try.func33 rfl rfl ?_
 unfold m_ref05_Near at hm
 refine qS [(0, .al 33002)] [(1, i6 ra1), (2, .ptr 33002 0)] [(33002, .cells 28 (k2 t))] ?_
 refine qDs [] [] [(5, .nils)] ?_
 refine A.seq ?_
 refine qDs [] [] [(6, i6 0)] ?_
 refine A.block ?_
 refine A.bC 2 0 rfl rfl rfl fun hb1 => ?_
 obtain ⟨B1, K1, hB1, hK1, hm⟩ := forI_some hm
 refine A.lpI (l := t.Routers) (j0 := 0) (B := B1) (K := K1) hm (fun j1 => fun out_1 => [(1, i6 ra1), (2, .ptr 33002 0), (5, .own 600033005), (6, i6 (j1 : Int))]) (fun j1 => fun out_1 => [(33002, .cells 28 (k2 t)), (600033005, .slice 3 1 (ml eInt out_1) 0 false)]) ?_ ?_ ?_
 ·exact Weak.go [.ad 5 600033005 3 1] [] (by kernel_rfl)
 ·rintro j1 e1 Z1 out_1 hj1 hx1 hm
  rw [hB1] at hm
  refine A.seq ?_
  refine qDs [(3, hto (lnE eGRouter t.Routers))] [] [(13, .bool (decide ((j1 : Int) < (t.Routers.length:Int))))] ?_
  refine qT (ltT hx1) ?_
  refine A.skip ?_
  show acode _ _ _ _ _
  obtain ⟨J1, hJ1, hm⟩ := jn_some hm
  refine A.J (J := J1) (r := r) (fun out_2 => [(1, i6 ra1), (2, .ptr 33002 0), (5, .own 600033005), (6, i6 (j1 : Int))]) (fun out_2 => [(33002, .cells 28 (k2 t)), (600033005, .slice 3 1 (ml eInt out_2) 0 false)]) ?_ ?_
  ·refine A.block ?_
   obtain ⟨vx_1, h1, hm⟩ := bnd_some hm
   refine qDs [(5, hix (ix eGRouter (elO_nat hx1))), (8, hro (m_ref05_Price_ok h1) ck31)] [13] [(8, .bool vx_1.2)] ?_
   refine qDs [] [8] [(28, .bool vx_1.2)] ?_
   rcases cs_some hm with ⟨c1,hm⟩|⟨c1,hm⟩
   ·refine qT c1 ?_
    obtain ⟨l_1, h2, hm⟩ := bnd_some hm
    refine qG [(4, hix (ix eGRouter (elO_nat hx1))), (8, hap 33537 (ap eInt (bytes := 8) (by decide) h2))] [5, 28] [(5, .own 33537)] [600033005] [(33537, .slice 3 1 (ml eInt l_1) 0 false)] ?_
    exact Exists.intro l_1 (And.intro hm (Weak.go [.sw 33537 600033005] [] (by kernel_rfl)))
   refine qF c1 ?_
   refine A.skip ?_
   exact qX out_1 hm
  rintro out_2 hm
  rw [hJ1] at hm
  refine qGs [(1, hto (inc hx1 hb1))] [6] [(6, i6 ((j1 + 1 : Nat) : Int))] ?_
  exact qX out_2 hm
 rintro j1 out_1 hj1 hl1 hm
 rw [hK1] at hm
 refine A.seq ?_
 refine qDs [(3, hto (lnE eGRouter t.Routers))] [] [(13, .bool (decide ((j1 : Int) < (t.Routers.length:Int))))] ?_
 refine qF (ltF hl1) ?_
 refine A.exit ?_
 show acode _ _ _ _ _
 refine qD [] [1, 2, 5, 6, 13] [(4, .own 600033005)] [33002] [] ?_
 refine A.ret ?_
 obtain rfl := some_inj hm
 exact A.fin W0 [.fz [600033005]] rfl (by kernel_rfl)
end Go.Proofs.Ytflifgcoleknlaa
