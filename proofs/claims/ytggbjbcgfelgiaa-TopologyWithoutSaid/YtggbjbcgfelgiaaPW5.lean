/- Plain: the law TopologyWithout. No condition. -/
import Derived.Test.YtggbjbcgfelgiaaP2
import Derived.Test.YtggbjbcgfelgiaaP3
import Derived.Test.YtggbjbcgfelgiaaPA5
import Derived.Test.YtggbjbcgfelgiaaDL4
namespace Go.Proofs.Ytggbjbcgfelgiaa
set_option linter.all false
open Go

theorem plain_TopologyWithout (t : List Int) (raw : GFailure) : m_law05_TopologyWithout t raw = some true := by
  refine Ok.eq ?_
  unfold m_law05_TopologyWithout
  refine Ok.bnd (new_ok t) fun s hs => ?_
  refine Ok.bnd (topol_ok hs (by omega) (by omega)) fun g hg => ?_
  obtain ⟨⟨g1, g2, g3⟩, ht⟩ := hg
  refine Ok.bnd (failure_ok ht ⟨by omega, by omega⟩) fun f1 hf1 => ?_
  refine Ok.bnd (failures_ok hf1.2 ⟨by omega, by omega⟩) fun f2 hf2 => ?_
  refine Ok.whl (fun i : Int => 0 ≤ i ∧ i ≤ 3) (fun i => (3 - i).toNat) ⟨by omega, by omega⟩ (by omega) ?_
  intro i Z hI hZ
  refine Ok.cs (fun hc => ?_) fun _ => by rw [awake5]; exact Ok.s rfl
  have hc : i < 3 := by simp at hc; omega
  refine Ok.bnd (elO_ok hI.1 (by simp; omega)) fun e _ => ?_
  have hv : chkT (withoutT g.1 e) = 0 := vt_iff.2 (withoutT_valid _ _)
  simp only [top_without, ref_without, same_self, top_check, hv, bnd_s, jn, Bool.not_true, cond_false, decide_true]
  rw [w64_id (by omega) (by omega)]
  exact hZ _ ⟨by omega, by omega⟩ (by omega)
end Go.Proofs.Ytggbjbcgfelgiaa
