/- Plain: the law TopologyChecks. No condition. -/
import Derived.Test.YtggbjbcgfelgiaaP1
import Derived.Test.YtggbjbcgfelgiaaP2
import Derived.Test.YtggbjbcgfelgiaaPA5
import Derived.Test.YtggbjbcgfelgiaaDL3
namespace Go.Proofs.Ytggbjbcgfelgiaa
set_option linter.all false
open Go

theorem plain_TopologyChecks (t : List Int) (raw : GTopology) : m_law05_TopologyChecks t raw = some true := by
  refine Ok.eq ?_
  unfold m_law05_TopologyChecks
  refine Ok.bnd (new_ok t) fun s hs => ?_
  refine Ok.bnd (topol_ok hs (by omega) (by omega)) fun a ha => ?_
  refine Ok.bnd (topol_ok ha.2 (by omega) (by omega)) fun b hb => ?_
  simp only [top_check, ref_check, bnd_s, awake5, m_law05_big, decide_true, cond_true]
  exact Ok.cs (fun _ => Ok.s rfl) fun _ => Ok.s rfl
end Go.Proofs.Ytggbjbcgfelgiaa
