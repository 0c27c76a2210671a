/- Plain: the law TopologyParts. No condition. -/
import Derived.Test.YtggbjbcgfelgiaaP2
import Derived.Test.YtggbjbcgfelgiaaP5
import Derived.Test.YtggbjbcgfelgiaaPA5
import Derived.Test.YtggbjbcgfelgiaaDL6
namespace Go.Proofs.Ytggbjbcgfelgiaa
set_option linter.all false
open Go

theorem plain_TopologyParts (t : List Int) (x y : Int) : m_law05_TopologyParts t x y = some true := by
  refine Ok.eq ?_
  unfold m_law05_TopologyParts
  refine Ok.bnd (new_ok t) fun s hs => ?_
  refine Ok.bnd (topol_ok hs (by omega) (by omega)) fun g hg => ?_
  obtain ⟨⟨g1, g2, g3⟩, ht⟩ := hg
  refine Ok.bnd (failures_ok ht ⟨by omega, by omega⟩) fun f hf => ?_
  rw [ref_without, bnd_s]
  generalize hu : withoutT g.1 f.1 = u
  have hv : Vt u := hu ▸ withoutT_valid _ _
  have hc := vt_iff.2 hv
  have := hv.nr
  have hlen : (compsL u).length ≤ 24 := by
    have := ids_len hv
    unfold compsL; rw [List.length_map]
    exact Nat.le_trans (List.length_filter_le _ _) this
  simp only [top_Components, ref_Components, hc, if_true, bnd_s, decide_true, Bool.not_true, cond_false]
  refine Ok.forL (fun _ _ => True) ?_ _ trivial ?_
  · rintro p e r s Z hL _ hZ
    simp only [hL, elO_at, bnd_s, ints_self, Bool.not_true, cond_false]
    exact hZ _ trivial
  · intro s _
    refine Ok.bnd (router_ok hf.2 (by omega) (by omega)) fun a ha => ?_
    refine Ok.bnd (router_ok ha (by omega) (by omega)) fun b hb => ?_
    simp only [top_Connected u _ _ (by omega : u.Routers.length ≤ 1000000), ref_Connected, bnd_s, beq_self_eq_true, cond_true, awake5]
    exact Ok.s rfl
end Go.Proofs.Ytggbjbcgfelgiaa
