/- Plain: the law TopologyLooks. No condition. -/
import Derived.Test.YtggbjbcgfelgiaaP2
import Derived.Test.YtggbjbcgfelgiaaP3
import Derived.Test.YtggbjbcgfelgiaaPA5
import Derived.Test.YtggbjbcgfelgiaaDL8
namespace Go.Proofs.Ytggbjbcgfelgiaa
set_option linter.all false
open Go

theorem plain_TopologyLooks (t : List Int) (raw : GTopology) (x y : Int) : m_law05_TopologyLooks t raw x y = some true := by
  refine Ok.eq ?_
  unfold m_law05_TopologyLooks
  refine Ok.bnd (new_ok t) fun s hs => ?_
  refine Ok.bnd (topol_ok hs (by omega) (by omega)) fun g hg => ?_
  obtain ⟨⟨g1, g2, g3⟩, ht⟩ := hg
  refine Ok.bnd (next_ok ht (by omega)) fun q1 hq1 => ?_
  refine Ok.bnd (router_ok hq1.2 (by omega) (by omega)) fun q2 hq2 => ?_
  refine Ok.bnd (mixed_ok hq2 (by omega)) fun m hm => ?_
  obtain ⟨⟨m1, m2, m3⟩, hmt⟩ := hm
  refine Ok.whl (fun i : Int => 0 ≤ i ∧ i ≤ 3) (fun i => (3 - i).toNat) ⟨by omega, by omega⟩ (by omega) ?_
  intro i Z hI hZ
  refine Ok.jn (fun v : Bool => v = true → i < 3 ∧ m_law05_big raw = some false) (fun v hv => ?_) fun J1 hJ1 => ?_
  · refine Ok.cs (fun h => ?_) fun _ => by rw [awake5]; exact Ok.s rfl
    obtain ⟨hi, hb⟩ := hv h
    have hraw : raw.Routers.length ≤ 100 ∧ raw.Links.length ≤ 200 := by
      simp [m_law05_big] at hb; omega
    have key : ∀ e ∈ [g.1, m.1, raw], e.Routers.length ≤ 1000000 ∧ e.Links.length ≤ 1000000 := by
      intro e he
      simp only [List.mem_cons, List.not_mem_nil, or_false] at he
      rcases he with rfl | rfl | rfl <;> omega
    refine Ok.forM (fun _ _ => True) ?_ _ trivial ?_
    · intro j r s Z2 hj hr _ hZ2
      have inner : ∀ v : Bool, v = false → Ok (bif v then some false else forI ([x, y, q1.1, q2.1] : List Int) 0 (fun (j3 : Int) (e3 : Int) (Z3 : Unit → Option _) (sg : Unit) => match sg with | () => bnd (elO ([g.1, m.1, raw] : List GTopology) i) fun (e_2 : GTopology) => bnd (m_topology_Cost e_2 r e3) fun (vx_14 : Int × Bool) => bnd (m_ref05_Cost e_2 r e3) fun (vx_15 : Int × Bool) => bif ((!decide (vx_14.1 = vx_15.1)) || (!(vx_14.2 == vx_15.2))) then some false else Z3 ()) (fun (sg : Unit) => match sg with | () => Z2 ()) ()) (fun x => x = true) := by
        rintro v rfl
        rw [cond_false]
        refine Ok.forM (fun _ _ => True) ?_ _ trivial fun s _ => hZ2 _ trivial
        intro j3 e3 s3 Z3 hj3 _ _ hZ3
        refine Ok.bnd (elO_ok hI.1 (by simp; omega)) fun e he => ?_
        obtain ⟨k1, k2⟩ := key e he.1
        simp only [top_Cost e r e3 k2, ref_Cost, bnd_s, decide_true, Bool.not_true, Bool.false_or, beq_self_eq_true, cond_false]
        exact hZ3 _ trivial
      refine Ok.jn (fun v : Bool => v = false) inner fun J2 hJ2 => ?_
      refine Ok.bnd (elO_ok hI.1 (by simp; omega)) fun e he => ?_
      obtain ⟨k1, k2⟩ := key e he.1
      obtain ⟨b, hb1, hb2⟩ := capable_eq e r k1
      simp only [top_Has e r k1, ref_Has, bnd_s, beq_self_eq_true, Bool.not_true, cond_false, hb1, hb2, top_Neighbours, ref_Neighbours, ints_self]
      exact hJ2 _ rfl
    · intro s _
      rw [w64_id (by omega) (by omega)]
      exact hZ _ ⟨by omega, by omega⟩ (by omega)
  · refine Ok.cs (fun hc => ?_) fun _ => hJ1 _ (by simp)
    have hc : i < 3 := by simp at hc; omega
    refine Ok.bnd (P := fun b => m_law05_big raw = some b) ⟨_, rfl, rfl⟩ fun b hb => hJ1 _ fun h => ⟨hc, ?_⟩
    rw [hb]; simpa using h
end Go.Proofs.Ytggbjbcgfelgiaa
