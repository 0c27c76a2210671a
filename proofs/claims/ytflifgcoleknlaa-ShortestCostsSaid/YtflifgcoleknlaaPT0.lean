/- Plain: the law of the costs. No condition. -/
import Derived.Test.YtflifgcoleknlaaPN
import Derived.Test.YtflifgcoleknlaaDL0
namespace Go.Proofs.Ytflifgcoleknlaa
set_option linter.all false
open Go
theorem eqDist_self (e : GDistance) : eqGDistance e e = true := by simp [eqGDistance]
theorem plain_ShortestCosts (t : List Int) (x y : Int) : m_law06_ShortestCosts t x y = some true := by
 unfold m_law06_ShortestCosts
 refine Ok.eq (Ok.bnd (new_ok t) fun s hs => Ok.bnd (topol_ok hs (by decide) (by decide)) fun p hp => ?_)
 obtain ⟨⟨g1, g2, g3⟩, hp2⟩ := hp
 refine Ok.bnd (router_ok hp2 (by omega) (by decide)) fun r1 hr1 => Ok.bnd (router_ok hr1 (by omega) (by decide)) fun r2 hr2 => ?_
 refine Ok.forI (fun _ _ => True) (fun j a u Z _ hZ => ?_) _ 0 () trivial fun _ _ => by rw [awake6]; exact .s rfl
 rw [top_Distances6, ref_Distances6]
 simp only [bnd_s, decide_true, Bool.not_true, cond_false]
 refine Ok.forL (L := distsT p.1 a) (fun _ _ => True) (fun q e r u Z2 hL _ hZ2 => ?_) () trivial fun _ _ => ?_
 ·refine Ok.bnd (P := fun z => z = e) ⟨e, by rw [hL]; exact elO_at q e r, rfl⟩ fun z hz => ?_
  subst hz
  rw [eqDist_self]
  exact hZ2 () trivial
 ·refine Ok.forI (fun _ _ => True) (fun j b u Z3 _ hZ3 => ?_) _ 0 () trivial fun _ _ => hZ () trivial
  rw [top_Cost6, ref_Cost6]
  simp only [bnd_s, decide_true, Bool.not_true, beq_self_eq_true, Bool.or_self, cond_false]
  exact hZ3 () trivial
end Go.Proofs.Ytflifgcoleknlaa
