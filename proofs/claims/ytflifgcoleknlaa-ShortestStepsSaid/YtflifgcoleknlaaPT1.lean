/- Plain: the law of the steps. No condition. -/
import Derived.Test.YtflifgcoleknlaaPN
import Derived.Test.YtflifgcoleknlaaDL1
namespace Go.Proofs.Ytflifgcoleknlaa
set_option linter.all false
open Go
/-- one pair: what both say is the same -/
theorem pair_same {β : Type} (g : GTopology) (a b : Int) (hl : g.Routers.length ≤ 1000000) (J : Bool → Option β) :
  (jn J fun J => bnd (m_shortest_Next g a b) fun (v1 : List Int) => bnd (m_ref06_Next g a b) fun (v2 : List Int) => bnd (m_ref04_Ints v1 v2) fun (v3 : Bool) => (bif !v3 then J true else bnd (m_shortest_Route g a b) fun (v4 : List Int) => bnd (m_ref06_Route g a b) fun (v5 : List Int) => bnd (m_ref04_Ints v4 v5) fun (v6 : Bool) => (bif !v6 then J true else bnd (m_shortest_Paths g a b) fun (v7 : Int) => bnd (m_ref06_Paths g a b) fun (v8 : Int) => J (!decide (v7 = v8))))) = J false := by
 simp only [jn]
 rw [top_Next6, ref_Next6, top_Route6, ref_Route6, top_Paths6 _ _ _ hl, ref_Paths6]
 simp only [bnd_s, ints_self, Bool.not_true, cond_false, decide_true]
theorem plain_ShortestSteps (t : List Int) (x y : Int) : m_law06_ShortestSteps t x y = some true := by
 unfold m_law06_ShortestSteps
 refine Ok.eq (Ok.bnd (new_ok t) fun s hs => Ok.bnd (topol_ok hs (by decide) (by decide)) fun p hp => ?_)
 obtain ⟨⟨g1, g2, g3⟩, hp2⟩ := hp
 refine Ok.bnd (router_ok hp2 (by omega) (by decide)) fun r1 hr1 => Ok.bnd (router_ok hr1 (by omega) (by decide)) fun r2 hr2 => Ok.bnd (router_ok hr2 (by omega) (by decide)) fun r3 hr3 => Ok.bnd (router_ok hr3 (by omega) (by decide)) fun r4 hr4 => ?_
 have hl : p.1.Routers.length ≤ 1000000 := by omega
 refine Eq.mpr (congrArg (fun o => Ok o _) (pair_same p.1 x y hl _)) ?_
 simp only [cond_false]
 refine Eq.mpr (congrArg (fun o => Ok o _) (pair_same p.1 r1.1 r2.1 hl _)) ?_
 simp only [cond_false]
 refine Eq.mpr (congrArg (fun o => Ok o _) (pair_same p.1 r3.1 r4.1 hl _)) ?_
 simp only [cond_false]
 rw [awake6]; exact .s rfl
end Go.Proofs.Ytflifgcoleknlaa
