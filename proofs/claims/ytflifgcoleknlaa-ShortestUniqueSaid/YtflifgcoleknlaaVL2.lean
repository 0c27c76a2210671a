/- The walks of functions of the program. No condition but those that stand in each. -/
import Derived.Test.YtflifgcoleknlaaDL2
import Derived.Test.YtflifgcoleknlaaVR
import Derived.Test.YtflifgcoleknlaaVL
import Derived.Test.YtflifgcoleknlaaV3
namespace Go.Proofs.Ytflifgcoleknlaa
open Go
set_option maxRecDepth 100000
set_option linter.all false
theorem m_law06_ShortestUnique_ok {t : List Int} {r : Bool} (hm : m_law06_ShortestUnique t = some r) : RO Try.prog 10 [] [lf eInt t] (.bool r) := by
 refine enterA Try.func10 rfl rfl ?_
 unfold m_law06_ShortestUnique at hm
 refine qS [] [(0, lf eInt t)] [] ?_
 obtain ⟨vx_1, h1, hm⟩ := bnd_some hm
 refine qS [(1, hdc [900000064] (m_mk_New_ok h1) ck12)] [(3, .ptr 900000064 0)] [(900000064, .cells 64 (k3 vx_1))] ?_
 obtain ⟨vx_2, h2, hm⟩ := bnd_some hm
 refine qS [(1, hdc [500001300, 500001301] (m_mk_Tape_Topology_ok h2) ck13), (2, .al 10004)] [(4, .ptr 10004 0)] [(500001300, .slice 67 2 (ml eGRouter vx_2.1.Routers) 0 false), (500001301, .slice 42 5 (ml eGLink vx_2.1.Links) 0 false), (10004, .cells 28 [.own 500001300, .own 500001301])] ?_
 obtain ⟨vx_3, h3, hm⟩ := bnd_some hm
 obtain ⟨vx_4, h4, hm⟩ := bnd_some hm
 rcases cs_some hm with ⟨c1,hm⟩|⟨c1,hm⟩
 ·obtain ⟨vx_5, h5, hm⟩ := bnd_some hm
  refine qS [(1, hle [500001300, 500001301] (m_shortest_Unique_ok h3) ck36), (3, hle [500001300, 500001301] (m_ref06_Unique_ok h4) ck37), (5, hto (bE c1)), (6, hro (m_law06_awake_ok h5) ck22)] [(2, .bool vx_5)] [] ?_
  cases hm
  exact A.ret qE
 refine qS [(1, hle [500001300, 500001301] (m_shortest_Unique_ok h3) ck36), (3, hle [500001300, 500001301] (m_ref06_Unique_ok h4) ck37), (5, hto (bE c1))] [(2, .bool false)] [] ?_
 cases hm
 exact A.ret qE
end Go.Proofs.Ytflifgcoleknlaa
