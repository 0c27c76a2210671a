/- The walks of functions of the program. No condition but those that stand in each. -/
import Derived.Test.YtflifgcoleknlaaDL
import Derived.Test.YtflifgcoleknlaaV6
import Derived.Test.YtflifgcoleknlaaV2
namespace Go.Proofs.Ytflifgcoleknlaa
open Go
set_option maxRecDepth 100000
set_option linter.all false
theorem m_law06_awake_ok  {r : Bool} (hm : m_law06_awake = some r) : RO Try.prog 22 [] [] (.bool r) := by
 refine enterA Try.func22 rfl rfl ?_
 unfold m_law06_awake at hm
 refine qS [] [] [] ?_
 refine qS [(11, .al 22001)] [(1, .ptr 22001 0)] [(22001, .cells 28 [.lst true (ml eGRouter ([(GRouter.mk (1:Int) false), (GRouter.mk (2:Int) false), (GRouter.mk (3:Int) false), (GRouter.mk (4:Int) false)] : List GRouter)), .lst true (ml eGLink ([(GLink.mk (1:Int) (2:Int) (1:Int) (1:Int) (0:Int)), (GLink.mk (1:Int) (3:Int) (1:Int) (1:Int) (0:Int)), (GLink.mk (2:Int) (4:Int) (1:Int) (1:Int) (0:Int)), (GLink.mk (3:Int) (4:Int) (1:Int) (1:Int) (0:Int))] : List GLink))])] ?_
 obtain ⟨vx_1, h1, hm⟩ := bnd_some hm
 obtain ⟨vx_2, h2, hm⟩ := bnd_some hm
 rcases cs_some hm with ⟨c1,hm⟩|⟨c1,hm⟩
 ·obtain ⟨vx_3, h3, hm⟩ := bnd_some hm
  obtain ⟨vx_4, h4, hm⟩ := bnd_some hm
  rcases cs_some hm with ⟨c2,hm⟩|⟨c2,hm⟩
  ·obtain ⟨vx_5, h5, hm⟩ := bnd_some hm
   rcases cs_some hm with ⟨c3,hm⟩|⟨c3,hm⟩
   ·obtain ⟨vx_6, h6, hm⟩ := bnd_some hm
    rcases cs_some hm with ⟨c4,hm⟩|⟨c4,hm⟩
    ·obtain ⟨vx_7, h7, hm⟩ := bnd_some hm
     refine qS [(1, hro (m_shortest_Next_ok h1) ck16), (3, hro (m_ref04_Ints_ok h2) ck15), (4, hto (bE c1)), (6, hro (m_shortest_Route_ok h3) ck18), (8, hro (m_ref04_Ints_ok h4) ck15), (10, hto (bE c2)), (12, hro (m_shortest_Paths_ok h5) ck20), (15, hto (bE c3)), (18, hro (m_shortest_Uses_ok h6) ck24), (20, hto (bE c4)), (22, hro (m_shortest_Avoids_ok h7) ck26)] [(0, .bool (!vx_7))] [] ?_
     cases hm
     exact A.ret qE
    refine qS [(1, hro (m_shortest_Next_ok h1) ck16), (3, hro (m_ref04_Ints_ok h2) ck15), (4, hto (bE c1)), (6, hro (m_shortest_Route_ok h3) ck18), (8, hro (m_ref04_Ints_ok h4) ck15), (10, hto (bE c2)), (12, hro (m_shortest_Paths_ok h5) ck20), (15, hto (bE c3)), (18, hro (m_shortest_Uses_ok h6) ck24), (20, hto (bE c4))] [(0, .bool false)] [] ?_
    cases hm
    exact A.ret qE
   refine qS [(1, hro (m_shortest_Next_ok h1) ck16), (3, hro (m_ref04_Ints_ok h2) ck15), (4, hto (bE c1)), (6, hro (m_shortest_Route_ok h3) ck18), (8, hro (m_ref04_Ints_ok h4) ck15), (10, hto (bE c2)), (12, hro (m_shortest_Paths_ok h5) ck20), (15, hto (bE c3))] [(0, .bool false)] [] ?_
   cases hm
   exact A.ret qE
  refine qS [(1, hro (m_shortest_Next_ok h1) ck16), (3, hro (m_ref04_Ints_ok h2) ck15), (4, hto (bE c1)), (6, hro (m_shortest_Route_ok h3) ck18), (8, hro (m_ref04_Ints_ok h4) ck15), (10, hto (bE c2))] [(0, .bool false)] [] ?_
  cases hm
  exact A.ret qE
 refine qS [(1, hro (m_shortest_Next_ok h1) ck16), (3, hro (m_ref04_Ints_ok h2) ck15), (4, hto (bE c1))] [(0, .bool false)] [] ?_
 cases hm
 exact A.ret qE
end Go.Proofs.Ytflifgcoleknlaa
