/- Functions of the program, written anew. No condition but those that stand in each. -/
import Derived.Test.YtflifgcoleknlaaT
import Derived.Test.YtflifgcoleknlaaDA
import Derived.Test.YtflifgcoleknlaaDL
namespace Go.Proofs.Ytflifgcoleknlaa
open Go
set_option maxRecDepth 100000
set_option linter.all false
noncomputable section
def m_law06_ShortestUnique (t : List Int) : Option Bool :=
 bnd (m_mk_New t) fun (vx_1 : GTape) => bnd (m_mk_Tape_Topology vx_1 (6:Int) (8:Int)) fun (vx_2 : GTopology × GTape) => bnd (m_shortest_Unique vx_2.1) fun (vx_3 : Bool) => bnd (m_ref06_Unique vx_2.1) fun (vx_4 : Bool) => (bif (vx_3 == vx_4) then bnd (m_law06_awake) fun (vx_5 : Bool) => some vx_5 else some false)
end
end Go.Proofs.Ytflifgcoleknlaa
