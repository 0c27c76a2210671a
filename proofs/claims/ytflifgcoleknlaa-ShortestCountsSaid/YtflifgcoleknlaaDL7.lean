/- Functions of the program, written anew. No condition but those that stand in each. -/
import Derived.Test.YtflifgcoleknlaaT
import Derived.Test.YtflifgcoleknlaaDA
import Derived.Test.YtflifgcoleknlaaDL
namespace Go.Proofs.Ytflifgcoleknlaa
open Go
set_option maxRecDepth 100000
set_option linter.all false
noncomputable section
def m_law06_ShortestCounts (t : List Int) : Option Bool :=
 bnd (m_mk_New t) fun (vx_1 : GTape) => bnd (m_mk_Tape_Topology vx_1 (8:Int) (0:Int)) fun (vx_2 : GTopology × GTape) => bnd (m_mk_Tape_Router vx_2.2 vx_2.1 (0:Int)) fun (vx_3 : Int × GTape) => bnd (m_mk_Tape_Router vx_3.2 vx_2.1 (0:Int)) fun (vx_4 : Int × GTape) => bnd (m_shortest_Next vx_2.1 vx_3.1 vx_4.1) fun (vx_5 : (List Int)) => forI vx_5 0 (fun (j1 : Int) (e1 : Int) (Z1 : Int → Option _) (n_1 : Int) => bnd (m_shortest_Paths vx_2.1 e1 vx_4.1) fun (vx_6 : Int) => Z1 (w64 (n_1 + vx_6))) (fun (n_1 : Int) => jn (fun (n_2 : Int) => bnd (m_shortest_Paths vx_2.1 vx_3.1 vx_4.1) fun (vx_7 : Int) => (bif decide (vx_7 = n_2) then bnd (m_law06_awake) fun (vx_8 : Bool) => some vx_8 else some false)) fun J1 => bif decide (vx_3.1 = vx_4.1) then J1 (1:Int) else J1 n_1) (0:Int)
end
end Go.Proofs.Ytflifgcoleknlaa
