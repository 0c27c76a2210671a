/- Functions of the program, written anew. No condition but those that stand in each. -/
import Derived.Test.YtflifgcoleknlaaT
import Derived.Test.YtflifgcoleknlaaDA
import Derived.Test.YtflifgcoleknlaaDL
namespace Go.Proofs.Ytflifgcoleknlaa
open Go
set_option maxRecDepth 100000
set_option linter.all false
noncomputable section
def m_law06_ShortestAvoids (t : List Int) : Option Bool :=
 bnd (m_mk_New t) fun (vx_1 : GTape) => bnd (m_mk_Tape_Topology vx_1 (7:Int) (0:Int)) fun (vx_2 : GTopology × GTape) => bnd (m_mk_Tape_Router vx_2.2 vx_2.1 (0:Int)) fun (vx_3 : Int × GTape) => bnd (m_mk_Tape_Router vx_3.2 vx_2.1 (0:Int)) fun (vx_4 : Int × GTape) => bnd (m_mk_Tape_Router vx_4.2 vx_2.1 (0:Int)) fun (vx_5 : Int × GTape) => bif ((decide (vx_3.1 = vx_5.1)) || (decide (vx_4.1 = vx_5.1))) then bnd (m_shortest_Avoids vx_2.1 vx_3.1 vx_4.1 vx_5.1) fun (vx_6 : Bool) => (bif !vx_6 then bnd (m_law06_awake) fun (vx_7 : Bool) => some vx_7 else some false) else bnd (m_ref05_Without vx_2.1 (GFailure.mk [] ([vx_5.1] : List Int))) fun (vx_8 : GTopology) => bnd (m_shortest_Cost vx_2.1 vx_3.1 vx_4.1) fun (vx_9 : Int × Bool) => bnd (m_shortest_Cost vx_8 vx_3.1 vx_4.1) fun (vx_10 : Int × Bool) => jn (fun (same_1 : Bool) => bnd (m_shortest_Avoids vx_2.1 vx_3.1 vx_4.1 vx_5.1) fun (vx_13 : Bool) => (bif (vx_13 == same_1) then bnd (m_law06_awake) fun (vx_14 : Bool) => some vx_14 else some false)) fun J1 => (bif vx_9.2 then (bif vx_10.2 then (bif decide (vx_9.1 = vx_10.1) then bnd (m_shortest_Paths vx_2.1 vx_3.1 vx_4.1) fun (vx_11 : Int) => bnd (m_shortest_Paths vx_8 vx_3.1 vx_4.1) fun (vx_12 : Int) => J1 (decide (vx_11 = vx_12)) else J1 false) else J1 false) else J1 false)
end
end Go.Proofs.Ytflifgcoleknlaa
