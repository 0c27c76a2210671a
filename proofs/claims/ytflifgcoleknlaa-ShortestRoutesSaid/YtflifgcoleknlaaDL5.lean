/- Functions of the program, written anew. No condition but those that stand in each. -/
import Derived.Test.YtflifgcoleknlaaT
import Derived.Test.YtflifgcoleknlaaDA
import Derived.Test.YtflifgcoleknlaaDL
namespace Go.Proofs.Ytflifgcoleknlaa
open Go
set_option maxRecDepth 100000
set_option linter.all false
noncomputable section
def m_law06_ShortestRoutes (t : List Int) : Option Bool :=
 bnd (m_mk_New t) fun (vx_1 : GTape) => bnd (m_mk_Tape_Topology vx_1 (7:Int) (0:Int)) fun (vx_2 : GTopology × GTape) => bnd (m_mk_Tape_Router vx_2.2 vx_2.1 (0:Int)) fun (vx_3 : Int × GTape) => bnd (m_mk_Tape_Router vx_3.2 vx_2.1 (0:Int)) fun (vx_4 : Int × GTape) => bnd (m_shortest_Route vx_2.1 vx_3.1 vx_4.1) fun (vx_5 : (List Int)) => bnd (m_shortest_Cost vx_2.1 vx_3.1 vx_4.1) fun (vx_6 : Int × Bool) => bif ((decide (vx_3.1 = vx_4.1)) || (!vx_6.2)) then (bif decide ((vx_5.length:Int) = (0:Int)) then (bif (vx_6.2 == (decide (vx_3.1 = vx_4.1))) then bnd (m_law06_awake) fun (vx_7 : Bool) => some vx_7 else some false) else some false) else bnd (m_shortest_Next vx_2.1 vx_3.1 vx_4.1) fun (vx_8 : (List Int)) => jn (fun (v_1 : Bool) => bif v_1 then some false else whl (fun (Z1 : Int → Option _) (i_1 : Int) => bif decide (w64 (i_1 + (1:Int)) < (vx_5.length:Int)) then bnd (elO vx_5 i_1) fun (e_4 : Int) => bnd (m_shortest_Route vx_2.1 e_4 vx_4.1) fun (vx_10 : (List Int)) => bnd (sliO vx_5 (w64 (i_1 + (1:Int))) (vx_5.length:Int)) fun (l_1 : List Int) => bnd (m_ref04_Ints vx_10 l_1) fun (vx_11 : Bool) => bif !vx_11 then some false else Z1 (w64 (i_1 + (1:Int))) else bnd (m_law06_awake) fun (vx_12 : Bool) => some vx_12) (0:Int)) fun J1 => (bif decide ((vx_5.length:Int) = (0:Int)) then J1 true else bnd (elO vx_5 (w64 ((vx_5.length:Int) - (1:Int)))) fun (e_1 : Int) => (bif !decide (e_1 = vx_4.1) then J1 true else bnd (m_law06_length vx_2.1 vx_3.1 vx_5) fun (vx_9 : Int) => (bif !decide (vx_9 = vx_6.1) then J1 true else (bif decide ((vx_8.length:Int) = (0:Int)) then J1 true else bnd (elO vx_5 (0:Int)) fun (e_2 : Int) => bnd (elO vx_8 (0:Int)) fun (e_3 : Int) => J1 (!decide (e_2 = e_3))))))
end
end Go.Proofs.Ytflifgcoleknlaa
