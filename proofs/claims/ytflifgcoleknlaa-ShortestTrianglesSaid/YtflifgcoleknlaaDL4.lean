/- Functions of the program, written anew. No condition but those that stand in each. -/
import Derived.Test.YtflifgcoleknlaaT
import Derived.Test.YtflifgcoleknlaaDA
import Derived.Test.YtflifgcoleknlaaDL
namespace Go.Proofs.Ytflifgcoleknlaa
open Go
set_option maxRecDepth 100000
set_option linter.all false
noncomputable section
def m_law06_ShortestTriangles (t : List Int) : Option Bool :=
 bnd (m_mk_New t) fun (vx_1 : GTape) => bnd (m_mk_Tape_Topology vx_1 (6:Int) (0:Int)) fun (vx_2 : GTopology × GTape) => bnd (m_mk_Any vx_2.1) fun (vx_3 : (List Int)) => forI vx_3 0 (fun (j1 : Int) (e1 : Int) (Z1 : Unit → Option _) (sg : Unit) => match sg with | () => forI vx_3 0 (fun (j2 : Int) (e2 : Int) (Z2 : Unit → Option _) (sg : Unit) => match sg with | () => bnd (m_shortest_Cost vx_2.1 e1 e2) fun (vx_4 : Int × Bool) => jn (fun (v_1 : Bool) => bif v_1 then some false else bnd (m_ref05_Price vx_2.1 e1 e2) fun (vx_6 : Int × Bool) => bif (vx_6.2 && (decide (vx_6.1 < vx_4.1))) then some false else forI vx_3 0 (fun (j3 : Int) (e3 : Int) (Z3 : Unit → Option _) (sg : Unit) => match sg with | () => bnd (m_shortest_Cost vx_2.1 e1 e3) fun (vx_7 : Int × Bool) => bnd (m_shortest_Cost vx_2.1 e3 e2) fun (vx_8 : Int × Bool) => bif (vx_7.2 && (vx_8.2 && ((!vx_4.2) || (decide (w64 (vx_7.1 + vx_8.1) < vx_4.1))))) then some false else Z3 ()) (fun (sg : Unit) => match sg with | () => Z2 ()) ()) fun J1 => bnd (m_ref05_Connected vx_2.1 e1 e2) fun (vx_5 : Bool) => (bif !(vx_4.2 == vx_5) then J1 true else (bif decide ((j1 : Int) = (j2 : Int)) then (bif !decide (vx_4.1 = (0:Int)) then J1 true else (bif !decide ((j1 : Int) = (j2 : Int)) then (bif vx_4.2 then J1 (decide (vx_4.1 < (1:Int))) else J1 false) else J1 false)) else (bif !decide ((j1 : Int) = (j2 : Int)) then (bif vx_4.2 then J1 (decide (vx_4.1 < (1:Int))) else J1 false) else J1 false)))) (fun (sg : Unit) => match sg with | () => Z1 ()) ()) (fun (sg : Unit) => match sg with | () => bnd (m_law06_awake) fun (vx_9 : Bool) => some vx_9) ()
end
end Go.Proofs.Ytflifgcoleknlaa
