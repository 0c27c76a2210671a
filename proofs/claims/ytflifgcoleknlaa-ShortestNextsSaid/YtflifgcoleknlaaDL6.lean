/- Functions of the program, written anew. No condition but those that stand in each. -/
import Derived.Test.YtflifgcoleknlaaT
import Derived.Test.YtflifgcoleknlaaDA
import Derived.Test.YtflifgcoleknlaaDL
namespace Go.Proofs.Ytflifgcoleknlaa
open Go
set_option maxRecDepth 100000
set_option linter.all false
noncomputable section
def m_law06_ShortestNexts (t : List Int) : Option Bool :=
 bnd (m_mk_New t) fun (vx_1 : GTape) => bnd (m_mk_Tape_Topology vx_1 (7:Int) (0:Int)) fun (vx_2 : GTopology × GTape) => bnd (m_mk_Tape_Router vx_2.2 vx_2.1 (0:Int)) fun (vx_3 : Int × GTape) => bnd (m_mk_Tape_Router vx_3.2 vx_2.1 (0:Int)) fun (vx_4 : Int × GTape) => bnd (m_shortest_Cost vx_2.1 vx_3.1 vx_4.1) fun (vx_5 : Int × Bool) => bnd (m_shortest_Next vx_2.1 vx_3.1 vx_4.1) fun (vx_6 : (List Int)) => bnd (m_ref05_Near vx_2.1 vx_3.1) fun (vx_7 : (List Int)) => forI vx_7 0 (fun (j1 : Int) (e1 : Int) (Z1 : Unit → Option _) (sg : Unit) => match sg with | () => bnd (m_ref05_Price vx_2.1 vx_3.1 e1) fun (vx_8 : Int × Bool) => bnd (m_shortest_Cost vx_2.1 e1 vx_4.1) fun (vx_9 : Int × Bool) => jn (fun (v_1 : Bool) => bif v_1 then some false else jn (fun (v_2 : Bool) => bif v_2 then some false else Z1 ()) fun J2 => bnd (m_ref04_Has vx_6 e1) fun (vx_11 : Bool) => (bif vx_11 then bnd (m_shortest_Avoids vx_2.1 e1 vx_4.1 vx_3.1) fun (vx_12 : Bool) => J2 (!vx_12) else J2 false)) fun J1 => bnd (m_ref04_Has vx_6 e1) fun (vx_10 : Bool) => (bif vx_5.2 then (bif vx_9.2 then (bif !decide (vx_3.1 = vx_4.1) then J1 (!(vx_10 == (decide (w64 (vx_8.1 + vx_9.1) = vx_5.1)))) else J1 (!(vx_10 == false))) else J1 (!(vx_10 == false))) else J1 (!(vx_10 == false)))) (fun (sg : Unit) => match sg with | () => (bif decide ((vx_6.length:Int) ≤ (vx_7.length:Int)) then bnd (m_law06_awake) fun (vx_13 : Bool) => some vx_13 else some false)) ()
end
end Go.Proofs.Ytflifgcoleknlaa
