/- Functions of the program, written anew. No condition but those that stand in each. -/
import Derived.Test.YtckhladakpjlgaaT
import Derived.Test.YtckhladakpjlgaaD2
import Derived.Test.YtckhladakpjlgaaD3
import Derived.Test.YtckhladakpjlgaaDA
import Derived.Test.YtckhladakpjlgaaDL
namespace Go.Proofs.Ytckhladakpjlgaa
open Go
set_option maxRecDepth 100000
set_option linter.all false
def m_law05_TopologyApplies (t : List Int) (raw : GChange) : Option Bool :=
 bnd (m_mk_New t) fun (vx_1 : GTape) => bnd (m_mk_Tape_Topology vx_1 (7:Int) (8:Int)) fun (vx_2 : GTopology × GTape) => bnd (m_mk_Tape_Change vx_2.2 vx_2.1 (3:Int)) fun (vx_3 : GChange × GTape) => bnd (m_mk_Tape_Change vx_3.2 vx_2.1 (0:Int)) fun (vx_4 : GChange × GTape) => forI ([vx_3.1, vx_4.1, raw] : List GChange) 0 (fun (j1 : Int) (e1 : GChange) (Z1 : Unit → Option _) (sg : Unit) => match sg with | () => bnd (m_topology_Apply vx_2.1 e1) fun (vx_5 : GTopology × Int) => bnd (m_ref05_Apply vx_2.1 e1) fun (vx_6 : GTopology × Int) => jn (fun (v_1 : Bool) => bif v_1 then some false else Z1 ()) fun J1 => bnd (m_ref05_Same vx_5.1 vx_6.1) fun (vx_7 : Bool) => (bif !vx_7 then J1 true else (bif !decide (vx_5.2 = vx_6.2) then J1 true else (bif decide (vx_5.2 = (0:Int)) then bnd (m_topology_Check vx_5.1) fun (vx_8 : Int) => J1 (!decide (vx_8 = (0:Int))) else J1 false)))) (fun (sg : Unit) => match sg with | () => bnd (m_law05_awake) fun (vx_9 : Bool) => some vx_9) ()
end Go.Proofs.Ytckhladakpjlgaa
