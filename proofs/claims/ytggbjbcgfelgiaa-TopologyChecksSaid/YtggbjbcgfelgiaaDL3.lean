/- Functions of the program, written anew. No condition but those that stand in each. -/
import Derived.Test.YtggbjbcgfelgiaaT
import Derived.Test.YtggbjbcgfelgiaaD1
import Derived.Test.YtggbjbcgfelgiaaD3
import Derived.Test.YtggbjbcgfelgiaaDL
namespace Go.Proofs.Ytggbjbcgfelgiaa
open Go
set_option maxRecDepth 100000
set_option linter.all false
def m_law05_TopologyChecks (t : List Int) (raw : GTopology) : Option Bool :=
 bnd (m_mk_New t) fun (vx_1 : GTape) => bnd (m_mk_Tape_Topology vx_1 (7:Int) (2:Int)) fun (vx_2 : GTopology × GTape) => bnd (m_mk_Tape_Topology vx_2.2 (7:Int) (1:Int)) fun (vx_3 : GTopology × GTape) => bnd (m_topology_Check vx_2.1) fun (vx_4 : Int) => bnd (m_ref05_Check vx_2.1) fun (vx_5 : Int) => (bif decide (vx_4 = vx_5) then bnd (m_topology_Check vx_3.1) fun (vx_6 : Int) => bnd (m_ref05_Check vx_3.1) fun (vx_7 : Int) => (bif decide (vx_6 = vx_7) then bnd (m_law05_big raw) fun (vx_8 : Bool) => (bif vx_8 then bnd (m_law05_awake) fun (vx_9 : Bool) => some vx_9 else bnd (m_topology_Check raw) fun (vx_10 : Int) => bnd (m_ref05_Check raw) fun (vx_11 : Int) => (bif decide (vx_10 = vx_11) then bnd (m_law05_awake) fun (vx_12 : Bool) => some vx_12 else some false)) else some false) else some false)
end Go.Proofs.Ytggbjbcgfelgiaa
