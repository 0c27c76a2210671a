/- Functions of the program, written anew. No condition but those that stand in each. -/
import Derived.Test.YtggbjbcgfelgiaaT
import Derived.Test.YtggbjbcgfelgiaaD2
import Derived.Test.YtggbjbcgfelgiaaD3
import Derived.Test.YtggbjbcgfelgiaaDL
namespace Go.Proofs.Ytggbjbcgfelgiaa
open Go
set_option maxRecDepth 100000
set_option linter.all false
def m_law05_TopologyWithout (t : List Int) (raw : GFailure) : Option Bool :=
 bnd (m_mk_New t) fun (vx_1 : GTape) => bnd (m_mk_Tape_Topology vx_1 (7:Int) (8:Int)) fun (vx_2 : GTopology × GTape) => bnd (m_mk_Tape_Failure vx_2.2 vx_2.1) fun (vx_3 : GFailure × GTape) => bnd (m_mk_Tape_Failures vx_3.2 vx_2.1) fun (vx_4 : GFailure × GTape) => whl (fun (Z1 : Int → Option _) (i_1 : Int) => bif ((decide (i_1 < (([vx_3.1, vx_4.1, raw] : List GFailure).length:Int))) && (decide (w64 ((raw.Links.length:Int) + (raw.Routers.length:Int)) ≤ (200:Int)))) then bnd (elO ([vx_3.1, vx_4.1, raw] : List GFailure) i_1) fun (e_1 : GFailure) => bnd (m_topology_Without vx_2.1 e_1) fun (vx_5 : GTopology) => jn (fun (v_1 : Bool) => bif v_1 then some false else Z1 (w64 (i_1 + (1:Int)))) fun J1 => bnd (m_ref05_Without vx_2.1 e_1) fun (vx_6 : GTopology) => bnd (m_ref05_Same vx_5 vx_6) fun (vx_7 : Bool) => (bif !vx_7 then J1 true else bnd (m_topology_Check vx_5) fun (vx_8 : Int) => J1 (!decide (vx_8 = (0:Int)))) else bnd (m_law05_awake) fun (vx_9 : Bool) => some vx_9) (0:Int)
end Go.Proofs.Ytggbjbcgfelgiaa
