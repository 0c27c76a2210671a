/- Functions of the program, written anew. No condition but those that stand in each. -/
import Derived.Test.YtggbjbcgfelgiaaT
import Derived.Test.YtggbjbcgfelgiaaD2
import Derived.Test.YtggbjbcgfelgiaaD3
import Derived.Test.YtggbjbcgfelgiaaDL
namespace Go.Proofs.Ytggbjbcgfelgiaa
open Go
set_option maxRecDepth 100000
set_option linter.all false
def m_law05_TopologyParts (t : List Int) (xa1 : Int) (y : Int) : Option Bool :=
 bnd (m_mk_New t) fun (vx_1 : GTape) => bnd (m_mk_Tape_Topology vx_1 (7:Int) (8:Int)) fun (vx_2 : GTopology × GTape) => bnd (m_mk_Tape_Failures vx_2.2 vx_2.1) fun (vx_3 : GFailure × GTape) => bnd (m_ref05_Without vx_2.1 vx_3.1) fun (vx_4 : GTopology) => bnd (m_topology_Components vx_4) fun (vx_5 : (List (List Int))) => bnd (m_ref05_Components vx_4) fun (vx_6 : (List (List Int))) => bif !decide ((vx_5.length:Int) = (vx_6.length:Int)) then some false else forI vx_5 0 (fun (j1 : Int) (e1 : List Int) (Z1 : Unit → Option _) (sg : Unit) => match sg with | () => bnd (elO vx_6 (j1 : Int)) fun (e_1 : List Int) => bnd (m_ref04_Ints e1 e_1) fun (vx_7 : Bool) => bif !vx_7 then some false else Z1 ()) (fun (sg : Unit) => match sg with | () => bnd (m_mk_Tape_Router vx_3.2 vx_4 (5:Int)) fun (vx_8 : Int × GTape) => bnd (m_mk_Tape_Router vx_8.2 vx_4 (5:Int)) fun (vx_9 : Int × GTape) => bnd (m_topology_Connected vx_4 vx_8.1 vx_9.1) fun (vx_10 : Bool) => bnd (m_ref05_Connected vx_4 vx_8.1 vx_9.1) fun (vx_11 : Bool) => (bif (vx_10 == vx_11) then bnd (m_topology_Connected vx_4 xa1 y) fun (vx_12 : Bool) => bnd (m_ref05_Connected vx_4 xa1 y) fun (vx_13 : Bool) => (bif (vx_12 == vx_13) then bnd (m_law05_awake) fun (vx_14 : Bool) => some vx_14 else some false) else some false)) ()
end Go.Proofs.Ytggbjbcgfelgiaa
