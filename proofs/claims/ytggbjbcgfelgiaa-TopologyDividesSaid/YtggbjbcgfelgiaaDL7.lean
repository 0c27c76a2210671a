/- Functions of the program, written anew. No condition but those that stand in each. -/
import Derived.Test.YtggbjbcgfelgiaaT
import Derived.Test.YtggbjbcgfelgiaaD2
import Derived.Test.YtggbjbcgfelgiaaD3
import Derived.Test.YtggbjbcgfelgiaaDL
namespace Go.Proofs.Ytggbjbcgfelgiaa
open Go
set_option maxRecDepth 100000
set_option linter.all false
def m_law05_TopologyDivides (t : List Int) : Option Bool :=
 bnd (m_mk_New t) fun (vx_1 : GTape) => bnd (m_mk_Tape_Topology vx_1 (8:Int) (0:Int)) fun (vx_2 : GTopology × GTape) => bnd (m_mk_Tape_Failures vx_2.2 vx_2.1) fun (vx_3 : GFailure × GTape) => bnd (m_ref05_Without vx_2.1 vx_3.1) fun (vx_4 : GTopology) => bnd (m_topology_Components vx_4) fun (vx_5 : (List (List Int))) => forI vx_5 0 (fun (j1 : Int) (e1 : List Int) (Z1 : (Int × (List (Int × Int))) → Option _) (sg : Int × (List (Int × Int))) => match sg with | (n_1, m_1) => forI e1 0 (fun (j2 : Int) (e2 : Int) (Z2 : (Int × (List (Int × Int))) → Option _) (sg : Int × (List (Int × Int))) => match sg with | (n_2, m_2) => Z2 (w64 (n_2 + (1:Int)), setI m_2 e2 (j1 : Int))) (fun (sg : Int × (List (Int × Int))) => match sg with | (n_2, m_2) => Z1 (n_2, m_2)) (n_1, m_1)) (fun (sg : Int × (List (Int × Int))) => match sg with | (n_1, m_1) => bif ((!decide (n_1 = (vx_4.Routers.length:Int))) || (!decide ((m_1.length:Int) = n_1))) then some false else forI vx_4.Routers 0 (fun (j3 : Int) (e3 : GRouter) (Z3 : Unit → Option _) (sg : Unit) => match sg with | () => forI vx_4.Routers 0 (fun (j4 : Int) (e4 : GRouter) (Z4 : Unit → Option _) (sg : Unit) => match sg with | () => bnd (m_topology_Connected vx_4 e3.ID e4.ID) fun (vx_6 : Bool) => bif !(vx_6 == (decide (((getI m_1 e3.ID).getD (0:Int)) = ((getI m_1 e4.ID).getD (0:Int))))) then some false else Z4 ()) (fun (sg : Unit) => match sg with | () => Z3 ()) ()) (fun (sg : Unit) => match sg with | () => bnd (m_law05_awake) fun (vx_7 : Bool) => some vx_7) ()) ((0:Int), [])
end Go.Proofs.Ytggbjbcgfelgiaa
