/- Functions of the program, written anew. No condition but those that stand in each. -/
import Derived.Test.YtggbjbcgfelgiaaT
import Derived.Test.YtggbjbcgfelgiaaD2
import Derived.Test.YtggbjbcgfelgiaaD3
import Derived.Test.YtggbjbcgfelgiaaDL
namespace Go.Proofs.Ytggbjbcgfelgiaa
open Go
set_option maxRecDepth 100000
set_option linter.all false
def m_law05_TopologyWeak (t : List Int) : Option Bool :=
 bnd (m_mk_New t) fun (vx_1 : GTape) => bnd (m_mk_Tape_Topology vx_1 (7:Int) (12:Int)) fun (vx_2 : GTopology × GTape) => bnd (m_topology_Bridges vx_2.1) fun (vx_3 : (List GHop)) => bnd (m_topology_Cuts vx_2.1) fun (vx_4 : (List Int)) => jn (fun (v_1 : Bool) => bif v_1 then some false else bnd (m_ref05_Check vx_2.1) fun (vx_9 : Int) => bif !decide (vx_9 = (0:Int)) then bnd (m_law05_awake) fun (vx_10 : Bool) => some vx_10 else bnd (m_topology_Components vx_2.1) fun (vx_11 : (List (List Int))) => forI vx_2.1.Links 0 (fun (j1 : Int) (e1 : GLink) (Z1 : Unit → Option _) (sg : Unit) => match sg with | () => bnd (m_topology_Without vx_2.1 (GFailure.mk ([(GHop.mk e1.A e1.B)] : List GHop) [])) fun (vx_12 : GTopology) => bnd (m_topology_Components vx_12) fun (vx_13 : (List (List Int))) => bnd (m_ref05_Named vx_3 e1.A e1.B) fun (vx_14 : Bool) => bif !((decide ((vx_11.length:Int) < (vx_13.length:Int))) == vx_14) then some false else Z1 ()) (fun (sg : Unit) => match sg with | () => forI vx_2.1.Routers 0 (fun (j2 : Int) (e2 : GRouter) (Z2 : Unit → Option _) (sg : Unit) => match sg with | () => bnd (m_topology_Without vx_2.1 (GFailure.mk [] ([e2.ID] : List Int))) fun (vx_15 : GTopology) => bnd (m_topology_Components vx_15) fun (vx_16 : (List (List Int))) => bnd (m_ref04_Has vx_4 e2.ID) fun (vx_17 : Bool) => bif !((decide ((vx_11.length:Int) < (vx_16.length:Int))) == vx_17) then some false else Z2 ()) (fun (sg : Unit) => match sg with | () => bnd (m_law05_awake) fun (vx_18 : Bool) => some vx_18) ()) ()) fun J1 => bnd (m_ref05_Bridges vx_2.1) fun (vx_5 : (List GHop)) => bnd (m_mk_Same vx_3 vx_5) fun (vx_6 : Bool) => (bif !vx_6 then J1 true else bnd (m_ref05_Cuts vx_2.1) fun (vx_7 : (List Int)) => bnd (m_ref04_Ints vx_4 vx_7) fun (vx_8 : Bool) => J1 (!vx_8))
end Go.Proofs.Ytggbjbcgfelgiaa
