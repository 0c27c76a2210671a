/- Functions of the program, written anew. No condition but those that stand in each. -/
import Derived.Test.YtckhladakpjlgaaT
import Derived.Test.YtckhladakpjlgaaD4
import Derived.Test.YtckhladakpjlgaaD5
namespace Go.Proofs.Ytckhladakpjlgaa
open Go
set_option maxRecDepth 100000
set_option linter.all false
def m_slices_Clone_Lapi_Router_api_Router_l (sa0 : List GRouter) : Option (List GRouter) :=
 bnd (appO ([] : List GRouter) sa0) fun (l_1 : List GRouter) => some l_1
def m_slices_Clone_Lapi_Router_api_Router_0  : Option (List GRouter) :=
 bnd (appO ([] : List GRouter) []) fun (l_1 : List GRouter) => some l_1
def m_slices_Clone_Lapi_Router_api_Router (s : List GRouter) : Option (List GRouter) := m_slices_Clone_Lapi_Router_api_Router_l s
def m_slices_Clone_Lapi_Link_api_Link_l (sa0 : List GLink) : Option (List GLink) :=
 bnd (appO ([] : List GLink) sa0) fun (l_1 : List GLink) => some l_1
def m_slices_Clone_Lapi_Link_api_Link_0  : Option (List GLink) :=
 bnd (appO ([] : List GLink) []) fun (l_1 : List GLink) => some l_1
def m_slices_Clone_Lapi_Link_api_Link (s : List GLink) : Option (List GLink) := m_slices_Clone_Lapi_Link_api_Link_l s
def m_topology_Apply (t : GTopology) (c : GChange) : Option (GTopology × Int) :=
 bnd (m_topology_valid t) fun (vx_1 : Bool) => bif !vx_1 then some ((GTopology.mk [] []), (1:Int)) else jn (fun (sg : Int × Int × Int × Int) => match sg with | (m_1, m_2, m_3, m_4) => bnd (m_slices_BinarySearchFunc_Lapi_Link_api_Link_api_Link t.Links (GLink.mk m_1 m_2 m_3 m_4 (0:Int)) m_topology_compare) fun (vx_2 : Int × Bool) => jn (fun (v_1 : Bool) => bif v_1 then some ((GTopology.mk [] []), (4:Int)) else bif decide (c.A = c.B) then some ((GTopology.mk [] []), (8:Int)) else jn (fun (v_2 : Bool) => bif v_2 then some ((GTopology.mk [] []), (2:Int)) else bif (((decide (c.CostA = (0:Int))) && (decide (c.CostB = (0:Int)))) && (!vx_2.2)) then some ((GTopology.mk [] []), (9:Int)) else bif ((!vx_2.2) && (decide ((t.Links.length:Int) = (60:Int)))) then some ((GTopology.mk [] []), (3:Int)) else bnd (m_slices_Clone_Lapi_Router_api_Router t.Routers) fun (vx_7 : (List GRouter)) => bnd (m_slices_Clone_Lapi_Link_api_Link t.Links) fun (vx_8 : (List GLink)) => jn (fun (m_5 : (List GLink)) => some ((GTopology.mk vx_7 m_5), (0:Int))) fun J4 => bif ((decide (c.CostA = (0:Int))) && (decide (c.CostB = (0:Int)))) then bnd (delO vx_8 vx_2.1 (w64 (vx_2.1 + (1:Int)))) fun (l_1 : List GLink) => J4 l_1 else bif vx_2.2 then bnd (elO vx_8 vx_2.1) fun (e_1 : GLink) => bnd (setO vx_8 vx_2.1 (GLink.mk m_1 m_2 m_3 m_4 e_1.Capacity)) fun (l_2 : List GLink) => J4 l_2 else bnd (insO vx_8 vx_2.1 (GLink.mk m_1 m_2 m_3 m_4 (0:Int))) fun (l_3 : List GLink) => J4 l_3) fun J3 => (bif !((decide (c.CostA = (0:Int))) && (decide (c.CostB = (0:Int)))) then bnd (m_topology_in c.CostA (1:Int) (1000:Int)) fun (vx_5 : Bool) => (bif !vx_5 then J3 true else bnd (m_topology_in c.CostB (1:Int) (1000:Int)) fun (vx_6 : Bool) => J3 (!vx_6)) else J3 false)) fun J2 => bnd (m_topology_Has t c.A) fun (vx_3 : Bool) => (bif !vx_3 then J2 true else bnd (m_topology_Has t c.B) fun (vx_4 : Bool) => J2 (!vx_4))) fun J1 => bif decide (c.B < c.A) then J1 (c.B, c.A, c.CostB, c.CostA) else J1 (c.A, c.B, c.CostA, c.CostB)
end Go.Proofs.Ytckhladakpjlgaa
