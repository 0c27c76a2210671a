/- Functions of the program, written anew. No condition but those that stand in each. -/
import Derived.Test.YtckhladakpjlgaaT
import Derived.Test.YtckhladakpjlgaaD2
import Derived.Test.YtckhladakpjlgaaD3
import Derived.Test.YtckhladakpjlgaaDA
import Derived.Test.YtckhladakpjlgaaDL
namespace Go.Proofs.Ytckhladakpjlgaa
open Go
set_option maxRecDepth 100000
set_option linter.all false
def m_law05_TopologyLimits (n : Int) : Option Bool :=
 forN ((25:Int) - (1:Int)).toNat (1:Int) (fun (j1 : Int) (Z1 : (List GRouter) → Option _) (m_1 : (List GRouter)) => bnd (appO m_1 ([(GRouter.mk (j1 : Int) false)] : List GRouter)) fun (l_1 : List GRouter) => Z1 l_1) (fun (j1 : Int) (m_1 : (List GRouter)) => forN ((25:Int) - (1:Int)).toNat (1:Int) (fun (j2 : Int) (Z2 : (List GLink) → Option _) (m_2 : (List GLink)) => whl (fun (Z3 : (Int × (List GLink)) → Option _) (sg : Int × (List GLink)) => match sg with | (b_1, m_3) => bif ((decide (b_1 ≤ (24:Int))) && (decide ((m_3.length:Int) < (60:Int)))) then bnd (appO m_3 ([(GLink.mk (j2 : Int) b_1 (w64 ((1:Int) + (w64 n))) (1000:Int) (1000:Int))] : List GLink)) fun (l_2 : List GLink) => Z3 (w64 (b_1 + (1:Int)), l_2) else Z2 m_3) (w64 ((j2 : Int) + (1:Int)), m_2)) (fun (j2 : Int) (m_2 : (List GLink)) => bnd (sliO m_1 (0:Int) (m_1.length:Int)) fun (l_3 : List GRouter) => bnd (appO l_3 ([(GRouter.mk (99:Int) false)] : List GRouter)) fun (l_4 : List GRouter) => bnd (m_topology_Apply (GTopology.mk m_1 m_2) (GChange.mk (24:Int) (23:Int) (1:Int) (1:Int))) fun (vx_1 : GTopology × Int) => bnd (m_topology_Apply (GTopology.mk m_1 m_2) (GChange.mk (2:Int) (1:Int) (5:Int) (6:Int))) fun (vx_2 : GTopology × Int) => bnd (m_topology_Check (GTopology.mk m_1 m_2)) fun (vx_3 : Int) => (bif decide (vx_3 = (0:Int)) then bnd (m_topology_Check (GTopology.mk l_4 m_2)) fun (vx_4 : Int) => (bif decide (vx_4 = (3:Int)) then (bif decide (vx_1.2 = (3:Int)) then (bif decide (vx_2.2 = (0:Int)) then (bif decide ((vx_2.1.Links.length:Int) = (60:Int)) then bnd (elO vx_2.1.Links (0:Int)) fun (e_1 : GLink) => (bif eqGLink e_1 (GLink.mk (1:Int) (2:Int) (6:Int) (5:Int) (1000:Int)) then bnd (m_law05_awake) fun (vx_5 : Bool) => some vx_5 else some false) else some false) else some false) else some false) else some false) else some false)) []) []
end Go.Proofs.Ytckhladakpjlgaa
