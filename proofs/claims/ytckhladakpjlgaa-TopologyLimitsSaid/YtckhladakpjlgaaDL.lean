/- Functions of the program, written anew. No condition but those that stand in each. -/
import Derived.Test.YtckhladakpjlgaaT
import Derived.Test.YtckhladakpjlgaaD0
import Derived.Test.YtckhladakpjlgaaD5
namespace Go.Proofs.Ytckhladakpjlgaa
open Go
set_option maxRecDepth 100000
set_option linter.all false
def m_law05_example  : Option GTopology :=
 some (GTopology.mk ([(GRouter.mk (1:Int) false), (GRouter.mk (2:Int) false), (GRouter.mk (3:Int) false), (GRouter.mk (4:Int) false)] : List GRouter) ([(GLink.mk (1:Int) (2:Int) (1:Int) (1:Int) (0:Int)), (GLink.mk (2:Int) (3:Int) (1:Int) (1:Int) (0:Int)), (GLink.mk (2:Int) (4:Int) (1:Int) (1:Int) (0:Int)), (GLink.mk (3:Int) (4:Int) (1:Int) (1:Int) (0:Int))] : List GLink))
def m_law05_awake  : Option Bool :=
 bnd (m_law05_example) fun (vx_1 : GTopology) => bnd (m_topology_Bridges vx_1) fun (vx_2 : (List GHop)) => bnd (m_law05_example) fun (vx_3 : GTopology) => bnd (m_topology_Check vx_3) fun (vx_4 : Int) => (bif decide (vx_4 = (0:Int)) then (bif decide ((vx_2.length:Int) = (1:Int)) then bnd (elO vx_2 (0:Int)) fun (e_1 : GHop) => (bif eqGHop e_1 (GHop.mk (1:Int) (2:Int)) then bnd (m_law05_example) fun (vx_5 : GTopology) => bnd (m_topology_Cuts vx_5) fun (vx_6 : (List Int)) => bnd (m_ref04_Ints vx_6 ([(2:Int)] : List Int)) fun (vx_7 : Bool) => some vx_7 else some false) else some false) else some false)
end Go.Proofs.Ytckhladakpjlgaa
