/- Functions of the program, written anew. No condition but those that stand in each. -/
import Derived.Test.YtflifgcoleknlaaT
import Derived.Test.YtflifgcoleknlaaDA
import Derived.Test.YtflifgcoleknlaaDL
namespace Go.Proofs.Ytflifgcoleknlaa
open Go
set_option maxRecDepth 100000
set_option linter.all false
noncomputable section
def m_law06_ShortestCosts (t : List Int) (xa1 : Int) (y : Int) : Option Bool :=
 bnd (m_mk_New t) fun (vx_1 : GTape) => bnd (m_mk_Tape_Topology vx_1 (7:Int) (10:Int)) fun (vx_2 : GTopology × GTape) => bnd (m_mk_Tape_Router vx_2.2 vx_2.1 (4:Int)) fun (vx_3 : Int × GTape) => bnd (m_mk_Tape_Router vx_3.2 vx_2.1 (0:Int)) fun (vx_4 : Int × GTape) => forI ([xa1, y, vx_3.1, vx_4.1] : List Int) 0 (fun (j1 : Int) (e1 : Int) (Z1 : Unit → Option _) (sg : Unit) => match sg with | () => bnd (m_shortest_Distances vx_2.1 e1) fun (vx_5 : (List GDistance)) => bnd (m_ref06_Distances vx_2.1 e1) fun (vx_6 : (List GDistance)) => bif !decide ((vx_5.length:Int) = (vx_6.length:Int)) then some false else forI vx_5 0 (fun (j2 : Int) (e2 : GDistance) (Z2 : Unit → Option _) (sg : Unit) => match sg with | () => bnd (elO vx_6 (j2 : Int)) fun (e_1 : GDistance) => bif !(eqGDistance e2 e_1) then some false else Z2 ()) (fun (sg : Unit) => match sg with | () => forI ([xa1, y, vx_3.1, vx_4.1] : List Int) 0 (fun (j3 : Int) (e3 : Int) (Z3 : Unit → Option _) (sg : Unit) => match sg with | () => bnd (m_shortest_Cost vx_2.1 e1 e3) fun (vx_7 : Int × Bool) => bnd (m_ref06_Cost vx_2.1 e1 e3) fun (vx_8 : Int × Bool) => bif ((!decide (vx_7.1 = vx_8.1)) || (!(vx_7.2 == vx_8.2))) then some false else Z3 ()) (fun (sg : Unit) => match sg with | () => Z1 ()) ()) ()) (fun (sg : Unit) => match sg with | () => bnd (m_law06_awake) fun (vx_9 : Bool) => some vx_9) ()
end
end Go.Proofs.Ytflifgcoleknlaa
