/- Functions of the program, written anew. No condition but those that stand in each. -/
import Derived.Test.YtjckghpceekieaaT
import Derived.Test.YtjckghpceekieaaD8
import Derived.Test.YtjckghpceekieaaDT
import Derived.Test.YtjckghpceekieaaDL
namespace Go.Proofs.Ytjckghpceekieaa
open Go
set_option maxRecDepth 100000
set_option linter.all false
def m_law08_DatabaseAgrees (t : List Int) : Option Bool :=
 bnd (m_mk_New t) fun (vx_1 : GTape) => bnd (m_mk_Tape_Database vx_1 (0:Int)) fun (vx_2 : GDatabase × GTape) => bnd (m_mk_Tape_Range vx_2.2 (1:Int) (6:Int)) fun (vx_3 : Int × GTape) => bnd (m_database_View vx_2.1 vx_3.1) fun (vx_4 : GTopology) => bnd (m_ref08_Find vx_2.1 vx_3.1) fun (vx_5 : GAdvert × Bool) => jn (fun (v_1 : Bool) => bif v_1 then some false else forI vx_4.Routers 0 (fun (j1 : Int) (e1 : GRouter) (Z1 : Unit → Option _) (sg : Unit) => match sg with | () => jn (fun (v_2 : Bool) => bif v_2 then some false else Z1 ()) fun J2 => bnd (m_ref05_Connected vx_4 vx_3.1 e1.ID) fun (vx_8 : Bool) => (bif !vx_8 then J2 true else bnd (m_database_View vx_2.1 e1.ID) fun (vx_9 : GTopology) => bnd (m_ref05_Same vx_9 vx_4) fun (vx_10 : Bool) => J2 (!vx_10))) (fun (sg : Unit) => match sg with | () => forI vx_4.Links 0 (fun (j2 : Int) (e2 : GLink) (Z2 : Unit → Option _) (sg : Unit) => match sg with | () => bnd (m_ref08_Find vx_2.1 e2.A) fun (vx_11 : GAdvert × Bool) => bnd (m_ref08_Find vx_2.1 e2.B) fun (vx_12 : GAdvert × Bool) => bnd (m_ref08_Reach vx_11.1 e2.B) fun (vx_13 : GReach × Bool) => bnd (m_ref08_Reach vx_12.1 e2.A) fun (vx_14 : GReach × Bool) => bif ((!vx_13.2) || ((!vx_14.2) || ((!decide (vx_13.1.Cost = e2.CostA)) || (!decide (vx_14.1.Cost = e2.CostB))))) then some false else Z2 ()) (fun (sg : Unit) => match sg with | () => bnd (m_law08_awake) fun (vx_15 : Bool) => some vx_15) ()) ()) fun J1 => bnd (m_ref05_Check vx_4) fun (vx_6 : Int) => (bif !decide (vx_6 = (0:Int)) then J1 true else bnd (m_ref05_Has vx_4 vx_3.1) fun (vx_7 : Bool) => J1 (!(vx_7 == vx_5.2)))
end Go.Proofs.Ytjckghpceekieaa
