/- Functions of the program, written anew. No condition but those that stand in each. -/
import Derived.Test.YtmcjffllahcclaaT
import Derived.Test.YtmcjffllahcclaaDA
import Derived.Test.YtmcjffllahcclaaDL
namespace Go.Proofs.Ytmcjffllahcclaa
open Go
set_option maxRecDepth 100000
set_option linter.all false
def m_law08_DatabaseStrangers (t : List Int) : Option Bool :=
 bnd (m_mk_New t) fun (vx_1 : GTape) => bnd (m_mk_Tape_Database vx_1 (0:Int)) fun (vx_2 : GDatabase × GTape) => bnd (m_mk_Tape_Advert vx_2.2 (50:Int) (0:Int)) fun (vx_3 : GAdvert × GTape) => bnd (m_database_Put vx_2.1 vx_3.1) fun (vx_4 : GDatabase × Bool) => bif !vx_4.2 then some false else forI vx_2.1.Adverts 0 (fun (j1 : Int) (e1 : GAdvert) (Z1 : Unit → Option _) (sg : Unit) => match sg with | () => bnd (m_database_View vx_4.1 e1.Router) fun (vx_5 : GTopology) => bnd (m_database_View vx_2.1 e1.Router) fun (vx_6 : GTopology) => bnd (m_ref05_Same vx_5 vx_6) fun (vx_7 : Bool) => bif !vx_7 then some false else Z1 ()) (fun (sg : Unit) => match sg with | () => bnd (m_database_View vx_4.1 (50:Int)) fun (vx_8 : GTopology) => (bif decide ((vx_8.Routers.length:Int) = (1:Int)) then bnd (m_law08_awake) fun (vx_9 : Bool) => some vx_9 else some false)) ()
end Go.Proofs.Ytmcjffllahcclaa
