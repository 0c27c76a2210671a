/- Functions of the program, written anew. No condition but those that stand in each. -/
import Derived.Test.YtmcjffllahcclaaGreatT
import Derived.Test.YtmcjffllahcclaaGreatDA
import Derived.Test.YtmcjffllahcclaaGreatDL
namespace Go.Proofs.YtmcjffllahcclaaGreat
open Go
set_option maxRecDepth 100000
set_option linter.all false
def m_law08_DatabaseGrows (t : List Int) : Option Bool :=
 bnd (m_mk_New t) fun (vx_1 : GTape) => bnd (m_mk_Tape_Database vx_1 (0:Int)) fun (vx_2 : GDatabase × GTape) => bnd (m_mk_Tape_Database vx_2.2 (0:Int)) fun (vx_3 : GDatabase × GTape) => bnd (m_database_Merge vx_2.1 vx_3.1) fun (vx_4 : GDatabase × Int) => bnd (m_mk_Tape_Range vx_3.2 (1:Int) (7:Int)) fun (vx_5 : Int × GTape) => bnd (m_mk_Tape_Advert vx_5.2 vx_5.1 (0:Int)) fun (vx_6 : GAdvert × GTape) => bnd (m_database_Put vx_2.1 vx_6.1) fun (vx_7 : GDatabase × Bool) => forN ((2:Int) - (0:Int)).toNat (0:Int) (fun (j1 : Int) (Z1 : Unit → Option _) (sg : Unit) => match sg with | () => forI vx_2.1.Adverts 0 (fun (j2 : Int) (e2 : GAdvert) (Z2 : Unit → Option _) (sg : Unit) => match sg with | () => bnd (elO ([vx_4.1, vx_7.1] : List GDatabase) (j1 : Int)) fun (e_1 : GDatabase) => bnd (m_database_Find e_1 e2.Router) fun (vx_8 : GAdvert × Bool) => jn (fun (v_1 : Bool) => bif v_1 then some false else Z2 ()) fun J1 => (bif !vx_8.2 then J1 true else bnd (m_ref07_Newer e2 vx_8.1) fun (vx_9 : Bool) => J1 vx_9)) (fun (sg : Unit) => match sg with | () => Z1 ()) ()) (fun (j1 : Int) (sg : Unit) => match sg with | () => (bif decide (vx_4.2 = (0:Int)) then bnd (m_database_Check vx_4.1) fun (vx_10 : Int) => (bif decide (vx_10 = (0:Int)) then bnd (m_database_Check vx_7.1) fun (vx_11 : Int) => (bif decide (vx_11 = (0:Int)) then bnd (m_law08_awake) fun (vx_12 : Bool) => some vx_12 else some false) else some false) else some false)) ()
end Go.Proofs.YtmcjffllahcclaaGreat
