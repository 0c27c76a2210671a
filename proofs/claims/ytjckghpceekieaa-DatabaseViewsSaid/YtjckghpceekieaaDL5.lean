/- Functions of the program, written anew. No condition but those that stand in each. -/
import Derived.Test.YtjckghpceekieaaT
import Derived.Test.YtjckghpceekieaaD8
import Derived.Test.YtjckghpceekieaaDT
import Derived.Test.YtjckghpceekieaaDL
namespace Go.Proofs.Ytjckghpceekieaa
open Go
set_option maxRecDepth 100000
set_option linter.all false
def m_law08_DatabaseChecks (t : List Int) (raw : GDatabase) (ra2 : Int) : Option Bool :=
 bnd (m_mk_New t) fun (vx_1 : GTape) => bnd (m_mk_Tape_Database vx_1 (2:Int)) fun (vx_2 : GDatabase × GTape) => bnd (m_mk_Tape_Database vx_2.2 (0:Int)) fun (vx_3 : GDatabase × GTape) => whl (fun (Z1 : (Int × (List Int) × Int) → Option _) (sg : Int × (List Int) × Int) => match sg with | (i_1, m_1, m_2) => jn (fun (v_1 : Bool) => bif v_1 then bnd (elO ([vx_2.1, vx_3.1, raw] : List GDatabase) i_1) fun (e_1 : GDatabase) => bnd (m_database_Check e_1) fun (vx_5 : Int) => bnd (m_ref08_Check e_1) fun (vx_6 : Int) => bif !decide (vx_5 = vx_6) then some false else forI ([vx_2.1, vx_3.1, raw] : List GDatabase) 0 (fun (j2 : Int) (e2 : GDatabase) (Z2 : Unit → Option _) (sg : Unit) => match sg with | () => bnd (m_database_Same e_1 e2) fun (vx_7 : Bool) => bnd (m_ref08_Same e_1 e2) fun (vx_8 : Bool) => bif !(vx_7 == vx_8) then some false else Z2 ()) (fun (sg : Unit) => match sg with | () => bnd (m_mk_Tape_Range (GTape.mk m_1 m_2) (0:Int) (7:Int)) fun (vx_9 : Int × GTape) => forN ((2:Int) - (0:Int)).toNat (0:Int) (fun (j3 : Int) (Z3 : Unit → Option _) (sg : Unit) => match sg with | () => bnd (elO ([ra2, vx_9.1] : List Int) (j3 : Int)) fun (e_2 : Int) => bnd (m_database_Find e_1 e_2) fun (vx_10 : GAdvert × Bool) => bnd (m_ref08_Find e_1 e_2) fun (vx_11 : GAdvert × Bool) => jn (fun (v_2 : Bool) => bif v_2 then some false else Z3 ()) fun J2 => bnd (m_ref07_Same vx_10.1 vx_11.1) fun (vx_12 : Bool) => (bif !vx_12 then J2 true else J2 (!(vx_10.2 == vx_11.2)))) (fun (j3 : Int) (sg : Unit) => match sg with | () => Z1 (w64 (i_1 + (1:Int)), vx_9.2.L, vx_9.2.At)) ()) () else bnd (m_law08_awake) fun (vx_13 : Bool) => some vx_13) fun J1 => (bif decide (i_1 < (([vx_2.1, vx_3.1, raw] : List GDatabase).length:Int)) then bnd (m_law08_big raw) fun (vx_4 : Bool) => J1 (!vx_4) else J1 false)) ((0:Int), vx_3.2.L, vx_3.2.At)
end Go.Proofs.Ytjckghpceekieaa
