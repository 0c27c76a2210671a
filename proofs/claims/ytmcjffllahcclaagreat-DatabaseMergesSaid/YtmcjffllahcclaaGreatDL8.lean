/- Functions of the program, written anew. No condition but those that stand in each. -/
import Derived.Test.YtmcjffllahcclaaGreatT
import Derived.Test.YtmcjffllahcclaaGreatDA
import Derived.Test.YtmcjffllahcclaaGreatDL
namespace Go.Proofs.YtmcjffllahcclaaGreat
open Go
set_option maxRecDepth 100000
set_option linter.all false
def m_law08_DatabaseMerges (t : List Int) : Option Bool :=
 bnd (m_mk_New t) fun (vx_1 : GTape) => bnd (m_mk_Tape_Database vx_1 (8:Int)) fun (vx_2 : GDatabase × GTape) => bnd (m_mk_Tape_Database vx_2.2 (8:Int)) fun (vx_3 : GDatabase × GTape) => bnd (m_mk_Tape_Database vx_3.2 (0:Int)) fun (vx_4 : GDatabase × GTape) => bnd (m_database_Merge vx_2.1 vx_3.1) fun (vx_5 : GDatabase × Int) => bnd (m_ref08_Merge vx_2.1 vx_3.1) fun (vx_6 : GDatabase × Int) => bnd (m_database_Merge vx_3.1 vx_2.1) fun (vx_7 : GDatabase × Int) => jn (fun (v_1 : Bool) => bif v_1 then some false else bif !decide (vx_5.2 = (0:Int)) then bnd (m_law08_awake) fun (vx_10 : Bool) => some vx_10 else bnd (m_database_Merge vx_5.1 vx_4.1) fun (vx_11 : GDatabase × Int) => bnd (m_database_Merge vx_3.1 vx_4.1) fun (vx_12 : GDatabase × Int) => bnd (m_database_Merge vx_2.1 vx_12.1) fun (vx_13 : GDatabase × Int) => bnd (m_database_Merge vx_5.1 vx_2.1) fun (vx_14 : GDatabase × Int) => (bif decide (vx_11.2 = (0:Int)) then (bif decide (vx_12.2 = (0:Int)) then (bif decide (vx_13.2 = (0:Int)) then (bif decide (vx_14.2 = (0:Int)) then bnd (m_ref08_Same vx_11.1 vx_13.1) fun (vx_15 : Bool) => (bif vx_15 then bnd (m_ref08_Same vx_14.1 vx_5.1) fun (vx_16 : Bool) => (bif vx_16 then bnd (m_law08_awake) fun (vx_17 : Bool) => some vx_17 else some false) else some false) else some false) else some false) else some false) else some false)) fun J1 => bnd (m_ref08_Same vx_5.1 vx_6.1) fun (vx_8 : Bool) => (bif !vx_8 then J1 true else (bif !decide (vx_5.2 = vx_6.2) then J1 true else bnd (m_ref08_Same vx_5.1 vx_7.1) fun (vx_9 : Bool) => (bif !vx_9 then J1 true else J1 (!decide (vx_5.2 = vx_7.2)))))
end Go.Proofs.YtmcjffllahcclaaGreat
