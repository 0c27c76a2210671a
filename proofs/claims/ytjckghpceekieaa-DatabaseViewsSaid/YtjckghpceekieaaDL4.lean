/- Functions of the program, written anew. No condition but those that stand in each. -/
import Derived.Test.YtjckghpceekieaaT
import Derived.Test.YtjckghpceekieaaD8
import Derived.Test.YtjckghpceekieaaDT
import Derived.Test.YtjckghpceekieaaDL
namespace Go.Proofs.Ytjckghpceekieaa
open Go
set_option maxRecDepth 100000
set_option linter.all false
def m_law08_DatabaseViews (t : List Int) (raw : GDatabase) (ra2 : Int) : Option Bool :=
 bnd (m_mk_New t) fun (vx_1 : GTape) => bnd (m_mk_Tape_Database vx_1 (8:Int)) fun (vx_2 : GDatabase × GTape) => bnd (m_mk_Tape_Database vx_2.2 (0:Int)) fun (vx_3 : GDatabase × GTape) => whl (fun (Z1 : (Int × (List Int) × Int) → Option _) (sg : Int × (List Int) × Int) => match sg with | (i_1, m_1, m_2) => jn (fun (v_1 : Bool) => bif v_1 then bnd (m_mk_Tape_Range (GTape.mk m_1 m_2) (0:Int) (7:Int)) fun (vx_5 : Int × GTape) => jn (fun (sg : Int × (List Int) × Int) => match sg with | (vat_1, m_3, m_4) => bnd (elO ([vx_2.1, vx_3.1, raw] : List GDatabase) i_1) fun (e_1 : GDatabase) => bnd (m_database_Claims e_1 vat_1) fun (vx_7 : (List GOwned)) => bnd (m_ref08_Claims e_1 vat_1) fun (vx_8 : (List GOwned)) => jn (fun (v_2 : Bool) => bif v_2 then some false else forI vx_7 0 (fun (j2 : Int) (e2 : GOwned) (Z2 : Unit → Option _) (sg : Unit) => match sg with | () => bnd (elO vx_8 (j2 : Int)) fun (e_2 : GOwned) => bif !(eqGOwned e2 e_2) then some false else Z2 ()) (fun (sg : Unit) => match sg with | () => Z1 (w64 (i_1 + (1:Int)), m_3, m_4)) ()) fun J3 => bnd (m_database_View e_1 vat_1) fun (vx_9 : GTopology) => bnd (m_ref08_View e_1 vat_1) fun (vx_10 : GTopology) => bnd (m_ref05_Same vx_9 vx_10) fun (vx_11 : Bool) => (bif !vx_11 then J3 true else J3 (!decide ((vx_7.length:Int) = (vx_8.length:Int))))) fun J2 => bnd (m_mk_Tape_One vx_5.2 (6:Int)) fun (vx_6 : Bool × GTape) => bif vx_6.1 then J2 (ra2, vx_6.2.L, vx_6.2.At) else J2 (vx_5.1, vx_6.2.L, vx_6.2.At) else bnd (m_law08_awake) fun (vx_12 : Bool) => some vx_12) fun J1 => (bif decide (i_1 < (([vx_2.1, vx_3.1, raw] : List GDatabase).length:Int)) then bnd (m_law08_big raw) fun (vx_4 : Bool) => J1 (!vx_4) else J1 false)) ((0:Int), vx_3.2.L, vx_3.2.At)
end Go.Proofs.Ytjckghpceekieaa
