/- Functions of the program, written anew. No condition but those that stand in each. -/
import Derived.Test.YtflifgcoleknlaaT
import Derived.Test.YtflifgcoleknlaaDA
import Derived.Test.YtflifgcoleknlaaDL
namespace Go.Proofs.Ytflifgcoleknlaa
open Go
set_option maxRecDepth 100000
set_option linter.all false
noncomputable section
def m_law06_ShortestUses (t : List Int) (xa1 : Int) (y : Int) (z : Int) (raw : GHop) : Option Bool :=
 bnd (m_mk_New t) fun (vx_1 : GTape) => bnd (m_mk_Tape_Topology vx_1 (7:Int) (10:Int)) fun (vx_2 : GTopology × GTape) => bnd (m_mk_Tape_Router vx_2.2 vx_2.1 (6:Int)) fun (vx_3 : Int × GTape) => bnd (m_mk_Tape_Router vx_3.2 vx_2.1 (6:Int)) fun (vx_4 : Int × GTape) => bnd (m_mk_Tape_Router vx_4.2 vx_2.1 (6:Int)) fun (vx_5 : Int × GTape) => bnd (m_mk_Tape_Router vx_5.2 vx_2.1 (6:Int)) fun (vx_6 : Int × GTape) => bnd (m_mk_Tape_Router vx_6.2 vx_2.1 (6:Int)) fun (vx_7 : Int × GTape) => jn (fun (sg : Int × Int) => match sg with | (m_1, m_2) => bnd (m_shortest_Uses vx_2.1 vx_3.1 vx_4.1 (GHop.mk m_1 m_2)) fun (vx_10 : Bool) => bnd (m_ref06_Uses vx_2.1 vx_3.1 vx_4.1 (GHop.mk m_1 m_2)) fun (vx_11 : Bool) => (bif (vx_10 == vx_11) then bnd (m_shortest_Uses vx_2.1 xa1 y raw) fun (vx_12 : Bool) => bnd (m_ref06_Uses vx_2.1 xa1 y raw) fun (vx_13 : Bool) => (bif (vx_12 == vx_13) then bnd (m_shortest_Avoids vx_2.1 vx_3.1 vx_4.1 vx_5.1) fun (vx_14 : Bool) => bnd (m_ref06_Avoids vx_2.1 vx_3.1 vx_4.1 vx_5.1) fun (vx_15 : Bool) => (bif (vx_14 == vx_15) then bnd (m_shortest_Avoids vx_2.1 xa1 y z) fun (vx_16 : Bool) => bnd (m_ref06_Avoids vx_2.1 xa1 y z) fun (vx_17 : Bool) => (bif (vx_16 == vx_17) then bnd (m_law06_awake) fun (vx_18 : Bool) => some vx_18 else some false) else some false) else some false) else some false)) fun J1 => jn (fun (sg : Bool × (List Int) × Int) => match sg with | (v_1, m_3, m_4) => bif v_1 then bnd (m_mk_Tape_Next (GTape.mk m_3 m_4) (vx_2.1.Links.length:Int)) fun (vx_9 : Int × GTape) => bnd (elO vx_2.1.Links vx_9.1) fun (e_1 : GLink) => J1 (e_1.B, e_1.A) else J1 (vx_6.1, vx_7.1)) fun J2 => (bif decide ((0:Int) < (vx_2.1.Links.length:Int)) then bnd (m_mk_Tape_Next vx_7.2 (4:Int)) fun (vx_8 : Int × GTape) => J2 (decide ((0:Int) < vx_8.1), vx_8.2.L, vx_8.2.At) else J2 (false, vx_7.2.L, vx_7.2.At))
end
end Go.Proofs.Ytflifgcoleknlaa
