/- Functions of the program, written anew. No condition but those that stand in each. -/
import Derived.Test.YtmcjffllahcclaaGreatT
import Derived.Test.YtmcjffllahcclaaGreatDA
import Derived.Test.YtmcjffllahcclaaGreatDL
namespace Go.Proofs.YtmcjffllahcclaaGreat
open Go
set_option maxRecDepth 100000
set_option linter.all false
def m_law08_DatabaseOf (t : List Int) : Option Bool :=
 bnd (m_mk_New t) fun (vx_1 : GTape) => bnd (m_mk_Tape_Mixed vx_1 (7:Int)) fun (vx_2 : GTopology × GTape) => forI vx_2.1.Routers 0 (fun (j1 : Int) (e1 : GRouter) (Z1 : ((List GAdvert) × (List Int) × Int) → Option _) (sg : (List GAdvert) × (List Int) × Int) => match sg with | (m_1, m_2, m_3) => bnd (m_mk_Tape_Next (GTape.mk m_2 m_3) (5:Int)) fun (vx_3 : Int × GTape) => bnd (m_ref07_Of vx_2.1 e1.ID (w64 ((1:Int) + vx_3.1)) []) fun (vx_4 : GAdvert × Int) => bif !decide (vx_4.2 = (0:Int)) then some false else bnd (m_database_Put (GDatabase.mk m_1) vx_4.1) fun (vx_5 : GDatabase × Bool) => Z1 (vx_5.1.Adverts, vx_3.2.L, vx_3.2.At)) (fun (sg : (List GAdvert) × (List Int) × Int) => match sg with | (m_1, m_2, m_3) => bif decide ((vx_2.1.Routers.length:Int) = (0:Int)) then bnd (m_law08_awake) fun (vx_6 : Bool) => some vx_6 else bnd (m_mk_Tape_Router (GTape.mk m_2 m_3) vx_2.1 (0:Int)) fun (vx_7 : Int × GTape) => bnd (m_ref05_Around vx_2.1 vx_7.1) fun (vx_8 : (List Int)) => forI vx_2.1.Routers 0 (fun (j2 : Int) (e2 : GRouter) (Z2 : (List Int) → Option _) (out_1 : (List Int)) => jn (fun (out_2 : (List Int)) => Z2 out_2) fun J1 => bnd (m_ref04_Has vx_8 e2.ID) fun (vx_9 : Bool) => bif !vx_9 then bnd (appO out_1 ([e2.ID] : List Int)) fun (l_1 : List Int) => J1 l_1 else J1 out_1) (fun (out_1 : (List Int)) => bnd (m_database_View (GDatabase.mk m_1) vx_7.1) fun (vx_10 : GTopology) => bnd (m_ref05_Without vx_2.1 (GFailure.mk [] out_1)) fun (vx_11 : GTopology) => bnd (m_ref05_Same vx_10 vx_11) fun (vx_12 : Bool) => (bif vx_12 then bnd (m_law08_awake) fun (vx_13 : Bool) => some vx_13 else some false)) []) ([], vx_2.2.L, vx_2.2.At)
end Go.Proofs.YtmcjffllahcclaaGreat
