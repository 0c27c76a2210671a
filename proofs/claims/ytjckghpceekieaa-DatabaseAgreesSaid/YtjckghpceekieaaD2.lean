/- Functions of the program, written anew. No condition but those that stand in each. -/
import Derived.Test.YtjckghpceekieaaT
import Derived.Test.YtjckghpceekieaaD0
import Derived.Test.YtjckghpceekieaaD1
namespace Go.Proofs.Ytjckghpceekieaa
open Go
set_option maxRecDepth 100000
set_option linter.all false
def m_ref05_Has (t : GTopology) (ra1 : Int) : Option Bool :=
 bnd (m_ref05_Check t) fun (vx_1 : Int) => (bif decide (vx_1 = (0:Int)) then bnd (m_ref05_has t ra1) fun (vx_2 : Bool) => some vx_2 else some false)
def m_ref05_Near (t : GTopology) (ra1 : Int) : Option (List Int) :=
 forI t.Routers 0 (fun (j1 : Int) (e1 : GRouter) (Z1 : (List Int) → Option _) (out_1 : (List Int)) => jn (fun (out_2 : (List Int)) => Z1 out_2) fun J1 => bnd (m_ref05_Price t ra1 e1.ID) fun (vx_1 : Int × Bool) => bif vx_1.2 then bnd (appO out_1 ([e1.ID] : List Int)) fun (l_1 : List Int) => J1 l_1 else J1 out_1) (fun (out_1 : (List Int)) => some out_1) []
def m_ref05_Around (t : GTopology) (ra1 : Int) : Option (List Int) :=
 whl (fun (Z1 : ((List Int) × Int) → Option _) (sg : (List Int) × Int) => match sg with | (out_1, i_1) => bif decide (i_1 < (out_1.length:Int)) then bnd (elO out_1 i_1) fun (e_1 : Int) => bnd (m_ref05_Near t e_1) fun (vx_1 : (List Int)) => forI vx_1 0 (fun (j2 : Int) (e2 : Int) (Z2 : (List Int) → Option _) (out_2 : (List Int)) => jn (fun (out_3 : (List Int)) => Z2 out_3) fun J1 => bnd (m_ref04_Has out_2 e2) fun (vx_2 : Bool) => bif !vx_2 then bnd (appO out_2 ([e2] : List Int)) fun (l_1 : List Int) => J1 l_1 else J1 out_2) (fun (out_2 : (List Int)) => Z1 (out_2, w64 (i_1 + (1:Int)))) out_1 else forI out_1 0 (fun (j3 : Int) (e3 : Int) (Z3 : (List Int) → Option _) (l_2 : (List Int)) => bnd (m_ref04_Insert l_2 e3) fun (vx_3 : (List Int)) => Z3 vx_3) (fun (l_2 : (List Int)) => some l_2) []) (([ra1] : List Int), (0:Int))
def m_ref05_Connected (t : GTopology) (a : Int) (b : Int) : Option Bool :=
 bnd (m_ref05_Has t a) fun (vx_1 : Bool) => (bif vx_1 then bnd (m_ref05_Has t b) fun (vx_2 : Bool) => (bif vx_2 then bnd (m_ref05_Around t a) fun (vx_3 : (List Int)) => bnd (m_ref04_Has vx_3 b) fun (vx_4 : Bool) => some vx_4 else some false) else some false)
def m_ref05_Same (a : GTopology) (b : GTopology) : Option Bool :=
 bif ((!decide ((a.Routers.length:Int) = (b.Routers.length:Int))) || (!decide ((a.Links.length:Int) = (b.Links.length:Int)))) then some false else forI a.Routers 0 (fun (j1 : Int) (e1 : GRouter) (Z1 : Unit → Option _) (sg : Unit) => match sg with | () => bnd (elO b.Routers (j1 : Int)) fun (e_1 : GRouter) => bif !(eqGRouter e1 e_1) then some false else Z1 ()) (fun (sg : Unit) => match sg with | () => forI a.Links 0 (fun (j2 : Int) (e2 : GLink) (Z2 : Unit → Option _) (sg : Unit) => match sg with | () => bnd (elO b.Links (j2 : Int)) fun (e_2 : GLink) => bif !(eqGLink e2 e_2) then some false else Z2 ()) (fun (sg : Unit) => match sg with | () => some true) ()) ()
end Go.Proofs.Ytjckghpceekieaa
