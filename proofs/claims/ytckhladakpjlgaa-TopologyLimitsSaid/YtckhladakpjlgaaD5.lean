/- Functions of the program, written anew. No condition but those that stand in each. -/
import Derived.Test.YtckhladakpjlgaaT
import Derived.Test.YtckhladakpjlgaaD4
namespace Go.Proofs.Ytckhladakpjlgaa
open Go
set_option maxRecDepth 100000
set_option linter.all false
def m_topology_neighbours (t : GTopology) (router : Int) : Option (List Int) :=
 forI t.Links 0 (fun (j1 : Int) (e1 : GLink) (Z1 : (List Int) → Option _) (out_1 : (List Int)) => jn (fun (out_2 : (List Int)) => Z1 out_2) fun J1 => bif decide (router = e1.A) then bnd (appO out_1 ([e1.B] : List Int)) fun (l_1 : List Int) => J1 l_1 else bif decide (router = e1.B) then bnd (appO out_1 ([e1.A] : List Int)) fun (l_2 : List Int) => J1 l_2 else J1 out_1) (fun (out_1 : (List Int)) => chk (decide (out_1.length < 4611686018427387904)) <| some (sortI out_1)) []
def m_topology_reached_1 : Nat → Int → (List Int) → (List Int) → (List GRouter) → (List GLink) → Option (List Int)
  | 0, _, _, _, _, _ => none
  | n_ + 1, ra0, c0_0, c1_0, c2_0, c2_1 => jn (fun (v_1 : Bool) => bif v_1 then some c0_0 else bnd (appO c0_0 ([ra0] : List Int)) fun (l_1 : List Int) => bnd (m_topology_neighbours (GTopology.mk c2_0 c2_1) ra0) fun (vx_3 : (List Int)) => forI vx_3 0 (fun (j1 : Int) (e1 : Int) (Z1 : (List Int) → Option _) (m_1 : (List Int)) => bnd (m_topology_reached_1 n_ e1 m_1 c1_0 c2_0 c2_1) fun (vx_4 : (List Int)) => Z1 vx_4) (fun (m_1 : (List Int)) => some m_1) l_1) fun J1 => bnd (m_slices_Contains_Lint_int c0_0 ra0) fun (vx_1 : Bool) => (bif vx_1 then J1 true else bnd (m_slices_Contains_Lint_int c1_0 ra0) fun (vx_2 : Bool) => J1 vx_2)
def m_topology_reached (t : GTopology) (froma1 : Int) (closed : List Int) : Option (List Int) :=
 bnd (m_topology_reached_1 fuel froma1 [] closed t.Routers t.Links) fun (vx_1 : (List Int)) => chk (decide (vx_1.length < 4611686018427387904)) <| some (sortI vx_1)
def m_topology_Bridges (t : GTopology) : Option (List GHop) :=
 bnd (m_topology_valid t) fun (vx_1 : Bool) => bif !vx_1 then some [] else forI t.Links 0 (fun (j1 : Int) (e1 : GLink) (Z1 : (List GHop) → Option _) (out_1 : (List GHop)) => jn (fun (out_2 : (List GHop)) => Z1 out_2) fun J1 => bnd (m_topology_Without t (GFailure.mk ([(GHop.mk e1.A e1.B)] : List GHop) [])) fun (vx_2 : GTopology) => bnd (m_topology_reached vx_2 e1.A []) fun (vx_3 : (List Int)) => bnd (m_slices_Contains_Lint_int vx_3 e1.B) fun (vx_4 : Bool) => bif !vx_4 then bnd (appO out_1 ([(GHop.mk e1.A e1.B)] : List GHop)) fun (l_1 : List GHop) => J1 l_1 else J1 out_1) (fun (out_1 : (List GHop)) => some out_1) []
def m_topology_Cuts (t : GTopology) : Option (List Int) :=
 bnd (m_topology_valid t) fun (vx_1 : Bool) => bif !vx_1 then some [] else forI t.Routers 0 (fun (j1 : Int) (e1 : GRouter) (Z1 : (List Int) → Option _) (out_1 : (List Int)) => jn (fun (out_2 : (List Int)) => Z1 out_2) fun J1 => bnd (m_topology_neighbours t e1.ID) fun (vx_2 : (List Int)) => jn (fun (v_1 : Bool) => bif v_1 then bnd (appO out_1 ([e1.ID] : List Int)) fun (l_1 : List Int) => J1 l_1 else J1 out_1) fun J2 => (bif decide ((0:Int) < (vx_2.length:Int)) then bnd (elO vx_2 (0:Int)) fun (e_1 : Int) => bnd (m_topology_reached t e_1 ([e1.ID] : List Int)) fun (vx_3 : (List Int)) => bnd (m_topology_reached t e1.ID []) fun (vx_4 : (List Int)) => J2 (!decide ((vx_3.length:Int) = w64 ((vx_4.length:Int) - (1:Int)))) else J2 false)) (fun (out_1 : (List Int)) => some out_1) []
end Go.Proofs.Ytckhladakpjlgaa
