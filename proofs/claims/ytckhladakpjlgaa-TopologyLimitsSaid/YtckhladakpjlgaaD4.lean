/- Functions of the program, written anew. No condition but those that stand in each. -/
import Derived.Test.YtckhladakpjlgaaT
namespace Go.Proofs.Ytckhladakpjlgaa
open Go
set_option maxRecDepth 100000
set_option linter.all false
def m_cmp_isNaN_int (xa0 : Int) : Option Bool :=
 some (!decide (xa0 = xa0))
def m_cmp_Compare_int (xa0 : Int) (y : Int) : Option Int :=
 bnd (m_cmp_isNaN_int xa0) fun (vx_1 : Bool) => bnd (m_cmp_isNaN_int y) fun (vx_2 : Bool) => bif vx_1 then bif vx_2 then some (0:Int) else some (-1:Int) else bif vx_2 then some (1:Int) else bif decide (xa0 < y) then some (-1:Int) else bif decide (y < xa0) then some (1:Int) else some (0:Int)
def m_cmp_Or_int (vals : List Int) : Option Int :=
 forI vals 0 (fun (j1 : Int) (e1 : Int) (Z1 : Unit → Option _) (sg : Unit) => match sg with | () => bif !decide (e1 = (0:Int)) then some e1 else Z1 ()) (fun (sg : Unit) => match sg with | () => some (0:Int)) ()
def m_slices_BinarySearchFunc_Lapi_Link_api_Link_api_Link (xa0 : List GLink) (target : GLink) (cmp : GLink → GLink → Option Int) : Option (Int × Bool) :=
 whl (fun (Z1 : (Int × Int) → Option _) (sg : Int × Int) => match sg with | (i_1, j_1) => bif decide (i_1 < j_1) then bnd (elO xa0 (w64 (Int.fdiv (IntKind.wrap .u64 (w64 (i_1 + j_1))) (2 ^ min (1:Int).toNat 64)))) fun (e_1 : GLink) => bnd (cmp e_1 target) fun (vx_1 : Int) => bif decide (vx_1 < (0:Int)) then Z1 (w64 ((w64 (Int.fdiv (IntKind.wrap .u64 (w64 (i_1 + j_1))) (2 ^ min (1:Int).toNat 64))) + (1:Int)), j_1) else Z1 (i_1, w64 (Int.fdiv (IntKind.wrap .u64 (w64 (i_1 + j_1))) (2 ^ min (1:Int).toNat 64))) else (bif decide (i_1 < (xa0.length:Int)) then bnd (elO xa0 i_1) fun (e_2 : GLink) => bnd (cmp e_2 target) fun (vx_2 : Int) => some (i_1, decide (vx_2 = (0:Int))) else some (i_1, false))) ((0:Int), (xa0.length:Int))
def m_slices_BinarySearchFunc_Lapi_Router_api_Router_int (xa0 : List GRouter) (target : Int) (cmp : GRouter → Int → Option Int) : Option (Int × Bool) :=
 whl (fun (Z1 : (Int × Int) → Option _) (sg : Int × Int) => match sg with | (i_1, j_1) => bif decide (i_1 < j_1) then bnd (elO xa0 (w64 (Int.fdiv (IntKind.wrap .u64 (w64 (i_1 + j_1))) (2 ^ min (1:Int).toNat 64)))) fun (e_1 : GRouter) => bnd (cmp e_1 target) fun (vx_1 : Int) => bif decide (vx_1 < (0:Int)) then Z1 (w64 ((w64 (Int.fdiv (IntKind.wrap .u64 (w64 (i_1 + j_1))) (2 ^ min (1:Int).toNat 64))) + (1:Int)), j_1) else Z1 (i_1, w64 (Int.fdiv (IntKind.wrap .u64 (w64 (i_1 + j_1))) (2 ^ min (1:Int).toNat 64))) else (bif decide (i_1 < (xa0.length:Int)) then bnd (elO xa0 i_1) fun (e_2 : GRouter) => bnd (cmp e_2 target) fun (vx_2 : Int) => some (i_1, decide (vx_2 = (0:Int))) else some (i_1, false))) ((0:Int), (xa0.length:Int))
def m_slices_IndexFunc_Lapi_Router_api_Router (sa0 : List GRouter) (f : GRouter → Option Bool) : Option Int :=
 forI sa0 0 (fun (j1 : Int) (e1 : GRouter) (Z1 : Unit → Option _) (sg : Unit) => match sg with | () => bnd (f e1) fun (vx_1 : Bool) => bif vx_1 then some (j1 : Int) else Z1 ()) (fun (sg : Unit) => match sg with | () => some (-1:Int)) ()
def m_slices_IndexFunc_Lapi_Link_api_Link (sa0 : List GLink) (f : GLink → Option Bool) : Option Int :=
 forI sa0 0 (fun (j1 : Int) (e1 : GLink) (Z1 : Unit → Option _) (sg : Unit) => match sg with | () => bnd (f e1) fun (vx_1 : Bool) => bif vx_1 then some (j1 : Int) else Z1 ()) (fun (sg : Unit) => match sg with | () => some (-1:Int)) ()
def m_slices_Index_Lint_int (sa0 : List Int) (v : Int) : Option Int :=
 forI sa0 0 (fun (j1 : Int) (e1 : Int) (Z1 : Unit → Option _) (sg : Unit) => match sg with | () => bif decide (v = e1) then some (j1 : Int) else Z1 ()) (fun (sg : Unit) => match sg with | () => some (-1:Int)) ()
def m_slices_Index_Lapi_Hop_api_Hop (sa0 : List GHop) (v : GHop) : Option Int :=
 forI sa0 0 (fun (j1 : Int) (e1 : GHop) (Z1 : Unit → Option _) (sg : Unit) => match sg with | () => bif eqGHop v e1 then some (j1 : Int) else Z1 ()) (fun (sg : Unit) => match sg with | () => some (-1:Int)) ()
def m_slices_ContainsFunc_Lapi_Router_api_Router (sa0 : List GRouter) (f : GRouter → Option Bool) : Option Bool :=
 bnd (m_slices_IndexFunc_Lapi_Router_api_Router sa0 f) fun (vx_1 : Int) => some (decide ((0:Int) ≤ vx_1))
def m_slices_ContainsFunc_Lapi_Link_api_Link (sa0 : List GLink) (f : GLink → Option Bool) : Option Bool :=
 bnd (m_slices_IndexFunc_Lapi_Link_api_Link sa0 f) fun (vx_1 : Int) => some (decide ((0:Int) ≤ vx_1))
def m_slices_Contains_Lint_int (sa0 : List Int) (v : Int) : Option Bool :=
 bnd (m_slices_Index_Lint_int sa0 v) fun (vx_1 : Int) => some (decide ((0:Int) ≤ vx_1))
def m_slices_Contains_Lapi_Hop_api_Hop (sa0 : List GHop) (v : GHop) : Option Bool :=
 bnd (m_slices_Index_Lapi_Hop_api_Hop sa0 v) fun (vx_1 : Int) => some (decide ((0:Int) ≤ vx_1))
def m_topology_in (n : Int) (least : Int) (most : Int) : Option Bool :=
 some ((decide (least ≤ n)) && (decide (n ≤ most)))
def m_topology_compare (a : GLink) (b : GLink) : Option Int :=
 bnd (m_cmp_Compare_int a.A b.A) fun (vx_1 : Int) => bnd (m_cmp_Compare_int a.B b.B) fun (vx_2 : Int) => bnd (m_cmp_Or_int ([vx_1, vx_2] : List Int)) fun (vx_3 : Int) => some vx_3
def m_topology_byID (ra0 : GRouter) (id : Int) : Option Int :=
 bnd (m_cmp_Compare_int ra0.ID id) fun (vx_1 : Int) => some vx_1
def m_topology_Check_1 (ra0 : GRouter) : Option Bool :=
 bnd (m_topology_in ra0.ID (1:Int) (99:Int)) fun (vx_1 : Bool) => some (!vx_1)
def m_topology_Check_3 (l : GLink) : Option Bool :=
 bnd (m_topology_in l.CostA (1:Int) (1000:Int)) fun (vx_1 : Bool) => (bif !vx_1 then some true else bnd (m_topology_in l.CostB (1:Int) (1000:Int)) fun (vx_2 : Bool) => (bif !vx_2 then some true else bnd (m_topology_in l.Capacity (0:Int) (1000:Int)) fun (vx_3 : Bool) => some (!vx_3)))
def m_topology_Check_2 (id : Int) (c_0 : GTopology) : Option Bool :=
 bnd (m_slices_BinarySearchFunc_Lapi_Router_api_Router_int c_0.Routers id m_topology_byID) fun (vx_1 : Int × Bool) => some (!vx_1.2)
def m_topology_Check_4 (l : GLink) (c_0 : GTopology) : Option Bool :=
 bnd (m_topology_Check_2 l.A c_0) fun (vx_1 : Bool) => (bif vx_1 then some true else bnd (m_topology_Check_2 l.B c_0) fun (vx_2 : Bool) => some vx_2)
def m_topology_Check_5 (l : GLink) : Option Bool :=
 some (decide (l.B ≤ l.A))
def m_topology_Check (t : GTopology) : Option Int :=
 bif ((decide ((24:Int) < (t.Routers.length:Int))) || (decide ((60:Int) < (t.Links.length:Int)))) then some (3:Int) else bnd (m_slices_ContainsFunc_Lapi_Router_api_Router t.Routers m_topology_Check_1) fun (vx_1 : Bool) => bif vx_1 then some (2:Int) else forI t.Routers 0 (fun (j1 : Int) (e1 : GRouter) (Z1 : Unit → Option _) (sg : Unit) => match sg with | () => jn (fun (v_1 : Bool) => bif v_1 then some (25:Int) else Z1 ()) fun J1 => (bif decide ((0:Int) < (j1 : Int)) then bnd (elO t.Routers (w64 ((j1 : Int) - (1:Int)))) fun (e_1 : GRouter) => J1 (decide (e1.ID ≤ e_1.ID)) else J1 false)) (fun (sg : Unit) => match sg with | () => bnd (m_slices_ContainsFunc_Lapi_Link_api_Link t.Links m_topology_Check_3) fun (vx_2 : Bool) => bif vx_2 then some (2:Int) else bnd (m_slices_ContainsFunc_Lapi_Link_api_Link t.Links (fun (y0 : GLink) => m_topology_Check_4 y0 t)) fun (vx_3 : Bool) => bif vx_3 then some (4:Int) else bnd (m_slices_ContainsFunc_Lapi_Link_api_Link t.Links m_topology_Check_5) fun (vx_4 : Bool) => bif vx_4 then some (8:Int) else forI t.Links 0 (fun (j2 : Int) (e2 : GLink) (Z2 : Unit → Option _) (sg : Unit) => match sg with | () => jn (fun (v_2 : Bool) => bif v_2 then some (25:Int) else Z2 ()) fun J2 => (bif decide ((0:Int) < (j2 : Int)) then bnd (elO t.Links (w64 ((j2 : Int) - (1:Int)))) fun (e_2 : GLink) => bnd (m_topology_compare e_2 e2) fun (vx_5 : Int) => J2 (decide ((0:Int) ≤ vx_5)) else J2 false)) (fun (sg : Unit) => match sg with | () => some (0:Int)) ()) ()
def m_topology_valid (t : GTopology) : Option Bool :=
 bnd (m_topology_Check t) fun (vx_1 : Int) => some (decide (vx_1 = (0:Int)))
def m_topology_find (t : GTopology) (router : Int) : Option (GRouter × Bool) :=
 bnd (m_slices_BinarySearchFunc_Lapi_Router_api_Router_int t.Routers router m_topology_byID) fun (vx_1 : Int × Bool) => bif !vx_1.2 then some ((GRouter.mk (0:Int) false), false) else bnd (elO t.Routers vx_1.1) fun (e_1 : GRouter) => some (e_1, true)
def m_topology_Has (t : GTopology) (router : Int) : Option Bool :=
 bnd (m_topology_find t router) fun (vx_1 : GRouter × Bool) => bnd (m_topology_valid t) fun (vx_2 : Bool) => (bif vx_2 then some vx_1.2 else some false)
def m_topology_Without (t : GTopology) (f : GFailure) : Option GTopology :=
 bnd (m_topology_valid t) fun (vx_1 : Bool) => bif !vx_1 then some (GTopology.mk [] []) else forI t.Routers 0 (fun (j1 : Int) (e1 : GRouter) (Z1 : (List GRouter) → Option _) (m_1 : (List GRouter)) => jn (fun (m_2 : (List GRouter)) => Z1 m_2) fun J1 => bnd (m_slices_Contains_Lint_int f.Routers e1.ID) fun (vx_2 : Bool) => bif !vx_2 then bnd (appO m_1 ([e1] : List GRouter)) fun (l_1 : List GRouter) => J1 l_1 else J1 m_1) (fun (m_1 : (List GRouter)) => forI t.Links 0 (fun (j2 : Int) (e2 : GLink) (Z2 : (List GLink) → Option _) (m_3 : (List GLink)) => jn (fun (m_4 : (List GLink)) => Z2 m_4) fun J2 => jn (fun (gone_1 : Bool) => bif !gone_1 then bnd (appO m_3 ([e2] : List GLink)) fun (l_2 : List GLink) => J2 l_2 else J2 m_3) fun J3 => bnd (m_slices_Contains_Lint_int f.Routers e2.A) fun (vx_3 : Bool) => (bif vx_3 then J3 true else bnd (m_slices_Contains_Lint_int f.Routers e2.B) fun (vx_4 : Bool) => (bif vx_4 then J3 true else bnd (m_slices_Contains_Lapi_Hop_api_Hop f.Links (GHop.mk e2.A e2.B)) fun (vx_5 : Bool) => (bif vx_5 then J3 true else bnd (m_slices_Contains_Lapi_Hop_api_Hop f.Links (GHop.mk e2.B e2.A)) fun (vx_6 : Bool) => J3 vx_6)))) (fun (m_3 : (List GLink)) => some (GTopology.mk m_1 m_3)) []) []
end Go.Proofs.Ytckhladakpjlgaa
