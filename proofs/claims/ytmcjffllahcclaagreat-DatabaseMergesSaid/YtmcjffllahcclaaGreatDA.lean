/- Several texts in one. No condition but those that stand in each. -/
import Derived.Test.YtmcjffllahcclaaGreatT
/- Functions of the program, written anew. No condition but those that stand in each. -/
namespace Go.Proofs.YtmcjffllahcclaaGreat
open Go
set_option maxRecDepth 100000
set_option linter.all false
end Go.Proofs.YtmcjffllahcclaaGreat

/- Functions of the program, written anew. No condition but those that stand in each. -/
namespace Go.Proofs.YtmcjffllahcclaaGreat
open Go
set_option maxRecDepth 100000
set_option linter.all false
def m_mk_Cut (xa0 : Int) (n : Int) : Option Int :=
 bif decide (n < (1:Int)) then some (0:Int) else chk (decide (n ≠ 0)) <| jn (fun (vx_1 : Int) => some vx_1) fun J1 => bif decide (Int.tmod xa0 n < (0:Int)) then J1 (w64 ((Int.tmod xa0 n) + n)) else J1 (Int.tmod xa0 n)
def m_mk_Tape_Raw (t : GTape) : Option (Int × GTape) :=
 bif decide ((t.L.length:Int) ≤ t.At) then some ((0:Int), t) else bnd (elO t.L (w64 ((w64 (t.At + (1:Int))) - (1:Int)))) fun (e_1 : Int) => some (e_1, (GTape.mk t.L (w64 (t.At + (1:Int)))))
def m_mk_Tape_Next (t : GTape) (n : Int) : Option (Int × GTape) :=
 bnd (m_mk_Tape_Raw t) fun (vx_1 : Int × GTape) => bnd (m_mk_Cut vx_1.1 n) fun (vx_2 : Int) => some (vx_2, vx_1.2)
def m_mk_Tape_Range (t : GTape) (low : Int) (high : Int) : Option (Int × GTape) :=
 bnd (m_mk_Tape_Next t (w64 ((w64 (high - low)) + (1:Int)))) fun (vx_1 : Int × GTape) => some (w64 (low + vx_1.1), vx_1.2)
end Go.Proofs.YtmcjffllahcclaaGreat

/- Functions of the program, written anew. No condition but those that stand in each. -/
namespace Go.Proofs.YtmcjffllahcclaaGreat
open Go
set_option maxRecDepth 100000
set_option linter.all false
end Go.Proofs.YtmcjffllahcclaaGreat

/- Functions of the program, written anew. No condition but those that stand in each. -/
namespace Go.Proofs.YtmcjffllahcclaaGreat
open Go
set_option maxRecDepth 100000
set_option linter.all false
def m_mk_Tape_Pick (t : GTape) (l : List Int) : Option (Int × GTape) :=
 bnd (m_mk_Tape_Next t (l.length:Int)) fun (vx_1 : Int × GTape) => bnd (elO l vx_1.1) fun (e_1 : Int) => some (e_1, vx_1.2)
def m_mk_Tape_One (t : GTape) (n : Int) : Option (Bool × GTape) :=
 bnd (m_mk_Tape_Next t n) fun (vx_1 : Int × GTape) => some (decide (vx_1.1 = w64 (n - (1:Int))), vx_1.2)
def m_mk_Tape_Wild (t : GTape) : Option (Int × GTape) :=
 bnd (m_mk_Tape_Pick t ([(-1:Int), (0:Int), (1:Int), (7:Int), (8:Int), (23:Int), (24:Int), (31:Int), (32:Int), (63:Int), (64:Int), (99:Int), (100:Int), (255:Int), (256:Int), (257:Int), (1000:Int), (1001:Int), (1023:Int), (1024:Int), (1000000:Int), (1000001:Int), (1099511627776:Int), (9223372036854775807:Int), (-9223372036854775808:Int)] : List Int)) fun (vx_1 : Int × GTape) => some (vx_1.1, vx_1.2)
def m_mk_Tape_Length (t : GTape) : Option (Int × GTape) :=
 bnd (m_mk_Tape_Pick t ([(8:Int), (8:Int), (16:Int), (32:Int), (64:Int)] : List Int)) fun (vx_1 : Int × GTape) => some (vx_1.1, vx_1.2)
def m_mk_New (l : List Int) : Option GTape :=
 jn (fun (l_1 : (List Int)) => some (GTape.mk l_1 (0:Int))) fun J1 => bif decide ((600:Int) < (l.length:Int)) then bnd (sliO l (0:Int) (600:Int)) fun (l_2 : List Int) => J1 l_2 else J1 l
end Go.Proofs.YtmcjffllahcclaaGreat

/- Functions of the program, written anew. No condition but those that stand in each. -/
namespace Go.Proofs.YtmcjffllahcclaaGreat
open Go
set_option maxRecDepth 100000
set_option linter.all false
def m_cmp_isNaN_int (xa0 : Int) : Option Bool :=
 some (!decide (xa0 = xa0))
def m_cmp_Compare_int (xa0 : Int) (y : Int) : Option Int :=
 bnd (m_cmp_isNaN_int xa0) fun (vx_1 : Bool) => bnd (m_cmp_isNaN_int y) fun (vx_2 : Bool) => bif vx_1 then bif vx_2 then some (0:Int) else some (-1:Int) else bif vx_2 then some (1:Int) else bif decide (xa0 < y) then some (-1:Int) else bif decide (y < xa0) then some (1:Int) else some (0:Int)
def m_cmp_Or_int (vals : List Int) : Option Int :=
 forI vals 0 (fun (j1 : Int) (e1 : Int) (Z1 : Unit → Option _) (sg : Unit) => match sg with | () => bif !decide (e1 = (0:Int)) then some e1 else Z1 ()) (fun (sg : Unit) => match sg with | () => some (0:Int)) ()
def m_slices_BinarySearchFunc_Lapi_Advert_api_Advert_int (xa0 : List GAdvert) (target : Int) (cmp : GAdvert → Int → Option Int) : Option (Int × Bool) :=
 whl (fun (Z1 : (Int × Int) → Option _) (sg : Int × Int) => match sg with | (i_1, j_1) => bif decide (i_1 < j_1) then bnd (elO xa0 (w64 (Int.fdiv (IntKind.wrap .u64 (w64 (i_1 + j_1))) (2 ^ min (1:Int).toNat 64)))) fun (e_1 : GAdvert) => bnd (cmp e_1 target) fun (vx_1 : Int) => bif decide (vx_1 < (0:Int)) then Z1 (w64 ((w64 (Int.fdiv (IntKind.wrap .u64 (w64 (i_1 + j_1))) (2 ^ min (1:Int).toNat 64))) + (1:Int)), j_1) else Z1 (i_1, w64 (Int.fdiv (IntKind.wrap .u64 (w64 (i_1 + j_1))) (2 ^ min (1:Int).toNat 64))) else (bif decide (i_1 < (xa0.length:Int)) then bnd (elO xa0 i_1) fun (e_2 : GAdvert) => bnd (cmp e_2 target) fun (vx_2 : Int) => some (i_1, decide (vx_2 = (0:Int))) else some (i_1, false))) ((0:Int), (xa0.length:Int))
def m_slices_BinarySearchFunc_Lapi_Router_api_Router_int (xa0 : List GRouter) (target : Int) (cmp : GRouter → Int → Option Int) : Option (Int × Bool) :=
 whl (fun (Z1 : (Int × Int) → Option _) (sg : Int × Int) => match sg with | (i_1, j_1) => bif decide (i_1 < j_1) then bnd (elO xa0 (w64 (Int.fdiv (IntKind.wrap .u64 (w64 (i_1 + j_1))) (2 ^ min (1:Int).toNat 64)))) fun (e_1 : GRouter) => bnd (cmp e_1 target) fun (vx_1 : Int) => bif decide (vx_1 < (0:Int)) then Z1 (w64 ((w64 (Int.fdiv (IntKind.wrap .u64 (w64 (i_1 + j_1))) (2 ^ min (1:Int).toNat 64))) + (1:Int)), j_1) else Z1 (i_1, w64 (Int.fdiv (IntKind.wrap .u64 (w64 (i_1 + j_1))) (2 ^ min (1:Int).toNat 64))) else (bif decide (i_1 < (xa0.length:Int)) then bnd (elO xa0 i_1) fun (e_2 : GRouter) => bnd (cmp e_2 target) fun (vx_2 : Int) => some (i_1, decide (vx_2 = (0:Int))) else some (i_1, false))) ((0:Int), (xa0.length:Int))
def m_slices_IndexFunc_Lapi_Advert_api_Advert (sa0 : List GAdvert) (f : GAdvert → Option Bool) : Option Int :=
 forI sa0 0 (fun (j1 : Int) (e1 : GAdvert) (Z1 : Unit → Option _) (sg : Unit) => match sg with | () => bnd (f e1) fun (vx_1 : Bool) => bif vx_1 then some (j1 : Int) else Z1 ()) (fun (sg : Unit) => match sg with | () => some (-1:Int)) ()
def m_slices_IndexFunc_Lapi_Router_api_Router (sa0 : List GRouter) (f : GRouter → Option Bool) : Option Int :=
 forI sa0 0 (fun (j1 : Int) (e1 : GRouter) (Z1 : Unit → Option _) (sg : Unit) => match sg with | () => bnd (f e1) fun (vx_1 : Bool) => bif vx_1 then some (j1 : Int) else Z1 ()) (fun (sg : Unit) => match sg with | () => some (-1:Int)) ()
def m_slices_IndexFunc_Lapi_Link_api_Link (sa0 : List GLink) (f : GLink → Option Bool) : Option Int :=
 forI sa0 0 (fun (j1 : Int) (e1 : GLink) (Z1 : Unit → Option _) (sg : Unit) => match sg with | () => bnd (f e1) fun (vx_1 : Bool) => bif vx_1 then some (j1 : Int) else Z1 ()) (fun (sg : Unit) => match sg with | () => some (-1:Int)) ()
def m_slices_ContainsFunc_Lapi_Advert_api_Advert (sa0 : List GAdvert) (f : GAdvert → Option Bool) : Option Bool :=
 bnd (m_slices_IndexFunc_Lapi_Advert_api_Advert sa0 f) fun (vx_1 : Int) => some (decide ((0:Int) ≤ vx_1))
def m_slices_ContainsFunc_Lapi_Router_api_Router (sa0 : List GRouter) (f : GRouter → Option Bool) : Option Bool :=
 bnd (m_slices_IndexFunc_Lapi_Router_api_Router sa0 f) fun (vx_1 : Int) => some (decide ((0:Int) ≤ vx_1))
def m_slices_ContainsFunc_Lapi_Link_api_Link (sa0 : List GLink) (f : GLink → Option Bool) : Option Bool :=
 bnd (m_slices_IndexFunc_Lapi_Link_api_Link sa0 f) fun (vx_1 : Int) => some (decide ((0:Int) ≤ vx_1))
def m_topology_in (n : Int) (least : Int) (most : Int) : Option Bool :=
 some ((decide (least ≤ n)) && (decide (n ≤ most)))
def m_topology_compare (a : GLink) (b : GLink) : Option Int :=
 bnd (m_cmp_Compare_int a.A b.A) fun (vx_1 : Int) => bnd (m_cmp_Compare_int a.B b.B) fun (vx_2 : Int) => bnd (m_cmp_Or_int ([vx_1, vx_2] : List Int)) fun (vx_3 : Int) => some vx_3
def m_topology_byID (ra0 : GRouter) (id : Int) : Option Int :=
 bnd (m_cmp_Compare_int ra0.ID id) fun (vx_1 : Int) => some vx_1
def m_topology_Check_1 (ra0 : GRouter) : Option Bool :=
 bnd (m_topology_in ra0.ID (1:Int) (99:Int)) fun (vx_1 : Bool) => some (!vx_1)
def m_topology_Check_3 (l : GLink) : Option Bool :=
 bnd (m_topology_in l.CostA (1:Int) (1000:Int)) fun (vx_1 : Bool) => (bif !vx_1 then some true else bnd (m_topology_in l.CostB (1:Int) (1000:Int)) fun (vx_2 : Bool) => (bif !vx_2 then some true else bnd (m_topology_in l.Capacity (0:Int) (1000:Int)) fun (vx_3 : Bool) => some (!vx_3)))
def m_topology_Check_2 (id : Int) (c_0 : GTopology) : Option Bool :=
 bnd (m_slices_BinarySearchFunc_Lapi_Router_api_Router_int c_0.Routers id m_topology_byID) fun (vx_1 : Int × Bool) => some (!vx_1.2)
def m_topology_Check_4 (l : GLink) (c_0 : GTopology) : Option Bool :=
 bnd (m_topology_Check_2 l.A c_0) fun (vx_1 : Bool) => (bif vx_1 then some true else bnd (m_topology_Check_2 l.B c_0) fun (vx_2 : Bool) => some vx_2)
def m_topology_Check_5 (l : GLink) : Option Bool :=
 some (decide (l.B ≤ l.A))
def m_topology_Check (t : GTopology) : Option Int :=
 bif ((decide ((24:Int) < (t.Routers.length:Int))) || (decide ((60:Int) < (t.Links.length:Int)))) then some (3:Int) else bnd (m_slices_ContainsFunc_Lapi_Router_api_Router t.Routers m_topology_Check_1) fun (vx_1 : Bool) => bif vx_1 then some (2:Int) else forI t.Routers 0 (fun (j1 : Int) (e1 : GRouter) (Z1 : Unit → Option _) (sg : Unit) => match sg with | () => jn (fun (v_1 : Bool) => bif v_1 then some (25:Int) else Z1 ()) fun J1 => (bif decide ((0:Int) < (j1 : Int)) then bnd (elO t.Routers (w64 ((j1 : Int) - (1:Int)))) fun (e_1 : GRouter) => J1 (decide (e1.ID ≤ e_1.ID)) else J1 false)) (fun (sg : Unit) => match sg with | () => bnd (m_slices_ContainsFunc_Lapi_Link_api_Link t.Links m_topology_Check_3) fun (vx_2 : Bool) => bif vx_2 then some (2:Int) else bnd (m_slices_ContainsFunc_Lapi_Link_api_Link t.Links (fun (y0 : GLink) => m_topology_Check_4 y0 t)) fun (vx_3 : Bool) => bif vx_3 then some (4:Int) else bnd (m_slices_ContainsFunc_Lapi_Link_api_Link t.Links m_topology_Check_5) fun (vx_4 : Bool) => bif vx_4 then some (8:Int) else forI t.Links 0 (fun (j2 : Int) (e2 : GLink) (Z2 : Unit → Option _) (sg : Unit) => match sg with | () => jn (fun (v_2 : Bool) => bif v_2 then some (25:Int) else Z2 ()) fun J2 => (bif decide ((0:Int) < (j2 : Int)) then bnd (elO t.Links (w64 ((j2 : Int) - (1:Int)))) fun (e_2 : GLink) => bnd (m_topology_compare e_2 e2) fun (vx_5 : Int) => J2 (decide ((0:Int) ≤ vx_5)) else J2 false)) (fun (sg : Unit) => match sg with | () => some (0:Int)) ()) ()
end Go.Proofs.YtmcjffllahcclaaGreat

/- Functions of the program, written anew. No condition but those that stand in each. -/
namespace Go.Proofs.YtmcjffllahcclaaGreat
open Go
set_option maxRecDepth 100000
set_option linter.all false

end Go.Proofs.YtmcjffllahcclaaGreat

/- Functions of the program, written anew. No condition but those that stand in each. -/
namespace Go.Proofs.YtmcjffllahcclaaGreat
open Go
set_option maxRecDepth 100000
set_option linter.all false
def m_ref01_ValidLength (n : Int) : Option Bool :=
 some ((decide (n = (8:Int))) || ((decide (n = (16:Int))) || ((decide (n = (32:Int))) || (decide (n = (64:Int))))))
def m_ref07_inside (n : Int) (low : Int) (high : Int) : Option Bool :=
 some ((decide (low ≤ n)) && (decide (n ≤ high)))
def m_ref07_ValidClaims (l : List GClaim) : Option Bool :=
 bif decide ((8:Int) < (l.length:Int)) then some false else forI l 0 (fun (j1 : Int) (e1 : GClaim) (Z1 : Unit → Option _) (sg : Unit) => match sg with | () => jn (fun (v_1 : Bool) => bif v_1 then some false else Z1 ()) fun J1 => bnd (m_ref07_inside e1.Subdomain (0:Int) (7:Int)) fun (vx_1 : Bool) => (bif !vx_1 then J1 true else bnd (m_ref07_inside e1.ID (1:Int) (256:Int)) fun (vx_2 : Bool) => (bif !vx_2 then J1 true else bnd (m_ref01_ValidLength e1.Length) fun (vx_3 : Bool) => (bif !vx_3 then J1 true else (bif decide ((0:Int) < (j1 : Int)) then bnd (elO l (w64 ((j1 : Int) - (1:Int)))) fun (e_1 : GClaim) => J1 (decide (e1.Subdomain ≤ e_1.Subdomain)) else J1 false))))) (fun (sg : Unit) => match sg with | () => some true) ()
def m_ref07_Valid (a : GAdvert) : Option Bool :=
 jn (fun (v_1 : Bool) => bif v_1 then some false else forI a.Links 0 (fun (j1 : Int) (e1 : GReach) (Z1 : Unit → Option _) (sg : Unit) => match sg with | () => jn (fun (v_2 : Bool) => bif v_2 then some false else Z1 ()) fun J2 => bnd (m_ref07_inside e1.Neighbour (1:Int) (99:Int)) fun (vx_3 : Bool) => (bif !vx_3 then J2 true else (bif decide (e1.Neighbour = a.Router) then J2 true else bnd (m_ref07_inside e1.Cost (1:Int) (1000:Int)) fun (vx_4 : Bool) => (bif !vx_4 then J2 true else bnd (m_ref07_inside e1.Capacity (0:Int) (1000:Int)) fun (vx_5 : Bool) => (bif !vx_5 then J2 true else (bif decide ((0:Int) < (j1 : Int)) then bnd (elO a.Links (w64 ((j1 : Int) - (1:Int)))) fun (e_1 : GReach) => J2 (decide (e1.Neighbour ≤ e_1.Neighbour)) else J2 false)))))) (fun (sg : Unit) => match sg with | () => bnd (m_ref07_ValidClaims a.Claims) fun (vx_6 : Bool) => some vx_6) ()) fun J1 => bnd (m_ref07_inside a.Router (1:Int) (99:Int)) fun (vx_1 : Bool) => (bif !vx_1 then J1 true else bnd (m_ref07_inside a.Seq (1:Int) (1000000:Int)) fun (vx_2 : Bool) => (bif !vx_2 then J1 true else J1 (decide ((23:Int) < (a.Links.length:Int)))))
def m_ref07_Same (a : GAdvert) (b : GAdvert) : Option Bool :=
 bif ((!decide (a.Router = b.Router)) || ((!decide (a.Seq = b.Seq)) || ((!(a.Capable == b.Capable)) || ((!decide ((a.Links.length:Int) = (b.Links.length:Int))) || (!decide ((a.Claims.length:Int) = (b.Claims.length:Int))))))) then some false else forI a.Links 0 (fun (j1 : Int) (e1 : GReach) (Z1 : Unit → Option _) (sg : Unit) => match sg with | () => bnd (elO b.Links (j1 : Int)) fun (e_1 : GReach) => bif !(eqGReach e1 e_1) then some false else Z1 ()) (fun (sg : Unit) => match sg with | () => forI a.Claims 0 (fun (j2 : Int) (e2 : GClaim) (Z2 : Unit → Option _) (sg : Unit) => match sg with | () => bnd (elO b.Claims (j2 : Int)) fun (e_2 : GClaim) => bif !(eqGClaim e2 e_2) then some false else Z2 ()) (fun (sg : Unit) => match sg with | () => some true) ()) ()
end Go.Proofs.YtmcjffllahcclaaGreat

/- Functions of the program, written anew. No condition but those that stand in each. -/
namespace Go.Proofs.YtmcjffllahcclaaGreat
open Go
set_option maxRecDepth 100000
set_option linter.all false
def m_ref08_Check (d : GDatabase) : Option Int :=
 bif decide ((99:Int) < (d.Adverts.length:Int)) then some (3:Int) else forI d.Adverts 0 (fun (j1 : Int) (e1 : GAdvert) (Z1 : Unit → Option _) (sg : Unit) => match sg with | () => bnd (m_ref07_Valid e1) fun (vx_1 : Bool) => bif !vx_1 then some (1:Int) else Z1 ()) (fun (sg : Unit) => match sg with | () => forI (List.drop 1 d.Adverts) 1 (fun (j2 : Int) (e2 : GAdvert) (Z2 : Unit → Option _) (sg : Unit) => match sg with | () => bnd (elO d.Adverts (w64 ((j2 : Int) - (1:Int)))) fun (e_1 : GAdvert) => bif decide (e2.Router ≤ e_1.Router) then some (25:Int) else Z2 ()) (fun (sg : Unit) => match sg with | () => some (0:Int)) ()) ()
def m_ref08_Same (a : GDatabase) (b : GDatabase) : Option Bool :=
 bif !decide ((a.Adverts.length:Int) = (b.Adverts.length:Int)) then some false else forI a.Adverts 0 (fun (j1 : Int) (e1 : GAdvert) (Z1 : Unit → Option _) (sg : Unit) => match sg with | () => bnd (elO b.Adverts (j1 : Int)) fun (e_1 : GAdvert) => bnd (m_ref07_Same e1 e_1) fun (vx_1 : Bool) => bif !vx_1 then some false else Z1 ()) (fun (sg : Unit) => match sg with | () => some true) ()
def m_ref08_Find (d : GDatabase) (router : Int) : Option (GAdvert × Bool) :=
 forI d.Adverts 0 (fun (j1 : Int) (e1 : GAdvert) (Z1 : Unit → Option _) (sg : Unit) => match sg with | () => bif decide (e1.Router = router) then some (e1, true) else Z1 ()) (fun (sg : Unit) => match sg with | () => some ((GAdvert.mk (0:Int) (0:Int) false [] []), false)) ()
end Go.Proofs.YtmcjffllahcclaaGreat

/- Functions of the program, written anew. No condition but those that stand in each. -/
namespace Go.Proofs.YtmcjffllahcclaaGreat
open Go
set_option maxRecDepth 100000
set_option linter.all false
def m_database_View_1 (a : GRouter) (b : GRouter) : Option Int :=
 bnd (m_cmp_Compare_int a.ID b.ID) fun (vx_1 : Int) => some vx_1
def m_database_View_2 (a : GLink) (b : GLink) : Option Int :=
 bnd (m_cmp_Compare_int a.A b.A) fun (vx_1 : Int) => bnd (m_cmp_Compare_int a.B b.B) fun (vx_2 : Int) => bnd (m_cmp_Or_int ([vx_1, vx_2] : List Int)) fun (vx_3 : Int) => some vx_3
end Go.Proofs.YtmcjffllahcclaaGreat

/- Functions of the program, written anew. No condition but those that stand in each. -/
namespace Go.Proofs.YtmcjffllahcclaaGreat
open Go
set_option maxRecDepth 100000
set_option linter.all false
def m_bitset_ValidLength (n : Int) : Option Bool :=
 some ((decide (n = (8:Int))) || ((decide (n = (16:Int))) || ((decide (n = (32:Int))) || (decide (n = (64:Int))))))
def m_advert_in (n : Int) (least : Int) (most : Int) : Option Bool :=
 some ((decide (least ≤ n)) && (decide (n ≤ most)))
def m_advert_Valid (a : GAdvert) : Option Bool :=
 jn (fun (v_1 : Bool) => bif v_1 then some false else forI a.Links 0 (fun (j1 : Int) (e1 : GReach) (Z1 : Unit → Option _) (sg : Unit) => match sg with | () => jn (fun (v_2 : Bool) => bif v_2 then some false else Z1 ()) fun J2 => bnd (m_advert_in e1.Neighbour (1:Int) (99:Int)) fun (vx_3 : Bool) => (bif !vx_3 then J2 true else (bif decide (e1.Neighbour = a.Router) then J2 true else bnd (m_advert_in e1.Cost (1:Int) (1000:Int)) fun (vx_4 : Bool) => (bif !vx_4 then J2 true else bnd (m_advert_in e1.Capacity (0:Int) (1000:Int)) fun (vx_5 : Bool) => (bif !vx_5 then J2 true else (bif decide ((0:Int) < (j1 : Int)) then bnd (elO a.Links (w64 ((j1 : Int) - (1:Int)))) fun (e_1 : GReach) => J2 (decide (e1.Neighbour ≤ e_1.Neighbour)) else J2 false)))))) (fun (sg : Unit) => match sg with | () => forI a.Claims 0 (fun (j2 : Int) (e2 : GClaim) (Z2 : Unit → Option _) (sg : Unit) => match sg with | () => jn (fun (v_3 : Bool) => bif v_3 then some false else Z2 ()) fun J3 => bnd (m_advert_in e2.Subdomain (0:Int) (7:Int)) fun (vx_6 : Bool) => (bif !vx_6 then J3 true else bnd (m_advert_in e2.ID (1:Int) (256:Int)) fun (vx_7 : Bool) => (bif !vx_7 then J3 true else bnd (m_bitset_ValidLength e2.Length) fun (vx_8 : Bool) => (bif !vx_8 then J3 true else (bif decide ((0:Int) < (j2 : Int)) then bnd (elO a.Claims (w64 ((j2 : Int) - (1:Int)))) fun (e_2 : GClaim) => J3 (decide (e2.Subdomain ≤ e_2.Subdomain)) else J3 false))))) (fun (sg : Unit) => match sg with | () => some true) ()) ()) fun J1 => bnd (m_advert_in a.Router (1:Int) (99:Int)) fun (vx_1 : Bool) => (bif !vx_1 then J1 true else bnd (m_advert_in a.Seq (1:Int) (1000000:Int)) fun (vx_2 : Bool) => (bif !vx_2 then J1 true else (bif decide ((23:Int) < (a.Links.length:Int)) then J1 true else J1 (decide ((8:Int) < (a.Claims.length:Int))))))
def m_slices_Clone_Lapi_Reach_api_Reach_l (sa0 : List GReach) : Option (List GReach) :=
 bnd (appO ([] : List GReach) sa0) fun (l_1 : List GReach) => some l_1
def m_slices_Clone_Lapi_Reach_api_Reach_0  : Option (List GReach) :=
 bnd (appO ([] : List GReach) []) fun (l_1 : List GReach) => some l_1
def m_slices_Clone_Lapi_Reach_api_Reach (s : List GReach) : Option (List GReach) := m_slices_Clone_Lapi_Reach_api_Reach_l s
def m_slices_Clone_Lapi_Claim_api_Claim_l (sa0 : List GClaim) : Option (List GClaim) :=
 bnd (appO ([] : List GClaim) sa0) fun (l_1 : List GClaim) => some l_1
def m_slices_Clone_Lapi_Claim_api_Claim_0  : Option (List GClaim) :=
 bnd (appO ([] : List GClaim) []) fun (l_1 : List GClaim) => some l_1
def m_slices_Clone_Lapi_Claim_api_Claim (s : List GClaim) : Option (List GClaim) := m_slices_Clone_Lapi_Claim_api_Claim_l s
def m_database_copied (a : GAdvert) : Option GAdvert :=
 bnd (m_slices_Clone_Lapi_Reach_api_Reach a.Links) fun (vx_1 : (List GReach)) => bnd (m_slices_Clone_Lapi_Claim_api_Claim a.Claims) fun (vx_2 : (List GClaim)) => some (GAdvert.mk a.Router a.Seq a.Capable vx_1 vx_2)
def m_database_Check_1 (a : GAdvert) : Option Bool :=
 bnd (m_advert_Valid a) fun (vx_1 : Bool) => some (!vx_1)
def m_database_Check (d : GDatabase) : Option Int :=
 bif decide ((99:Int) < (d.Adverts.length:Int)) then some (3:Int) else bnd (m_slices_ContainsFunc_Lapi_Advert_api_Advert d.Adverts m_database_Check_1) fun (vx_1 : Bool) => bif vx_1 then some (1:Int) else forI d.Adverts 0 (fun (j1 : Int) (e1 : GAdvert) (Z1 : Unit → Option _) (sg : Unit) => match sg with | () => jn (fun (v_1 : Bool) => bif v_1 then some (25:Int) else Z1 ()) fun J1 => (bif decide ((0:Int) < (j1 : Int)) then bnd (elO d.Adverts (w64 ((j1 : Int) - (1:Int)))) fun (e_1 : GAdvert) => J1 (decide (e1.Router ≤ e_1.Router)) else J1 false)) (fun (sg : Unit) => match sg with | () => some (0:Int)) ()
def m_database_Find (d : GDatabase) (router : Int) : Option (GAdvert × Bool) :=
 forI d.Adverts 0 (fun (j1 : Int) (e1 : GAdvert) (Z1 : Unit → Option _) (sg : Unit) => match sg with | () => bif decide (e1.Router = router) then bnd (m_database_copied e1) fun (vx_1 : GAdvert) => some (vx_1, true) else Z1 ()) (fun (sg : Unit) => match sg with | () => some ((GAdvert.mk (0:Int) (0:Int) false [] []), false)) ()
def m_database_reach (a : GAdvert) (neighbour : Int) : Option (GReach × Bool) :=
 forI a.Links 0 (fun (j1 : Int) (e1 : GReach) (Z1 : Unit → Option _) (sg : Unit) => match sg with | () => bif decide (e1.Neighbour = neighbour) then some (e1, true) else Z1 ()) (fun (sg : Unit) => match sg with | () => some ((GReach.mk (0:Int) (0:Int) (0:Int)), false)) ()
def m_database_View (d : GDatabase) (ata1 : Int) : Option GTopology :=
 bnd (m_database_Find d ata1) fun (vx_1 : GAdvert × Bool) => jn (fun (v_1 : Bool) => bif v_1 then some (GTopology.mk [] []) else whl (fun (Z1 : ((List GAdvert) × (List GRouter) × (List GLink) × (List (Int × Bool))) → Option _) (sg : (List GAdvert) × (List GRouter) × (List GLink) × (List (Int × Bool))) => match sg with | (work_1, m_1, m_2, m_3) => bif decide ((0:Int) < (work_1.length:Int)) then bnd (elO work_1 (0:Int)) fun (e_1 : GAdvert) => bnd (appO m_1 ([(GRouter.mk e_1.Router e_1.Capable)] : List GRouter)) fun (l_1 : List GRouter) => forI e_1.Links 0 (fun (j2 : Int) (e2 : GReach) (Z2 : ((List GAdvert) × (List GLink) × (List (Int × Bool))) → Option _) (sg : (List GAdvert) × (List GLink) × (List (Int × Bool))) => match sg with | (work_2, m_4, m_5) => jn (fun (sg : (List GAdvert) × (List (Int × Bool)) × (List GLink)) => match sg with | (work_3, m_6, m_7) => Z2 (work_3, m_7, m_6)) fun J2 => bnd (m_database_Find d e2.Neighbour) fun (vx_3 : GAdvert × Bool) => bnd (m_database_reach vx_3.1 e_1.Router) fun (vx_4 : GReach × Bool) => bif ((!vx_3.2) || (!vx_4.2)) then J2 (work_2, m_5, m_4) else jn (fun (m_8 : (List GLink)) => bif !((getI m_5 vx_3.1.Router).getD false) then bnd (appO work_2 ([vx_3.1] : List GAdvert)) fun (l_3 : List GAdvert) => J2 (l_3, setI m_5 vx_3.1.Router true, m_8) else J2 (work_2, m_5, m_8)) fun J3 => bif decide (e_1.Router < vx_3.1.Router) then bnd (appO m_4 ([(GLink.mk e_1.Router vx_3.1.Router e2.Cost vx_4.1.Cost (if vx_4.1.Capacity < e2.Capacity then vx_4.1.Capacity else e2.Capacity))] : List GLink)) fun (l_2 : List GLink) => J3 l_2 else J3 m_4) (fun (sg : (List GAdvert) × (List GLink) × (List (Int × Bool))) => match sg with | (work_2, m_4, m_5) => bnd (sliO work_2 (1:Int) (work_2.length:Int)) fun (l_4 : List GAdvert) => Z1 (l_4, l_1, m_4, m_5)) (work_1, m_2, m_3) else bnd (sortM (lexK [fun x : GRouter => x.ID]) m_1) fun (l_5 : List GRouter) => bnd (sortM (lexK [fun x : GLink => x.A, fun x : GLink => x.B]) m_2) fun (l_6 : List GLink) => bnd (m_topology_Check (GTopology.mk l_5 l_6)) fun (vx_5 : Int) => bif !decide (vx_5 = (0:Int)) then some (GTopology.mk [] []) else some (GTopology.mk l_5 l_6)) (([vx_1.1] : List GAdvert), [], [], setI [] ata1 true)) fun J1 => bnd (m_database_Check d) fun (vx_2 : Int) => (bif !decide (vx_2 = (0:Int)) then J1 true else J1 (!vx_1.2))
end Go.Proofs.YtmcjffllahcclaaGreat

/- Functions of the program, written anew. No condition but those that stand in each. -/
namespace Go.Proofs.YtmcjffllahcclaaGreat
open Go
set_option maxRecDepth 100000
set_option linter.all false
def m_mk_Tape_Advert (t : GTape) (router : Int) (n : Int) : Option (GAdvert × GTape) :=
 bnd (m_mk_Tape_Pick t ([(1:Int), (1:Int), (2:Int), (3:Int), (3:Int), (500000:Int), (1000000:Int)] : List Int)) fun (vx_1 : Int × GTape) => bnd (m_mk_Tape_Next vx_1.2 (3:Int)) fun (vx_2 : Int × GTape) => forN ((7:Int) - (1:Int)).toNat (1:Int) (fun (j1 : Int) (Z1 : ((List GReach) × (List Int) × Int) → Option _) (sg : (List GReach) × (List Int) × Int) => match sg with | (m_1, m_2, m_3) => jn (fun (sg : (List Int) × Int × (List GReach)) => match sg with | (m_4, m_5, m_6) => Z1 (m_6, m_4, m_5)) fun J1 => jn (fun (sg : Bool × (List Int) × Int) => match sg with | (v_1, m_7, m_8) => bif v_1 then bnd (m_mk_Tape_Range (GTape.mk m_7 m_8) (1:Int) (3:Int)) fun (vx_4 : Int × GTape) => bnd (m_mk_Tape_Next vx_4.2 (3:Int)) fun (vx_5 : Int × GTape) => bnd (appO m_1 ([(GReach.mk (j1 : Int) vx_4.1 vx_5.1)] : List GReach)) fun (l_1 : List GReach) => J1 (vx_5.2.L, vx_5.2.At, l_1) else J1 (m_7, m_8, m_1)) fun J2 => (bif !decide ((j1 : Int) = router) then bnd (m_mk_Tape_Next (GTape.mk m_2 m_3) (2:Int)) fun (vx_3 : Int × GTape) => J2 (decide (vx_3.1 = (0:Int)), vx_3.2.L, vx_3.2.At) else J2 (false, m_2, m_3))) (fun (j1 : Int) (sg : (List GReach) × (List Int) × Int) => match sg with | (m_1, m_2, m_3) => forN ((2:Int) - (0:Int)).toNat (0:Int) (fun (j2 : Int) (Z2 : ((List GClaim) × (List Int) × Int) → Option _) (sg : (List GClaim) × (List Int) × Int) => match sg with | (m_9, m_10, m_11) => jn (fun (sg : (List Int) × Int × (List GClaim)) => match sg with | (m_12, m_13, m_14) => Z2 (m_14, m_12, m_13)) fun J3 => bnd (m_mk_Tape_Next (GTape.mk m_10 m_11) (2:Int)) fun (vx_6 : Int × GTape) => bif decide (vx_6.1 = (0:Int)) then bnd (m_mk_Tape_Range vx_6.2 (1:Int) (9:Int)) fun (vx_7 : Int × GTape) => bnd (m_mk_Tape_Length vx_7.2) fun (vx_8 : Int × GTape) => bnd (appO m_9 ([(GClaim.mk (j2 : Int) vx_7.1 vx_8.1)] : List GClaim)) fun (l_2 : List GClaim) => J3 (vx_8.2.L, vx_8.2.At, l_2) else J3 (vx_6.2.L, vx_6.2.At, m_9)) (fun (j2 : Int) (sg : (List GClaim) × (List Int) × Int) => match sg with | (m_9, m_10, m_11) => jn (fun (sg : (List Int) × Int × Int × Int × (List GReach) × (List GClaim)) => match sg with | (m_15, m_16, m_17, m_18, m_19, m_20) => some ((GAdvert.mk m_17 m_18 (decide ((0:Int) < vx_2.1)) m_19 m_20), (GTape.mk m_15 m_16))) fun J4 => jn (fun (sg : Bool × (List Int) × Int) => match sg with | (v_2, m_21, m_22) => bif v_2 then bnd (m_mk_Tape_Next (GTape.mk m_21 m_22) (6:Int)) fun (vx_10 : Int × GTape) => bif decide (vx_10.1 = (0:Int)) then bnd (m_mk_Tape_Wild vx_10.2) fun (vx_11 : Int × GTape) => J4 (vx_11.2.L, vx_11.2.At, vx_11.1, vx_1.1, m_1, m_9) else bif decide (vx_10.1 = (1:Int)) then bnd (m_mk_Tape_Wild vx_10.2) fun (vx_12 : Int × GTape) => J4 (vx_12.2.L, vx_12.2.At, router, vx_12.1, m_1, m_9) else bif decide (vx_10.1 = (2:Int)) then bnd (m_mk_Tape_Pick vx_10.2 ([(0:Int), router, (6:Int), (99:Int), (100:Int)] : List Int)) fun (vx_13 : Int × GTape) => bnd (m_mk_Tape_Pick vx_13.2 ([(0:Int), (1:Int), (1000:Int), (1001:Int)] : List Int)) fun (vx_14 : Int × GTape) => bnd (m_mk_Tape_Pick vx_14.2 ([(-1:Int), (0:Int), (1000:Int), (1001:Int)] : List Int)) fun (vx_15 : Int × GTape) => bnd (appO m_1 ([(GReach.mk vx_13.1 vx_14.1 vx_15.1)] : List GReach)) fun (l_3 : List GReach) => J4 (vx_15.2.L, vx_15.2.At, router, vx_1.1, l_3, m_9) else bif decide (vx_10.1 = (3:Int)) then bnd (m_mk_Tape_Pick vx_10.2 ([(-1:Int), (0:Int), (7:Int), (8:Int)] : List Int)) fun (vx_16 : Int × GTape) => bnd (m_mk_Tape_Pick vx_16.2 ([(0:Int), (1:Int), (256:Int), (257:Int)] : List Int)) fun (vx_17 : Int × GTape) => bnd (m_mk_Tape_Pick vx_17.2 ([(0:Int), (8:Int), (9:Int), (64:Int)] : List Int)) fun (vx_18 : Int × GTape) => bnd (appO m_9 ([(GClaim.mk vx_16.1 vx_17.1 vx_18.1)] : List GClaim)) fun (l_4 : List GClaim) => J4 (vx_18.2.L, vx_18.2.At, router, vx_1.1, m_1, l_4) else bif decide (vx_10.1 = (4:Int)) then forN ((54:Int) - (30:Int)).toNat (30:Int) (fun (j3 : Int) (Z3 : (List GReach) → Option _) (m_23 : (List GReach)) => bnd (appO m_23 ([(GReach.mk (j3 : Int) (1:Int) (0:Int))] : List GReach)) fun (l_5 : List GReach) => Z3 l_5) (fun (j3 : Int) (m_23 : (List GReach)) => J4 (vx_10.2.L, vx_10.2.At, router, vx_1.1, m_23, m_9)) m_1 else bif decide ((0:Int) < (m_1.length:Int)) then bnd (m_mk_Tape_Wild vx_10.2) fun (vx_19 : Int × GTape) => bnd (elO m_1 (0:Int)) fun (e_1 : GReach) => bnd (setO m_1 (0:Int) (GReach.mk e_1.Neighbour vx_19.1 e_1.Capacity)) fun (l_6 : List GReach) => J4 (vx_19.2.L, vx_19.2.At, router, vx_1.1, l_6, m_9) else J4 (vx_10.2.L, vx_10.2.At, router, vx_1.1, m_1, m_9) else J4 (m_21, m_22, router, vx_1.1, m_1, m_9)) fun J5 => (bif decide ((0:Int) < n) then bnd (m_mk_Tape_One (GTape.mk m_10 m_11) n) fun (vx_9 : Bool × GTape) => J5 (vx_9.1, vx_9.2.L, vx_9.2.At) else J5 (false, m_10, m_11))) ([], m_2, m_3)) ([], vx_2.2.L, vx_2.2.At)
def m_mk_Tape_Database (t : GTape) (n : Int) : Option (GDatabase × GTape) :=
 forN ((7:Int) - (1:Int)).toNat (1:Int) (fun (j1 : Int) (Z1 : ((List GAdvert) × (List Int) × Int) → Option _) (sg : (List GAdvert) × (List Int) × Int) => match sg with | (m_1, m_2, m_3) => jn (fun (sg : (List Int) × Int × (List GAdvert)) => match sg with | (m_4, m_5, m_6) => Z1 (m_6, m_4, m_5)) fun J1 => bnd (m_mk_Tape_Next (GTape.mk m_2 m_3) (4:Int)) fun (vx_1 : Int × GTape) => bif decide ((0:Int) < vx_1.1) then bnd (m_mk_Tape_Advert vx_1.2 (j1 : Int) (0:Int)) fun (vx_2 : GAdvert × GTape) => bnd (appO m_1 ([vx_2.1] : List GAdvert)) fun (l_1 : List GAdvert) => J1 (vx_2.2.L, vx_2.2.At, l_1) else J1 (vx_1.2.L, vx_1.2.At, m_1)) (fun (j1 : Int) (sg : (List GAdvert) × (List Int) × Int) => match sg with | (m_1, m_2, m_3) => jn (fun (sg : (List Int) × Int × (List GAdvert)) => match sg with | (m_7, m_8, m_9) => some ((GDatabase.mk m_9), (GTape.mk m_7 m_8))) fun J2 => jn (fun (sg : Bool × (List Int) × Int) => match sg with | (v_1, m_10, m_11) => bif v_1 then bnd (m_mk_Tape_Pick (GTape.mk m_10 m_11) ([(1:Int), (6:Int), (7:Int)] : List Int)) fun (vx_4 : Int × GTape) => bnd (m_mk_Tape_Advert vx_4.2 vx_4.1 (2:Int)) fun (vx_5 : GAdvert × GTape) => bnd (appO m_1 ([vx_5.1] : List GAdvert)) fun (l_2 : List GAdvert) => J2 (vx_5.2.L, vx_5.2.At, l_2) else J2 (m_10, m_11, m_1)) fun J3 => (bif decide ((0:Int) < n) then bnd (m_mk_Tape_One (GTape.mk m_2 m_3) n) fun (vx_3 : Bool × GTape) => J3 (vx_3.1, vx_3.2.L, vx_3.2.At) else J3 (false, m_2, m_3))) ([], t.L, t.At)
end Go.Proofs.YtmcjffllahcclaaGreat

/- Functions of the program, written anew. No condition but those that stand in each. -/
namespace Go.Proofs.YtmcjffllahcclaaGreat
open Go
set_option maxRecDepth 100000
set_option linter.all false
def m_bitio_bytes (n : Int) : Option Int :=
 some (w64 (Int.tdiv (w64 (n + (7:Int))) (8:Int)))
def m_bitio_Valid (sa0 : GStream) : Option Bool :=
 jn (fun (v_1 : Bool) => bif v_1 then some false else (bif decide (w64 ((w64 ((8:Int) * (sa0.Data.length:Int))) - sa0.Bits) = (0:Int)) then some true else bnd (elO sa0.Data (w64 ((sa0.Data.length:Int) - (1:Int)))) fun (e_1 : Int) => chk (decide (0 ≤ w64 ((8:Int) - (w64 ((w64 ((8:Int) * (sa0.Data.length:Int))) - sa0.Bits))))) <| some (decide (IntKind.wrap .u8 (e_1 * 2 ^ min (w64 ((8:Int) - (w64 ((w64 ((8:Int) * (sa0.Data.length:Int))) - sa0.Bits)))).toNat 8) = (0:Int))))) fun J1 => (bif decide (sa0.Bits < (0:Int)) then J1 true else (bif decide ((8192:Int) < sa0.Bits) then J1 true else bnd (m_bitio_bytes sa0.Bits) fun (vx_1 : Int) => J1 (!decide ((sa0.Data.length:Int) = vx_1))))
def m_bitio_bit (sa0 : GStream) (i : Int) : Option Int :=
 bnd (elO sa0.Data (w64 (Int.tdiv i (8:Int)))) fun (e_1 : Int) => chk (decide (0 ≤ w64 ((7:Int) - (Int.tmod i (8:Int))))) <| some (IntKind.wrap .u64 (bitsI .and .u8 (Int.fdiv e_1 (2 ^ min (w64 ((7:Int) - (Int.tmod i (8:Int)))).toNat 8)) (1:Int)))
def m_bitio_write (sa0 : GStream) (value : Int) (n : Int) : Option GStream :=
 whl (fun (Z1 : (Int × (List Int) × Int) → Option _) (sg : Int × (List Int) × Int) => match sg with | (n_1, m_1, m_2) => bif decide ((0:Int) < n_1) then jn (fun (sg : Int × (List Int)) => match sg with | (free_1, m_3) => chk (decide (0 ≤ w64 (n_1 - (if free_1 < n_1 then free_1 else n_1)))) <| chk (decide (0 ≤ (if free_1 < n_1 then free_1 else n_1))) <| bnd (elO m_3 (w64 ((m_3.length:Int) - (1:Int)))) fun (e_1 : Int) => chk (decide (0 ≤ w64 (free_1 - (if free_1 < n_1 then free_1 else n_1)))) <| bnd (setO m_3 (w64 ((m_3.length:Int) - (1:Int))) (bitsI .or .u8 e_1 (IntKind.wrap .u8 (IntKind.wrap .u64 ((bitsI .and .u64 (Int.fdiv value (2 ^ min (w64 (n_1 - (if free_1 < n_1 then free_1 else n_1))).toNat 64)) (IntKind.wrap .u64 ((IntKind.wrap .u64 ((1:Int) * 2 ^ min (if free_1 < n_1 then free_1 else n_1).toNat 64)) - (1:Int)))) * 2 ^ min (w64 (free_1 - (if free_1 < n_1 then free_1 else n_1))).toNat 64))))) fun (l_2 : List Int) => Z1 (w64 (n_1 - (if free_1 < n_1 then free_1 else n_1)), l_2, w64 (m_2 + (if free_1 < n_1 then free_1 else n_1)))) fun J1 => bif decide (w64 ((w64 ((8:Int) * (m_1.length:Int))) - m_2) = (0:Int)) then bnd (appO m_1 ([(0:Int)] : List Int)) fun (l_1 : List Int) => J1 ((8:Int), l_1) else J1 (w64 ((w64 ((8:Int) * (m_1.length:Int))) - m_2), m_1) else some (GStream.mk m_1 m_2)) (n, sa0.Data, sa0.Bits)
def m_bitio_clone (sa0 : GStream) : Option GStream :=
 bnd (appO [] sa0.Data) fun (l_1 : List Int) => some (GStream.mk l_1 sa0.Bits)
def m_bitio_Append (sa0 : GStream) (value : Int) (n : Int) : Option (GStream × Int) :=
 bnd (m_bitio_Valid sa0) fun (vx_1 : Bool) => bif !vx_1 then some ((GStream.mk [] (0:Int)), (1:Int)) else jn (fun (v_1 : Bool) => bif v_1 then some ((GStream.mk [] (0:Int)), (2:Int)) else bif decide ((8192:Int) < w64 (sa0.Bits + n)) then some ((GStream.mk [] (0:Int)), (3:Int)) else bnd (m_bitio_clone sa0) fun (vx_2 : GStream) => bnd (m_bitio_write vx_2 value n) fun (vx_3 : GStream) => some (vx_3, (0:Int))) fun J1 => (bif decide (n < (0:Int)) then J1 true else (bif decide ((64:Int) < n) then J1 true else (bif decide (n < (64:Int)) then chk (decide (0 ≤ n)) <| J1 (!decide (Int.fdiv value (2 ^ min n.toNat 64) = (0:Int))) else J1 false)))
def m_bitio_Check (sa0 : GStream) : Option (Int × Int) :=
 bnd (m_bitio_Valid sa0) fun (vx_1 : Bool) => bif !vx_1 then some ((0:Int), (1:Int)) else chk (decide (sa0.Bits ≤ 9223372036854775807)) <| forN (sa0.Bits - (0:Int)).toNat (0:Int) (fun (j1 : Int) (Z1 : Int → Option _) (register_1 : Int) => jn (fun (register_2 : Int) => Z1 register_2) fun J1 => bnd (m_bitio_bit sa0 (j1 : Int)) fun (vx_2 : Int) => bif decide (Int.fdiv register_1 (2 ^ min (15:Int).toNat 64) = vx_2) then J1 (bitsI .and .u64 (IntKind.wrap .u64 (register_1 * 2 ^ min (1:Int).toNat 64)) (65535:Int)) else J1 (bitsI .xor .u64 (bitsI .and .u64 (IntKind.wrap .u64 (register_1 * 2 ^ min (1:Int).toNat 64)) (65535:Int)) (4129:Int))) (fun (j1 : Int) (register_1 : Int) => some (register_1, (0:Int))) (65535:Int)
end Go.Proofs.YtmcjffllahcclaaGreat

/- Functions of the program, written anew. No condition but those that stand in each. -/
namespace Go.Proofs.YtmcjffllahcclaaGreat
open Go
set_option maxRecDepth 100000
set_option linter.all false
def m_ref02_bit (l : List Int) (i : Int) : Option Int :=
 bnd (elO l (w64 (Int.tdiv i (8:Int)))) fun (e_1 : Int) => chk (decide (0 ≤ IntKind.wrap .u64 (w64 ((7:Int) - (Int.tmod i (8:Int)))))) <| some (bitsI .and .u64 (IntKind.wrap .u64 (Int.fdiv e_1 (2 ^ min (IntKind.wrap .u64 (w64 ((7:Int) - (Int.tmod i (8:Int))))).toNat 8))) (1:Int))
def m_ref02_Valid (sa0 : GStream) : Option Bool :=
 bif ((decide (sa0.Bits < (0:Int))) || ((decide ((8192:Int) < sa0.Bits)) || (!decide ((sa0.Data.length:Int) = w64 (Int.tdiv (w64 (sa0.Bits + (7:Int))) (8:Int)))))) then some false else whl (fun (Z1 : Int → Option _) (i_1 : Int) => bif decide (i_1 < w64 ((8:Int) * (sa0.Data.length:Int))) then bnd (m_ref02_bit sa0.Data i_1) fun (vx_1 : Int) => bif !decide (vx_1 = (0:Int)) then some false else Z1 (w64 (i_1 + (1:Int))) else some true) sa0.Bits
def m_ref02_Put (sa0 : GStream) (b : Int) : Option GStream :=
 bnd (appO [] sa0.Data) fun (l_1 : List Int) => jn (fun (l_2 : (List Int)) => jn (fun (l_4 : (List Int)) => some (GStream.mk l_4 (w64 (sa0.Bits + (1:Int))))) fun J2 => bif decide (b = (1:Int)) then bnd (elO l_2 (w64 (Int.tdiv sa0.Bits (8:Int)))) fun (e_1 : Int) => chk (decide (0 ≤ IntKind.wrap .u64 (w64 ((7:Int) - (Int.tmod sa0.Bits (8:Int)))))) <| bnd (setO l_2 (w64 (Int.tdiv sa0.Bits (8:Int))) (bitsI .or .u8 e_1 (IntKind.wrap .u8 ((1:Int) * 2 ^ min (IntKind.wrap .u64 (w64 ((7:Int) - (Int.tmod sa0.Bits (8:Int))))).toNat 8)))) fun (l_5 : List Int) => J2 l_5 else J2 l_2) fun J1 => bif decide (Int.tmod sa0.Bits (8:Int) = (0:Int)) then bnd (appO l_1 ([(0:Int)] : List Int)) fun (l_3 : List Int) => J1 l_3 else J1 l_1
def m_ref02_Append (sa0 : GStream) (value : Int) (n : Int) : Option (GStream × Int) :=
 bnd (m_ref02_Valid sa0) fun (vx_1 : Bool) => bif !vx_1 then some ((GStream.mk [] (0:Int)), (1:Int)) else jn (fun (v_1 : Bool) => bif v_1 then some ((GStream.mk [] (0:Int)), (2:Int)) else bif decide ((8192:Int) < w64 (sa0.Bits + n)) then some ((GStream.mk [] (0:Int)), (3:Int)) else whl (fun (Z1 : (Int × (List Int) × Int) → Option _) (sg : Int × (List Int) × Int) => match sg with | (i_1, m_1, m_2) => bif decide ((0:Int) ≤ i_1) then chk (decide (0 ≤ IntKind.wrap .u64 i_1)) <| bnd (m_ref02_Put (GStream.mk m_1 m_2) (bitsI .and .u64 (Int.fdiv value (2 ^ min (IntKind.wrap .u64 i_1).toNat 64)) (1:Int))) fun (vx_2 : GStream) => Z1 (w64 (i_1 - (1:Int)), vx_2.Data, vx_2.Bits) else some ((GStream.mk m_1 m_2), (0:Int))) (w64 (n - (1:Int)), sa0.Data, sa0.Bits)) fun J1 => (bif decide (n < (0:Int)) then J1 true else (bif decide ((64:Int) < n) then J1 true else (bif decide (n < (64:Int)) then chk (decide (0 ≤ IntKind.wrap .u64 n)) <| J1 (!decide (Int.fdiv value (2 ^ min (IntKind.wrap .u64 n).toNat 64) = (0:Int))) else J1 false)))
def m_ref02_Align (sa0 : GStream) : Option (GStream × Int) :=
 bnd (m_ref02_Valid sa0) fun (vx_1 : Bool) => bif !vx_1 then some ((GStream.mk [] (0:Int)), (1:Int)) else whl (fun (Z1 : ((List Int) × Int) → Option _) (sg : (List Int) × Int) => match sg with | (m_1, m_2) => bif !decide (Int.tmod m_2 (8:Int) = (0:Int)) then bnd (m_ref02_Put (GStream.mk m_1 m_2) (0:Int)) fun (vx_2 : GStream) => Z1 (vx_2.Data, vx_2.Bits) else some ((GStream.mk m_1 m_2), (0:Int))) (sa0.Data, sa0.Bits)
def m_ref02_Check (sa0 : GStream) : Option (Int × Int) :=
 bnd (m_ref02_Valid sa0) fun (vx_1 : Bool) => bif !vx_1 then some ((0:Int), (1:Int)) else chk (decide (sa0.Bits ≤ 9223372036854775807)) <| forN (sa0.Bits - (0:Int)).toNat (0:Int) (fun (j1 : Int) (Z1 : Int → Option _) (vr_1 : Int) => jn (fun (vr_2 : Int) => Z1 vr_2) fun J1 => bnd (m_ref02_bit sa0.Data (j1 : Int)) fun (vx_2 : Int) => bif !decide (Int.fdiv vr_1 (2 ^ min (15:Int).toNat 64) = vx_2) then J1 (bitsI .xor .u64 (bitsI .and .u64 (IntKind.wrap .u64 (vr_1 * 2 ^ min (1:Int).toNat 64)) (65535:Int)) (4129:Int)) else J1 (bitsI .and .u64 (IntKind.wrap .u64 (vr_1 * 2 ^ min (1:Int).toNat 64)) (65535:Int))) (fun (j1 : Int) (vr_1 : Int) => some (vr_1, (0:Int))) (65535:Int)
def m_ref01_Code (length : Int) : Option Int :=
 whl (fun (Z1 : (Int × Int) → Option _) (sg : Int × Int) => match sg with | (length_1, n_1) => bif decide ((8:Int) < length_1) then Z1 (w64 (Int.tdiv length_1 (2:Int)), w64 (n_1 + (1:Int))) else some n_1) (length, (0:Int))
end Go.Proofs.YtmcjffllahcclaaGreat

/- Functions of the program, written anew. No condition but those that stand in each. -/
namespace Go.Proofs.YtmcjffllahcclaaGreat
open Go
set_option maxRecDepth 100000
set_option linter.all false
def m_ref07_put (sa0 : GStream) (n : Int) (width : Int) : Option GStream :=
 bnd (m_ref02_Append sa0 (IntKind.wrap .u64 n) width) fun (vx_1 : GStream × Int) => some vx_1.1
def m_ref07_Encode (a : GAdvert) : Option ((List Int) × Int) :=
 bnd (m_ref07_Valid a) fun (vx_1 : Bool) => bif !vx_1 then some ([], (1:Int)) else jn (fun (capable_1 : Int) => bnd (m_ref07_put (GStream.mk [] (0:Int)) a.Router (7:Int)) fun (vx_2 : GStream) => bnd (m_ref07_put vx_2 a.Seq (20:Int)) fun (vx_3 : GStream) => bnd (m_ref07_put vx_3 capable_1 (1:Int)) fun (vx_4 : GStream) => bnd (m_ref07_put vx_4 (a.Links.length:Int) (5:Int)) fun (vx_5 : GStream) => forI a.Links 0 (fun (j1 : Int) (e1 : GReach) (Z1 : ((List Int) × Int) → Option _) (sg : (List Int) × Int) => match sg with | (m_1, m_2) => bnd (m_ref07_put (GStream.mk m_1 m_2) e1.Neighbour (7:Int)) fun (vx_6 : GStream) => bnd (m_ref07_put vx_6 e1.Cost (10:Int)) fun (vx_7 : GStream) => bnd (m_ref07_put vx_7 e1.Capacity (10:Int)) fun (vx_8 : GStream) => Z1 (vx_8.Data, vx_8.Bits)) (fun (sg : (List Int) × Int) => match sg with | (m_1, m_2) => bnd (m_ref07_put (GStream.mk m_1 m_2) (a.Claims.length:Int) (4:Int)) fun (vx_9 : GStream) => forI a.Claims 0 (fun (j2 : Int) (e2 : GClaim) (Z2 : ((List Int) × Int) → Option _) (sg : (List Int) × Int) => match sg with | (m_3, m_4) => bnd (m_ref07_put (GStream.mk m_3 m_4) e2.Subdomain (3:Int)) fun (vx_10 : GStream) => bnd (m_ref07_put vx_10 e2.ID (9:Int)) fun (vx_11 : GStream) => bnd (m_ref01_Code e2.Length) fun (vx_12 : Int) => bnd (m_ref07_put vx_11 vx_12 (2:Int)) fun (vx_13 : GStream) => Z2 (vx_13.Data, vx_13.Bits)) (fun (sg : (List Int) × Int) => match sg with | (m_3, m_4) => bnd (m_ref02_Check (GStream.mk m_3 m_4)) fun (vx_14 : Int × Int) => bnd (m_ref07_put (GStream.mk m_3 m_4) (w64 vx_14.1) (16:Int)) fun (vx_15 : GStream) => bnd (m_ref02_Align vx_15) fun (vx_16 : GStream × Int) => some (vx_16.1.Data, (0:Int))) (vx_9.Data, vx_9.Bits)) (vx_5.Data, vx_5.Bits)) fun J1 => bif a.Capable then J1 (1:Int) else J1 (0:Int)
def m_ref07_Newer (a : GAdvert) (b : GAdvert) : Option Bool :=
 jn (fun (v_1 : Bool) => bif v_1 then some false else bnd (m_ref07_Encode a) fun (vx_3 : (List Int) × Int) => bnd (m_ref07_Encode b) fun (vx_4 : (List Int) × Int) => some ((decide (b.Seq < a.Seq)) || ((decide (a.Seq = b.Seq)) && (sCmp .gtr (bstr vx_3.1) (bstr vx_4.1))))) fun J1 => bnd (m_ref07_Valid a) fun (vx_1 : Bool) => (bif !vx_1 then J1 true else bnd (m_ref07_Valid b) fun (vx_2 : Bool) => (bif !vx_2 then J1 true else J1 (!decide (a.Router = b.Router))))
end Go.Proofs.YtmcjffllahcclaaGreat

/- Functions of the program, written anew. No condition but those that stand in each. -/
namespace Go.Proofs.YtmcjffllahcclaaGreat
open Go
set_option maxRecDepth 100000
set_option linter.all false
def m_advert_writer_put (w : GAdvert_writer) (n : Int) (bits : Int) : Option GAdvert_writer :=
 bnd (m_bitio_Append w.s_ (IntKind.wrap .u64 n) bits) fun (vx_1 : GStream × Int) => some (GAdvert_writer.mk vx_1.1)
def cmpB (a b : List Int) : Int := Go.Extern.BytealgCompare.cmp ⟨(a.map fun n => UInt8.ofNat n.toNat).toArray⟩ ⟨(b.map fun n => UInt8.ofNat n.toNat).toArray⟩
def m_bytes_Compare (a b : List Int) : Option Int := some (cmpB a b)
def m_advert_Encode (a : GAdvert) : Option ((List Int) × Int) :=
 bnd (m_advert_Valid a) fun (vx_1 : Bool) => bif !vx_1 then some ([], (1:Int)) else bnd (m_advert_writer_put (GAdvert_writer.mk (GStream.mk [] (0:Int))) a.Router (7:Int)) fun (vx_2 : GAdvert_writer) => bnd (m_advert_writer_put vx_2 a.Seq (20:Int)) fun (vx_3 : GAdvert_writer) => jn (fun (capable_1 : Int) => bnd (m_advert_writer_put vx_3 capable_1 (1:Int)) fun (vx_4 : GAdvert_writer) => bnd (m_advert_writer_put vx_4 (a.Links.length:Int) (5:Int)) fun (vx_5 : GAdvert_writer) => forI a.Links 0 (fun (j1 : Int) (e1 : GReach) (Z1 : ((List Int) × Int) → Option _) (sg : (List Int) × Int) => match sg with | (m_1, m_2) => bnd (m_advert_writer_put (GAdvert_writer.mk (GStream.mk m_1 m_2)) e1.Neighbour (7:Int)) fun (vx_6 : GAdvert_writer) => bnd (m_advert_writer_put vx_6 e1.Cost (10:Int)) fun (vx_7 : GAdvert_writer) => bnd (m_advert_writer_put vx_7 e1.Capacity (10:Int)) fun (vx_8 : GAdvert_writer) => Z1 (vx_8.s_.Data, vx_8.s_.Bits)) (fun (sg : (List Int) × Int) => match sg with | (m_1, m_2) => bnd (m_advert_writer_put (GAdvert_writer.mk (GStream.mk m_1 m_2)) (a.Claims.length:Int) (4:Int)) fun (vx_9 : GAdvert_writer) => forI a.Claims 0 (fun (j2 : Int) (e2 : GClaim) (Z2 : ((List Int) × Int) → Option _) (sg : (List Int) × Int) => match sg with | (m_3, m_4) => whl (fun (Z3 : Int → Option _) (code_1 : Int) => chk (decide (0 ≤ code_1)) <| bif decide (IntKind.wrap .i64 ((8:Int) * 2 ^ min code_1.toNat 64) < e2.Length) then Z3 (w64 (code_1 + (1:Int))) else bnd (m_advert_writer_put (GAdvert_writer.mk (GStream.mk m_3 m_4)) e2.Subdomain (3:Int)) fun (vx_10 : GAdvert_writer) => bnd (m_advert_writer_put vx_10 e2.ID (9:Int)) fun (vx_11 : GAdvert_writer) => bnd (m_advert_writer_put vx_11 code_1 (2:Int)) fun (vx_12 : GAdvert_writer) => Z2 (vx_12.s_.Data, vx_12.s_.Bits)) (0:Int)) (fun (sg : (List Int) × Int) => match sg with | (m_3, m_4) => bnd (m_bitio_Check (GStream.mk m_3 m_4)) fun (vx_13 : Int × Int) => bnd (m_advert_writer_put (GAdvert_writer.mk (GStream.mk m_3 m_4)) (w64 vx_13.1) (16:Int)) fun (vx_14 : GAdvert_writer) => some (vx_14.s_.Data, (0:Int))) (vx_9.s_.Data, vx_9.s_.Bits)) (vx_5.s_.Data, vx_5.s_.Bits)) fun J1 => bif a.Capable then J1 (1:Int) else J1 (0:Int)
def m_advert_Newer (a : GAdvert) (b : GAdvert) : Option Bool :=
 bnd (m_advert_Encode a) fun (vx_1 : (List Int) × Int) => bnd (m_advert_Encode b) fun (vx_2 : (List Int) × Int) => bif ((!decide (vx_1.2 = (0:Int))) || ((!decide (vx_2.2 = (0:Int))) || (!decide (a.Router = b.Router)))) then some false else (bif decide (b.Seq < a.Seq) then some true else (bif decide (a.Seq = b.Seq) then bnd (m_bytes_Compare vx_1.1 vx_2.1) fun (vx_3 : Int) => some (decide ((0:Int) < vx_3)) else some false))
end Go.Proofs.YtmcjffllahcclaaGreat

/- Functions of the program, written anew. No condition but those that stand in each. -/
namespace Go.Proofs.YtmcjffllahcclaaGreat
open Go
set_option maxRecDepth 100000
set_option linter.all false
def m_database_put_1 (xa0 : GAdvert) (router : Int) : Option Int :=
 bnd (m_cmp_Compare_int xa0.Router router) fun (vx_1 : Int) => some vx_1
def m_database_clone (d : GDatabase) : Option GDatabase :=
 forI d.Adverts 0 (fun (j1 : Int) (e1 : GAdvert) (Z1 : (List GAdvert) → Option _) (m_1 : (List GAdvert)) => bnd (m_database_copied e1) fun (vx_1 : GAdvert) => bnd (appO m_1 ([vx_1] : List GAdvert)) fun (l_1 : List GAdvert) => Z1 l_1) (fun (m_1 : (List GAdvert)) => some (GDatabase.mk m_1)) []
def m_database_put (d : GDatabase) (a : GAdvert) : Option (Bool × GDatabase) :=
 bnd (m_slices_BinarySearchFunc_Lapi_Advert_api_Advert_int d.Adverts a.Router m_database_put_1) fun (vx_1 : Int × Bool) => jn (fun (m_1 : (List GAdvert)) => some (true, (GDatabase.mk m_1))) fun J1 => bif !vx_1.2 then bnd (m_database_copied a) fun (vx_2 : GAdvert) => bnd (insO d.Adverts vx_1.1 vx_2) fun (l_1 : List GAdvert) => J1 l_1 else bnd (elO d.Adverts vx_1.1) fun (e_1 : GAdvert) => bnd (m_advert_Newer a e_1) fun (vx_3 : Bool) => bif vx_3 then bnd (m_database_copied a) fun (vx_4 : GAdvert) => bnd (setO d.Adverts vx_1.1 vx_4) fun (l_2 : List GAdvert) => J1 l_2 else some (false, d)
def m_database_Merge (a : GDatabase) (b : GDatabase) : Option (GDatabase × Int) :=
 jn (fun (v_1 : Bool) => bif v_1 then some ((GDatabase.mk []), (1:Int)) else bnd (m_database_clone a) fun (vx_3 : GDatabase) => forI b.Adverts 0 (fun (j1 : Int) (e1 : GAdvert) (Z1 : (List GAdvert) → Option _) (m_1 : (List GAdvert)) => bnd (m_database_put (GDatabase.mk m_1) e1) fun (vx_4 : Bool × GDatabase) => Z1 vx_4.2.Adverts) (fun (m_1 : (List GAdvert)) => some ((GDatabase.mk m_1), (0:Int))) vx_3.Adverts) fun J1 => bnd (m_database_Check a) fun (vx_1 : Int) => (bif !decide (vx_1 = (0:Int)) then J1 true else bnd (m_database_Check b) fun (vx_2 : Int) => J1 (!decide (vx_2 = (0:Int))))
end Go.Proofs.YtmcjffllahcclaaGreat

/- Functions of the program, written anew. No condition but those that stand in each. -/
namespace Go.Proofs.YtmcjffllahcclaaGreat
open Go
set_option maxRecDepth 100000
set_option linter.all false
def m_ref08_With (d : GDatabase) (a : GAdvert) : Option GDatabase :=
 forI d.Adverts 0 (fun (j1 : Int) (e1 : GAdvert) (Z1 : (Bool × (List GAdvert)) → Option _) (sg : Bool × (List GAdvert)) => match sg with | (done_1, m_1) => jn (fun (sg : Bool × (List GAdvert)) => match sg with | (done_2, m_2) => Z1 (done_2, m_2)) fun J1 => jn (fun (sg : Bool × (List GAdvert)) => match sg with | (done_3, m_3) => bif !decide (e1.Router = a.Router) then bnd (appO m_3 ([e1] : List GAdvert)) fun (l_2 : List GAdvert) => J1 (done_3, l_2) else J1 (done_3, m_3)) fun J2 => bif ((!done_1) && (decide (a.Router ≤ e1.Router))) then bnd (appO m_1 ([a] : List GAdvert)) fun (l_1 : List GAdvert) => J2 (true, l_1) else J2 (done_1, m_1)) (fun (sg : Bool × (List GAdvert)) => match sg with | (done_1, m_1) => jn (fun (m_4 : (List GAdvert)) => some (GDatabase.mk m_4)) fun J3 => bif !done_1 then bnd (appO m_1 ([a] : List GAdvert)) fun (l_3 : List GAdvert) => J3 l_3 else J3 m_1) (false, [])
def m_ref08_Put (d : GDatabase) (a : GAdvert) : Option (GDatabase × Bool) :=
 jn (fun (v_1 : Bool) => bif v_1 then some (d, false) else bnd (m_ref08_Find d a.Router) fun (vx_3 : GAdvert × Bool) => jn (fun (v_2 : Bool) => bif v_2 then some (d, false) else bnd (m_ref08_With d a) fun (vx_5 : GDatabase) => some (vx_5, true)) fun J2 => (bif vx_3.2 then bnd (m_ref07_Newer a vx_3.1) fun (vx_4 : Bool) => J2 (!vx_4) else J2 false)) fun J1 => bnd (m_ref08_Check d) fun (vx_1 : Int) => (bif !decide (vx_1 = (0:Int)) then J1 true else bnd (m_ref07_Valid a) fun (vx_2 : Bool) => J1 (!vx_2))
def m_ref08_Merge (a : GDatabase) (b : GDatabase) : Option (GDatabase × Int) :=
 jn (fun (v_1 : Bool) => bif v_1 then some ((GDatabase.mk []), (1:Int)) else forI b.Adverts 0 (fun (j1 : Int) (e1 : GAdvert) (Z1 : (List GAdvert) → Option _) (m_1 : (List GAdvert)) => bnd (m_ref08_Put (GDatabase.mk m_1) e1) fun (vx_3 : GDatabase × Bool) => Z1 vx_3.1.Adverts) (fun (m_1 : (List GAdvert)) => some ((GDatabase.mk m_1), (0:Int))) a.Adverts) fun J1 => bnd (m_ref08_Check a) fun (vx_1 : Int) => (bif !decide (vx_1 = (0:Int)) then J1 true else bnd (m_ref08_Check b) fun (vx_2 : Int) => J1 (!decide (vx_2 = (0:Int))))
end Go.Proofs.YtmcjffllahcclaaGreat

/- Functions of the program, written anew. No condition but those that stand in each. -/
namespace Go.Proofs.YtmcjffllahcclaaGreat
open Go
set_option maxRecDepth 100000
set_option linter.all false
end Go.Proofs.YtmcjffllahcclaaGreat
